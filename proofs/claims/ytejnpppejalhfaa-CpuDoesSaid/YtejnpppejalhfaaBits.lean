/- The contracts of package bits and of the reference's bytes. -/
import Derived.Test.YtejnpppejalhfaaProg
import Derived.Test.YtejnpppejalhfaaPlain
import Derived.Test.YtejnpppejalhfaaKit
import Derived.Handy
import Derived.BigQuiet
import Derived.Deep.QuietTactic
import Derived.WalkSpells
namespace Go.Proofs.Ytejnpppejalhfaa
open Go.RowKit

set_option maxRecDepth 100000 in
set_option maxHeartbeats 400000 in
theorem bytes_any (n : Int) (k : Nat) (w : World) (hk : k ≤ 8) :
    Calls Try.prog 16 #[.int .i64 n, .int .i64 k] w fun e w' => e = .returned (.string ⟨(leB n k).toArray⟩) ∧ Below w.heap.size w w' := by
  have hcv := run_str_of_one (P := Try.prog) 91 5 9 Try.underlying91 Try.underlying5 Try.underlying9
  go_enter Try.func16, Try.ntmps16
  go_wp2
  go_loopw [0, 5, 6] (fun vn vs vi wr => ∃ j : Nat, j ≤ k ∧ vi = .int .i64 j ∧ vn = .int .i64 (n / 2 ^ (8 * j)) ∧ vs = .string ⟨(leB n j).toArray⟩ ∧ Below w.heap.size w wr) (fun _ _ i _ => k - (intOf i).toNat)
  case atStart => exact ⟨0, by omega, rfl, by simp, rfl, Below.refl _ _⟩
  case round =>
    obtain ⟨j, hj, rfl, rfl, rfl, hb⟩ := hrel
    have hlen : (leB n j).length ≤ 8 := by rw [leB_length]; omega
    by_cases hlt : j < k
    · go_wp2
      go_roundw
      case rel => exact ⟨j + 1, by omega, by go_num, by rw [div_step], rfl, hb.alloc hb.size _⟩
      case measure => simp [intOf]; omega
    · go_wp2
      obtain rfl : j = k := by omega
      go_ret
      exact ⟨rfl, hb⟩
set_option maxRecDepth 100000 in
set_option maxHeartbeats 400000 in
theorem number_any (l : List UInt8) (w : World) (hk : l.length ≤ 8) :
    Calls Try.prog 17 #[.string ⟨l.toArray⟩] w fun e w' => e = .returned (.int .i64 (wrap64 (numB l))) ∧ w = w' := by
  go_enter Try.func17, Try.ntmps17
  go_wp2
  go_loop [3, 4] (fun vn vi => ∃ j : Nat, j ≤ l.length ∧ vi = .int .i64 ((j : Int) - 1) ∧ vn = .int .i64 (wrap64 (numB (l.drop j)))) (fun _ i => (intOf i + 1).toNat)
  case atStart => exact ⟨l.length, by omega, rfl, by simp [numB, wrap64_0]⟩
  case round =>
    obtain ⟨j, hj, rfl, rfl⟩ := hrel
    by_cases hlt : 0 < j
    · go_wp2
      have hd := numB_drop l (j - 1) (by omega)
      rw [show j - 1 + 1 = j from by omega] at hd
      have hb := l[j - 1].toNat_lt
      have ho := or_step (numB (l.drop j)) (wrap64 l[j - 1].toNat) (by rw [wrap64_byte]; omega) (by rw [wrap64_byte]; omega)
      exact ⟨⟨j - 1, by omega, val_int (by omega), val_int (by
        show bits BinOp.or .i64 (wrap64 (wrap64 ↑(numB (List.drop j l)) * 256)) (wrap64 l[j - 1].toNat) = _
        rw [ho, hd, wrap64_byte]; simp)⟩, by simp [intOf]; omega⟩
    · go_wp2
      obtain rfl : j = 0 := by omega
      go_ret
      exact ⟨rfl, rfl⟩

theorem inB_spec (off n all : Int) : inB off n all = (decide (0 ≤ off) && (decide (0 ≤ n) && (decide (off ≤ all) && decide (n ≤ all - off)))) := by
  unfold inB; simp

set_option maxRecDepth 100000 in
set_option maxHeartbeats 400000 in
theorem in_any (off n all : Int) (w : World) (h : 0 ≤ all) (h2 : all ≤ 9223372036854775807) :
    Calls Try.prog 56 #[.int .i64 off, .int .i64 n, .int .i64 all] w fun e w' => e = .returned (.bool (inB off n all)) ∧ w = w' := by
  have hs := hid (inB_spec off n all)
  go_enter Try.func56, Try.ntmps56
  go_wp2
  all_goals
    go_ret
    refine ⟨ret_bool ?_, rfl⟩
    rw [hs.out]
    first
      | (rw [IntWalk.wrap64_in (all - off) ⟨by omega, by omega⟩]; simp [*]; done)
      | (rw [Bool.eq_iff_iff]; simp; omega)

set_option maxRecDepth 100000 in
set_option maxHeartbeats 400000 in
theorem over_any (s t : List UInt8) (off : Nat) (w : World) (hs : s.length ≤ maxLen) (h : off + t.length ≤ s.length) :
    Calls Try.prog 21 #[.string ⟨s.toArray⟩, .int .i64 off, .string ⟨t.toArray⟩] w fun e w' => e = .returned (.string ⟨(splice s off t).toArray⟩) ∧ ∃ n, w' = w.drewN n := by
  unfold maxLen at hs
  go_enter Try.func21, Try.ntmps21
  go_wp2
  go_quiet (fail)
  go_wp2
  go_ret
  refine ⟨?_, drewN_any⟩
  exact ret_str (by simp [splice, List.take_of_length_le])

set_option maxRecDepth 100000 in
set_option maxHeartbeats 400000 in
theorem part_no (s : List UInt8) (off n : Int) (w : World) (hs : s.length ≤ maxLen) (h : inB off n s.length = false) :
    Calls Try.prog 19 #[.string ⟨s.toArray⟩, .int .i64 off, .int .i64 n] w fun e w' => e = .returned (.tuple #[.string ⟨#[]⟩, .int .i64 3]) ∧ w = w' := by
  unfold maxLen at hs
  go_enter Try.func19, Try.ntmps19
  go_wp2_with (go_at_call 56; (with_reducible refine (in_any _ _ _ _ (by omega) (by omega)).mono ?_); rintro e w' ⟨rfl, rfl⟩; rw [h])
  go_ret2
  exact ⟨rfl, rfl⟩

theorem inB_yes (off n all : Nat) (h : off + n ≤ all) : inB off n all = true := by
  unfold inB; simp; omega

set_option maxRecDepth 100000 in
set_option maxHeartbeats 400000 in
theorem part_yes (s : List UInt8) (off n : Nat) (w : World) (hs : s.length ≤ maxLen) (h : off + n ≤ s.length) :
    Calls Try.prog 19 #[.string ⟨s.toArray⟩, .int .i64 off, .int .i64 n] w fun e w' => e = .returned (.tuple #[.string ⟨((s.drop off).take n).toArray⟩, .int .i64 0]) ∧ w = w' := by
  unfold maxLen at hs
  have hin := inB_yes off n s.length h
  have hin2 := hid hin; clear hin
  go_enter Try.func19, Try.ntmps19
  go_wp2_with (go_at_call 56; (with_reducible refine (in_any _ _ _ _ (by omega) (by omega)).mono ?_); rintro e w' ⟨rfl, rfl⟩; rw [hin2.out])
  go_ret2
  refine ⟨?_, rfl⟩
  show Ending.returned (.tuple #[.string ⟨((s.drop off).take (off + n - off)).toArray⟩, .int .i64 0]) = _
  rw [Nat.add_sub_cancel_left]

set_option maxRecDepth 100000 in
set_option maxHeartbeats 400000 in
theorem lay_yes (s t : List UInt8) (off : Nat) (w : World) (hs : s.length ≤ maxLen) (h : off + t.length ≤ s.length) :
    Calls Try.prog 20 #[.string ⟨s.toArray⟩, .int .i64 off, .string ⟨t.toArray⟩] w fun e w' => e = .returned (.tuple #[.string ⟨(splice s off t).toArray⟩, .int .i64 0]) ∧ Below w.heap.size w w' := by
  unfold maxLen at hs
  have hin := inB_yes off t.length s.length h
  have hin2 := hid hin; clear hin
  go_enter Try.func20, Try.ntmps20
  have hsz5 : (Try.prog.info? 5).map (·.size) = some 1 := by kernel_rfl
  have Hsz5 := hid hsz5; clear hsz5
  go_wp2_with (first | (go_at_call 56; (with_reducible refine (in_any _ _ _ _ (by omega) (by omega)).mono ?_); rintro e w' ⟨rfl, rfl⟩; rw [hin2.out]) | ((with_reducible refine at_op 17 ?_); refine wpList_conv_bytes rfl (.tmp 16) 9 91 5 rfl Try.underlying9 Try.underlying91 Try.underlying5 s rfl w.heap.size w (Below.refl _ _) (Nat.le_refl _) ?_; intro cap w1 hcap hb1 hby1 hsz1; have HB := hid hby1; clear hby1) | ((with_reducible refine at_op 22 ?_); refine wpList_copy_str rfl (.tmp 20) (.tmp 21) 91 9 rfl 5 Try.underlying91 Hsz5.out _ (s.length - off) _ rfl t rfl w.heap.size off s HB.out ?c1 ?c2 w.heap.size w hb1 (Nat.le_refl _) ?_; (case c1 => go_must (rw [List.length_take]; omega)); (case c2 => go_must (rw [List.length_take]; intro h0; rw [if_neg (by omega)])); intro w2 hb2 hsz2 hby2; have HB2 := hid hby2; clear hby2) | ((with_reducible refine at_op 24 ?_); refine wpList_conv_str rfl (.tmp 23) 91 9 5 rfl Try.underlying91 Try.underlying5 Try.underlying9 _ w.heap.size s.length _ rfl ?c3 HB2.out ?_; (case c3 => go_must (exact length_splice _ _ _ (by rw [List.length_take]; omega))); clear HB2))
  all_goals
    go_ret2
    refine ⟨?_, hb2⟩
    show Ending.returned (.tuple #[.string ⟨(splice s off (t.take (s.length - off))).toArray⟩, .int .i64 0]) = _
    rw [List.take_of_length_le (show t.length ≤ s.length - off from by omega)]

set_option maxRecDepth 100000 in
set_option maxHeartbeats 400000 in
theorem lay_no (s t : List UInt8) (off : Int) (w : World) (hs : s.length ≤ maxLen) (h : inB off t.length s.length = false) :
    Calls Try.prog 20 #[.string ⟨s.toArray⟩, .int .i64 off, .string ⟨t.toArray⟩] w fun e w' => e = .returned (.tuple #[.string ⟨#[]⟩, .int .i64 3]) ∧ w = w' := by
  unfold maxLen at hs
  go_enter Try.func20, Try.ntmps20
  go_wp2_with (go_at_call 56; (with_reducible refine (in_any _ _ _ _ (by omega) (by omega)).mono ?_); rintro e w' ⟨rfl, rfl⟩; rw [h])
  go_ret2
  exact ⟨rfl, rfl⟩

set_option maxRecDepth 100000 in
set_option maxHeartbeats 400000 in
theorem get_yes (l : List UInt8) (w : World) (h1 : 1 ≤ l.length) (h8 : l.length ≤ 8) :
    Calls Try.prog 15 #[.string ⟨l.toArray⟩] w fun e w' => e = .returned (.tuple #[.int .i64 (wrap64 (numB l)), .int .i64 0]) ∧ w = w' := by
  go_enter Try.func15, Try.ntmps15
  go_wp2
  go_loop [4, 16] (fun vu vi => ∃ j : Nat, j ≤ l.length ∧ vi = .int .i64 j ∧ vu = .int .u64 (numB (l.take j))) (fun _ i => l.length - (intOf i).toNat)
  case atStart => exact ⟨0, by omega, rfl, by simp [numB]⟩
  case round =>
    obtain ⟨j, hj, rfl, rfl⟩ := hrel
    by_cases hlt : j < l.length
    · go_wp2
      exact ⟨⟨j + 1, by omega, by go_num, val_int (get_step l j hlt h8)⟩, by simp [intOf]; omega⟩
    · go_wp2
      obtain rfl : j = l.length := by omega
      go_ret2
      refine ⟨?_, rfl⟩
      show Ending.returned (.tuple #[.int .i64 (wrap64 ↑(numB (l.take l.length))), .int .i64 0]) = _
      rw [List.take_length]

set_option maxRecDepth 100000 in
set_option maxHeartbeats 400000 in
theorem get_no (l : List UInt8) (w : World) (hs : l.length ≤ maxLen) (h : l.length = 0 ∨ 8 < l.length) :
    Calls Try.prog 15 #[.string ⟨l.toArray⟩] w fun e w' => e = .returned (.tuple #[.int .i64 0, .int .i64 3]) ∧ w = w' := by
  unfold maxLen at hs
  rcases h with h | h
  all_goals
    go_enter Try.func15, Try.ntmps15
    go_wp2
    go_ret2
    exact ⟨rfl, rfl⟩

set_option maxRecDepth 100000 in
set_option maxHeartbeats 400000 in
theorem put_no (n k : Int) (w : World) (h : k < 1 ∨ 8 < k) :
    Calls Try.prog 14 #[.int .i64 n, .int .i64 k] w fun e w' => e = .returned (.tuple #[.string ⟨#[]⟩, .int .i64 3]) ∧ w = w' := by
  rcases h with h | h
  all_goals
    go_enter Try.func14, Try.ntmps14
    go_wp2
    go_ret2
    exact ⟨rfl, rfl⟩

set_option maxRecDepth 100000 in
set_option maxHeartbeats 400000 in
theorem put_yes (n : Int) (k : Nat) (w : World) (h1 : 1 ≤ k) (h8 : k ≤ 8) :
    Calls Try.prog 14 #[.int .i64 n, .int .i64 k] w fun e w' => e = .returned (.tuple #[.string ⟨(leB n k).toArray⟩, .int .i64 0]) ∧ Below w.heap.size w w' := by
  have hi5 : (Try.prog.info? 5).map (fun i => (i.zero, i.size, i.bytes)) = some (some (.int .u8 0), 1, 1) := by kernel_rfl
  have Hi5 := hid hi5; clear hi5
  go_enter Try.func14, Try.ntmps14
  go_wp2_with (((with_reducible refine at_op 15 ?_); refine wpList_make_bytes rfl (.tmp 14) (.tmp 14) 91 5 rfl Try.underlying91 Hi5.out k ?c1 rfl rfl w.heap.size w (Below.refl _ _) (Nat.le_refl _) ?_; (case c1 => omega); intro w1 hb1 hby1 hsz1; have HB := hid hby1; clear hby1))
  go_loopw [18] (fun vi wr => ∃ j : Nat, j ≤ k ∧ vi = .int .i64 j ∧ Below w.heap.size w wr ∧ w.heap.size < wr.heap.size ∧ Hid (BytesAt wr w.heap.size (putRow n k j))) (fun i _ => k - (intOf i).toNat)
  case atStart => exact ⟨0, by omega, rfl, hb1, hsz1, by have := HB.out; unfold putRow; show BytesAt _ _ _; simpa [leB] using this⟩
  case round =>
    obtain ⟨j, hj, rfl, hb, hsz, HBj⟩ := hrel
    by_cases hlt : j < k
    · obtain ⟨hc, hf⟩ := HBj.out j (by rw [putRow_length _ _ _ hj]; exact hlt)
      obtain ⟨v, hv⟩ : ∃ v, v = Value.int .u8 ((putRow n k j)[j]'(by rw [putRow_length _ _ _ hj]; exact hlt)).toNat := ⟨_, rfl⟩
      rw [← hv] at hc; clear hv
      go_wp2
      have HS := HBj.out.set j (by rw [putRow_length _ _ _ hj]; exact hlt) (byteAt n j) _ (val_int (put_num n j (by omega)))
      rw [putRow_step n k j hlt] at HS
      exact ⟨⟨j + 1, by omega, by go_num, hb.setCell (Nat.le_refl _) _, by simpa using hsz, HS⟩, by simp [intOf]; omega⟩
    · go_wp2_with (((with_reducible refine at_op 32 ?_); refine wpList_conv_str rfl (.tmp 31) 91 9 5 rfl Try.underlying91 Try.underlying5 Try.underlying9 (putRow n k j) w.heap.size k _ rfl ?c3 HBj.out ?_; (case c3 => go_must (exact putRow_length _ _ _ hj)); clear HBj))
      obtain rfl : j = k := by omega
      go_ret2
      refine ⟨?_, hb⟩
      show Ending.returned (.tuple #[.string ⟨(putRow n j j).toArray⟩, .int .i64 0]) = _
      rw [putRow_end]
end Go.Proofs.Ytejnpppejalhfaa
