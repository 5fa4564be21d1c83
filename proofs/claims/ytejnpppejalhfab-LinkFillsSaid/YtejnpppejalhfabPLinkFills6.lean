/- Texts that the proof stands on, one behind the other: PlLnk2, Bits, BitsF, Lk1, Lk2. -/
import Derived.Test.YtejnpppejalhfabProg
import Derived.Handy
import Derived.BigQuiet
import Derived.Deep.QuietTactic
import Derived.WalkSpells
import Derived.Test.YtejnpppejalhfabPLinkFills5
/- What is linked is right: in plain Lean. -/
namespace Go.Proofs.Ytejnpppejalhfab
open Go.RowKit Go.Sort

def arOk (A : List Ar) (p : Int) : Bool := match findA A p with
  | some a => !a.z
  | none => false
def shsB (A : List Ar) : Int → List Sh → Bool
  | _, [] => true
  | last, s :: r => arOk A s.page && (rightS s && (decide (last < s.page) && shsB A s.page r))
def riseB : Int → List Sh → Bool
  | _, [] => true
  | last, s :: r => rightS s && (decide (last < s.page) && riseB s.page r)
def arB (A : List Ar) (l : List Sh) : Bool := l.all fun s => arOk A s.page
theorem shsB_eq (A : List Ar) : ∀ (l : List Sh) (last : Int), shsB A last l = (riseB last l && arB A l) := by
  intro l
  induction l with
  | nil => intro last; rfl
  | cons s r ih =>
    intro last
    simp only [shsB, riseB, arB, List.all_cons, ih]
    cases arOk A s.page <;> cases rightS s <;> cases decide (last < s.page) <;> cases riseB s.page r <;> rfl
def entB (A : List Ar) (en : Int) : Bool := decide (0 ≤ en ∧ en.tmod 8 = 0) && (match findA A (en.tdiv 16) with
  | some a => decide (2 ≤ a.prot)
  | none => false)
def lkB (A : List Ar) (L : List Sh) (en : Int) : Bool := decide ((L.length : Int) = sumN A) && (shsB A 0 L && entB A en)
def checkLk (A : List Ar) (L : List Sh) (en : Int) : Int := if checkI A = 0 then (if lkB A L en = true then 0 else 1) else checkI A
/-- a slice of sheets in memory: each with its slice of fixes -/
structure ShsV (w : World) (Lp : List (Sh × Value)) (vs : Value) : Prop where
  sl : Sl nF w 3 vs (Lp.map fun p => shC p.1 p.2)
  fx : ∀ p ∈ Lp, ShV w p.1 p.2
theorem ShsV.now {w w' : World} {Γ : List Asr} {Lp : List (Sh × Value)} {vs : Value} (h : ShsV w Lp vs) (hS : St nF w w' Γ) : ShsV w' Lp vs := ⟨h.sl.now hS, fun p hp => (h.fx p hp).now hS⟩
def shs (Lp : List (Sh × Value)) : List Sh := Lp.map (·.1)
theorem shs_len (Lp : List (Sh × Value)) : (shs Lp).length = Lp.length := by unfold shs; simp
theorem shs_at {Lp : List (Sh × Value)} {i : Nat} {p : Sh × Value} (h : Lp[i]? = some p) : (shs Lp)[i]? = some p.1 := by unfold shs; rw [List.getElem?_map, h]; rfl
theorem shsB_step {A : List Ar} {l : List Sh} {i : Nat} {s : Sh} {last : Int} (h : l[i]? = some s) : shsB A last (l.drop i) = (arOk A s.page && (rightS s && (decide (last < s.page) && shsB A s.page (l.drop (i + 1))))) := by
  rw [drop_at h]; rfl
theorem good_pos {A : List Ar} (hc : checkI A = 0) {p : Int} {a : Ar} (h : findA A p = some a) : a.ok ∧ 1 ≤ p := by
  have hg := (checkI_zero.1 hc).2
  have hok := find_ok hg.1 h
  have := List.find?_some h
  unfold holdsB at this
  rw [decide_eq_true_eq] at this
  unfold Ar.ok at hok
  exact ⟨hok, by omega⟩
def lkA (va vs : Value) (en : Int) : Value := .agg [va, vs, .int .i64 en].toArray
end Go.Proofs.Ytejnpppejalhfab
/- The contracts of package bits and of the reference's bytes. -/
namespace Go.Proofs.Ytejnpppejalhfab
open Go.RowKit

set_option maxRecDepth 100000 in
set_option maxHeartbeats 400000 in
theorem bytes_any (n : Int) (k : Nat) (w : World) (hk : k ≤ 8) :
    Calls Try.prog 69 #[.int .i64 n, .int .i64 k] w fun e w' => e = .returned (.string ⟨(leB n k).toArray⟩) ∧ Below w.heap.size w w' := by
  have hcv := run_str_of_one (P := Try.prog) 76 5 9 Try.underlying76 Try.underlying5 Try.underlying9
  go_enter Try.func69, Try.ntmps69
  go_wp2
  go_loopw [0, 5, 6] (fun vn vs vi wr => ∃ j : Nat, j ≤ k ∧ vi = .int .i64 j ∧ vn = .int .i64 (n / 2 ^ (8 * j)) ∧ vs = .string ⟨(leB n j).toArray⟩ ∧ Below w.heap.size w wr) (fun _ _ i _ => k - (intOf i).toNat)
  case atStart => exact ⟨0, by omega, rfl, by simp, rfl, Below.refl _ _⟩
  case round =>
    obtain ⟨j, hj, rfl, rfl, rfl, hb⟩ := hrel
    have hlen : (leB n j).length ≤ 8 := by rw [leB_length]; omega
    by_cases hlt : j < k
    · go_wp2
      go_roundw
      case rel => exact ⟨j + 1, by omega, by go_num, by rw [div_step], rfl, hb.alloc hb.size _⟩
      case measure => simp [intOf]; omega
    · go_wp2
      obtain rfl : j = k := by omega
      go_ret
      exact ⟨rfl, hb⟩
theorem inB_spec (off n all : Int) : inB off n all = (decide (0 ≤ off) && (decide (0 ≤ n) && (decide (off ≤ all) && decide (n ≤ all - off)))) := by
  unfold inB; simp

set_option maxRecDepth 100000 in
set_option maxHeartbeats 400000 in
theorem in_any (off n all : Int) (w : World) (h : 0 ≤ all) (h2 : all ≤ 9223372036854775807) :
    Calls Try.prog 70 #[.int .i64 off, .int .i64 n, .int .i64 all] w fun e w' => e = .returned (.bool (inB off n all)) ∧ w = w' := by
  have hs := hid (inB_spec off n all)
  go_enter Try.func70, Try.ntmps70
  go_wp2
  all_goals
    go_ret
    refine ⟨ret_bool ?_, rfl⟩
    rw [hs.out]
    first
      | (rw [IntWalk.wrap64_in (all - off) ⟨by omega, by omega⟩]; simp [*]; done)
      | (rw [Bool.eq_iff_iff]; simp; omega)

set_option maxRecDepth 100000 in
set_option maxHeartbeats 400000 in
theorem over_any (s t : List UInt8) (off : Nat) (w : World) (hs : s.length ≤ maxLen) (h : off + t.length ≤ s.length) :
    Calls Try.prog 61 #[.string ⟨s.toArray⟩, .int .i64 off, .string ⟨t.toArray⟩] w fun e w' => e = .returned (.string ⟨(splice s off t).toArray⟩) ∧ ∃ n, w' = w.drewN n := by
  unfold maxLen at hs
  go_enter Try.func61, Try.ntmps61
  go_wp2
  go_quiet (fail)
  go_wp2
  go_ret
  refine ⟨?_, drewN_any⟩
  exact ret_str (by simp [splice, List.take_of_length_le])

set_option maxRecDepth 100000 in
set_option maxHeartbeats 400000 in
theorem part_no (s : List UInt8) (off n : Int) (w : World) (hs : s.length ≤ maxLen) (h : inB off n s.length = false) :
    Calls Try.prog 24 #[.string ⟨s.toArray⟩, .int .i64 off, .int .i64 n] w fun e w' => e = .returned (.tuple #[.string ⟨#[]⟩, .int .i64 3]) ∧ w = w' := by
  unfold maxLen at hs
  go_enter Try.func24, Try.ntmps24
  go_wp2_with (go_at_call 70; (with_reducible refine (in_any _ _ _ _ (by omega) (by omega)).mono ?_); rintro e w' ⟨rfl, rfl⟩; rw [h])
  go_ret2
  exact ⟨rfl, rfl⟩

theorem inB_yes (off n all : Nat) (h : off + n ≤ all) : inB off n all = true := by
  unfold inB; simp; omega

set_option maxRecDepth 100000 in
set_option maxHeartbeats 400000 in
theorem part_yes (s : List UInt8) (off n : Nat) (w : World) (hs : s.length ≤ maxLen) (h : off + n ≤ s.length) :
    Calls Try.prog 24 #[.string ⟨s.toArray⟩, .int .i64 off, .int .i64 n] w fun e w' => e = .returned (.tuple #[.string ⟨((s.drop off).take n).toArray⟩, .int .i64 0]) ∧ w = w' := by
  unfold maxLen at hs
  have hin := inB_yes off n s.length h
  have hin2 := hid hin; clear hin
  go_enter Try.func24, Try.ntmps24
  go_wp2_with (go_at_call 70; (with_reducible refine (in_any _ _ _ _ (by omega) (by omega)).mono ?_); rintro e w' ⟨rfl, rfl⟩; rw [hin2.out])
  go_ret2
  refine ⟨?_, rfl⟩
  show Ending.returned (.tuple #[.string ⟨((s.drop off).take (off + n - off)).toArray⟩, .int .i64 0]) = _
  rw [Nat.add_sub_cancel_left]

set_option maxRecDepth 100000 in
set_option maxHeartbeats 400000 in
theorem lay_yes (s t : List UInt8) (off : Nat) (w : World) (hs : s.length ≤ maxLen) (h : off + t.length ≤ s.length) :
    Calls Try.prog 59 #[.string ⟨s.toArray⟩, .int .i64 off, .string ⟨t.toArray⟩] w fun e w' => e = .returned (.tuple #[.string ⟨(splice s off t).toArray⟩, .int .i64 0]) ∧ Below w.heap.size w w' := by
  unfold maxLen at hs
  have hin := inB_yes off t.length s.length h
  have hin2 := hid hin; clear hin
  go_enter Try.func59, Try.ntmps59
  have hsz5 : (Try.prog.info? 5).map (·.size) = some 1 := by kernel_rfl
  have Hsz5 := hid hsz5; clear hsz5
  go_wp2_with (first | (go_at_call 70; (with_reducible refine (in_any _ _ _ _ (by omega) (by omega)).mono ?_); rintro e w' ⟨rfl, rfl⟩; rw [hin2.out]) | ((with_reducible refine at_op 17 ?_); refine wpList_conv_bytes rfl (.tmp 16) 9 76 5 rfl Try.underlying9 Try.underlying76 Try.underlying5 s rfl w.heap.size w (Below.refl _ _) (Nat.le_refl _) ?_; intro cap w1 hcap hb1 hby1 hsz1; have HB := hid hby1; clear hby1) | ((with_reducible refine at_op 22 ?_); refine wpList_copy_str rfl (.tmp 20) (.tmp 21) 76 9 rfl 5 Try.underlying76 Hsz5.out _ (s.length - off) _ rfl t rfl w.heap.size off s HB.out ?c1 ?c2 w.heap.size w hb1 (Nat.le_refl _) ?_; (case c1 => go_must (rw [List.length_take]; omega)); (case c2 => go_must (rw [List.length_take]; intro h0; rw [if_neg (by omega)])); intro w2 hb2 hsz2 hby2; have HB2 := hid hby2; clear hby2) | ((with_reducible refine at_op 24 ?_); refine wpList_conv_str rfl (.tmp 23) 76 9 5 rfl Try.underlying76 Try.underlying5 Try.underlying9 _ w.heap.size s.length _ rfl ?c3 HB2.out ?_; (case c3 => go_must (exact length_splice _ _ _ (by rw [List.length_take]; omega))); clear HB2))
  all_goals
    go_ret2
    refine ⟨?_, hb2⟩
    show Ending.returned (.tuple #[.string ⟨(splice s off (t.take (s.length - off))).toArray⟩, .int .i64 0]) = _
    rw [List.take_of_length_le (show t.length ≤ s.length - off from by omega)]

set_option maxRecDepth 100000 in
set_option maxHeartbeats 400000 in
theorem lay_no (s t : List UInt8) (off : Int) (w : World) (hs : s.length ≤ maxLen) (h : inB off t.length s.length = false) :
    Calls Try.prog 59 #[.string ⟨s.toArray⟩, .int .i64 off, .string ⟨t.toArray⟩] w fun e w' => e = .returned (.tuple #[.string ⟨#[]⟩, .int .i64 3]) ∧ w = w' := by
  unfold maxLen at hs
  go_enter Try.func59, Try.ntmps59
  go_wp2_with (go_at_call 70; (with_reducible refine (in_any _ _ _ _ (by omega) (by omega)).mono ?_); rintro e w' ⟨rfl, rfl⟩; rw [h])
  go_ret2
  exact ⟨rfl, rfl⟩

set_option maxRecDepth 100000 in
set_option maxHeartbeats 400000 in
theorem get_yes (l : List UInt8) (w : World) (h1 : 1 ≤ l.length) (h8 : l.length ≤ 8) :
    Calls Try.prog 95 #[.string ⟨l.toArray⟩] w fun e w' => e = .returned (.tuple #[.int .i64 (wrap64 (numB l)), .int .i64 0]) ∧ w = w' := by
  go_enter Try.func95, Try.ntmps95
  go_wp2
  go_loop [4, 16] (fun vu vi => ∃ j : Nat, j ≤ l.length ∧ vi = .int .i64 j ∧ vu = .int .u64 (numB (l.take j))) (fun _ i => l.length - (intOf i).toNat)
  case atStart => exact ⟨0, by omega, rfl, by simp [numB]⟩
  case round =>
    obtain ⟨j, hj, rfl, rfl⟩ := hrel
    by_cases hlt : j < l.length
    · go_wp2
      exact ⟨⟨j + 1, by omega, by go_num, val_int (get_step l j hlt h8)⟩, by simp [intOf]; omega⟩
    · go_wp2
      obtain rfl : j = l.length := by omega
      go_ret2
      refine ⟨?_, rfl⟩
      show Ending.returned (.tuple #[.int .i64 (wrap64 ↑(numB (l.take l.length))), .int .i64 0]) = _
      rw [List.take_length]

set_option maxRecDepth 100000 in
set_option maxHeartbeats 400000 in
theorem get_no (l : List UInt8) (w : World) (hs : l.length ≤ maxLen) (h : l.length = 0 ∨ 8 < l.length) :
    Calls Try.prog 95 #[.string ⟨l.toArray⟩] w fun e w' => e = .returned (.tuple #[.int .i64 0, .int .i64 3]) ∧ w = w' := by
  unfold maxLen at hs
  rcases h with h | h
  all_goals
    go_enter Try.func95, Try.ntmps95
    go_wp2
    go_ret2
    exact ⟨rfl, rfl⟩

set_option maxRecDepth 100000 in
set_option maxHeartbeats 400000 in
theorem put_no (n k : Int) (w : World) (h : k < 1 ∨ 8 < k) :
    Calls Try.prog 93 #[.int .i64 n, .int .i64 k] w fun e w' => e = .returned (.tuple #[.string ⟨#[]⟩, .int .i64 3]) ∧ w = w' := by
  rcases h with h | h
  all_goals
    go_enter Try.func93, Try.ntmps93
    go_wp2
    go_ret2
    exact ⟨rfl, rfl⟩

set_option maxRecDepth 100000 in
set_option maxHeartbeats 400000 in
theorem put_yes (n : Int) (k : Nat) (w : World) (h1 : 1 ≤ k) (h8 : k ≤ 8) :
    Calls Try.prog 93 #[.int .i64 n, .int .i64 k] w fun e w' => e = .returned (.tuple #[.string ⟨(leB n k).toArray⟩, .int .i64 0]) ∧ Below w.heap.size w w' := by
  have hi5 : (Try.prog.info? 5).map (fun i => (i.zero, i.size, i.bytes)) = some (some (.int .u8 0), 1, 1) := by kernel_rfl
  have Hi5 := hid hi5; clear hi5
  go_enter Try.func93, Try.ntmps93
  go_wp2_with (((with_reducible refine at_op 15 ?_); refine wpList_make_bytes rfl (.tmp 14) (.tmp 14) 76 5 rfl Try.underlying76 Hi5.out k ?c1 rfl rfl w.heap.size w (Below.refl _ _) (Nat.le_refl _) ?_; (case c1 => omega); intro w1 hb1 hby1 hsz1; have HB := hid hby1; clear hby1))
  go_loopw [18] (fun vi wr => ∃ j : Nat, j ≤ k ∧ vi = .int .i64 j ∧ Below w.heap.size w wr ∧ w.heap.size < wr.heap.size ∧ Hid (BytesAt wr w.heap.size (putRow n k j))) (fun i _ => k - (intOf i).toNat)
  case atStart => exact ⟨0, by omega, rfl, hb1, hsz1, by have := HB.out; unfold putRow; show BytesAt _ _ _; simpa [leB] using this⟩
  case round =>
    obtain ⟨j, hj, rfl, hb, hsz, HBj⟩ := hrel
    by_cases hlt : j < k
    · obtain ⟨hc, hf⟩ := HBj.out j (by rw [putRow_length _ _ _ hj]; exact hlt)
      obtain ⟨v, hv⟩ : ∃ v, v = Value.int .u8 ((putRow n k j)[j]'(by rw [putRow_length _ _ _ hj]; exact hlt)).toNat := ⟨_, rfl⟩
      rw [← hv] at hc; clear hv
      go_wp2
      have HS := HBj.out.set j (by rw [putRow_length _ _ _ hj]; exact hlt) (byteAt n j) _ (val_int (put_num n j (by omega)))
      rw [putRow_step n k j hlt] at HS
      exact ⟨⟨j + 1, by omega, by go_num, hb.setCell (Nat.le_refl _) _, by simpa using hsz, HS⟩, by simp [intOf]; omega⟩
    · go_wp2_with (((with_reducible refine at_op 32 ?_); refine wpList_conv_str rfl (.tmp 31) 76 9 5 rfl Try.underlying76 Try.underlying5 Try.underlying9 (putRow n k j) w.heap.size k _ rfl ?c3 HBj.out ?_; (case c3 => go_must (exact putRow_length _ _ _ hj)); clear HBj))
      obtain rfl : j = k := by omega
      go_ret2
      refine ⟨?_, hb⟩
      show Ending.returned (.tuple #[.string ⟨(putRow n j j).toArray⟩, .int .i64 0]) = _
      rw [putRow_end]
end Go.Proofs.Ytejnpppejalhfab
/- The contracts of bits in the words of the step calculus. -/
namespace Go.Proofs.Ytejnpppejalhfab
open Go.RowKit Go.Sort

theorem Part_fn (l : List UInt8) (off n : Int) (w : World) (hl : l.length ≤ maxLen) : Fn Try.prog 24 [.string ⟨l.toArray⟩, .int .i64 off, .int .i64 n] w (RBf (.tuple #[.string ⟨(if inB off n l.length = true then (l.drop off.toNat).take n.toNat else []).toArray⟩, .int .i64 (if inB off n l.length = true then 0 else 3)]) w) := by
  by_cases h : inB off n l.length = true
  · rw [if_pos h, if_pos h]
    unfold inB at h
    simp only [decide_eq_true_eq] at h
    have h1 := part_yes l off.toNat n.toNat w hl (by omega)
    rw [Int.toNat_of_nonneg (by omega), Int.toNat_of_nonneg (by omega)] at h1
    exact (Fn.of_same ⟨Try.func24, by kernel_rfl, by kernel_rfl⟩ h1).mono (by rintro v w' ⟨rfl, rfl⟩; exact ⟨rfl, St.start _⟩)
  · rw [if_neg h, if_neg h]
    exact (Fn.of_same ⟨Try.func24, by kernel_rfl, by kernel_rfl⟩ (part_no l off n w hl (by simpa using h))).mono (by rintro v w' ⟨rfl, rfl⟩; exact ⟨rfl, St.start _⟩)
theorem Get_fn (l : List UInt8) (w : World) (hl : l.length ≤ maxLen) : Fn Try.prog 95 [.string ⟨l.toArray⟩] w (RBf (.tuple #[.int .i64 (if 1 ≤ l.length ∧ l.length ≤ 8 then wrap64 (numB l) else 0), .int .i64 (if 1 ≤ l.length ∧ l.length ≤ 8 then 0 else 3)]) w) := by
  by_cases h : 1 ≤ l.length ∧ l.length ≤ 8
  · rw [if_pos h, if_pos h]
    exact (Fn.of_same ⟨Try.func95, by kernel_rfl, by kernel_rfl⟩ (get_yes l w h.1 h.2)).mono (by rintro v w' ⟨rfl, rfl⟩; exact ⟨rfl, St.start _⟩)
  · rw [if_neg h, if_neg h]
    exact (Fn.of_same ⟨Try.func95, by kernel_rfl, by kernel_rfl⟩ (get_no l w hl (by omega))).mono (by rintro v w' ⟨rfl, rfl⟩; exact ⟨rfl, St.start _⟩)
theorem Lay_fn (s t : List UInt8) (off : Int) (w : World) (hs : s.length ≤ maxLen) : Fn Try.prog 59 [.string ⟨s.toArray⟩, .int .i64 off, .string ⟨t.toArray⟩] w (RBf (.tuple #[.string ⟨(if inB off t.length s.length = true then splice s off.toNat t else []).toArray⟩, .int .i64 (if inB off t.length s.length = true then 0 else 3)]) w) := by
  by_cases h : inB off t.length s.length = true
  · rw [if_pos h, if_pos h]
    unfold inB at h
    simp only [decide_eq_true_eq] at h
    have h1 := lay_yes s t off.toNat w hs (by omega)
    rw [Int.toNat_of_nonneg (by omega)] at h1
    exact Fn.of_rb ⟨Try.func59, by kernel_rfl, by kernel_rfl⟩ (rb_below h1)
  · rw [if_neg h, if_neg h]
    exact (Fn.of_same ⟨Try.func59, by kernel_rfl, by kernel_rfl⟩ (lay_no s t off w hs (by simpa using h))).mono (by rintro v w' ⟨rfl, rfl⟩; exact ⟨rfl, St.start _⟩)
theorem Over_fn (s t : List UInt8) (off : Nat) (w : World) (hs : s.length ≤ maxLen) (h : off + t.length ≤ s.length) : Fn Try.prog 61 [.string ⟨s.toArray⟩, .int .i64 off, .string ⟨t.toArray⟩] w (RBf (.string ⟨(splice s off t).toArray⟩) w) :=
  ⟨⟨_, Try.func61, by kernel_rfl, by kernel_rfl⟩, (over_any s t off w hs h).mono fun _ _ ⟨he, n, hw⟩ => ⟨_, he, rfl, by subst hw; exact (St.start w).grow ⟨rfl, rfl, rfl, Nat.le_refl _, fun _ _ _ => rfl⟩⟩⟩
end Go.Proofs.Ytejnpppejalhfab
/- Sheets: right, and filled. -/
namespace Go.Proofs.Ytejnpppejalhfab
open Go.RowKit Go.Sort
abbrev shA (s : Sh) (u : Value) : Value := .agg (shC s u).toArray
set_option maxRecDepth 100000 in
set_option maxHeartbeats 4000000 in
theorem right_fn {S : Sh} {w : World} {u : Value} (hu : ShV w S u) : Fn Try.prog 58 [shA S u] w (RBf (.bool (rightS S)) w) := by
  have bnd := hu.bound
  obtain ⟨p, c, rfl⟩ := hu.len
  refine fn_enter (fn := Try.f58) ⟨Try.func58, by kernel_rfl, by kernel_rfl⟩ (by exact rfl) Try.ntmps58 (by exact rfl) ?_
  have hS := St.start w
  unfold shA shC
  by_cases h0 : (1 ≤ S.page ∧ S.page ≤ 255) ∧ S.data.length = 16
  rotate_left
  · have hf : rightS S = false := by unfold rightS; rw [decide_eq_false h0]; rfl
    rw [hf]
    repeat' (first | (first | ((with_reducible apply l_pure tabOk); exact rfl; exact rfl) | ((with_reducible apply l_load); exact rfl; (((with_reducible apply Loads.sc tabOk); exact rfl; ((exact hS.blkC 0 rfl rfl)))); exact rfl) | ((with_reducible apply l_box hS); exact rfl; exact rfl; exact rfl; intro g w' hS'; clear hS; have hS := hS'; clear hS') | (first | ((with_reducible apply l_yes); exact rfl; exact rfl; exact rfl; exact rfl; (assumption)) | ((with_reducible apply l_no); exact rfl; exact rfl; exact rfl; exact rfl; (first | exact rfl | assumption); exact rfl) | ((with_reducible apply l_partd); exact rfl; exact rfl; exact rfl; all_goals (intro hb hp; try (exfalso; omega))) | ((with_reducible apply l_pick1); exact rfl; (first | exact rfl | assumption); exact rfl; exact rfl) | ((with_reducible apply l_pick2); exact rfl; ((assumption)); exact rfl; exact rfl))) | (first | (with_reducible apply c_seq) | (with_reducible apply c_region) | (with_reducible apply l_nil) | (with_reducible apply q_then) | (with_reducible apply c_ret) | (with_reducible apply q_then_ret)) | (first | ((with_reducible apply c_ift); exact rfl; (exact rfl)) | ((with_reducible apply c_ifn); exact rfl; all_goals (intro hb hp; try (exfalso; omega)))))
    all_goals (((apply q_ret1); (repeat (first | exact ResL.nil | (apply ResL.tmp; exact rfl)))); exact ⟨rfl, hS.sub (List.nil_sublist _)⟩)
  have hr : rightS S = fxOk 0 S.fixes := by unfold rightS; rw [decide_eq_true h0]; rfl
  rw [hr]
  repeat' (first | (first | ((with_reducible apply l_pure tabOk); exact rfl; exact rfl) | ((with_reducible apply l_load); exact rfl; (first | ((with_reducible apply Loads.sc tabOk); exact rfl; ((exact hS.blkC 0 rfl rfl))) | ((with_reducible apply Loads.sl tabOk); exact rfl; ((exact hS.blkC 0 rfl rfl)))); exact rfl) | ((with_reducible apply l_box hS); exact rfl; exact rfl; exact rfl; intro g w' hS'; clear hS; have hS := hS'; clear hS') | (first | ((with_reducible apply l_yes); exact rfl; exact rfl; exact rfl; exact rfl; (assumption)) | ((with_reducible apply l_partd); exact rfl; exact rfl; exact rfl; all_goals (intro hb hp; try (exfalso; omega))) | ((with_reducible apply l_pick2); exact rfl; ((assumption)); exact rfl; exact rfl))) | (first | (with_reducible apply c_seq) | (with_reducible apply c_region) | (with_reducible apply l_nil) | (with_reducible apply q_then) | (with_reducible apply c_skip) | (with_reducible apply c_block)) | (((with_reducible apply c_ifn); exact rfl; all_goals (intro hb hp; try (exfalso; omega)))))
  refine c_loopK (X := Nat × Int) (fun x => [(23, .int .i64 (x.1 : Nat)), (3, .int .i64 x.2)]) [1, 21, 22] rfl (fun _ => []) (fun x => (x.1 ≤ S.fixes.length ∧ 0 ≤ x.2 ∧ x.2 ≤ 16) ∧ fxOk 0 S.fixes = fxOk x.2 (S.fixes.drop x.1)) (fun x => S.fixes.length - x.1) (0, 0) (by repeat (first | exact Fr.sub_nil _ | (apply Fr.sub_cons; exact rfl))) (by simp) hS ?_
  clear hS
  rintro ⟨i, free⟩ w1 ⟨⟨hi, hf0, hf1⟩, hok⟩ hS
  dsimp only [List.cons_append, List.nil_append] at hi hf0 hf1 hok hS ⊢
  by_cases hlt : i < S.fixes.length
  · obtain ⟨x, hx⟩ := lt_get (l := S.fixes) (i := i) (by omega)
    have hrow := map_get (f := fxC) hx
    obtain ⟨b, off, rfl, hro⟩ := hu.at_ (i := i) hlt
    have hst := fxOk_step (free := free) hx
    by_cases h1 : free ≤ x.off ∧ x.off ≤ 16 ∧ x.bytes ≠ [] ∧ (x.bytes.length : Int) ≤ 16 - x.off
    · have ho : fxOne free x = true := decide_eq_true h1
      have hb0 : decide (x.bytes = []) = false := decide_eq_false h1.2.2.1
      rw [ho, Bool.true_and] at hst
      repeat' (first | (first | ((with_reducible apply l_add); exact rfl; exact rfl; omega; omega; exact rfl) | ((with_reducible apply l_sub); exact rfl; exact rfl; omega; omega; exact rfl) | ((with_reducible apply l_pure tabOk); exact rfl; exact rfl) | ((with_reducible apply l_load); exact rfl; (first | ((with_reducible apply Loads.sc tabOk); exact rfl; ((exact hS.blkC 0 rfl rfl))) | ((with_reducible apply Loads.st tabOk); exact rfl; ((exact hS.roR (by assumption) (by assumption))); exact rfl)); exact rfl) | ((with_reducible apply l_ix tabOk); exact rfl; exact rfl; exact rfl; ((exact rfl)); ((omega)); exact rfl) | ((with_reducible apply l_alloc hS tabOk); exact rfl; exact rfl; exact rfl; intro g w' hS'; clear hS; have hS := hS'; clear hS') | (((with_reducible apply l_store hS tabOk (i := 0)); exact rfl; exact rfl; exact rfl; exact rfl; exact rfl; exact rfl; exact rfl; exact rfl; ((exact (rfl : _ = [_, _]))); intro w' hS'; simp only [List.set] at hS'; clear hS; have hS := hS'; clear hS')) | (first | ((with_reducible apply l_yes); exact rfl; exact rfl; exact rfl; exact rfl; (assumption)) | ((with_reducible apply l_partd); exact rfl; exact rfl; exact rfl; all_goals (intro hb hp; try (exfalso; omega))) | ((with_reducible apply l_pick2); exact rfl; ((assumption)); exact rfl; exact rfl))) | (first | (with_reducible apply c_seq) | (with_reducible apply c_region) | (with_reducible apply l_nil) | (with_reducible apply q_then) | (with_reducible apply c_skip) | (with_reducible apply c_block) | (with_reducible apply q_block)) | (((with_reducible apply c_ifd); exact rfl; all_goals (intro hb hp; try (exfalso; omega)))))
      refine q_loopK (i + 1, fxEnd x) (by repeat (first | exact Fr.sub_nil _ | (apply Fr.sub_cons; exact rfl))) ⟨⟨by show i + 1 ≤ S.fixes.length; omega, by show 0 ≤ fxEnd x; unfold fxEnd; omega, by show fxEnd x ≤ 16; unfold fxEnd; omega⟩, by rw [hok, hst]⟩ hS.drop (by show S.fixes.length - (i + 1) < S.fixes.length - i; omega)
    · have ho : fxOne free x = false := decide_eq_false h1
      rw [ho, Bool.false_and] at hst
      by_cases hb1 : x.bytes = []
      · have hb0 : decide (x.bytes = []) = true := decide_eq_true hb1
        repeat' (first | (first | ((with_reducible apply l_pure tabOk); exact rfl; exact rfl) | ((with_reducible apply l_load); exact rfl; (first | ((with_reducible apply Loads.sc tabOk); exact rfl; ((exact hS.blkC 0 rfl rfl))) | ((with_reducible apply Loads.st tabOk); exact rfl; ((exact hS.roR (by assumption) (by assumption))); exact rfl)); exact rfl) | ((with_reducible apply l_ix tabOk); exact rfl; exact rfl; exact rfl; ((exact rfl)); ((omega)); exact rfl) | ((with_reducible apply l_alloc hS tabOk); exact rfl; exact rfl; exact rfl; intro g w' hS'; clear hS; have hS := hS'; clear hS') | (((with_reducible apply l_store hS tabOk (i := 0)); exact rfl; exact rfl; exact rfl; exact rfl; exact rfl; exact rfl; exact rfl; exact rfl; ((exact (rfl : _ = [_, _]))); intro w' hS'; simp only [List.set] at hS'; clear hS; have hS := hS'; clear hS')) | (first | ((with_reducible apply l_yes); exact rfl; exact rfl; exact rfl; exact rfl; (assumption)) | ((with_reducible apply l_no); exact rfl; exact rfl; exact rfl; exact rfl; (first | exact rfl | assumption); exact rfl) | ((with_reducible apply l_partd); exact rfl; exact rfl; exact rfl; all_goals (intro hb hp; try (exfalso; omega))) | ((with_reducible apply l_pick1); exact rfl; (first | exact rfl | assumption); exact rfl; exact rfl) | ((with_reducible apply l_pick2); exact rfl; ((assumption)); exact rfl; exact rfl))) | (first | (with_reducible apply c_seq) | (with_reducible apply c_region) | (with_reducible apply l_nil) | (with_reducible apply q_then) | (with_reducible apply c_skip) | (with_reducible apply c_block) | (with_reducible apply c_ret) | (with_reducible apply q_then_ret) | (with_reducible apply q_block_ret)) | (first | ((with_reducible apply c_ift); exact rfl; (exact rfl)) | ((with_reducible apply c_ifd); exact rfl; all_goals (intro hb hp; try (exfalso; omega)))))
        all_goals (((apply q_ret1); (repeat (first | exact ResL.nil | (apply ResL.tmp; exact rfl)))); exact ⟨by rw [hok, hst], hS.sub (List.nil_sublist _)⟩)
      · have hb0 : decide (x.bytes = []) = false := decide_eq_false hb1
        repeat' (first | (first | ((with_reducible apply l_add); exact rfl; exact rfl; omega; omega; exact rfl) | ((with_reducible apply l_sub); exact rfl; exact rfl; omega; omega; exact rfl) | ((with_reducible apply l_pure tabOk); exact rfl; exact rfl) | ((with_reducible apply l_load); exact rfl; (first | ((with_reducible apply Loads.sc tabOk); exact rfl; ((exact hS.blkC 0 rfl rfl))) | ((with_reducible apply Loads.st tabOk); exact rfl; ((exact hS.roR (by assumption) (by assumption))); exact rfl)); exact rfl) | ((with_reducible apply l_ix tabOk); exact rfl; exact rfl; exact rfl; ((exact rfl)); ((omega)); exact rfl) | ((with_reducible apply l_alloc hS tabOk); exact rfl; exact rfl; exact rfl; intro g w' hS'; clear hS; have hS := hS'; clear hS') | (((with_reducible apply l_store hS tabOk (i := 0)); exact rfl; exact rfl; exact rfl; exact rfl; exact rfl; exact rfl; exact rfl; exact rfl; ((exact (rfl : _ = [_, _]))); intro w' hS'; simp only [List.set] at hS'; clear hS; have hS := hS'; clear hS')) | (first | ((with_reducible apply l_yes); exact rfl; exact rfl; exact rfl; exact rfl; (assumption)) | ((with_reducible apply l_no); exact rfl; exact rfl; exact rfl; exact rfl; (first | exact rfl | assumption); exact rfl) | ((with_reducible apply l_partd); exact rfl; exact rfl; exact rfl; all_goals (intro hb hp; try (exfalso; omega))) | ((with_reducible apply l_pick1); exact rfl; (first | exact rfl | assumption); exact rfl; exact rfl) | ((with_reducible apply l_pick2); exact rfl; ((assumption)); exact rfl; exact rfl))) | (first | (with_reducible apply c_seq) | (with_reducible apply c_region) | (with_reducible apply l_nil) | (with_reducible apply q_then) | (with_reducible apply c_skip) | (with_reducible apply c_block) | (with_reducible apply c_ret) | (with_reducible apply q_then_ret) | (with_reducible apply q_block) | (with_reducible apply q_block_ret)) | (first | ((with_reducible apply c_ift); exact rfl; (exact rfl)) | ((with_reducible apply c_ifd); exact rfl; all_goals (intro hb hp; try (exfalso; omega)))))
        all_goals first | (((apply q_ret1); (repeat (first | exact ResL.nil | (apply ResL.tmp; exact rfl)))); exact ⟨by rw [hok, hst], hS.sub (List.nil_sublist _)⟩) | (exfalso; exact h1 ⟨by omega, by omega, hb1, by omega⟩)
  · repeat' (first | (((with_reducible apply l_pure tabOk); exact rfl; exact rfl)) | (first | (with_reducible apply c_seq) | (with_reducible apply c_region) | (with_reducible apply l_nil) | (with_reducible apply q_then) | (with_reducible apply c_exit) | (with_reducible apply c_ret) | (with_reducible apply q_then_exit) | (with_reducible apply q_block_exit)) | (((with_reducible apply c_ifd); exact rfl; all_goals (intro hb hp; try (exfalso; omega)))))
    (apply q_ret1); (repeat (first | exact ResL.nil | (apply ResL.tmp; exact rfl)))
    exact ⟨by rw [hok, List.drop_of_length_le (by omega)]; rfl, hS.sub (List.nil_sublist _)⟩
set_option maxRecDepth 100000 in
set_option maxHeartbeats 4000000 in
theorem SheetFine_fn {S : Sh} {w : World} {u : Value} (hu : ShV w S u) : Fn Try.prog 19 [shA S u] w (RBf (.bool (rightS S)) w) := by
  have bnd := hu.bound
  obtain ⟨p, c, rfl⟩ := hu.len
  refine fn_enter (fn := Try.f19) ⟨Try.func19, by kernel_rfl, by kernel_rfl⟩ (by exact rfl) Try.ntmps19 (by exact rfl) ?_
  have hS := St.start w
  unfold shA shC
  by_cases h0 : (1 ≤ S.page ∧ S.page ≤ 255) ∧ S.data.length = 16
  rotate_left
  · have hf : rightS S = false := by unfold rightS; rw [decide_eq_false h0]; rfl
    rw [hf]
    by_cases hp0 : 1 ≤ S.page ∧ S.page ≤ 255
    · have hp1 : (!decide (1 ≤ S.page ∧ S.page ≤ 255)) = false := by simpa using hp0
      repeat' (first | (first | ((with_reducible apply l_pure tabOk); exact rfl; exact rfl) | ((with_reducible apply l_load); exact rfl; (((with_reducible apply Loads.sc tabOk); exact rfl; ((exact hS.blkC 0 rfl rfl)))); exact rfl) | ((with_reducible apply l_box hS); exact rfl; exact rfl; exact rfl; intro g w' hS'; clear hS; have hS := hS'; clear hS') | (first | ((with_reducible apply l_yes); exact rfl; exact rfl; exact rfl; exact rfl; (assumption)) | ((with_reducible apply l_no); exact rfl; exact rfl; exact rfl; exact rfl; ((assumption)); exact rfl) | ((with_reducible apply l_partn); exact rfl; exact rfl; exact rfl; all_goals (intro hb hp; try (exfalso; omega))) | ((with_reducible apply l_pick1); exact rfl; ((assumption)); exact rfl; exact rfl) | ((with_reducible apply l_pick2); exact rfl; ((assumption)); exact rfl; exact rfl))) | (first | (with_reducible apply c_seq) | (with_reducible apply c_region) | (with_reducible apply l_nil) | (with_reducible apply q_then) | (with_reducible apply c_ret) | (with_reducible apply q_then_ret)) | (((with_reducible apply c_ift); exact rfl; (exact rfl))) | ((with_reducible apply l_call); exact rfl; exact rfl; exact within_fn _ _ _ _; exact rfl; rintro _ w' ⟨rfl, hS'⟩; replace hS := hS.transA hS'; simp only [appA] at hS; clear hS'))
      all_goals (((apply q_ret1); (repeat (first | exact ResL.nil | (apply ResL.tmp; exact rfl)))); exact ⟨rfl, hS.sub (List.nil_sublist _)⟩)
    · have hp1 : (!decide (1 ≤ S.page ∧ S.page ≤ 255)) = true := by rw [decide_eq_false hp0]; rfl
      repeat' (first | (first | ((with_reducible apply l_pure tabOk); exact rfl; exact rfl) | ((with_reducible apply l_load); exact rfl; (((with_reducible apply Loads.sc tabOk); exact rfl; ((exact hS.blkC 0 rfl rfl)))); exact rfl) | ((with_reducible apply l_box hS); exact rfl; exact rfl; exact rfl; intro g w' hS'; clear hS; have hS := hS'; clear hS') | (first | ((with_reducible apply l_no); exact rfl; exact rfl; exact rfl; exact rfl; (first | exact rfl | assumption); exact rfl) | ((with_reducible apply l_pick1); exact rfl; (first | exact rfl | assumption); exact rfl; exact rfl))) | (first | (with_reducible apply c_seq) | (with_reducible apply c_region) | (with_reducible apply l_nil) | (with_reducible apply q_then) | (with_reducible apply c_ret) | (with_reducible apply q_then_ret)) | (((with_reducible apply c_ift); exact rfl; (exact rfl))) | ((with_reducible apply l_call); exact rfl; exact rfl; exact within_fn _ _ _ _; exact rfl; rintro _ w' ⟨rfl, hS'⟩; replace hS := hS.transA hS'; simp only [appA] at hS; clear hS'))
      (apply q_ret1); (repeat (first | exact ResL.nil | (apply ResL.tmp; exact rfl)))
      exact ⟨rfl, hS.sub (List.nil_sublist _)⟩
  have hp1 : (!decide (1 ≤ S.page ∧ S.page ≤ 255)) = false := by simpa using h0.1
  by_cases h16 : S.fixes.length ≤ 16
  rotate_left
  · have hf : rightS S = false := by
      cases hr : rightS S with
      | false => rfl
      | true => have := rightS_len hr; omega
    rw [hf]
    repeat' (first | (first | ((with_reducible apply l_pure tabOk); exact rfl; exact rfl) | ((with_reducible apply l_load); exact rfl; (first | ((with_reducible apply Loads.sc tabOk); exact rfl; ((exact hS.blkC 0 rfl rfl))) | ((with_reducible apply Loads.sl tabOk); exact rfl; ((exact hS.blkC 0 rfl rfl)))); exact rfl) | ((with_reducible apply l_box hS); exact rfl; exact rfl; exact rfl; intro g w' hS'; clear hS; have hS := hS'; clear hS') | (first | ((with_reducible apply l_yes); exact rfl; exact rfl; exact rfl; exact rfl; (assumption)) | ((with_reducible apply l_partn); exact rfl; exact rfl; exact rfl; all_goals (intro hb hp; try (exfalso; omega))) | ((with_reducible apply l_pick2); exact rfl; ((assumption)); exact rfl; exact rfl))) | (first | (with_reducible apply c_seq) | (with_reducible apply c_region) | (with_reducible apply l_nil) | (with_reducible apply q_then) | (with_reducible apply c_ret) | (with_reducible apply q_then_ret)) | (((with_reducible apply c_ifd); exact rfl; all_goals (intro hb hp; try (exfalso; omega)))) | ((with_reducible apply l_call); exact rfl; exact rfl; exact within_fn _ _ _ _; exact rfl; rintro _ w' ⟨rfl, hS'⟩; replace hS := hS.transA hS'; simp only [appA] at hS; clear hS'))
    all_goals (((apply q_ret1); (repeat (first | exact ResL.nil | (apply ResL.tmp; exact rfl)))); exact ⟨rfl, hS.sub (List.nil_sublist _)⟩)
  have hr : rightS S = fxOk 0 S.fixes := by unfold rightS; rw [decide_eq_true h0]; rfl
  rw [hr]
  repeat' (first | (first | ((with_reducible apply l_pure tabOk); exact rfl; exact rfl) | ((with_reducible apply l_load); exact rfl; (first | ((with_reducible apply Loads.sc tabOk); exact rfl; ((exact hS.blkC 0 rfl rfl))) | ((with_reducible apply Loads.sl tabOk); exact rfl; ((exact hS.blkC 0 rfl rfl)))); exact rfl) | ((with_reducible apply l_box hS); exact rfl; exact rfl; exact rfl; intro g w' hS'; clear hS; have hS := hS'; clear hS') | (first | ((with_reducible apply l_yes); exact rfl; exact rfl; exact rfl; exact rfl; (assumption)) | ((with_reducible apply l_partn); exact rfl; exact rfl; exact rfl; all_goals (intro hb hp; try (exfalso; omega))) | ((with_reducible apply l_pick2); exact rfl; ((assumption)); exact rfl; exact rfl))) | (first | (with_reducible apply c_seq) | (with_reducible apply c_region) | (with_reducible apply l_nil) | (with_reducible apply q_then) | (with_reducible apply c_skip) | (with_reducible apply c_block)) | (((with_reducible apply c_ifd); exact rfl; all_goals (intro hb hp; try (exfalso; omega)))) | ((with_reducible apply l_call); exact rfl; exact rfl; exact within_fn _ _ _ _; exact rfl; rintro _ w' ⟨rfl, hS'⟩; replace hS := hS.transA hS'; simp only [appA] at hS; clear hS'))
  refine c_loopK (X := Nat × Int) (fun x => [(4, .int .i64 (x.1 : Nat)), (3, .int .i64 x.2)]) [1] rfl (fun _ => []) (fun x => (x.1 ≤ S.fixes.length ∧ 0 ≤ x.2 ∧ x.2 ≤ 16) ∧ fxOk 0 S.fixes = fxOk x.2 (S.fixes.drop x.1)) (fun x => S.fixes.length - x.1) (0, 0) (by repeat (first | exact Fr.sub_nil _ | (apply Fr.sub_cons; exact rfl))) (by simp) hS ?_
  clear hS
  rintro ⟨i, free⟩ w1 ⟨⟨hi, hf0, hf1⟩, hok⟩ hS
  dsimp only [List.cons_append, List.nil_append] at hi hf0 hf1 hok hS ⊢
  by_cases hlt : i < S.fixes.length
  · obtain ⟨x, hx⟩ := lt_get (l := S.fixes) (i := i) (by omega)
    have hrow := map_get (f := fxC) hx
    obtain ⟨b, off, rfl, hro⟩ := hu.at_ (i := i) hlt
    have hst := fxOk_step (free := free) hx
    by_cases h1 : free ≤ x.off ∧ x.off ≤ 16
    · have k1 : (!decide (free ≤ x.off ∧ x.off ≤ 16)) = false := by simpa using h1
      by_cases h2 : 1 ≤ (x.bytes.length : Int) ∧ (x.bytes.length : Int) ≤ 16 - x.off
      · have k2 : (!decide (1 ≤ (x.bytes.length : Int) ∧ (x.bytes.length : Int) ≤ 16 - x.off)) = false := by simpa using h2
        have ho : fxOne free x = true := decide_eq_true ⟨h1.1, h1.2, List.length_pos_iff.1 (by omega), h2.2⟩
        rw [ho, Bool.true_and] at hst
        repeat' (first | (first | ((with_reducible apply l_add); exact rfl; exact rfl; omega; omega; exact rfl) | ((with_reducible apply l_sub); exact rfl; exact rfl; omega; omega; exact rfl) | ((with_reducible apply l_pure tabOk); exact rfl; exact rfl) | ((with_reducible apply l_load); exact rfl; (first | ((with_reducible apply Loads.sc tabOk); exact rfl; ((exact hS.blkC 0 rfl rfl))) | ((with_reducible apply Loads.sl tabOk); exact rfl; ((exact hS.blkC 0 rfl rfl))) | ((with_reducible apply Loads.st tabOk); exact rfl; ((exact hS.roR (by assumption) (by assumption))); exact rfl)); exact rfl) | ((with_reducible apply l_ix tabOk); exact rfl; exact rfl; exact rfl; ((exact rfl)); ((omega)); exact rfl) | ((with_reducible apply l_alloc hS tabOk); exact rfl; exact rfl; exact rfl; intro g w' hS'; clear hS; have hS := hS'; clear hS') | (((with_reducible apply l_store hS tabOk (i := 0)); exact rfl; exact rfl; exact rfl; exact rfl; exact rfl; exact rfl; exact rfl; exact rfl; ((exact (rfl : _ = [_, _]))); intro w' hS'; simp only [List.set] at hS'; clear hS; have hS := hS'; clear hS')) | (first | ((with_reducible apply l_yes); exact rfl; exact rfl; exact rfl; exact rfl; (assumption)) | ((with_reducible apply l_pick2); exact rfl; ((assumption)); exact rfl; exact rfl))) | (first | (with_reducible apply c_seq) | (with_reducible apply c_region) | (with_reducible apply l_nil) | (with_reducible apply q_then) | (with_reducible apply c_skip) | (with_reducible apply c_block) | (with_reducible apply q_block)) | (first | ((with_reducible apply c_iff); exact rfl; (assumption)) | ((with_reducible apply c_ifd); exact rfl; all_goals (intro hb hp; try (exfalso; omega)))) | ((with_reducible apply l_call); exact rfl; exact rfl; exact within_fn _ _ _ _; exact rfl; rintro _ w' ⟨rfl, hS'⟩; replace hS := hS.transA hS'; simp only [appA] at hS; clear hS'))
        refine q_loopK (i + 1, fxEnd x) (by repeat (first | exact Fr.sub_nil _ | (apply Fr.sub_cons; exact rfl))) ⟨⟨by show i + 1 ≤ S.fixes.length; omega, by show 0 ≤ fxEnd x; unfold fxEnd; omega, by show fxEnd x ≤ 16; unfold fxEnd; omega⟩, by rw [hok, hst]⟩ hS.drop (by show S.fixes.length - (i + 1) < S.fixes.length - i; omega)
      · have k2 : (!decide (1 ≤ (x.bytes.length : Int) ∧ (x.bytes.length : Int) ≤ 16 - x.off)) = true := by rw [decide_eq_false h2]; rfl
        have ho : fxOne free x = false := decide_eq_false (fun h => h2 ⟨by have := List.length_pos_iff.2 h.2.2.1; omega, h.2.2.2⟩)
        rw [ho, Bool.false_and] at hst
        repeat' (first | (first | ((with_reducible apply l_sub); exact rfl; exact rfl; omega; omega; exact rfl) | ((with_reducible apply l_pure tabOk); exact rfl; exact rfl) | ((with_reducible apply l_load); exact rfl; (first | ((with_reducible apply Loads.sc tabOk); exact rfl; ((exact hS.blkC 0 rfl rfl))) | ((with_reducible apply Loads.sl tabOk); exact rfl; ((exact hS.blkC 0 rfl rfl))) | ((with_reducible apply Loads.st tabOk); exact rfl; ((exact hS.roR (by assumption) (by assumption))); exact rfl)); exact rfl) | ((with_reducible apply l_ix tabOk); exact rfl; exact rfl; exact rfl; ((exact rfl)); ((omega)); exact rfl) | ((with_reducible apply l_alloc hS tabOk); exact rfl; exact rfl; exact rfl; intro g w' hS'; clear hS; have hS := hS'; clear hS') | (((with_reducible apply l_store hS tabOk (i := 0)); exact rfl; exact rfl; exact rfl; exact rfl; exact rfl; exact rfl; exact rfl; exact rfl; ((exact (rfl : _ = [_, _]))); intro w' hS'; simp only [List.set] at hS'; clear hS; have hS := hS'; clear hS')) | (first | ((with_reducible apply l_yes); exact rfl; exact rfl; exact rfl; exact rfl; (assumption)) | ((with_reducible apply l_pick2); exact rfl; ((assumption)); exact rfl; exact rfl))) | (first | (with_reducible apply c_seq) | (with_reducible apply c_region) | (with_reducible apply l_nil) | (with_reducible apply q_then) | (with_reducible apply c_skip) | (with_reducible apply c_block) | (with_reducible apply c_ret) | (with_reducible apply q_then_ret) | (with_reducible apply q_block_ret)) | (first | ((with_reducible apply c_ift); exact rfl; (assumption)) | ((with_reducible apply c_ifd); exact rfl; all_goals (intro hb hp; try (exfalso; omega)))) | ((with_reducible apply l_call); exact rfl; exact rfl; exact within_fn _ _ _ _; exact rfl; rintro _ w' ⟨rfl, hS'⟩; replace hS := hS.transA hS'; simp only [appA] at hS; clear hS'))
        (apply q_ret1); (repeat (first | exact ResL.nil | (apply ResL.tmp; exact rfl)))
        exact ⟨by rw [hok, hst], hS.sub (List.nil_sublist _)⟩
    · have k1 : (!decide (free ≤ x.off ∧ x.off ≤ 16)) = true := by rw [decide_eq_false h1]; rfl
      have ho : fxOne free x = false := decide_eq_false (fun h => h1 ⟨h.1, h.2.1⟩)
      rw [ho, Bool.false_and] at hst
      repeat' (first | (first | ((with_reducible apply l_pure tabOk); exact rfl; exact rfl) | ((with_reducible apply l_load); exact rfl; (first | ((with_reducible apply Loads.sc tabOk); exact rfl; ((exact hS.blkC 0 rfl rfl))) | ((with_reducible apply Loads.sl tabOk); exact rfl; ((exact hS.blkC 0 rfl rfl))) | ((with_reducible apply Loads.st tabOk); exact rfl; ((exact hS.roR (by assumption) (by assumption))); exact rfl)); exact rfl) | ((with_reducible apply l_ix tabOk); exact rfl; exact rfl; exact rfl; ((exact rfl)); ((omega)); exact rfl) | ((with_reducible apply l_alloc hS tabOk); exact rfl; exact rfl; exact rfl; intro g w' hS'; clear hS; have hS := hS'; clear hS') | (((with_reducible apply l_store hS tabOk (i := 0)); exact rfl; exact rfl; exact rfl; exact rfl; exact rfl; exact rfl; exact rfl; exact rfl; ((exact (rfl : _ = [_, _]))); intro w' hS'; simp only [List.set] at hS'; clear hS; have hS := hS'; clear hS')) | (first | ((with_reducible apply l_no); exact rfl; exact rfl; exact rfl; exact rfl; ((assumption)); exact rfl) | ((with_reducible apply l_pick1); exact rfl; ((assumption)); exact rfl; exact rfl))) | (first | (with_reducible apply c_seq) | (with_reducible apply c_region) | (with_reducible apply l_nil) | (with_reducible apply q_then) | (with_reducible apply c_skip) | (with_reducible apply c_block) | (with_reducible apply c_ret) | (with_reducible apply q_then_ret) | (with_reducible apply q_block_ret)) | (first | ((with_reducible apply c_ift); exact rfl; (exact rfl)) | ((with_reducible apply c_ifd); exact rfl; all_goals (intro hb hp; try (exfalso; omega)))) | ((with_reducible apply l_call); exact rfl; exact rfl; exact within_fn _ _ _ _; exact rfl; rintro _ w' ⟨rfl, hS'⟩; replace hS := hS.transA hS'; simp only [appA] at hS; clear hS'))
      (apply q_ret1); (repeat (first | exact ResL.nil | (apply ResL.tmp; exact rfl)))
      exact ⟨by rw [hok, hst], hS.sub (List.nil_sublist _)⟩
  · repeat' (first | (first | ((with_reducible apply l_pure tabOk); exact rfl; exact rfl) | ((with_reducible apply l_load); exact rfl; (((with_reducible apply Loads.sl tabOk); exact rfl; ((exact hS.blkC 0 rfl rfl)))); exact rfl)) | (first | (with_reducible apply c_seq) | (with_reducible apply c_region) | (with_reducible apply l_nil) | (with_reducible apply q_then) | (with_reducible apply c_exit) | (with_reducible apply c_ret) | (with_reducible apply q_then_exit) | (with_reducible apply q_block_exit)) | (((with_reducible apply c_ifd); exact rfl; all_goals (intro hb hp; try (exfalso; omega)))))
    (apply q_ret1); (repeat (first | exact ResL.nil | (apply ResL.tmp; exact rfl)))
    exact ⟨by rw [hok, List.drop_of_length_le (by omega)]; rfl, hS.sub (List.nil_sublist _)⟩
/-! filling -/
theorem fill_step {l : List Fx} {i : Nat} {f : Fx} {d : List UInt8} (h : l[i]? = some f) : fillF d (l.take (i + 1)) = splice (fillF d (l.take i)) f.off.toNat f.bytes := by
  unfold fillF
  rw [List.take_add_one, h]
  simp [List.foldl_append]
theorem fxOk_at {l : List Fx} : ∀ {free : Int}, fxOk free l = true → 0 ≤ free → ∀ {i : Nat} {f : Fx}, l[i]? = some f → (0 ≤ f.off ∧ f.off ≤ 16) ∧ (f.bytes.length : Int) ≤ 16 - f.off := by
  induction l with
  | nil => intro free _ _ i f h; simp at h
  | cons g r ih =>
    intro free h h0 i f hf
    simp only [fxOk, fxOne, Bool.and_eq_true, decide_eq_true_eq] at h
    obtain ⟨⟨h1, h2, h3, h4⟩, h5⟩ := h
    cases i with
    | zero => simp at hf; subst hf; exact ⟨⟨by omega, h2⟩, h4⟩
    | succ i => exact ih h5 (by unfold fxEnd; omega) (by simpa using hf)
theorem fillT_len {l : List Fx} {d : List UInt8} {free : Int} (h : fxOk free l = true) (h0 : 0 ≤ free) (hd : d.length = 16) : ∀ i, i ≤ l.length → (fillF d (l.take i)).length = 16 := by
  intro i
  induction i with
  | zero => intro _; simpa [fillF] using hd
  | succ i ih =>
    intro hi
    have hx : l[i]? = some l[i] := List.getElem?_eq_getElem (by omega)
    have := ih (by omega)
    obtain ⟨⟨h1, h2⟩, h3⟩ := fxOk_at h h0 hx
    rw [fill_step hx, splice_len (by omega)]
    exact this
theorem right_parts {S : Sh} (h : rightS S = true) : S.data.length = 16 ∧ fxOk 0 S.fixes = true := by
  unfold rightS at h
  simp only [Bool.and_eq_true, decide_eq_true_eq] at h
  exact ⟨h.1.2, h.2⟩
theorem fill_all {S : Sh} {i : Nat} (hi : S.fixes.length ≤ i) : fillF S.data (S.fixes.take i) = fillS S := by rw [List.take_of_length_le hi]; rfl
set_option maxRecDepth 100000 in
set_option maxHeartbeats 4000000 in
theorem Fill_fn {S : Sh} {w : World} {u : Value} (hu : ShV w S u) : Fn Try.prog 18 [shA S u] w (RBf (.tuple #[.string ⟨(if rightS S = true then fillS S else []).toArray⟩, .int .i64 (if rightS S = true then 0 else 1)]) w) := by
  have hr := fun w (h : ShV w S u) => right_fn h
  by_cases hR : rightS S = true
  rotate_left
  · rw [if_neg hR, if_neg hR]
    rw [show rightS S = false by simpa using hR] at hr
    refine fn_enter (fn := Try.f18) ⟨Try.func18, by kernel_rfl, by kernel_rfl⟩ (by exact rfl) Try.ntmps18 (by exact rfl) ?_
    have hS := St.start w
    unfold shA shC
    repeat' (first | (first | ((with_reducible apply l_pure tabOk); exact rfl; exact rfl) | ((with_reducible apply l_load); exact rfl; (((with_reducible apply Loads.st tabOk); exact rfl; ((exact hS.blkR 0 rfl)); exact rfl)); exact rfl) | ((with_reducible apply l_box hS); exact rfl; exact rfl; exact rfl; intro g w' hS'; clear hS; have hS := hS'; clear hS')) | (first | (with_reducible apply c_seq) | (with_reducible apply c_region) | (with_reducible apply l_nil) | (with_reducible apply q_then) | (with_reducible apply c_ret) | (with_reducible apply q_then_ret)) | (((with_reducible apply c_ift); exact rfl; (exact rfl))) | ((with_reducible apply l_call); exact rfl; exact rfl; exact hr _ (hu.now hS); exact rfl; rintro _ w' ⟨rfl, hS'⟩; replace hS := hS.transA hS'; simp only [appA] at hS; clear hS'))
    (apply q_ret2); (repeat (first | exact ResL.nil | (apply ResL.tmp; exact rfl)))
    exact ⟨rfl, hS.sub (List.nil_sublist _)⟩
  rw [if_pos hR, if_pos hR]
  rw [hR] at hr
  obtain ⟨hd, hok⟩ := right_parts hR
  have bnd := hu.bound
  obtain ⟨p, c, rfl⟩ := hu.len
  refine fn_enter (fn := Try.f18) ⟨Try.func18, by kernel_rfl, by kernel_rfl⟩ (by exact rfl) Try.ntmps18 (by exact rfl) ?_
  have hS := St.start w
  unfold shA shC
  repeat' (first | (first | ((with_reducible apply l_pure tabOk); exact rfl; exact rfl) | ((with_reducible apply l_load); exact rfl; (first | ((with_reducible apply Loads.sc tabOk); exact rfl; ((exact hS.blkC 0 rfl rfl))) | ((with_reducible apply Loads.sl tabOk); exact rfl; ((exact hS.blkC 0 rfl rfl))) | ((with_reducible apply Loads.st tabOk); exact rfl; ((exact hS.blkR 0 rfl)); exact rfl)); exact rfl) | ((with_reducible apply l_box hS); exact rfl; exact rfl; exact rfl; intro g w' hS'; clear hS; have hS := hS'; clear hS')) | (first | (with_reducible apply c_seq) | (with_reducible apply c_region) | (with_reducible apply l_nil) | (with_reducible apply q_then) | (with_reducible apply c_skip) | (with_reducible apply c_block)) | (((with_reducible apply c_iff); exact rfl; (exact rfl))) | ((with_reducible apply l_call); exact rfl; exact rfl; exact hr _ (hu.now hS); exact rfl; rintro _ w' ⟨rfl, hS'⟩; replace hS := hS.transA hS'; simp only [appA] at hS; clear hS'))
  refine c_loopK (X := Nat) (fun x => [(15, .int .i64 (x : Nat)), (4, .string ⟨(fillF S.data (S.fixes.take x)).toArray⟩)]) [1, 13, 14] rfl (fun _ => []) (fun x => x ≤ S.fixes.length) (fun x => S.fixes.length - x) 0 (by repeat (first | exact Fr.sub_nil _ | (apply Fr.sub_cons; exact rfl))) (by simp) hS ?_
  clear hS
  intro i w1 hi hS
  dsimp only [List.cons_append, List.nil_append] at hi hS ⊢
  have hlen := fillT_len hok (by omega) hd i hi
  by_cases hlt : i < S.fixes.length
  · obtain ⟨x, hx⟩ := lt_get (l := S.fixes) (i := i) (by omega)
    have hrow := map_get (f := fxC) hx
    obtain ⟨b, off, rfl, hro⟩ := hu.at_ (i := i) hlt
    obtain ⟨⟨h1, h2⟩, h3⟩ := fxOk_at hok (by omega) hx
    have hst := fill_step (d := S.data) hx
    generalize fillF S.data (S.fixes.take i) = d at hlen hst ⊢
    have hlay := fun w => Lay_fn d x.bytes x.off w (by unfold maxLen; omega)
    have hin : inB x.off x.bytes.length d.length = true := by unfold inB; rw [decide_eq_true_eq]; omega
    simp only [hin, if_true] at hlay
    repeat' (first | (first | ((with_reducible apply l_add); exact rfl; exact rfl; omega; omega; exact rfl) | ((with_reducible apply l_pure tabOk); exact rfl; exact rfl) | ((with_reducible apply l_load); exact rfl; (first | ((with_reducible apply Loads.sc tabOk); exact rfl; ((exact hS.blkC 0 rfl rfl))) | ((with_reducible apply Loads.st tabOk); exact rfl; ((exact hS.roR (by assumption) (by assumption))); exact rfl)); exact rfl) | ((with_reducible apply l_ix tabOk); exact rfl; exact rfl; exact rfl; ((exact rfl)); ((omega)); exact rfl) | ((with_reducible apply l_alloc hS tabOk); exact rfl; exact rfl; exact rfl; intro g w' hS'; clear hS; have hS := hS'; clear hS') | (((with_reducible apply l_store hS tabOk (i := 0)); exact rfl; exact rfl; exact rfl; exact rfl; exact rfl; exact rfl; exact rfl; exact rfl; ((exact (rfl : _ = [_, _]))); intro w' hS'; simp only [List.set] at hS'; clear hS; have hS := hS'; clear hS'))) | (first | (with_reducible apply c_seq) | (with_reducible apply c_region) | (with_reducible apply l_nil) | (with_reducible apply q_then) | (with_reducible apply c_skip) | (with_reducible apply c_block) | (with_reducible apply q_block)) | (((with_reducible apply c_ifd); exact rfl; all_goals (intro hb hp; try (exfalso; omega)))) | ((with_reducible apply l_call); exact rfl; exact rfl; exact hlay _; exact rfl; rintro _ w' ⟨rfl, hS'⟩; replace hS := hS.transA hS'; simp only [appA] at hS; clear hS'))
    exact q_loopK (i + 1) (by rw [hst]; repeat (first | exact Fr.sub_nil _ | (apply Fr.sub_cons; exact rfl))) (by show i + 1 ≤ S.fixes.length; omega) hS.drop (by show S.fixes.length - (i + 1) < S.fixes.length - i; omega)
  · repeat' (first | (((with_reducible apply l_pure tabOk); exact rfl; exact rfl)) | (first | (with_reducible apply c_seq) | (with_reducible apply c_region) | (with_reducible apply l_nil) | (with_reducible apply q_then) | (with_reducible apply c_exit) | (with_reducible apply c_ret) | (with_reducible apply q_then_exit) | (with_reducible apply q_block_exit)) | (((with_reducible apply c_ifd); exact rfl; all_goals (intro hb hp; try (exfalso; omega)))))
    (apply q_ret2); (repeat (first | exact ResL.nil | (apply ResL.tmp; exact rfl)))
    exact ⟨by rw [fill_all (by omega)], hS.sub (List.nil_sublist _)⟩
set_option maxRecDepth 100000 in
set_option maxHeartbeats 4000000 in
theorem Filled_fn {S : Sh} {w : World} {u : Value} (hu : ShV w S u) (hR : rightS S = true) : Fn Try.prog 20 [shA S u] w (RBf (.string ⟨(fillS S).toArray⟩) w) := by
  obtain ⟨hd, hok⟩ := right_parts hR
  have bnd := hu.bound
  obtain ⟨p, c, rfl⟩ := hu.len
  refine fn_enter (fn := Try.f20) ⟨Try.func20, by kernel_rfl, by kernel_rfl⟩ (by exact rfl) Try.ntmps20 (by exact rfl) ?_
  have hS := St.start w
  unfold shA shC
  repeat' (first | (first | ((with_reducible apply l_pure tabOk); exact rfl; exact rfl) | ((with_reducible apply l_load); exact rfl; (((with_reducible apply Loads.sc tabOk); exact rfl; ((exact hS.blkC 0 rfl rfl)))); exact rfl) | ((with_reducible apply l_box hS); exact rfl; exact rfl; exact rfl; intro g w' hS'; clear hS; have hS := hS'; clear hS')) | (first | (with_reducible apply c_seq) | (with_reducible apply c_region) | (with_reducible apply l_nil) | (with_reducible apply q_then) | (with_reducible apply c_block)))
  refine c_loopK (X := Nat) (fun x => [(4, .int .i64 (x : Nat)), (3, .string ⟨(fillF S.data (S.fixes.take x)).toArray⟩)]) [1] rfl (fun _ => []) (fun x => x ≤ S.fixes.length) (fun x => S.fixes.length - x) 0 (by repeat (first | exact Fr.sub_nil _ | (apply Fr.sub_cons; exact rfl))) (by simp) hS ?_
  clear hS
  intro i w1 hi hS
  dsimp only [List.cons_append, List.nil_append] at hi hS ⊢
  have hlen := fillT_len hok (by omega) hd i hi
  by_cases hlt : i < S.fixes.length
  · obtain ⟨x, hx⟩ := lt_get (l := S.fixes) (i := i) (by omega)
    have hrow := map_get (f := fxC) hx
    obtain ⟨b, off, rfl, hro⟩ := hu.at_ (i := i) hlt
    obtain ⟨⟨h1, h2⟩, h3⟩ := fxOk_at hok (by omega) hx
    have hst := fill_step (d := S.data) hx
    generalize fillF S.data (S.fixes.take i) = d at hlen hst ⊢
    have hover : ∀ w, Fn Try.prog 61 [.string ⟨d.toArray⟩, .int .i64 x.off, .string ⟨x.bytes.toArray⟩] w (RBf (.string ⟨(splice d x.off.toNat x.bytes).toArray⟩) w) := fun w => by
      have := Over_fn d x.bytes x.off.toNat w (by unfold maxLen; omega) (by omega)
      rwa [Int.toNat_of_nonneg h1] at this
    repeat' (first | (first | ((with_reducible apply l_pure tabOk); exact rfl; exact rfl) | ((with_reducible apply l_load); exact rfl; (((with_reducible apply Loads.sl tabOk); exact rfl; ((exact hS.blkC 0 rfl rfl)))); exact rfl)) | (first | (with_reducible apply c_seq) | (with_reducible apply c_region) | (with_reducible apply l_nil) | (with_reducible apply q_then) | (with_reducible apply c_skip) | (with_reducible apply c_block)) | (((with_reducible apply c_ifd); exact rfl; all_goals (intro hb hp; try (exfalso; omega)))))
    (focus ((with_reducible apply c_drawAll _ _ _ (by kernel_rfl) (by kernel_rfl) hS); (repeat' (first | (first | ((with_reducible apply d_pure tabOk); exact rfl; exact rfl) | ((with_reducible apply d_load); exact rfl; (intro wd hd; replace hd : St _ _ wd _ := hd; (first | ((with_reducible apply Loads.sc tabOk); exact rfl; (first | exact hd.roC0 (by assumption) (by assumption) rfl | exact hd.roC (by assumption) (by assumption) rfl)) | ((with_reducible apply Loads.sl tabOk); exact rfl; ((exact hd.blkC 0 rfl rfl))))); exact rfl) | ((with_reducible apply d_ix tabOk); exact rfl; exact rfl; exact rfl; ((exact rfl)); ((omega)); exact rfl)) | ((with_reducible apply d_call); exact rfl; exact rfl; (intro wd hd; replace hd : St _ _ wd _ := hd; exact hover _); exact rfl))); all_goals ((with_reducible apply d_nil); intro w' hS'; clear hS; have hS := hS'; clear hS')))
    repeat' (first | (first | ((with_reducible apply l_add); exact rfl; exact rfl; omega; omega; exact rfl) | ((with_reducible apply l_pure tabOk); exact rfl; exact rfl)) | (first | (with_reducible apply c_region) | (with_reducible apply l_nil) | (with_reducible apply q_then) | (with_reducible apply q_block)))
    exact q_loopK (i + 1) (by rw [hst]; repeat (first | exact Fr.sub_nil _ | (apply Fr.sub_cons; exact rfl))) (by show i + 1 ≤ S.fixes.length; omega) hS (by show S.fixes.length - (i + 1) < S.fixes.length - i; omega)
  · repeat' (first | (first | ((with_reducible apply l_pure tabOk); exact rfl; exact rfl) | ((with_reducible apply l_load); exact rfl; (((with_reducible apply Loads.sl tabOk); exact rfl; ((exact hS.blkC 0 rfl rfl)))); exact rfl)) | (first | (with_reducible apply c_seq) | (with_reducible apply c_region) | (with_reducible apply l_nil) | (with_reducible apply q_then) | (with_reducible apply c_exit) | (with_reducible apply c_ret) | (with_reducible apply q_then_exit) | (with_reducible apply q_block_exit)) | (((with_reducible apply c_ifd); exact rfl; all_goals (intro hb hp; try (exfalso; omega)))))
    (apply q_ret1); (repeat (first | exact ResL.nil | (apply ResL.tmp; exact rfl)))
    exact ⟨by rw [fill_all (by omega)], hS.sub (List.nil_sublist _)⟩
end Go.Proofs.Ytejnpppejalhfab
/- link.Check and the reference's. -/
namespace Go.Proofs.Ytejnpppejalhfab
open Go.RowKit Go.Sort
set_option maxRecDepth 100000 in
set_option maxHeartbeats 8000000 in
theorem LkCheck_fn {A : List Ar} {Lp : List (Sh × Value)} {w : World} {va vs : Value} {en : Int} (hA : Sl nF w 4 va (A.map arC)) (hL : ShsV w Lp vs) (hen : -9223372036854775808 ≤ en) (hen2 : en ≤ 9223372036854775807) : Fn Try.prog 21 [lkA va vs en] w (RBf (.int .i64 (checkLk A (shs Lp) en)) w) := by
  have bnd := hL.sl.bound
  have hsl := hL.sl
  obtain ⟨p, c, rfl⟩ := hL.sl.len
  unfold lkA
  by_cases hc : checkI A = 0
  rotate_left
  · have hr : checkLk A (shs Lp) en = checkI A := if_neg hc
    have hc' : (!decide (checkI A = 0)) = true := by rw [decide_eq_false hc]; rfl
    rw [hr]
    refine fn_enter (fn := Try.f21) ⟨Try.func21, by kernel_rfl, by kernel_rfl⟩ (by exact rfl) Try.ntmps21 (by exact rfl) ?_
    have hS := St.start w
    repeat' (first | (first | ((with_reducible apply l_pure tabOk); exact rfl; exact rfl) | ((with_reducible apply l_load); exact rfl; (((with_reducible apply Loads.sl tabOk); exact rfl; ((exact hS.blkC 0 rfl rfl)))); exact rfl) | ((with_reducible apply l_box hS); exact rfl; exact rfl; exact rfl; intro g w' hS'; clear hS; have hS := hS'; clear hS')) | (first | (with_reducible apply c_seq) | (with_reducible apply c_region) | (with_reducible apply l_nil) | (with_reducible apply q_then) | (with_reducible apply c_ret) | (with_reducible apply q_then_ret)) | (((with_reducible apply c_ift); exact rfl; (assumption))) | ((with_reducible apply l_call); exact rfl; exact rfl; exact check_fn (hA.now hS); exact rfl; rintro _ w' ⟨rfl, hS'⟩; replace hS := hS.transA hS'; simp only [appA] at hS; clear hS'))
    (apply q_ret1); (repeat (first | exact ResL.nil | (apply ResL.tmp; exact rfl)))
    exact ⟨rfl, hS.sub (List.nil_sublist _)⟩
  have hck := fun w (h : Sl nF w 4 va (A.map arC)) => check_fn h
  have htot := fun w (h : Sl nF w 4 va (A.map arC)) => Total_fn h
  have hfnd := fun w page (h : Sl nF w 4 va (A.map arC)) => Find_fn page h
  have hfi : ∀ page, findI A page = findA A page := fun page => if_pos hc
  simp only [hc, if_true, hfi] at hck htot hfnd
  have hr : checkLk A (shs Lp) en = if lkB A (shs Lp) en = true then 0 else 1 := if_pos hc
  rw [hr]
  unfold lkB
  rw [shs_len]
  by_cases hn : (Lp.length : Int) = sumN A
  rotate_left
  · have hn' : (!decide ((Lp.length : Int) = sumN A)) = true := by rw [decide_eq_false hn]; rfl
    rw [if_neg (by rw [decide_eq_false hn]; simp)]
    refine fn_enter (fn := Try.f21) ⟨Try.func21, by kernel_rfl, by kernel_rfl⟩ (by exact rfl) Try.ntmps21 (by exact rfl) ?_
    have hS := St.start w
    repeat' (first | (first | ((with_reducible apply l_pure tabOk); exact rfl; exact rfl) | ((with_reducible apply l_load); exact rfl; (((with_reducible apply Loads.sl tabOk); exact rfl; ((exact hS.blkC 0 rfl rfl)))); exact rfl) | ((with_reducible apply l_box hS); exact rfl; exact rfl; exact rfl; intro g w' hS'; clear hS; have hS := hS'; clear hS')) | (first | (with_reducible apply c_seq) | (with_reducible apply c_region) | (with_reducible apply l_nil) | (with_reducible apply q_then) | (with_reducible apply c_skip)) | (((with_reducible apply c_iff); exact rfl; (exact rfl))) | ((with_reducible apply l_call); exact rfl; exact rfl; exact hck _ (hA.now hS); exact rfl; rintro _ w' ⟨rfl, hS'⟩; replace hS := hS.transA hS'; simp only [appA] at hS; clear hS'))
    (focus ((with_reducible apply c_drawAll nF _ _ (by kernel_rfl) (by kernel_rfl) hS); (repeat' (first | (first | ((with_reducible apply d_pure tabOk); exact rfl; exact rfl) | ((with_reducible apply d_load); exact rfl; (intro wd hd; replace hd : St _ _ wd _ := hd; (((with_reducible apply Loads.sl tabOk); exact rfl; ((exact hd.blkC 0 rfl rfl))))); exact rfl)) | ((with_reducible apply d_call); exact rfl; exact rfl; (intro wd hd; replace hd : St _ _ wd _ := hd; exact htot _ (hA.now hd)); exact rfl))); all_goals ((with_reducible apply d_nil); intro w' hS'; clear hS; have hS := hS'; clear hS')))
    repeat' (first | (((with_reducible apply l_pure tabOk); exact rfl; exact rfl)) | (first | (with_reducible apply c_seq) | (with_reducible apply c_region) | (with_reducible apply l_nil) | (with_reducible apply q_then) | (with_reducible apply c_ret) | (with_reducible apply q_then_ret)) | (((with_reducible apply c_ift); exact rfl; (assumption))))
    (apply q_ret1); (repeat (first | exact ResL.nil | (apply ResL.tmp; exact rfl)))
    exact ⟨rfl, hS.sub (List.nil_sublist _)⟩
  have hn' : (!decide ((Lp.length : Int) = sumN A)) = false := by rw [decide_eq_true hn]; rfl
  rw [decide_eq_true hn, Bool.true_and]
  refine fn_enter (fn := Try.f21) ⟨Try.func21, by kernel_rfl, by kernel_rfl⟩ (by exact rfl) Try.ntmps21 (by exact rfl) ?_
  have hS := St.start w
  repeat' (first | (first | ((with_reducible apply l_pure tabOk); exact rfl; exact rfl) | ((with_reducible apply l_load); exact rfl; (((with_reducible apply Loads.sl tabOk); exact rfl; ((exact hS.blkC 0 rfl rfl)))); exact rfl) | ((with_reducible apply l_box hS); exact rfl; exact rfl; exact rfl; intro g w' hS'; clear hS; have hS := hS'; clear hS')) | (first | (with_reducible apply c_seq) | (with_reducible apply c_region) | (with_reducible apply l_nil) | (with_reducible apply q_then) | (with_reducible apply c_skip)) | (((with_reducible apply c_iff); exact rfl; (exact rfl))) | ((with_reducible apply l_call); exact rfl; exact rfl; exact hck _ (hA.now hS); exact rfl; rintro _ w' ⟨rfl, hS'⟩; replace hS := hS.transA hS'; simp only [appA] at hS; clear hS'))
  (focus ((with_reducible apply c_drawAll nF _ _ (by kernel_rfl) (by kernel_rfl) hS); (repeat' (first | (first | ((with_reducible apply d_pure tabOk); exact rfl; exact rfl) | ((with_reducible apply d_load); exact rfl; (intro wd hd; replace hd : St _ _ wd _ := hd; (((with_reducible apply Loads.sl tabOk); exact rfl; ((exact hd.blkC 0 rfl rfl))))); exact rfl)) | ((with_reducible apply d_call); exact rfl; exact rfl; (intro wd hd; replace hd : St _ _ wd _ := hd; exact htot _ (hA.now hd)); exact rfl))); all_goals ((with_reducible apply d_nil); intro w' hS'; clear hS; have hS := hS'; clear hS')))
  repeat' (first | (first | ((with_reducible apply l_pure tabOk); exact rfl; exact rfl) | ((with_reducible apply l_load); exact rfl; (((with_reducible apply Loads.sl tabOk); exact rfl; ((exact hS.blkC 0 rfl rfl)))); exact rfl)) | (first | (with_reducible apply c_seq) | (with_reducible apply c_region) | (with_reducible apply l_nil) | (with_reducible apply q_then) | (with_reducible apply c_skip) | (with_reducible apply c_block)) | (((with_reducible apply c_iff); exact rfl; (assumption))))
  refine c_loopK (X := Nat × Int) (fun x => [(27, .int .i64 (x.1 : Nat)), (4, .int .i64 x.2)]) [1, 25, 26] rfl (fun _ => []) (fun x => x.1 ≤ Lp.length ∧ shsB A 0 (shs Lp) = shsB A x.2 ((shs Lp).drop x.1)) (fun x => Lp.length - x.1) (0, 0) (by repeat (first | exact Fr.sub_nil _ | (apply Fr.sub_cons; exact rfl))) (by simp) hS ?_
  clear hS
  rintro ⟨i, last⟩ w1 ⟨hi, hok⟩ hS
  dsimp only [List.cons_append, List.nil_append] at hi hok hS ⊢
  by_cases hlt : i < Lp.length
  · obtain ⟨x, hx⟩ := lt_get (l := Lp) (i := i) (by omega)
    have hrow := map_get (f := fun p => shC p.1 p.2) hx
    obtain ⟨b, off, rfl, hro⟩ := hsl.at_ (i := i) hlt
    have hst := shsB_step (A := A) (last := last) (shs_at hx)
    have hfx := hL.fx x (List.mem_of_getElem? hx)
    have hfi2 := fun w h => hfnd w x.1.page h
    obtain ⟨S, u⟩ := x
    dsimp only [shC] at hrow hst hfx hfi2
    obtain ⟨pu, cu, rfl⟩ := hfx.len
    have hrt := fun w (h : ShV w S (.slice pu S.fixes.length cu)) => right_fn h
    rw [hst] at hok
    cases hf : findA A S.page with
    | none =>
      simp only [hf] at hfi2
      have ha : arOk A S.page = false := by unfold arOk; rw [hf]
      rw [ha, Bool.false_and] at hok
      repeat' (first | (first | ((with_reducible apply l_pure tabOk); exact rfl; exact rfl) | ((with_reducible apply l_load); exact rfl; (first | ((with_reducible apply Loads.sc tabOk); exact rfl; ((exact hS.blkC 0 rfl rfl))) | ((with_reducible apply Loads.sl tabOk); exact rfl; ((exact hS.blkC 1 rfl rfl))) | ((with_reducible apply Loads.st tabOk); exact rfl; ((exact hS.roR (by assumption) (by assumption))); exact rfl)); exact rfl) | ((with_reducible apply l_ix tabOk); exact rfl; exact rfl; exact rfl; ((exact rfl)); ((omega)); exact rfl) | ((with_reducible apply l_alloc hS tabOk); exact rfl; exact rfl; exact rfl; intro g w' hS'; clear hS; have hS := hS'; clear hS') | (((with_reducible apply l_store hS tabOk (i := 0)); exact rfl; exact rfl; exact rfl; exact rfl; exact rfl; exact rfl; exact rfl; exact rfl; (first | exact (rfl : _ = [_, _, _]) | exact (rfl : _ = [_, _, _, _])); intro w' hS'; simp only [List.set] at hS'; clear hS; have hS := hS'; clear hS')) | (first | ((with_reducible apply l_no); exact rfl; exact rfl; exact rfl; exact rfl; ((exact rfl)); exact rfl) | ((with_reducible apply l_pick1); exact rfl; ((exact rfl)); exact rfl; exact rfl))) | (first | (with_reducible apply c_seq) | (with_reducible apply c_region) | (with_reducible apply l_nil) | (with_reducible apply q_then) | (with_reducible apply c_skip) | (with_reducible apply c_block) | (with_reducible apply c_ret) | (with_reducible apply q_then_ret) | (with_reducible apply q_block_ret)) | (first | ((with_reducible apply c_ift); exact rfl; (exact rfl)) | ((with_reducible apply c_ifd); exact rfl; all_goals (intro hb hp; try (exfalso; omega)))) | ((with_reducible apply l_call); exact rfl; exact rfl; exact hfi2 _ (hA.now hS); exact rfl; rintro _ w' ⟨rfl, hS'⟩; replace hS := hS.transA hS'; simp only [appA] at hS; clear hS'))
      (apply q_ret1); (repeat (first | exact ResL.nil | (apply ResL.tmp; exact rfl)))
      exact ⟨by rw [hok]; rfl, hS.sub (List.nil_sublist _)⟩
    | some a =>
      simp only [hf] at hfi2
      obtain ⟨pg, n, prot, z⟩ := a
      cases z with
      | true =>
        have ha : arOk A S.page = false := by unfold arOk; rw [hf]; rfl
        rw [ha, Bool.false_and] at hok
        repeat' (first | (first | ((with_reducible apply l_pure tabOk); exact rfl; exact rfl) | ((with_reducible apply l_load); exact rfl; (first | ((with_reducible apply Loads.sc tabOk); exact rfl; ((exact hS.blkC 0 rfl rfl))) | ((with_reducible apply Loads.sl tabOk); exact rfl; ((exact hS.blkC 1 rfl rfl))) | ((with_reducible apply Loads.st tabOk); exact rfl; ((exact hS.roR (by assumption) (by assumption))); exact rfl)); exact rfl) | ((with_reducible apply l_ix tabOk); exact rfl; exact rfl; exact rfl; ((exact rfl)); ((omega)); exact rfl) | ((with_reducible apply l_alloc hS tabOk); exact rfl; exact rfl; exact rfl; intro g w' hS'; clear hS; have hS := hS'; clear hS') | (((with_reducible apply l_store hS tabOk (i := 0)); exact rfl; exact rfl; exact rfl; exact rfl; exact rfl; exact rfl; exact rfl; exact rfl; (first | exact (rfl : _ = [_, _, _]) | exact (rfl : _ = [_, _, _, _])); intro w' hS'; simp only [List.set] at hS'; clear hS; have hS := hS'; clear hS')) | (first | ((with_reducible apply l_yes); exact rfl; exact rfl; exact rfl; exact rfl; (exact rfl)) | ((with_reducible apply l_no); exact rfl; exact rfl; exact rfl; exact rfl; ((exact rfl)); exact rfl) | ((with_reducible apply l_pick1); exact rfl; ((exact rfl)); exact rfl; exact rfl) | ((with_reducible apply l_pick2); exact rfl; ((exact rfl)); exact rfl; exact rfl))) | (first | (with_reducible apply c_seq) | (with_reducible apply c_region) | (with_reducible apply l_nil) | (with_reducible apply q_then) | (with_reducible apply c_skip) | (with_reducible apply c_block) | (with_reducible apply c_ret) | (with_reducible apply q_then_ret) | (with_reducible apply q_block_ret)) | (first | ((with_reducible apply c_ift); exact rfl; (exact rfl)) | ((with_reducible apply c_ifd); exact rfl; all_goals (intro hb hp; try (exfalso; omega)))) | ((with_reducible apply l_call); exact rfl; exact rfl; exact hfi2 _ (hA.now hS); exact rfl; rintro _ w' ⟨rfl, hS'⟩; replace hS := hS.transA hS'; simp only [appA] at hS; clear hS'))
        (apply q_ret1); (repeat (first | exact ResL.nil | (apply ResL.tmp; exact rfl)))
        exact ⟨by rw [hok]; rfl, hS.sub (List.nil_sublist _)⟩
      | false =>
        have ha : arOk A S.page = true := by unfold arOk; rw [hf]; rfl
        rw [ha, Bool.true_and] at hok
        cases hR : rightS S with
        | false =>
          simp only [hR] at hrt
          rw [hR, Bool.false_and] at hok
          repeat' (first | (first | ((with_reducible apply l_pure tabOk); exact rfl; exact rfl) | ((with_reducible apply l_load); exact rfl; (first | ((with_reducible apply Loads.sc tabOk); exact rfl; ((exact hS.blkC 0 rfl rfl))) | ((with_reducible apply Loads.sl tabOk); exact rfl; ((exact hS.blkC 1 rfl rfl))) | ((with_reducible apply Loads.st tabOk); exact rfl; (first | exact hS.blkR 1 rfl | exact hS.roR (by assumption) (by assumption)); exact rfl)); exact rfl) | ((with_reducible apply l_ix tabOk); exact rfl; exact rfl; exact rfl; ((exact rfl)); ((omega)); exact rfl) | ((with_reducible apply l_alloc hS tabOk); exact rfl; exact rfl; exact rfl; intro g w' hS'; clear hS; have hS := hS'; clear hS') | (((with_reducible apply l_store hS tabOk (i := 0)); exact rfl; exact rfl; exact rfl; exact rfl; exact rfl; exact rfl; exact rfl; exact rfl; (first | exact (rfl : _ = [_, _, _]) | exact (rfl : _ = [_, _, _, _])); intro w' hS'; simp only [List.set] at hS'; clear hS; have hS := hS'; clear hS')) | (first | ((with_reducible apply l_yes); exact rfl; exact rfl; exact rfl; exact rfl; (exact rfl)) | ((with_reducible apply l_no); exact rfl; exact rfl; exact rfl; exact rfl; ((exact rfl)); exact rfl) | ((with_reducible apply l_pick1); exact rfl; ((exact rfl)); exact rfl; exact rfl) | ((with_reducible apply l_pick2); exact rfl; ((exact rfl)); exact rfl; exact rfl))) | (first | (with_reducible apply c_seq) | (with_reducible apply c_region) | (with_reducible apply l_nil) | (with_reducible apply q_then) | (with_reducible apply c_skip) | (with_reducible apply c_block) | (with_reducible apply c_ret) | (with_reducible apply q_then_ret) | (with_reducible apply q_block_ret)) | (first | ((with_reducible apply c_ift); exact rfl; (exact rfl)) | ((with_reducible apply c_ifd); exact rfl; all_goals (intro hb hp; try (exfalso; omega)))) | ((with_reducible apply l_call); exact rfl; exact rfl; exact hfi2 _ (hA.now hS); exact rfl; rintro _ w' ⟨rfl, hS'⟩; replace hS := hS.transA hS'; simp only [appA] at hS; clear hS') | ((with_reducible apply l_call); exact rfl; exact rfl; exact hrt _ (hfx.now hS); exact rfl; rintro _ w' ⟨rfl, hS'⟩; replace hS := hS.transA hS'; simp only [appA] at hS; clear hS'))
          (apply q_ret1); (repeat (first | exact ResL.nil | (apply ResL.tmp; exact rfl)))
          exact ⟨by rw [hok]; rfl, hS.sub (List.nil_sublist _)⟩
        | true =>
          simp only [hR] at hrt
          rw [hR, Bool.true_and] at hok
          by_cases hlp : last < S.page
          · rw [decide_eq_true hlp, Bool.true_and] at hok
            repeat' (first | (first | ((with_reducible apply l_add); exact rfl; exact rfl; omega; omega; exact rfl) | ((with_reducible apply l_pure tabOk); exact rfl; exact rfl) | ((with_reducible apply l_load); exact rfl; (first | ((with_reducible apply Loads.sc tabOk); exact rfl; (first | exact hS.blkC 0 rfl rfl | exact hS.blkC 1 rfl rfl)) | ((with_reducible apply Loads.sl tabOk); exact rfl; ((exact hS.blkC 1 rfl rfl))) | ((with_reducible apply Loads.st tabOk); exact rfl; (first | exact hS.blkR 1 rfl | exact hS.roR (by assumption) (by assumption)); exact rfl)); exact rfl) | ((with_reducible apply l_ix tabOk); exact rfl; exact rfl; exact rfl; ((exact rfl)); ((omega)); exact rfl) | ((with_reducible apply l_alloc hS tabOk); exact rfl; exact rfl; exact rfl; intro g w' hS'; clear hS; have hS := hS'; clear hS') | (((with_reducible apply l_store hS tabOk (i := 0)); exact rfl; exact rfl; exact rfl; exact rfl; exact rfl; exact rfl; exact rfl; exact rfl; (first | exact (rfl : _ = [_, _, _]) | exact (rfl : _ = [_, _, _, _])); intro w' hS'; simp only [List.set] at hS'; clear hS; have hS := hS'; clear hS')) | (first | ((with_reducible apply l_yes); exact rfl; exact rfl; exact rfl; exact rfl; (exact rfl)) | ((with_reducible apply l_pick2); exact rfl; ((exact rfl)); exact rfl; exact rfl))) | (first | (with_reducible apply c_seq) | (with_reducible apply c_region) | (with_reducible apply l_nil) | (with_reducible apply q_then) | (with_reducible apply c_skip) | (with_reducible apply c_block) | (with_reducible apply q_block)) | (((with_reducible apply c_ifd); exact rfl; all_goals (intro hb hp; try (exfalso; omega)))) | ((with_reducible apply l_call); exact rfl; exact rfl; exact hfi2 _ (hA.now hS); exact rfl; rintro _ w' ⟨rfl, hS'⟩; replace hS := hS.transA hS'; simp only [appA] at hS; clear hS') | ((with_reducible apply l_call); exact rfl; exact rfl; exact hrt _ (hfx.now hS); exact rfl; rintro _ w' ⟨rfl, hS'⟩; replace hS := hS.transA hS'; simp only [appA] at hS; clear hS'))
            exact q_loopK (i + 1, S.page) (by repeat (first | exact Fr.sub_nil _ | (apply Fr.sub_cons; exact rfl))) ⟨by show i + 1 ≤ Lp.length; omega, hok⟩ (hS.reorder [2] (by decide) rfl) (by show Lp.length - (i + 1) < Lp.length - i; omega)
          · rw [decide_eq_false hlp, Bool.false_and] at hok
            repeat' (first | (first | ((with_reducible apply l_pure tabOk); exact rfl; exact rfl) | ((with_reducible apply l_load); exact rfl; (first | ((with_reducible apply Loads.sc tabOk); exact rfl; (first | exact hS.blkC 0 rfl rfl | exact hS.blkC 1 rfl rfl)) | ((with_reducible apply Loads.sl tabOk); exact rfl; ((exact hS.blkC 1 rfl rfl))) | ((with_reducible apply Loads.st tabOk); exact rfl; (first | exact hS.blkR 1 rfl | exact hS.roR (by assumption) (by assumption)); exact rfl)); exact rfl) | ((with_reducible apply l_ix tabOk); exact rfl; exact rfl; exact rfl; ((exact rfl)); ((omega)); exact rfl) | ((with_reducible apply l_alloc hS tabOk); exact rfl; exact rfl; exact rfl; intro g w' hS'; clear hS; have hS := hS'; clear hS') | (((with_reducible apply l_store hS tabOk (i := 0)); exact rfl; exact rfl; exact rfl; exact rfl; exact rfl; exact rfl; exact rfl; exact rfl; (first | exact (rfl : _ = [_, _, _]) | exact (rfl : _ = [_, _, _, _])); intro w' hS'; simp only [List.set] at hS'; clear hS; have hS := hS'; clear hS')) | (first | ((with_reducible apply l_yes); exact rfl; exact rfl; exact rfl; exact rfl; (exact rfl)) | ((with_reducible apply l_pick2); exact rfl; ((exact rfl)); exact rfl; exact rfl))) | (first | (with_reducible apply c_seq) | (with_reducible apply c_region) | (with_reducible apply l_nil) | (with_reducible apply q_then) | (with_reducible apply c_skip) | (with_reducible apply c_block) | (with_reducible apply c_ret) | (with_reducible apply q_then_ret) | (with_reducible apply q_block_ret)) | (((with_reducible apply c_ifd); exact rfl; all_goals (intro hb hp; try (exfalso; omega)))) | ((with_reducible apply l_call); exact rfl; exact rfl; exact hfi2 _ (hA.now hS); exact rfl; rintro _ w' ⟨rfl, hS'⟩; replace hS := hS.transA hS'; simp only [appA] at hS; clear hS') | ((with_reducible apply l_call); exact rfl; exact rfl; exact hrt _ (hfx.now hS); exact rfl; rintro _ w' ⟨rfl, hS'⟩; replace hS := hS.transA hS'; simp only [appA] at hS; clear hS'))
            (apply q_ret1); (repeat (first | exact ResL.nil | (apply ResL.tmp; exact rfl)))
            exact ⟨by rw [hok]; rfl, hS.sub (List.nil_sublist _)⟩
  rw [List.drop_of_length_le (by rw [shs_len]; omega)] at hok
  have hrv : (if (shsB A 0 (shs Lp) && entB A en) = true then (0 : Int) else 1) = if entB A en = true then 0 else 1 := by
    simp only [hok, shsB, Bool.true_and]
  rw [hrv]
  have hfe := fun w h => hfnd w (en.tdiv 16) h
  by_cases he : 0 ≤ en ∧ en.tmod 8 = 0
  rotate_left
  · have hE : entB A en = false := by unfold entB; rw [decide_eq_false he]; rfl
    rw [hE]
    have hrv2 : (if false = true then (0 : Int) else 1) = 1 := rfl
    repeat' (first | (first | ((with_reducible apply l_pure tabOk); exact rfl; exact rfl) | ((with_reducible apply l_load); exact rfl; (((with_reducible apply Loads.sc tabOk); exact rfl; ((exact hS.blkC 0 rfl rfl)))); exact rfl) | (first | ((with_reducible apply l_yes); exact rfl; exact rfl; exact rfl; exact rfl; (assumption)) | ((with_reducible apply l_no); exact rfl; exact rfl; exact rfl; exact rfl; ((assumption)); exact rfl) | ((with_reducible apply l_partd); exact rfl; exact rfl; exact rfl; all_goals (intro hb hp; try (exfalso; omega))) | ((with_reducible apply l_pick1); exact rfl; ((assumption)); exact rfl; exact rfl) | ((with_reducible apply l_pick2); exact rfl; ((assumption)); exact rfl; exact rfl))) | (first | (with_reducible apply c_seq) | (with_reducible apply c_region) | (with_reducible apply l_nil) | (with_reducible apply q_then) | (with_reducible apply c_exit) | (with_reducible apply c_ret) | (with_reducible apply q_then_exit) | (with_reducible apply q_then_ret) | (with_reducible apply q_block_exit)) | (first | ((with_reducible apply c_ift); exact rfl; (exact rfl)) | ((with_reducible apply c_ifd); exact rfl; all_goals (intro hb hp; try (exfalso; omega))) | ((with_reducible apply c_ifn); exact rfl; all_goals (intro hb hp; try (exfalso; omega)))) | ((with_reducible apply l_remT); exact rfl; exact rfl; omega; exact rfl))
    all_goals (((apply q_ret1); (repeat (first | exact ResL.nil | (apply ResL.tmp; exact rfl)))); exact ⟨rfl, hS.sub (List.nil_sublist _)⟩)
  cases hf : findA A (en.tdiv 16) with
  | none =>
    simp only [hf] at hfe
    have hE : entB A en = false := by unfold entB; rw [hf]; simp
    rw [hE]
    repeat' (first | (first | ((with_reducible apply l_pure tabOk); exact rfl; exact rfl) | ((with_reducible apply l_load); exact rfl; (first | ((with_reducible apply Loads.sc tabOk); exact rfl; ((exact hS.blkC 0 rfl rfl))) | ((with_reducible apply Loads.sl tabOk); exact rfl; ((exact hS.blkC 0 rfl rfl)))); exact rfl) | ((with_reducible apply l_alloc hS tabOk); exact rfl; exact rfl; exact rfl; intro g w' hS'; clear hS; have hS := hS'; clear hS') | (((with_reducible apply l_store hS tabOk (i := 0)); exact rfl; exact rfl; exact rfl; exact rfl; exact rfl; exact rfl; exact rfl; exact rfl; ((exact (rfl : _ = [_, _, _, _]))); intro w' hS'; simp only [List.set] at hS'; clear hS; have hS := hS'; clear hS')) | (first | ((with_reducible apply l_yes); exact rfl; exact rfl; exact rfl; exact rfl; (assumption)) | ((with_reducible apply l_no); exact rfl; exact rfl; exact rfl; exact rfl; ((exact rfl)); exact rfl) | ((with_reducible apply l_partd); exact rfl; exact rfl; exact rfl; all_goals (intro hb hp; try (exfalso; omega))) | ((with_reducible apply l_pick1); exact rfl; ((exact rfl)); exact rfl; exact rfl) | ((with_reducible apply l_pick2); exact rfl; ((assumption)); exact rfl; exact rfl))) | (first | (with_reducible apply c_seq) | (with_reducible apply c_region) | (with_reducible apply l_nil) | (with_reducible apply q_then) | (with_reducible apply c_skip) | (with_reducible apply c_exit) | (with_reducible apply c_ret) | (with_reducible apply q_then_exit) | (with_reducible apply q_then_ret) | (with_reducible apply q_block_exit)) | (first | ((with_reducible apply c_ift); exact rfl; (exact rfl)) | ((with_reducible apply c_ifd); exact rfl; all_goals (intro hb hp; try (exfalso; omega))) | ((with_reducible apply c_ifn); exact rfl; all_goals (intro hb hp; try (exfalso; omega)))) | ((with_reducible apply l_remT); exact rfl; exact rfl; omega; exact rfl) | ((with_reducible apply l_quoT); exact rfl; exact rfl; omega; omega; omega; exact rfl) | ((with_reducible apply l_call); exact rfl; exact rfl; exact hfe _ (hA.now hS); exact rfl; rintro _ w' ⟨rfl, hS'⟩; replace hS := hS.transA hS'; simp only [appA] at hS; clear hS'))
    (apply q_ret1); (repeat (first | exact ResL.nil | (apply ResL.tmp; exact rfl)))
    exact ⟨rfl, hS.sub (List.nil_sublist _)⟩
  | some a =>
    simp only [hf] at hfe
    have hok2 := (good_pos hc hf).1
    unfold Ar.ok at hok2
    obtain ⟨pg, n, prot, z⟩ := a
    dsimp only at hok2
    have ha2 := and2 (p := prot) (by omega) (by omega)
    by_cases h2 : 2 ≤ prot
    · have hE : entB A en = true := by unfold entB; rw [hf, decide_eq_true he]; simp [h2]
      rw [hE]
      rw [if_pos h2] at ha2
      repeat' (first | (first | ((with_reducible apply l_pure tabOk); exact rfl; exact rfl) | ((with_reducible apply l_load); exact rfl; (first | ((with_reducible apply Loads.sc tabOk); exact rfl; ((exact hS.blkC 0 rfl rfl))) | ((with_reducible apply Loads.sl tabOk); exact rfl; ((exact hS.blkC 0 rfl rfl)))); exact rfl) | ((with_reducible apply l_alloc hS tabOk); exact rfl; exact rfl; exact rfl; intro g w' hS'; clear hS; have hS := hS'; clear hS') | (((with_reducible apply l_store hS tabOk (i := 0)); exact rfl; exact rfl; exact rfl; exact rfl; exact rfl; exact rfl; exact rfl; exact rfl; ((exact (rfl : _ = [_, _, _, _]))); intro w' hS'; simp only [List.set] at hS'; clear hS; have hS := hS'; clear hS')) | (first | ((with_reducible apply l_yes); exact rfl; exact rfl; exact rfl; exact rfl; first | exact rfl | assumption) | ((with_reducible apply l_partd); exact rfl; exact rfl; exact rfl; all_goals (intro hb hp; try (exfalso; omega))) | ((with_reducible apply l_pick2); exact rfl; (first | exact rfl | assumption); exact rfl; exact rfl))) | (first | (with_reducible apply c_seq) | (with_reducible apply c_region) | (with_reducible apply l_nil) | (with_reducible apply q_then) | (with_reducible apply c_skip) | (with_reducible apply c_exit) | (with_reducible apply c_ret) | (with_reducible apply q_then_exit) | (with_reducible apply q_block_exit)) | (first | ((with_reducible apply c_iff); exact rfl; (exact rfl)) | ((with_reducible apply c_ifd); exact rfl; all_goals (intro hb hp; try (exfalso; omega))) | ((with_reducible apply c_ifn); exact rfl; all_goals (intro hb hp; try (exfalso; omega)))) | ((with_reducible apply l_remT); exact rfl; exact rfl; omega; exact rfl) | ((with_reducible apply l_quoT); exact rfl; exact rfl; omega; omega; omega; exact rfl) | ((with_reducible apply l_call); exact rfl; exact rfl; exact hfe _ (hA.now hS); exact rfl; rintro _ w' ⟨rfl, hS'⟩; replace hS := hS.transA hS'; simp only [appA] at hS; clear hS') | ((with_reducible apply l_and); exact rfl; exact rfl; exact ha2; exact rfl))
      (apply q_ret1); (repeat (first | exact ResL.nil | (apply ResL.tmp; exact rfl)))
      exact ⟨rfl, hS.sub (List.nil_sublist _)⟩
    · have hE : entB A en = false := by unfold entB; rw [hf]; simp [h2]
      rw [hE]
      rw [if_neg h2] at ha2
      repeat' (first | (first | ((with_reducible apply l_pure tabOk); exact rfl; exact rfl) | ((with_reducible apply l_load); exact rfl; (first | ((with_reducible apply Loads.sc tabOk); exact rfl; ((exact hS.blkC 0 rfl rfl))) | ((with_reducible apply Loads.sl tabOk); exact rfl; ((exact hS.blkC 0 rfl rfl)))); exact rfl) | ((with_reducible apply l_alloc hS tabOk); exact rfl; exact rfl; exact rfl; intro g w' hS'; clear hS; have hS := hS'; clear hS') | (((with_reducible apply l_store hS tabOk (i := 0)); exact rfl; exact rfl; exact rfl; exact rfl; exact rfl; exact rfl; exact rfl; exact rfl; ((exact (rfl : _ = [_, _, _, _]))); intro w' hS'; simp only [List.set] at hS'; clear hS; have hS := hS'; clear hS')) | (first | ((with_reducible apply l_yes); exact rfl; exact rfl; exact rfl; exact rfl; first | exact rfl | assumption) | ((with_reducible apply l_partd); exact rfl; exact rfl; exact rfl; all_goals (intro hb hp; try (exfalso; omega))) | ((with_reducible apply l_pick2); exact rfl; (first | exact rfl | assumption); exact rfl; exact rfl))) | (first | (with_reducible apply c_seq) | (with_reducible apply c_region) | (with_reducible apply l_nil) | (with_reducible apply q_then) | (with_reducible apply c_skip) | (with_reducible apply c_exit) | (with_reducible apply c_ret) | (with_reducible apply q_then_exit) | (with_reducible apply q_then_ret) | (with_reducible apply q_block_exit)) | (first | ((with_reducible apply c_ift); exact rfl; (exact rfl)) | ((with_reducible apply c_ifd); exact rfl; all_goals (intro hb hp; try (exfalso; omega))) | ((with_reducible apply c_ifn); exact rfl; all_goals (intro hb hp; try (exfalso; omega)))) | ((with_reducible apply l_remT); exact rfl; exact rfl; omega; exact rfl) | ((with_reducible apply l_quoT); exact rfl; exact rfl; omega; omega; omega; exact rfl) | ((with_reducible apply l_call); exact rfl; exact rfl; exact hfe _ (hA.now hS); exact rfl; rintro _ w' ⟨rfl, hS'⟩; replace hS := hS.transA hS'; simp only [appA] at hS; clear hS') | ((with_reducible apply l_and); exact rfl; exact rfl; exact ha2; exact rfl))
      (apply q_ret1); (repeat (first | exact ResL.nil | (apply ResL.tmp; exact rfl)))
      exact ⟨rfl, hS.sub (List.nil_sublist _)⟩
end Go.Proofs.Ytejnpppejalhfab
