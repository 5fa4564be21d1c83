/- Texts that the proof stands on, one behind the other: Bits, Sc12, Sc14, Sc15, Sc16, Sc17, Sc18, Tab, BitsF, Im14, Im15, Im16. -/
import Derived.Test.YtejnpppejalhfabProg
import Derived.Handy
import Derived.BigQuiet
import Derived.Deep.QuietTactic
import Derived.WalkSpells
import Derived.Laws.OwnMore
import Derived.OrdersHeld
import Derived.WalkLawsBesides
import Derived.Recover
import Derived.Laws.Strings2
import Derived.Laws.Strings3
import Derived.Test.YtejnpppejalhfabPImageBack2
/- The contracts of package bits and of the reference's bytes. -/
namespace Go.Proofs.Ytejnpppejalhfab
open Go.RowKit

set_option maxRecDepth 100000 in
set_option maxHeartbeats 400000 in
theorem bytes_any (n : Int) (k : Nat) (w : World) (hk : k ≤ 8) :
    Calls Try.prog 69 #[.int .i64 n, .int .i64 k] w fun e w' => e = .returned (.string ⟨(leB n k).toArray⟩) ∧ Below w.heap.size w w' := by
  have hcv := run_str_of_one (P := Try.prog) 76 5 9 Try.underlying76 Try.underlying5 Try.underlying9
  go_enter Try.func69, Try.ntmps69
  go_wp2
  go_loopw [0, 5, 6] (fun vn vs vi wr => ∃ j : Nat, j ≤ k ∧ vi = .int .i64 j ∧ vn = .int .i64 (n / 2 ^ (8 * j)) ∧ vs = .string ⟨(leB n j).toArray⟩ ∧ Below w.heap.size w wr) (fun _ _ i _ => k - (intOf i).toNat)
  case atStart => exact ⟨0, by omega, rfl, by simp, rfl, Below.refl _ _⟩
  case round =>
    obtain ⟨j, hj, rfl, rfl, rfl, hb⟩ := hrel
    have hlen : (leB n j).length ≤ 8 := by rw [leB_length]; omega
    by_cases hlt : j < k
    · go_wp2
      go_roundw
      case rel => exact ⟨j + 1, by omega, by go_num, by rw [div_step], rfl, hb.alloc hb.size _⟩
      case measure => simp [intOf]; omega
    · go_wp2
      obtain rfl : j = k := by omega
      go_ret
      exact ⟨rfl, hb⟩
theorem inB_spec (off n all : Int) : inB off n all = (decide (0 ≤ off) && (decide (0 ≤ n) && (decide (off ≤ all) && decide (n ≤ all - off)))) := by
  unfold inB; simp

set_option maxRecDepth 100000 in
set_option maxHeartbeats 400000 in
theorem in_any (off n all : Int) (w : World) (h : 0 ≤ all) (h2 : all ≤ 9223372036854775807) :
    Calls Try.prog 70 #[.int .i64 off, .int .i64 n, .int .i64 all] w fun e w' => e = .returned (.bool (inB off n all)) ∧ w = w' := by
  have hs := hid (inB_spec off n all)
  go_enter Try.func70, Try.ntmps70
  go_wp2
  all_goals
    go_ret
    refine ⟨ret_bool ?_, rfl⟩
    rw [hs.out]
    first
      | (rw [IntWalk.wrap64_in (all - off) ⟨by omega, by omega⟩]; simp [*]; done)
      | (rw [Bool.eq_iff_iff]; simp; omega)

set_option maxRecDepth 100000 in
set_option maxHeartbeats 400000 in
theorem over_any (s t : List UInt8) (off : Nat) (w : World) (hs : s.length ≤ maxLen) (h : off + t.length ≤ s.length) :
    Calls Try.prog 61 #[.string ⟨s.toArray⟩, .int .i64 off, .string ⟨t.toArray⟩] w fun e w' => e = .returned (.string ⟨(splice s off t).toArray⟩) ∧ ∃ n, w' = w.drewN n := by
  unfold maxLen at hs
  go_enter Try.func61, Try.ntmps61
  go_wp2
  go_quiet (fail)
  go_wp2
  go_ret
  refine ⟨?_, drewN_any⟩
  exact ret_str (by simp [splice, List.take_of_length_le])

set_option maxRecDepth 100000 in
set_option maxHeartbeats 400000 in
theorem part_no (s : List UInt8) (off n : Int) (w : World) (hs : s.length ≤ maxLen) (h : inB off n s.length = false) :
    Calls Try.prog 24 #[.string ⟨s.toArray⟩, .int .i64 off, .int .i64 n] w fun e w' => e = .returned (.tuple #[.string ⟨#[]⟩, .int .i64 3]) ∧ w = w' := by
  unfold maxLen at hs
  go_enter Try.func24, Try.ntmps24
  go_wp2_with (go_at_call 70; (with_reducible refine (in_any _ _ _ _ (by omega) (by omega)).mono ?_); rintro e w' ⟨rfl, rfl⟩; rw [h])
  go_ret2
  exact ⟨rfl, rfl⟩

theorem inB_yes (off n all : Nat) (h : off + n ≤ all) : inB off n all = true := by
  unfold inB; simp; omega

set_option maxRecDepth 100000 in
set_option maxHeartbeats 400000 in
theorem part_yes (s : List UInt8) (off n : Nat) (w : World) (hs : s.length ≤ maxLen) (h : off + n ≤ s.length) :
    Calls Try.prog 24 #[.string ⟨s.toArray⟩, .int .i64 off, .int .i64 n] w fun e w' => e = .returned (.tuple #[.string ⟨((s.drop off).take n).toArray⟩, .int .i64 0]) ∧ w = w' := by
  unfold maxLen at hs
  have hin := inB_yes off n s.length h
  have hin2 := hid hin; clear hin
  go_enter Try.func24, Try.ntmps24
  go_wp2_with (go_at_call 70; (with_reducible refine (in_any _ _ _ _ (by omega) (by omega)).mono ?_); rintro e w' ⟨rfl, rfl⟩; rw [hin2.out])
  go_ret2
  refine ⟨?_, rfl⟩
  show Ending.returned (.tuple #[.string ⟨((s.drop off).take (off + n - off)).toArray⟩, .int .i64 0]) = _
  rw [Nat.add_sub_cancel_left]

set_option maxRecDepth 100000 in
set_option maxHeartbeats 400000 in
theorem lay_yes (s t : List UInt8) (off : Nat) (w : World) (hs : s.length ≤ maxLen) (h : off + t.length ≤ s.length) :
    Calls Try.prog 59 #[.string ⟨s.toArray⟩, .int .i64 off, .string ⟨t.toArray⟩] w fun e w' => e = .returned (.tuple #[.string ⟨(splice s off t).toArray⟩, .int .i64 0]) ∧ Below w.heap.size w w' := by
  unfold maxLen at hs
  have hin := inB_yes off t.length s.length h
  have hin2 := hid hin; clear hin
  go_enter Try.func59, Try.ntmps59
  have hsz5 : (Try.prog.info? 5).map (·.size) = some 1 := by kernel_rfl
  have Hsz5 := hid hsz5; clear hsz5
  go_wp2_with (first | (go_at_call 70; (with_reducible refine (in_any _ _ _ _ (by omega) (by omega)).mono ?_); rintro e w' ⟨rfl, rfl⟩; rw [hin2.out]) | ((with_reducible refine at_op 17 ?_); refine wpList_conv_bytes rfl (.tmp 16) 9 76 5 rfl Try.underlying9 Try.underlying76 Try.underlying5 s rfl w.heap.size w (Below.refl _ _) (Nat.le_refl _) ?_; intro cap w1 hcap hb1 hby1 hsz1; have HB := hid hby1; clear hby1) | ((with_reducible refine at_op 22 ?_); refine wpList_copy_str rfl (.tmp 20) (.tmp 21) 76 9 rfl 5 Try.underlying76 Hsz5.out _ (s.length - off) _ rfl t rfl w.heap.size off s HB.out ?c1 ?c2 w.heap.size w hb1 (Nat.le_refl _) ?_; (case c1 => go_must (rw [List.length_take]; omega)); (case c2 => go_must (rw [List.length_take]; intro h0; rw [if_neg (by omega)])); intro w2 hb2 hsz2 hby2; have HB2 := hid hby2; clear hby2) | ((with_reducible refine at_op 24 ?_); refine wpList_conv_str rfl (.tmp 23) 76 9 5 rfl Try.underlying76 Try.underlying5 Try.underlying9 _ w.heap.size s.length _ rfl ?c3 HB2.out ?_; (case c3 => go_must (exact length_splice _ _ _ (by rw [List.length_take]; omega))); clear HB2))
  all_goals
    go_ret2
    refine ⟨?_, hb2⟩
    show Ending.returned (.tuple #[.string ⟨(splice s off (t.take (s.length - off))).toArray⟩, .int .i64 0]) = _
    rw [List.take_of_length_le (show t.length ≤ s.length - off from by omega)]

set_option maxRecDepth 100000 in
set_option maxHeartbeats 400000 in
theorem lay_no (s t : List UInt8) (off : Int) (w : World) (hs : s.length ≤ maxLen) (h : inB off t.length s.length = false) :
    Calls Try.prog 59 #[.string ⟨s.toArray⟩, .int .i64 off, .string ⟨t.toArray⟩] w fun e w' => e = .returned (.tuple #[.string ⟨#[]⟩, .int .i64 3]) ∧ w = w' := by
  unfold maxLen at hs
  go_enter Try.func59, Try.ntmps59
  go_wp2_with (go_at_call 70; (with_reducible refine (in_any _ _ _ _ (by omega) (by omega)).mono ?_); rintro e w' ⟨rfl, rfl⟩; rw [h])
  go_ret2
  exact ⟨rfl, rfl⟩

set_option maxRecDepth 100000 in
set_option maxHeartbeats 400000 in
theorem get_yes (l : List UInt8) (w : World) (h1 : 1 ≤ l.length) (h8 : l.length ≤ 8) :
    Calls Try.prog 95 #[.string ⟨l.toArray⟩] w fun e w' => e = .returned (.tuple #[.int .i64 (wrap64 (numB l)), .int .i64 0]) ∧ w = w' := by
  go_enter Try.func95, Try.ntmps95
  go_wp2
  go_loop [4, 16] (fun vu vi => ∃ j : Nat, j ≤ l.length ∧ vi = .int .i64 j ∧ vu = .int .u64 (numB (l.take j))) (fun _ i => l.length - (intOf i).toNat)
  case atStart => exact ⟨0, by omega, rfl, by simp [numB]⟩
  case round =>
    obtain ⟨j, hj, rfl, rfl⟩ := hrel
    by_cases hlt : j < l.length
    · go_wp2
      exact ⟨⟨j + 1, by omega, by go_num, val_int (get_step l j hlt h8)⟩, by simp [intOf]; omega⟩
    · go_wp2
      obtain rfl : j = l.length := by omega
      go_ret2
      refine ⟨?_, rfl⟩
      show Ending.returned (.tuple #[.int .i64 (wrap64 ↑(numB (l.take l.length))), .int .i64 0]) = _
      rw [List.take_length]

set_option maxRecDepth 100000 in
set_option maxHeartbeats 400000 in
theorem get_no (l : List UInt8) (w : World) (hs : l.length ≤ maxLen) (h : l.length = 0 ∨ 8 < l.length) :
    Calls Try.prog 95 #[.string ⟨l.toArray⟩] w fun e w' => e = .returned (.tuple #[.int .i64 0, .int .i64 3]) ∧ w = w' := by
  unfold maxLen at hs
  rcases h with h | h
  all_goals
    go_enter Try.func95, Try.ntmps95
    go_wp2
    go_ret2
    exact ⟨rfl, rfl⟩

set_option maxRecDepth 100000 in
set_option maxHeartbeats 400000 in
theorem put_no (n k : Int) (w : World) (h : k < 1 ∨ 8 < k) :
    Calls Try.prog 93 #[.int .i64 n, .int .i64 k] w fun e w' => e = .returned (.tuple #[.string ⟨#[]⟩, .int .i64 3]) ∧ w = w' := by
  rcases h with h | h
  all_goals
    go_enter Try.func93, Try.ntmps93
    go_wp2
    go_ret2
    exact ⟨rfl, rfl⟩

set_option maxRecDepth 100000 in
set_option maxHeartbeats 400000 in
theorem put_yes (n : Int) (k : Nat) (w : World) (h1 : 1 ≤ k) (h8 : k ≤ 8) :
    Calls Try.prog 93 #[.int .i64 n, .int .i64 k] w fun e w' => e = .returned (.tuple #[.string ⟨(leB n k).toArray⟩, .int .i64 0]) ∧ Below w.heap.size w w' := by
  have hi5 : (Try.prog.info? 5).map (fun i => (i.zero, i.size, i.bytes)) = some (some (.int .u8 0), 1, 1) := by kernel_rfl
  have Hi5 := hid hi5; clear hi5
  go_enter Try.func93, Try.ntmps93
  go_wp2_with (((with_reducible refine at_op 15 ?_); refine wpList_make_bytes rfl (.tmp 14) (.tmp 14) 76 5 rfl Try.underlying76 Hi5.out k ?c1 rfl rfl w.heap.size w (Below.refl _ _) (Nat.le_refl _) ?_; (case c1 => omega); intro w1 hb1 hby1 hsz1; have HB := hid hby1; clear hby1))
  go_loopw [18] (fun vi wr => ∃ j : Nat, j ≤ k ∧ vi = .int .i64 j ∧ Below w.heap.size w wr ∧ w.heap.size < wr.heap.size ∧ Hid (BytesAt wr w.heap.size (putRow n k j))) (fun i _ => k - (intOf i).toNat)
  case atStart => exact ⟨0, by omega, rfl, hb1, hsz1, by have := HB.out; unfold putRow; show BytesAt _ _ _; simpa [leB] using this⟩
  case round =>
    obtain ⟨j, hj, rfl, hb, hsz, HBj⟩ := hrel
    by_cases hlt : j < k
    · obtain ⟨hc, hf⟩ := HBj.out j (by rw [putRow_length _ _ _ hj]; exact hlt)
      obtain ⟨v, hv⟩ : ∃ v, v = Value.int .u8 ((putRow n k j)[j]'(by rw [putRow_length _ _ _ hj]; exact hlt)).toNat := ⟨_, rfl⟩
      rw [← hv] at hc; clear hv
      go_wp2
      have HS := HBj.out.set j (by rw [putRow_length _ _ _ hj]; exact hlt) (byteAt n j) _ (val_int (put_num n j (by omega)))
      rw [putRow_step n k j hlt] at HS
      exact ⟨⟨j + 1, by omega, by go_num, hb.setCell (Nat.le_refl _) _, by simpa using hsz, HS⟩, by simp [intOf]; omega⟩
    · go_wp2_with (((with_reducible refine at_op 32 ?_); refine wpList_conv_str rfl (.tmp 31) 76 9 5 rfl Try.underlying76 Try.underlying5 Try.underlying9 (putRow n k j) w.heap.size k _ rfl ?c3 HBj.out ?_; (case c3 => go_must (exact putRow_length _ _ _ hj)); clear HBj))
      obtain rfl : j = k := by omega
      go_ret2
      refine ⟨?_, hb⟩
      show Ending.returned (.tuple #[.string ⟨(putRow n j j).toArray⟩, .int .i64 0]) = _
      rw [putRow_end]
end Go.Proofs.Ytejnpppejalhfab
/- THE STEP CALCULUS, part 12: append of a slice that is only read, empty or not. -/
namespace Go.Proofs.Ytejnpppejalhfab
open Go.RowKit Go.Sort

section
variable {P : Program} {n : Nat} {ds : List Deferred} {E : Fr} {w : World} {Q : Exit → Act → World → Prop} {ops : Array Oper} {rest : List Oper} {d : Nat} {dst : Option Nat} {ty : TypeId} {pos : String} {after : Array Edge} {F : Nat → Prop} {w0 : World} {Γ : List Asr} {T : Tab}
theorem g_appendSl (hS : St F w0 w Γ) (hT : TabOk P T) {t e sz eb i : Nat} {ag : Bool} {ez : List Value} {x y : Operand} {v u : Value} {rows news : List (List Value)} (ht : T.get t = some (.sl e sz eb ag ez)) (hx : E.ev x = some v) (hi : Γ[i]? = some (.row e sz v rows)) (hy : E.ev y = some u)
    (hn : Sl nF w sz u news) (hbig : (rows.length + news.length) * (eb + 1) ≤ 140737488355328) :
    Gets P ⟨dst, .call { callee := .builtin .append, args := #[x, y], argTypes := #[t, t] }, ty, pos, after, none⟩ n ds E w (fun v' w' => ∃ p cap, v' = .slice p (rows.length + news.length) cap ∧ St F w0 w' (Γ.set i (.row e sz (.slice p (rows.length + news.length) cap) (rows ++ news)))) := by
  rcases hn with ⟨p, c, rfl, rfl⟩ | ⟨b, off, cap, rfl, h2, h3, h4⟩
  · cases p with
    | none =>
      intro a ha K Q k
      obtain ⟨ji, zv, hu, hinfo, _⟩ := hT.sl ht
      obtain ⟨ho, hlen, hone⟩ := hS.at_ hi
      have e1 : Builtin.append_ #[t, t] ty #[v, .slice none 0 c] = Builtin.append_ #[t, t] ty #[v, .slice none 0 0] := rfl
      have hr := run_append_owned_none (P := P) w 0 t ty e ji sz hu hinfo v _ _ ho
      have hex : (execOp a.eval ⟨dst, .call { callee := .builtin .append, args := #[x, y], argTypes := #[t, t] }, ty, pos, after, none⟩).run P w = .ok (.value v) w := by
        simp [execOp, resolve, invoke, builtin, ha.ev hx, ha.ev hy, e1, hr, Result.andThen]
      unfold Oper.wp
      rw [hex]
      obtain ⟨p, cap, hv⟩ := hS.rowSlice i hi
      subst hv
      refine k _ _ ⟨p, cap, rfl, ?_⟩
      rw [List.append_nil]
      exact hS.upd hi (World.grownBy.refl _ _) ⟨ho, hlen, hone⟩ (fun q hq => Or.inl hq)
    | some a0 =>
      intro a ha K Q k
      obtain ⟨ji, zv, hu, hinfo, _, hs, hby, hz, hzl, _, hsz, hs0⟩ := hT.sl ht
      obtain ⟨ho, hlen, hone⟩ := hS.at_ hi
      have hb1 : rows.length * eb + rows.length ≤ 140737488355328 := by rw [List.length_nil, Nat.add_zero, Nat.mul_succ] at hbig; exact hbig
      obtain ⟨v', w', hrun, hown, hg, _, hat⟩ := run_append_own_at (P := P) w 0 t ty e ji zv sz eb hu hinfo hz hs hby (by rw [← Array.length_toList, hzl, hsz]) (Nat.pos_of_ne_zero hs0) v rows.length rows.flatten ho a0 0 c [] (by simp) (fun j u hu => by simp at hu) (by simp) (by unfold maxLen; omega) (by rw [Nat.add_zero]; omega) (Nat.zero_le _)
      have hex : (execOp a.eval ⟨dst, .call { callee := .builtin .append, args := #[x, y], argTypes := #[t, t] }, ty, pos, after, none⟩).run P w = .ok (.value v') w' := by
        simp [execOp, resolve, invoke, builtin, ha.ev hx, ha.ev hy, hrun, Result.andThen]
      unfold Oper.wp
      rw [hex]
      rw [Nat.add_zero, List.append_nil] at hown
      have hown' : (Asr.row e sz v' rows).holds w' := ⟨hown, hlen, hone⟩
      obtain ⟨p, cap, hv'⟩ : ∃ p cap, v' = .slice p rows.length cap := by
        rcases hown.2 with ⟨rfl, h0⟩ | ⟨g, cap, cur, rfl, _⟩
        · exact ⟨none, 0, by rw [h0]⟩
        · exact ⟨_, _, rfl⟩
      subst hv'
      refine k _ _ ⟨p, cap, rfl, ?_⟩
      rw [List.append_nil]
      refine hS.upd hi hg hown' fun q hq => ?_
      rcases hat with h | h
      · exact Or.inl (h.symm.trans hq)
      · have : some w.heap.size = some q := h.symm.trans hq
        cases this
        exact Or.inr (Nat.le_refl _)
  · exact g_append hS hT ht hx hi hy h4 rfl hbig
theorem l_appendSl (hS : St F w0 w Γ) (hT : TabOk P T) {t e sz eb : Nat} (i : Nat) {ag : Bool} {ez : List Value} {x y : Operand} {v u : Value} {rows news : List (List Value)} (ht : T.get t = some (.sl e sz eb ag ez)) (hx : E.ev x = some v) (hi : Γ[i]? = some (.row e sz v rows)) (hy : E.ev y = some u)
    (hn : Sl nF w sz u news) (hbig : (rows.length + news.length) * (eb + 1) ≤ 140737488355328) (hd : Nat.blt d n = true) (k : ∀ p cap w', St F w0 w' (Γ.set i (.row e sz (.slice p (rows.length + news.length) cap) (rows ++ news))) → WL P ops Q rest n ds ((d, .slice p (rows.length + news.length) cap) :: E) w') : WL P ops Q (⟨some d, .call { callee := .builtin .append, args := #[x, y], argTypes := #[t, t] }, ty, pos, after, none⟩ :: rest) n ds E w :=
  l_gets hd (g_appendSl hS hT ht hx hi hy hn hbig) (by rintro _ w' ⟨p, cap, rfl, h⟩; exact k p cap w' h)
theorem r_remT {t yt : TypeId} {x y : Operand} {m k : Int} (hx : E.ev x = some (.int .i64 m)) (hy : E.ev y = some (.int .i64 k)) (h3 : 0 < k) : ∀ a, Has n ds a E → ∀ dst, Runs P ⟨dst, .binOp .rem t x y yt, ty, pos, after, none⟩ a (.int .i64 (m.tmod k)) := fun a ha _ w => by
  have hk : ¬ k = 0 := by omega
  simp [execOp, ha.ev hx, ha.ev hy, eqGuard, binOp, Op.intDiv, hk]
theorem l_remT {t yt : TypeId} {x y : Operand} {m k : Int} (hx : E.ev x = some (.int .i64 m)) (hy : E.ev y = some (.int .i64 k)) (h3 : 0 < k) (hd : Nat.blt d n = true) (k' : WL P ops Q rest n ds ((d, .int .i64 (m.tmod k)) :: E) w) : WL P ops Q (⟨some d, .binOp .rem t x y yt, ty, pos, after, none⟩ :: rest) n ds E w := l_runs (fun a ha => r_remT hx hy h3 a ha _) hd k'
end
end Go.Proofs.Ytejnpppejalhfab
/- THE STEP CALCULUS, part 14: regions that draw their order, operation by operation: what is pure is taken first, the rest in whatever order is left. -/
namespace Go.Proofs.Ytejnpppejalhfab
open Go.RowKit Go.Sort

section
variable {P : Program} {n : Nat} {ds : List Deferred} {E : Fr} {w : World} {Q : Exit → Act → World → Prop} {ops : Array Oper} {S : World → Prop} {fuel : Nat} {li : Array Bool} {d : Nat} {op : Op} {ty : TypeId} {pos : String} {after : Array Edge} {F : Nat → Prop} {w0 : World} {Γ : List Asr} {T : Tab}
def WA (P : Program) (ops : Array Oper) (Q : Exit → Act → World → Prop) (S : World → Prop) (fuel : Nat) (li : Array Bool) (n : Nat) (ds : List Deferred) (E : Fr) (w : World) : Prop := ∀ a, Has n ds a E → wpAnyH P .any ops Q S fuel li a w
/-- the operation i comes up -/
def WO (P : Program) (ops : Array Oper) (Q : Exit → Act → World → Prop) (S : World → Prop) (fuel : Nat) (li : Array Bool) (n : Nat) (ds : List Deferred) (E : Fr) (w : World) (i : Nat) : Prop := ∀ a, Has n ds a E → wpOp P ops Q i (fun a' w' => S w' ∧ wpAnyH P .any ops Q S fuel (li.setIfInBounds i true) a' w') a w
theorem c_held (S : World → Prop) {id : Nat} {l : List Oper} (m : Nat) (hl : l.length = m) (hS : St F w0 w Γ) (hm : P.follows .mixedOrders = true) (h : ∀ w1, St F w0 w1 Γ → WA P l.toArray Q S m (Array.replicate m false) n ds E w1) : WC P (.region id l.toArray true) Q n ds E w := fun a ha => by
  subst hl
  exact wp_region_held (S := S) hm (h { w with drawn := w.drawn + 1 } (hS.grow ⟨rfl, rfl, rfl, Nat.le_refl _, fun _ _ _ => rfl⟩) a ha)
theorem a_done (hr : Region.ready .any ops li = []) (h : WQ Q .normal n ds E w) : WA P ops Q S fuel li n ds E w := fun a ha => wpAnyH_done hr (h a ha) fuel
theorem a_take (i : Nat) {v : Value} (hT : TabOk P T) (hi : ops[i]? = some ⟨some d, op, ty, pos, after, none⟩) (hs : Region.noSelect ops = true) (hf : Region.free .any ops li i = true) (hr : (Region.ready .any ops li).contains i = true)
    (hQ : ∀ c (a : Act) w, Q (.panic c) (a.put (some d) v) w → Q (.panic c) a w) (hS : S w) (hv : pureOp T E op = some v) (hd : Nat.blt d n = true) (k : WA P ops Q S fuel (li.setIfInBounds i true) n ds ((d, v) :: E) w) : WA P ops Q S (fuel + 1) li n ds E w := fun a ha =>
  wpAnyH_take hi hs hf hr hQ (Or.inl ⟨rfl, fun w _ => pureOp_runs hT ha hv w⟩) hS (k _ (ha.put d v hd))
theorem a_takeL (i : Nat) {t : TypeId} {x : Operand} {p : Addr} {v : Value} (hi : ops[i]? = some ⟨some d, .load t x, ty, pos, after, none⟩) (hs : Region.noSelect ops = true) (hf : Region.free .any ops li i = true) (hr : (Region.ready .any ops li).contains i = true)
    (hQ : ∀ c (a : Act) w, Q (.panic c) (a.put (some d) v) w → Q (.panic c) a w) (hS : S w) (hx : E.ev x = some (.pointer (some p))) (hl : ∀ w, S w → Loads P t p v w) (hd : Nat.blt d n = true) (k : WA P ops Q S fuel (li.setIfInBounds i true) n ds ((d, v) :: E) w) : WA P ops Q S (fuel + 1) li n ds E w := fun a ha =>
  wpAnyH_take hi hs hf hr hQ (Or.inl ⟨rfl, fun w hw => by
    have h := hl w hw
    unfold Loads at h
    simp only [execOp, ha.ev hx, Instr.loadAt, Instr.sureAddr, Sem.run_bind, Sem.run_pure, Result.andThen_ok, h]⟩) hS (k _ (ha.put d v hd))
theorem a_one {i : Nat} (hr : Region.ready .any ops li = [i]) (h : WO P ops Q S fuel li n ds E w i) : WA P ops Q S (fuel + 1) li n ds E w := fun a ha =>
  wpAnyH_all hr (by simp) (fun j hj => by
    have : j = i := by simpa using hj
    subst this
    exact h a ha)
theorem a_two {i j : Nat} (hr : Region.ready .any ops li = [i, j]) (h1 : WO P ops Q S fuel li n ds E w i) (h2 : WO P ops Q S fuel li n ds E w j) : WA P ops Q S (fuel + 1) li n ds E w := fun a ha =>
  wpAnyH_all hr (by simp) (fun k hk => by
    have : k = i ∨ k = j := by simpa using hk
    rcases this with rfl | rfl
    · exact h1 a ha
    · exact h2 a ha)
theorem o_gets {i : Nat} {Φ : Value → World → Prop} (hi : ops[i]? = some ⟨some d, op, ty, pos, after, none⟩) (h : Gets P ⟨some d, op, ty, pos, after, none⟩ n ds E w Φ) (hd : Nat.blt d n = true) (k : ∀ v w', Φ v w' → S w' ∧ WA P ops Q S fuel (li.setIfInBounds i true) n ds ((d, v) :: E) w') : WO P ops Q S fuel li n ds E w i := fun a ha => by
  unfold wpOp
  simp only [hi]
  rw [if_pos (show Region.wanted _ _ = true from rfl)]
  exact Or.inl (h a ha _ _ fun v w' hv => ⟨(k v w' hv).1, (k v w' hv).2 _ (ha.put d v hd)⟩)
theorem o_gets0 {i : Nat} {Φ : Value → World → Prop} (hi : ops[i]? = some ⟨none, op, ty, pos, after, none⟩) (h : Gets P ⟨none, op, ty, pos, after, none⟩ n ds E w Φ) (k : ∀ v w', Φ v w' → S w' ∧ WA P ops Q S fuel (li.setIfInBounds i true) n ds E w') : WO P ops Q S fuel li n ds E w i := fun a ha => by
  unfold wpOp
  simp only [hi]
  rw [if_pos (show Region.wanted _ _ = true from rfl)]
  exact Or.inl (h a ha _ _ fun v w' hv => ⟨(k v w' hv).1, (k v w' hv).2 _ ha⟩)
end
end Go.Proofs.Ytejnpppejalhfab
/- THE STEP CALCULUS, part 15: calls that may panic; panics of the text's own; slices of strings. -/
namespace Go.Proofs.Ytejnpppejalhfab
open Go.RowKit Go.Sort

/-- a call that returns, Φ, or panics with the chain c, Ψ -/
def RP (c : List PanicEntry) (Φ : Value → World → Prop) (Ψ : World → Prop) (e : Ending) (w' : World) : Prop := (∃ v, e = .returned v ∧ Φ v w') ∨ (e = .panicked c ∧ Ψ w')
structure FnP (P : Program) (f : FuncId) (args : List Value) (w : World) (c : List PanicEntry) (Φ : Value → World → Prop) (Ψ : World → Prop) : Prop where
  ok : ∃ fn, CallOk P f fn
  calls : Calls P f args.toArray w (RP c Φ Ψ)
section
variable {P : Program} {n : Nat} {ds : List Deferred} {E : Fr} {w : World} {Q : Exit → Act → World → Prop} {ops : Array Oper} {rest : List Oper} {d : Nat} {dst : Option Nat} {op : Op} {ty : TypeId} {pos : String} {after : Array Edge} {T : Tab} {c : List PanicEntry}
theorem FnP.mono {f : FuncId} {args : List Value} {Φ Φ' : Value → World → Prop} {Ψ Ψ' : World → Prop} (h : FnP P f args w c Φ Ψ) (h1 : ∀ v w', Φ v w' → Φ' v w') (h2 : ∀ w', Ψ w' → Ψ' w') : FnP P f args w c Φ' Ψ' :=
  ⟨h.ok, h.calls.mono fun _ _ h => by
    rcases h with ⟨v, e, hv⟩ | ⟨e, hw⟩
    · exact Or.inl ⟨v, e, h1 v _ hv⟩
    · exact Or.inr ⟨e, h2 _ hw⟩⟩
theorem Fn.orP {f : FuncId} {args : List Value} {Φ : Value → World → Prop} {Ψ : World → Prop} (h : Fn P f args w Φ) : FnP P f args w c Φ Ψ := ⟨h.ok, h.calls.mono fun _ _ ⟨v, e, hv⟩ => Or.inl ⟨v, e, hv⟩⟩
/-- the operation yields, or panics -/
def GetsP (P : Program) (o : Oper) (n : Nat) (ds : List Deferred) (E : Fr) (w : World) (c : List PanicEntry) (Φ : Value → World → Prop) (Ψ : World → Prop) : Prop :=
  ∀ a, Has n ds a E → ∀ (K : Act → World → Prop) (Q : Exit → Act → World → Prop), (∀ v w', Φ v w' → K (a.put o.dst v) w') → (∀ w', Ψ w' → Q (.panic c) a w') → o.wp P a w K Q
theorem l_getsP {Φ : Value → World → Prop} {Ψ : World → Prop} (hd : Nat.blt d n = true) (h : GetsP P ⟨some d, op, ty, pos, after, none⟩ n ds E w c Φ Ψ) (k : ∀ v w', Φ v w' → WL P ops Q rest n ds ((d, v) :: E) w') (kp : ∀ w', Ψ w' → WQ Q (.panic c) n ds E w') : WL P ops Q (⟨some d, op, ty, pos, after, none⟩ :: rest) n ds E w := fun a ha => by
  unfold wpList
  rw [if_pos (show Region.wanted _ _ = true from rfl)]
  exact Or.inl (h a ha _ _ (fun v w' hv => k v w' hv _ (ha.put d v hd)) (fun w' hw => kp w' hw a ha))
theorem g_callP {f : FuncId} {x : Operand} {args : Array Operand} {ats : Array TypeId} {vs : List Value} {first caps : List Value} {Φ : Value → World → Prop} {Ψ : World → Prop} (hx : E.ev x = some (.func (.func f) first.toArray caps.toArray)) (hv : E.evs args.toList = some vs) (h : FnP P f (first ++ vs ++ caps) w c Φ Ψ) :
    GetsP P ⟨dst, .call { callee := .value x, args := args, argTypes := ats }, ty, pos, after, none⟩ n ds E w c Φ Ψ := by
  intro a ha K Q k kp
  obtain ⟨⟨fn, hok⟩, hc⟩ := h
  have e1 : args.map a.eval = vs.toArray := by rw [← ha.evs hv, ← Array.toList_map, Array.toArray_toList]
  have hrun : (execOp a.eval ⟨dst, .call { callee := .value x, args := args, argTypes := ats }, ty, pos, after, none⟩).run P w = .ok (.enter f (first ++ vs ++ caps).toArray) w := by
    simp only [execOp, resolve, ha.ev hx, Deferred.ofValue, Sem.run_bind, Sem.run_pure, Result.andThen_ok, invoke, e1]
    rw [callFunc_run hok]
    simp
  unfold Oper.wp
  rw [hrun]
  refine hc.mono fun e w' h => ?_
  rcases h with ⟨v, he, hv⟩ | ⟨he, hw⟩
  · subst he; exact k v w' hv
  · subst he; exact kp w' hw
theorem l_callP {f : FuncId} {x : Operand} {args : Array Operand} {ats : Array TypeId} {vs : List Value} {first caps : List Value} {Φ : Value → World → Prop} {Ψ : World → Prop} (hx : E.ev x = some (.func (.func f) first.toArray caps.toArray)) (hv : E.evs args.toList = some vs) (h : FnP P f (first ++ vs ++ caps) w c Φ Ψ) (hd : Nat.blt d n = true) (k : ∀ v w', Φ v w' → WL P ops Q rest n ds ((d, v) :: E) w') (kp : ∀ w', Ψ w' → WQ Q (.panic c) n ds E w') :
    WL P ops Q (⟨some d, .call { callee := .value x, args := args, argTypes := ats }, ty, pos, after, none⟩ :: rest) n ds E w := l_getsP hd (g_callP hx hv h) k kp
/-- 'panic(x)', x an interface's value -/
theorem l_panic {x : Operand} {t : TypeId} {v : Value} (hx : E.ev x = some (.iface t v)) (h : WQ Q (.panic [{ v := .iface t v, recovered := false }]) n ds E w) : WL P ops Q (⟨none, .panic x, ty, pos, after, none⟩ :: rest) n ds E w := fun a ha => by
  unfold wpList
  rw [if_pos (show Region.wanted _ _ = true from rfl)]
  refine Or.inl ?_
  unfold Oper.wp
  have : (execOp a.eval ⟨none, .panic x, ty, pos, after, none⟩).run P w = .halt (.panic (.iface t v)) w := by
    simp [execOp, ha.ev hx, run_panic_iface, Result.andThen]
  rw [this]
  exact h a ha
theorem q_then_panic {N : Act → World → Prop} (h : WQ Q (.panic c) n ds E w) : WQ (Exit.then N Q) (.panic c) n ds E w := h
theorem q_block_panic {i : Nat} (h : WQ Q (.panic c) n ds E w) : WQ (Exit.inBlock i Q) (.panic c) n ds E w := h
end
section
variable {P : Program} {n : Nat} {E : Fr} {w : World} {c : List PanicEntry} {fn : Func} {Φ : Value → World → Prop} {Ψ : World → Prop} {v v1 v2 : Value}
theorem q_panicked (h : Ψ w) : WQ (bodyPost P fn (RP c Φ Ψ)) (.panic c) n [] E w := fun _ ha => ⟨ha.defers, Or.inr ⟨rfl, h⟩⟩
theorem q_rp {e : Exit} (he : e = .ret ∨ e = .normal) (h : WQ (bodyPost P fn (fun e w' => ∃ v, e = .returned v ∧ Φ v w')) e n [] E w) : WQ (bodyPost P fn (RP c Φ Ψ)) e n [] E w := fun a ha => by
  have h1 := h a ha
  rcases he with rfl | rfl
  · obtain ⟨h2, v, h3, h4⟩ := h1; exact ⟨h2, v, h3, Or.inl h4⟩
  · obtain ⟨h2, v, h3, h4⟩ := h1; exact ⟨h2, v, h3, Or.inl h4⟩
theorem q_pret0 (hr : ResL P E w fn.results.toList []) (hΦ : Φ (.tuple #[]) w) : WQ (bodyPost P fn (RP c Φ Ψ)) .ret n [] E w := q_rp (Or.inl rfl) (q_ret0 hr hΦ)
theorem q_pret1 (hr : ResL P E w fn.results.toList [v]) (hΦ : Φ v w) : WQ (bodyPost P fn (RP c Φ Ψ)) .ret n [] E w := q_rp (Or.inl rfl) (q_ret1 hr hΦ)
theorem q_pend0 (hr : ResL P E w fn.results.toList []) (hΦ : Φ (.tuple #[]) w) : WQ (bodyPost P fn (RP c Φ Ψ)) .normal n [] E w := q_rp (Or.inr rfl) (q_end0 hr hΦ)
theorem fnP_enter {f : FuncId} {c' : Code} {args : List Value} {m : Nat} (hok : CallOk P f fn) (hb : fn.body = some c') (hm : fn.ntmps = m) (hl : Nat.ble args.length m = true)
    (h : WC P c' (bodyPost P fn (RP c Φ Ψ)) m [] (argFr 0 args) w) : FnP P f args w c Φ Ψ := by
  refine ⟨⟨fn, hok⟩, calls_of_wp hok.at_ hb (h _ ⟨?_, rfl, fun t v ht => ?_⟩)⟩
  · have := Nat.le_of_ble_eq_true hl
    simp; omega
  · obtain ⟨_, h2⟩ := argFr_get ht
    have hlt := lt_of_getE h2
    rw [Nat.sub_zero] at h2 hlt
    rw [Array.getD_eq_getD_getElem?, Array.getElem?_append_left (by simpa using hlt)]
    simp [h2]
end
end Go.Proofs.Ytejnpppejalhfab
/- THE STEP CALCULUS, part 16: slices of strings; deferred closures; a panic that is caught. -/
namespace Go.Proofs.Ytejnpppejalhfab
open Go.RowKit Go.Sort

section
variable {P : Program} {n : Nat} {ds : List Deferred} {E : Fr} {w : World} {Q : Exit → Act → World → Prop} {ops : Array Oper} {rest : List Oper} {d : Nat} {dst : Option Nat} {op : Op} {ty : TypeId} {pos : String} {after : Array Edge} {T : Tab}
theorem str_extract (l : List UInt8) (a b : Nat) : (⟨l.toArray⟩ : ByteArray).extract a b = ⟨((l.drop a).take (b - a)).toArray⟩ := ByteArray.extract_mk l a b
theorem r_strFrom (hT : TabOk P T) {t sz : Nat} {z : Value} {x lo : Operand} {kk : IntKind} {l : List UInt8} {i : Int} (ht : T.get t = some (.sc .string sz z)) (hx : E.ev x = some (.string ⟨l.toArray⟩)) (hlo : E.ev lo = some (.int kk i)) (h0 : 0 ≤ i) (h1 : i ≤ l.length) : ∀ a, Has n ds a E → ∀ dst, Runs P ⟨dst, .slice t x (some lo) none none, ty, pos, after, none⟩ a (.string ⟨(l.drop i.toNat).toArray⟩) := fun a ha _ w => by
  obtain ⟨_, hu, _⟩ := hT.sc ht
  have hs : (⟨l.toArray⟩ : ByteArray).size = l.length := rfl
  simp only [execOp, ha.ev hx, Option.map_some, ha.ev hlo, Option.map_none]
  simp only [Sem.run_bind, run_sliceAt_string w t _ _ _ _ hu, run_slice_string_l w t ⟨l.toArray⟩ hu kk i h0 (by rw [hs]; exact h1), Result.andThen_ok, Sem.run_pure, str_extract, hs]
  rw [List.take_of_length_le (by simp)]
theorem r_strTo (hT : TabOk P T) {t sz : Nat} {z : Value} {x hi : Operand} {kk : IntKind} {l : List UInt8} {j : Int} (ht : T.get t = some (.sc .string sz z)) (hx : E.ev x = some (.string ⟨l.toArray⟩)) (hhi : E.ev hi = some (.int kk j)) (h0 : 0 ≤ j) (h1 : j ≤ l.length) : ∀ a, Has n ds a E → ∀ dst, Runs P ⟨dst, .slice t x none (some hi) none, ty, pos, after, none⟩ a (.string ⟨(l.take j.toNat).toArray⟩) := fun a ha _ w => by
  obtain ⟨_, hu, _⟩ := hT.sc ht
  have hs : (⟨l.toArray⟩ : ByteArray).size = l.length := rfl
  simp only [execOp, ha.ev hx, Option.map_some, ha.ev hhi, Option.map_none]
  simp only [Sem.run_bind, run_sliceAt_string w t _ _ _ _ hu, run_slice_string_h w t ⟨l.toArray⟩ hu kk j h0 (by rw [hs]; exact h1), Result.andThen_ok, Sem.run_pure, str_extract, List.drop_zero, Nat.sub_zero]
theorem r_strSub (hT : TabOk P T) {t sz : Nat} {z : Value} {x lo hi : Operand} {k1 k2 : IntKind} {l : List UInt8} {i j : Int} (ht : T.get t = some (.sc .string sz z)) (hx : E.ev x = some (.string ⟨l.toArray⟩)) (hlo : E.ev lo = some (.int k1 i)) (hhi : E.ev hi = some (.int k2 j)) (h0 : 0 ≤ i) (h1 : i ≤ j) (h2 : j ≤ l.length) : ∀ a, Has n ds a E → ∀ dst, Runs P ⟨dst, .slice t x (some lo) (some hi) none, ty, pos, after, none⟩ a (.string ⟨((l.drop i.toNat).take (j.toNat - i.toNat)).toArray⟩) := fun a ha _ w => by
  obtain ⟨_, hu, _⟩ := hT.sc ht
  have hs : (⟨l.toArray⟩ : ByteArray).size = l.length := rfl
  simp only [execOp, ha.ev hx, Option.map_some, ha.ev hlo, ha.ev hhi, Option.map_none]
  simp only [Sem.run_bind, run_sliceAt_string w t _ _ _ _ hu, run_slice_string w t ⟨l.toArray⟩ k1 k2 i j hu h0 h1 (by rw [hs]; exact h2), Result.andThen_ok, Sem.run_pure, str_extract]
theorem l_strFrom (hT : TabOk P T) {t sz : Nat} {z : Value} {x lo : Operand} {kk : IntKind} {l : List UInt8} {i : Int} (ht : T.get t = some (.sc .string sz z)) (hx : E.ev x = some (.string ⟨l.toArray⟩)) (hlo : E.ev lo = some (.int kk i)) (h0 : 0 ≤ i) (h1 : i ≤ l.length) (hd : Nat.blt d n = true) (k : WL P ops Q rest n ds ((d, .string ⟨(l.drop i.toNat).toArray⟩) :: E) w) : WL P ops Q (⟨some d, .slice t x (some lo) none none, ty, pos, after, none⟩ :: rest) n ds E w := l_runs (fun a ha => r_strFrom hT ht hx hlo h0 h1 a ha _) hd k
theorem l_strTo (hT : TabOk P T) {t sz : Nat} {z : Value} {x hi : Operand} {kk : IntKind} {l : List UInt8} {j : Int} (ht : T.get t = some (.sc .string sz z)) (hx : E.ev x = some (.string ⟨l.toArray⟩)) (hhi : E.ev hi = some (.int kk j)) (h0 : 0 ≤ j) (h1 : j ≤ l.length) (hd : Nat.blt d n = true) (k : WL P ops Q rest n ds ((d, .string ⟨(l.take j.toNat).toArray⟩) :: E) w) : WL P ops Q (⟨some d, .slice t x none (some hi) none, ty, pos, after, none⟩ :: rest) n ds E w := l_runs (fun a ha => r_strTo hT ht hx hhi h0 h1 a ha _) hd k
theorem l_strSub (hT : TabOk P T) {t sz : Nat} {z : Value} {x lo hi : Operand} {k1 k2 : IntKind} {l : List UInt8} {i j : Int} (ht : T.get t = some (.sc .string sz z)) (hx : E.ev x = some (.string ⟨l.toArray⟩)) (hlo : E.ev lo = some (.int k1 i)) (hhi : E.ev hi = some (.int k2 j)) (h0 : 0 ≤ i) (h1 : i ≤ j) (h2 : j ≤ l.length) (hd : Nat.blt d n = true) (k : WL P ops Q rest n ds ((d, .string ⟨((l.drop i.toNat).take (j.toNat - i.toNat)).toArray⟩) :: E) w) : WL P ops Q (⟨some d, .slice t x (some lo) (some hi) none, ty, pos, after, none⟩ :: rest) n ds E w := l_runs (fun a ha => r_strSub hT ht hx hlo hhi h0 h1 h2 a ha _) hd k
/-- 'defer f(..)', f a closure -/
theorem Has.defer {a : Act} (ha : Has n ds a E) (dd : Deferred) : Has n (dd :: ds) { a with defers := dd :: a.defers } E := ⟨ha.size, by rw [← ha.defers], ha.at_⟩
theorem l_defer {f : FuncId} {x : Operand} {args : Array Operand} {ats : Array TypeId} {vs : List Value} {first caps : List Value} (hx : E.ev x = some (.func (.func f) first.toArray caps.toArray)) (hv : E.evs args.toList = some vs)
    (k : WL P ops Q rest n ({ target := .fn (.func f) caps.toArray, args := (first ++ vs).toArray } :: ds) E w) : WL P ops Q (⟨none, .defer { callee := .value x, args := args, argTypes := ats }, ty, pos, after, none⟩ :: rest) n ds E w := fun a ha => by
  have e1 : args.map a.eval = vs.toArray := by rw [← ha.evs hv, ← Array.toList_map, Array.toArray_toList]
  unfold wpList
  rw [if_pos (show Region.wanted _ _ = true from rfl)]
  refine Or.inl ?_
  unfold Oper.wp
  have hr : (execOp a.eval ⟨none, .defer { callee := .value x, args := args, argTypes := ats }, ty, pos, after, none⟩).run P w = .ok (.defer { target := .fn (.func f) caps.toArray, args := (first ++ vs).toArray }) w := by
    simp only [execOp, resolve, ha.ev hx, Deferred.ofValue, Sem.run_bind, Sem.run_pure, Result.andThen_ok, e1]
    simp
  rw [hr]
  exact k _ (ha.defer _)
end
/-! a function that defers one closure -/
section
variable {P : Program} {n : Nat} {E : Fr} {w : World} {fn : Func} {Φ : Value → World → Prop}
def RV (Φ : Value → World → Prop) : Ending → World → Prop := fun e w' => ∃ v, e = .returned v ∧ Φ v w'
theorem fn_enterD {f : FuncId} {c : Code} {args : List Value} {m : Nat} (hok : CallOk P f fn) (hb : fn.body = some c) (hm : fn.ntmps = m) (hl : Nat.ble args.length m = true)
    (h : WC P c (bodyPostD P fn (RV Φ)) m [] (argFr 0 args) w) : Fn P f args w Φ := by
  refine ⟨⟨fn, hok⟩, calls_of_wp_defers hok.at_ hb (h _ ⟨?_, rfl, fun t v ht => ?_⟩)⟩
  · have := Nat.le_of_ble_eq_true hl
    simp; omega
  · obtain ⟨_, h2⟩ := argFr_get ht
    have hlt := lt_of_getE h2
    rw [Nat.sub_zero] at h2 hlt
    rw [Array.getD_eq_getD_getElem?, Array.getElem?_append_left (by simpa using hlt)]
    simp [h2]
theorem invoke_run {f : FuncId} {g : Func} (h : CallOk P f g) (caps args : Array Value) (w : World) : (invoke (.fn (.func f) caps) args).run P w = .ok (.enter f (args ++ caps)) w := by
  unfold invoke
  exact callFunc_run h _ w
/-- the closure's contract, called by a frame that returns -/
def DefR (P : Program) (f : FuncId) (args : List Value) (w : World) (Ψ : World → Prop) : Prop := (∃ g, CallOk P f g) ∧ CallsD P f args.toArray .returning w fun e u' w' => (∃ v, e = .returned v) ∧ u' = .returning ∧ Ψ w'
/-- .. by a frame that panics: the panic is caught -/
def DefP (P : Program) (f : FuncId) (args : List Value) (c : Value) (w : World) (Ψ : World → Prop) : Prop := (∃ g, CallOk P f g) ∧ CallsD P f args.toArray (.panicking [{ v := c, recovered := false }]) w fun e u' w' => (∃ v, e = .returned v) ∧ u' = .panicking [{ v := c, recovered := true }] ∧ Ψ w'
theorem results_of {rs : List ResultVar} {vs : List Value} {v : Value} {ds : List Deferred} (hrs : fn.results.toList = rs) (hr : ResL P E w rs vs) (hv : packL vs = v) {a : Act} (ha : Has n ds a E) : (results fn a.tmps).run P w = .ok v w := by
  have hb : Has n [] { a with defers := [] } E := ⟨ha.size, rfl, ha.at_⟩
  obtain ⟨_, v', h, u, e, e2⟩ := q_out (Φ := fun u _ => u = v) hrs hr hv rfl hb
  cases e
  subst e2
  exact h
theorem q_dret {f : FuncId} {args caps : Array Value} {Ψ : World → Prop} {e : Exit} (he : e = .ret ∨ e = .normal) (h : DefR P f (args ++ caps).toList w Ψ) (k : ∀ w', Ψ w' → ∃ vs v, ResL P E w' fn.results.toList vs ∧ packL vs = v ∧ Φ v w') : WQ (bodyPostD P fn (RV Φ)) e n [{ target := .fn (.func f) caps, args := args }] E w := fun a ha => by
  have key : Leaves P fn a.tmps (RV Φ) a.defers .returning w := by
    rw [ha.defers]
    obtain ⟨⟨g, hg⟩, hc⟩ := h
    refine leaves_cons (by simp) (invoke_run hg _ _ _) ?_
    rw [Array.toArray_toList] at hc
    refine hc.mono ?_
    rintro e u' w' ⟨⟨v, rfl⟩, rfl, hΨ⟩
    obtain ⟨vs, v, hr, hv, hΦ⟩ := k w' hΨ
    exact ⟨v, results_of rfl hr hv ha, v, rfl, hΦ⟩
  rcases he with rfl | rfl
  · exact key
  · exact key
theorem q_dpanic {f : FuncId} {args caps : Array Value} {c : Value} {Ψ : World → Prop} (h : DefP P f (args ++ caps).toList c w Ψ) (k : ∀ w', Ψ w' → ∃ vs v, ResL P E w' fn.results.toList vs ∧ packL vs = v ∧ Φ v w') : WQ (bodyPostD P fn (RV Φ)) (.panic [{ v := c, recovered := false }]) n [{ target := .fn (.func f) caps, args := args }] E w := fun a ha => by
  show Leaves P fn a.tmps (RV Φ) a.defers (.panicking [{ v := c, recovered := false }]) w
  rw [ha.defers]
  obtain ⟨⟨g, hg⟩, hc⟩ := h
  refine leaves_cons (by simp) (invoke_run hg _ _ _) ?_
  rw [Array.toArray_toList] at hc
  refine hc.mono ?_
  rintro e u' w' ⟨⟨v, rfl⟩, rfl, hΨ⟩
  obtain ⟨vs, v, hr, hv, hΦ⟩ := k w' hΨ
  exact ⟨v, results_of rfl hr hv ha, v, rfl, hΦ⟩
end
end Go.Proofs.Ytejnpppejalhfab
/- THE STEP CALCULUS, part 17: regions that draw their order: loads taken first, of cells that stay as they are till the operation q is carried out (which waits for them). -/
namespace Go.Proofs.Ytejnpppejalhfab
open Go.RowKit Go.Sort

section
variable {P : Program} {ops : Array Oper} {Q : Exit → Act → World → Prop} {S : World → Prop} {q : Nat}
/-- whatever order comes; S holds till q has come up -/
def wpTill (P : Program) (ops : Array Oper) (Q : Exit → Act → World → Prop) (S : World → Prop) (q : Nat) : Nat → Array Bool → Act → World → Prop
  | 0, li, a, w => Region.ready .any ops li = [] ∧ Q .normal a w
  | fuel + 1, li, a, w => (Region.ready .any ops li = [] → Q .normal a w) ∧ ∀ i ∈ Region.ready .any ops li, wpOp P ops Q i (fun a' w' => (i = q ∨ li.getD q false = true ∨ S w') ∧ wpTill P ops Q S q fuel (li.setIfInBounds i true) a' w') a w
theorem till_any : ∀ (fuel : Nat) (li : Array Bool) (a : Act) (w : World), wpTill P ops Q S q fuel li a w → wpAny P .any ops Q fuel li a w
  | 0, _, _, _, h => h
  | fuel + 1, _, _, _, h => ⟨h.1, fun i hi => wpOp_mono (fun a' w' h' => till_any fuel _ a' w' h'.2) (h.2 i hi)⟩
theorem till_first {i : Nat} {oi oq : Oper} {v : Value} (hi : ops[i]? = some oi) (hsel : ∀ (j : Nat) (o : Oper) cs b, ops[j]? = some o → o.op ≠ .select cs b)
    (hQ : ∀ c a w, Q (.panic c) (a.put oi.dst v) w → Q (.panic c) a w) (hoq : ops[q]? = some oq) (hq : ∃ e ∈ oq.after, Region.binds .any e = true ∧ e.on = i) (hqi : q ≠ i) :
    ∀ (fuel : Nat) (li : Array Bool) (a : Act) (w : World),
      (∀ j oj, ops[j]? = some oj → j ≠ i → li.getD j true = false → (∀ e ∈ oj.after, Region.binds .any e = true → e.on ≠ i) → oi.apart ops oj = true) →
      i ∈ Region.ready .any ops li → li.getD q false = false → YieldsIf P ops S oi v a → S w →
      wpTill P ops Q S q fuel (li.setIfInBounds i true) (a.put oi.dst v) w → wpTill P ops Q S q (fuel + 1) li a w := by
  intro fuel
  have step : ∀ (li : Array Bool) (j : Nat), i ∈ Region.ready .any ops li → j ∈ Region.ready .any ops li → ∀ oj, ops[j]? = some oj → ∀ e ∈ oj.after, Region.binds .any e = true → e.on ≠ i := by
    intro li j hr hj oj hoj e he hb heq
    obtain ⟨_, o, ho, hall⟩ := mem_ready.1 hj
    rw [hoj] at ho
    cases ho
    have h1 := hall e he hb
    have h0 := (mem_ready.1 hr).1
    rw [heq] at h1
    rcases Nat.lt_or_ge i li.size with h' | h'
    · simp [h'] at h0 h1; rw [h0] at h1; cases h1
    · simp [Array.getElem?_eq_none h'] at h1
  have notq : ∀ (li : Array Bool) (j : Nat), i ∈ Region.ready .any ops li → j ∈ Region.ready .any ops li → j ≠ q := by
    rintro li j hr hj rfl
    obtain ⟨e, he, hb, heq⟩ := hq
    exact step li _ hr hj oq hoq e he hb heq
  induction fuel with
  | zero =>
    intro li a w _ hr hnq hy hS H
    refine ⟨fun h => (by rw [h] at hr; cases hr), fun j hj => ?_⟩
    by_cases hji : j = i
    · subst hji; exact hy.wpOp hi hS ⟨Or.inr (Or.inr hS), H⟩
    · have := ready_mono hj hji
      rw [H.1] at this
      cases this
  | succ fuel ih =>
    intro li a w hfree hr hnq hy hS H
    refine ⟨fun h => (by rw [h] at hr; cases hr), fun j hj => ?_⟩
    by_cases hji : j = i
    · subst hji; exact hy.wpOp hi hS ⟨Or.inr (Or.inr hS), H⟩
    · have hjq := notq li j hr hj
      have h1 := H.2 j (ready_mono hj hji)
      obtain ⟨hjun, oj, hoj, _⟩ := mem_ready.1 hj
      have h2 := wpOp_putIf hoj (hfree j oj hoj hji hjun (step li j hr hj oj hoj)) (fun cs b => hsel i oi cs b hi) (fun cs b => hsel j oj cs b hoj) hQ hy h1
      have hfree' : ∀ k ok, ops[k]? = some ok → k ≠ i → (li.setIfInBounds j true).getD k true = false →
          (∀ e ∈ ok.after, Region.binds .any e = true → e.on ≠ i) → oi.apart ops ok = true := fun k ok hk hki hun hno => by
        refine hfree k ok hk hki ?_ hno
        by_cases hjk : j = k
        · subst hjk; exact hjun
        · rw [getD_set_ne true hjk] at hun; exact hun
      have hnq' : (li.setIfInBounds j true).getD q false = false := by rw [getD_set_ne false hjq]; exact hnq
      have hnq2 : (li.setIfInBounds i true).getD q false = false := by rw [getD_set_ne false (Ne.symm hqi)]; exact hnq
      refine wpOp_mono (fun a' w' h3 => ?_) h2
      have hS' : S w' := by
        rcases h3.2.1 with h | h | h
        · exact (hjq h).elim
        · rw [hnq2] at h; cases h
        · exact h
      refine ⟨Or.inr (Or.inr hS'), ih (li.setIfInBounds j true) a' w' hfree' (ready_mono hr (Ne.symm hji)) hnq' h3.1 hS' ?_⟩
      rw [Array.setIfInBounds_comm _ _ hji]
      exact h3.2.2
/-- .. that yields in whatever world: nothing need wait for it -/
theorem till_pure {i : Nat} {oi : Oper} {v : Value} (hi : ops[i]? = some oi) (hsel : ∀ (j : Nat) (o : Oper) cs b, ops[j]? = some o → o.op ≠ .select cs b)
    (hQ : ∀ c a w, Q (.panic c) (a.put oi.dst v) w → Q (.panic c) a w) (hqi : q ≠ i) :
    ∀ (fuel : Nat) (li : Array Bool) (a : Act) (w : World),
      (∀ j oj, ops[j]? = some oj → j ≠ i → li.getD j true = false → (∀ e ∈ oj.after, Region.binds .any e = true → e.on ≠ i) → oi.apart ops oj = true) →
      i ∈ Region.ready .any ops li → (li.getD q false = true ∨ S w) → YieldsIf P ops (fun _ => True) oi v a →
      wpTill P ops Q S q fuel (li.setIfInBounds i true) (a.put oi.dst v) w → wpTill P ops Q S q (fuel + 1) li a w := by
  intro fuel
  have step : ∀ (li : Array Bool) (j : Nat), i ∈ Region.ready .any ops li → j ∈ Region.ready .any ops li → ∀ oj, ops[j]? = some oj → ∀ e ∈ oj.after, Region.binds .any e = true → e.on ≠ i := by
    intro li j hr hj oj hoj e he hb heq
    obtain ⟨_, o, ho, hall⟩ := mem_ready.1 hj
    rw [hoj] at ho
    cases ho
    have h1 := hall e he hb
    have h0 := (mem_ready.1 hr).1
    rw [heq] at h1
    rcases Nat.lt_or_ge i li.size with h' | h'
    · simp [h'] at h0 h1; rw [h0] at h1; cases h1
    · simp [Array.getElem?_eq_none h'] at h1
  induction fuel with
  | zero =>
    intro li a w _ hr hS hy H
    refine ⟨fun h => (by rw [h] at hr; cases hr), fun j hj => ?_⟩
    by_cases hji : j = i
    · subst hji; exact hy.wpOp hi trivial ⟨Or.inr hS, H⟩
    · have := ready_mono hj hji
      rw [H.1] at this
      cases this
  | succ fuel ih =>
    intro li a w hfree hr hS hy H
    refine ⟨fun h => (by rw [h] at hr; cases hr), fun j hj => ?_⟩
    by_cases hji : j = i
    · subst hji; exact hy.wpOp hi trivial ⟨Or.inr hS, H⟩
    · have h1 := H.2 j (ready_mono hj hji)
      obtain ⟨hjun, oj, hoj, _⟩ := mem_ready.1 hj
      have h2 := wpOp_putIf hoj (hfree j oj hoj hji hjun (step li j hr hj oj hoj)) (fun cs b => hsel i oi cs b hi) (fun cs b => hsel j oj cs b hoj) hQ hy h1
      have hfree' : ∀ k ok, ops[k]? = some ok → k ≠ i → (li.setIfInBounds j true).getD k true = false →
          (∀ e ∈ ok.after, Region.binds .any e = true → e.on ≠ i) → oi.apart ops ok = true := fun k ok hk hki hun hno => by
        refine hfree k ok hk hki ?_ hno
        by_cases hjk : j = k
        · subst hjk; exact hjun
        · rw [getD_set_ne true hjk] at hun; exact hun
      refine wpOp_mono (fun a' w' h3 => ?_) h2
      have hS' : j = q ∨ li.getD q false = true ∨ S w' := by
        rcases h3.2.1 with h | h | h
        · exact Or.inl h
        · rw [getD_set_ne false (Ne.symm hqi)] at h; exact Or.inr (Or.inl h)
        · exact Or.inr (Or.inr h)
      have hS2 : (li.setIfInBounds j true).getD q false = true ∨ S w' := by
        rcases hS' with h | h | h
        · left
          subst h
          have hjl : j < li.size := by
            rcases Nat.lt_or_ge j li.size with h' | h'
            · exact h'
            · simp [Array.getElem?_eq_none h'] at hjun
          simp [hjl]
        · exact Or.inl (getD_set_true h)
        · exact Or.inr h
      refine ⟨hS', ih (li.setIfInBounds j true) a' w' hfree' (ready_mono hr (Ne.symm hji)) hS2 h3.1 ?_⟩
      rw [Array.setIfInBounds_comm _ _ hji]
      exact h3.2.2
end
section
variable {P : Program} {n : Nat} {ds : List Deferred} {E : Fr} {w : World} {Q : Exit → Act → World → Prop} {ops : Array Oper} {S : World → Prop} {q fuel : Nat} {li : Array Bool} {d : Nat} {op : Op} {ty : TypeId} {pos : String} {after : Array Edge} {F : Nat → Prop} {w0 : World} {Γ : List Asr} {T : Tab} {c : List PanicEntry}
def WT (P : Program) (ops : Array Oper) (Q : Exit → Act → World → Prop) (S : World → Prop) (q fuel : Nat) (li : Array Bool) (n : Nat) (ds : List Deferred) (E : Fr) (w : World) : Prop := ∀ a, Has n ds a E → wpTill P ops Q S q fuel li a w
def WP (P : Program) (ops : Array Oper) (Q : Exit → Act → World → Prop) (S : World → Prop) (q fuel : Nat) (li : Array Bool) (n : Nat) (ds : List Deferred) (E : Fr) (w : World) (i : Nat) : Prop := ∀ a, Has n ds a E → wpOp P ops Q i (fun a' w' => (i = q ∨ li.getD q false = true ∨ S w') ∧ wpTill P ops Q S q fuel (li.setIfInBounds i true) a' w') a w
theorem c_till (S : World → Prop) (q : Nat) {id : Nat} {l : List Oper} (m : Nat) (hl : l.length = m) (hS : St F w0 w Γ) (hm : P.follows .mixedOrders = true) (h : ∀ w1, St F w0 w1 Γ → WT P l.toArray Q S q m (Array.replicate m false) n ds E w1) : WC P (.region id l.toArray true) Q n ds E w := fun a ha => by
  subst hl
  exact wp_region_any hm (till_any _ _ _ _ (h { w with drawn := w.drawn + 1 } (hS.grow ⟨rfl, rfl, rfl, Nat.le_refl _, fun _ _ _ => rfl⟩) a ha))
/-- 'q waits for i', as the kernel reckons it -/
def waitsB (ops : Array Oper) (q i : Nat) : Bool := match ops[q]? with
  | some o => o.after.toList.any (fun e => Region.binds .any e && Nat.beq e.on i)
  | none => false
theorem waits_of {q i : Nat} (h : waitsB ops q i = true) : ∃ oq, ops[q]? = some oq ∧ ∃ e ∈ oq.after, Region.binds .any e = true ∧ e.on = i := by
  unfold waitsB at h
  split at h
  · rename_i o ho
    obtain ⟨e, he, h2⟩ := List.any_eq_true.1 h
    simp only [Bool.and_eq_true] at h2
    exact ⟨o, ho, e, by simpa using he, h2.1, Nat.eq_of_beq_eq_true h2.2⟩
  · cases h
theorem t_take (i : Nat) {v : Value} (hT : TabOk P T) (hi : ops[i]? = some ⟨some d, op, ty, pos, after, none⟩) (hs : Region.noSelect ops = true) (hf : Region.free .any ops li i = true) (hr : (Region.ready .any ops li).contains i = true) (hw : waitsB ops q i = true) (hqi : Nat.beq q i = false) (hnq : li.getD q false = false)
    (hQ : ∀ c (a : Act) w, Q (.panic c) (a.put (some d) v) w → Q (.panic c) a w) (hS : S w) (hv : pureOp T E op = some v) (hd : Nat.blt d n = true) (k : WT P ops Q S q fuel (li.setIfInBounds i true) n ds ((d, v) :: E) w) : WT P ops Q S q (fuel + 1) li n ds E w := fun a ha => by
  obtain ⟨oq, hoq, hq⟩ := waits_of hw
  exact till_first hi (Region.noSelect_spec hs) hQ hoq hq (fun e => by subst e; rw [Nat.beq_refl] at hqi; cases hqi) fuel li a w (Region.free_spec hi hf) (by simpa using hr) hnq (Or.inl ⟨rfl, fun w _ => pureOp_runs hT ha hv w⟩) hS (k _ (ha.put d v hd))
theorem t_takeL (i : Nat) {t : TypeId} {x : Operand} {p : Addr} {v : Value} (hi : ops[i]? = some ⟨some d, .load t x, ty, pos, after, none⟩) (hs : Region.noSelect ops = true) (hf : Region.free .any ops li i = true) (hr : (Region.ready .any ops li).contains i = true) (hw : waitsB ops q i = true) (hqi : Nat.beq q i = false) (hnq : li.getD q false = false)
    (hQ : ∀ c (a : Act) w, Q (.panic c) (a.put (some d) v) w → Q (.panic c) a w) (hS : S w) (hx : E.ev x = some (.pointer (some p))) (hl : ∀ w, S w → Loads P t p v w) (hd : Nat.blt d n = true) (k : WT P ops Q S q fuel (li.setIfInBounds i true) n ds ((d, v) :: E) w) : WT P ops Q S q (fuel + 1) li n ds E w := fun a ha => by
  obtain ⟨oq, hoq, hq⟩ := waits_of hw
  refine till_first hi (Region.noSelect_spec hs) hQ hoq hq (fun e => by subst e; rw [Nat.beq_refl] at hqi; cases hqi) fuel li a w (Region.free_spec hi hf) (by simpa using hr) hnq (Or.inl ⟨rfl, fun w hw => ?_⟩) hS (k _ (ha.put d v hd))
  have h := hl w hw
  unfold Loads at h
  simp only [execOp, ha.ev hx, Instr.loadAt, Instr.sureAddr, Sem.run_bind, Sem.run_pure, Result.andThen_ok, h]
theorem t_pure (i : Nat) {v : Value} (hT : TabOk P T) (hi : ops[i]? = some ⟨some d, op, ty, pos, after, none⟩) (hs : Region.noSelect ops = true) (hf : Region.free .any ops li i = true) (hr : (Region.ready .any ops li).contains i = true) (hqi : Nat.beq q i = false)
    (hQ : ∀ c (a : Act) w, Q (.panic c) (a.put (some d) v) w → Q (.panic c) a w) (hS : li.getD q false = true ∨ S w) (hv : pureOp T E op = some v) (hd : Nat.blt d n = true) (k : WT P ops Q S q fuel (li.setIfInBounds i true) n ds ((d, v) :: E) w) : WT P ops Q S q (fuel + 1) li n ds E w := fun a ha =>
  till_pure hi (Region.noSelect_spec hs) hQ (fun e => by subst e; rw [Nat.beq_refl] at hqi; cases hqi) fuel li a w (Region.free_spec hi hf) (by simpa using hr) hS (Or.inl ⟨rfl, fun w _ => pureOp_runs hT ha hv w⟩) (k _ (ha.put d v hd))
theorem t_one {i : Nat} (hr : Region.ready .any ops li = [i]) (h : WP P ops Q S q fuel li n ds E w i) : WT P ops Q S q (fuel + 1) li n ds E w := fun a ha =>
  ⟨fun h0 => (by rw [hr] at h0; cases h0), fun j hj => by
    rw [hr] at hj
    have : j = i := by simpa using hj
    subst this
    exact h a ha⟩
theorem t_two {i j : Nat} (hr : Region.ready .any ops li = [i, j]) (h1 : WP P ops Q S q fuel li n ds E w i) (h2 : WP P ops Q S q fuel li n ds E w j) : WT P ops Q S q (fuel + 1) li n ds E w := fun a ha =>
  ⟨fun h0 => (by rw [hr] at h0; cases h0), fun k hk => by
    rw [hr] at hk
    have : k = i ∨ k = j := by simpa using hk
    rcases this with rfl | rfl
    · exact h1 a ha
    · exact h2 a ha⟩
theorem t_done (hr : Region.ready .any ops li = []) (h : WQ Q .normal n ds E w) : WT P ops Q S q fuel li n ds E w := fun a ha => by
  cases fuel with
  | zero => exact ⟨hr, h a ha⟩
  | succ f => exact ⟨fun _ => h a ha, by rw [hr]; simp⟩
theorem p_gets {i : Nat} {Φ : Value → World → Prop} (hi : ops[i]? = some ⟨some d, op, ty, pos, after, none⟩) (h : Gets P ⟨some d, op, ty, pos, after, none⟩ n ds E w Φ) (hd : Nat.blt d n = true) (k : ∀ v w', Φ v w' → (i = q ∨ li.getD q false = true ∨ S w') ∧ WT P ops Q S q fuel (li.setIfInBounds i true) n ds ((d, v) :: E) w') : WP P ops Q S q fuel li n ds E w i := fun a ha => by
  unfold wpOp
  simp only [hi]
  rw [if_pos (show Region.wanted _ _ = true from rfl)]
  exact Or.inl (h a ha _ _ fun v w' hv => ⟨(k v w' hv).1, (k v w' hv).2 _ (ha.put d v hd)⟩)
theorem p_gets0 {i : Nat} {Φ : Value → World → Prop} (hi : ops[i]? = some ⟨none, op, ty, pos, after, none⟩) (h : Gets P ⟨none, op, ty, pos, after, none⟩ n ds E w Φ) (k : ∀ v w', Φ v w' → (i = q ∨ li.getD q false = true ∨ S w') ∧ WT P ops Q S q fuel (li.setIfInBounds i true) n ds E w') : WP P ops Q S q fuel li n ds E w i := fun a ha => by
  unfold wpOp
  simp only [hi]
  rw [if_pos (show Region.wanted _ _ = true from rfl)]
  exact Or.inl (h a ha _ _ fun v w' hv => ⟨(k v w' hv).1, (k v w' hv).2 _ ha⟩)
/-- .. that may panic -/
theorem p_getsP {i : Nat} {Φ : Value → World → Prop} {Ψ : World → Prop} (hi : ops[i]? = some ⟨some d, op, ty, pos, after, none⟩) (h : GetsP P ⟨some d, op, ty, pos, after, none⟩ n ds E w c Φ Ψ) (hd : Nat.blt d n = true) (k : ∀ v w', Φ v w' → (i = q ∨ li.getD q false = true ∨ S w') ∧ WT P ops Q S q fuel (li.setIfInBounds i true) n ds ((d, v) :: E) w') (kp : ∀ w', Ψ w' → WQ Q (.panic c) n ds E w') : WP P ops Q S q fuel li n ds E w i := fun a ha => by
  unfold wpOp
  simp only [hi]
  rw [if_pos (show Region.wanted _ _ = true from rfl)]
  exact Or.inl (h a ha _ _ (fun v w' hv => ⟨(k v w' hv).1, (k v w' hv).2 _ (ha.put d v hd)⟩) (fun w' hw => kp w' hw a ha))
end
end Go.Proofs.Ytejnpppejalhfab
/- THE STEP CALCULUS, part 18: interfaces' values; small rules. -/
namespace Go.Proofs.Ytejnpppejalhfab
open Go.RowKit Go.Sort

section
variable {P : Program} {n : Nat} {ds : List Deferred} {E : Fr} {w : World} {Q : Exit → Act → World → Prop} {ops : Array Oper} {rest : List Oper} {d : Nat} {dst : Option Nat} {op : Op} {ty : TypeId} {pos : String} {after : Array Edge} {T : Tab}
theorem l_iface {t : TypeId} {x : Operand} {v : Value} (hc : P.concrete t = true) (hx : E.ev x = some v) (hd : Nat.blt d n = true) (k : WL P ops Q rest n ds ((d, .iface t v) :: E) w) : WL P ops Q (⟨some d, .makeInterface t x, ty, pos, after, none⟩ :: rest) n ds E w :=
  l_runs (v := .iface t v) (fun a ha w => by
    simp only [execOp, ha.ev hx, Sem.run_bind, run_makeInterface w t v hc, Result.andThen_ok, Sem.run_pure]) hd k
/-- a call that may panic, of Φ and Ψ told in one -/
theorem FnP.of_enter {f : FuncId} {fn : Func} {c' : Code} {args : List Value} {m : Nat} {c : List PanicEntry} {Φ : Value → World → Prop} {Ψ : World → Prop} (hok : CallOk P f fn) (hb : fn.body = some c') (hm : fn.ntmps = m) (hl : Nat.ble args.length m = true)
    (h : WC P c' (bodyPost P fn (RP c Φ Ψ)) m [] (argFr 0 args) w) : FnP P f args w c Φ Ψ := fnP_enter hok hb hm hl h
/-- as l_callP, the panic first -/
theorem l_callQ {f : FuncId} {x : Operand} {args : Array Operand} {ats : Array TypeId} {vs : List Value} {first caps : List Value} {c : List PanicEntry} {Φ : Value → World → Prop} {Ψ : World → Prop} (hx : E.ev x = some (.func (.func f) first.toArray caps.toArray)) (hv : E.evs args.toList = some vs) (h : FnP P f (first ++ vs ++ caps) w c Φ Ψ) (hd : Nat.blt d n = true) (kp : ∀ w', Ψ w' → WQ Q (.panic c) n ds E w') (k : ∀ v w', Φ v w' → WL P ops Q rest n ds ((d, v) :: E) w') :
    WL P ops Q (⟨some d, .call { callee := .value x, args := args, argTypes := ats }, ty, pos, after, none⟩ :: rest) n ds E w := l_callP hx hv h hd k kp
end
section
variable {P : Program} {n : Nat} {ds : List Deferred} {E : Fr} {w : World} {Q : Exit → Act → World → Prop} {ops : Array Oper} {S : World → Prop} {q fuel : Nat} {li : Array Bool} {d : Nat} {op : Op} {ty : TypeId} {pos : String} {after : Array Edge} {T : Tab}
theorem p_build {i : Nat} (hT : TabOk P T) {t s : Nat} {fs : List (Nat × Nat × Bool)} {z L : List Value} {parts : Array (Nat × Operand)} {ps : List (Nat × Value)} (hi : ops[i]? = some ⟨some d, .build t parts, ty, pos, after, none⟩) (ht : T.get t = some (.st s fs z)) (hp : evP E parts.toList = some ps) (hL : fillL (fun i => (fs[i]?).map fun f => (f.1, f.2.1)) z ps = some L) (hd : Nat.blt d n = true)
    (k : (i = q ∨ li.getD q false = true ∨ S w) ∧ WT P ops Q S q fuel (li.setIfInBounds i true) n ds ((d, .agg L.toArray) :: E) w) : WP P ops Q S q fuel li n ds E w i :=
  p_gets hi (Gets.of_runs (fun _ ha => r_build hT ht hp hL _ ha)) hd (by rintro _ _ ⟨rfl, rfl⟩; exact k)
/-- .. behind a guard that is met -/
theorem p_getsG {i j dj : Nat} {want b : Bool} {oj : Oper} {op : Op} {Φ : Value → World → Prop} (hi : ops[i]? = some ⟨some d, op, ty, pos, after, some (j, want)⟩) (hj : ops[j]? = some oj) (hdj : oj.dst = some dj) (hlt : Nat.blt dj n = true) (hb : E.get dj = some (.bool b)) (he : b = want)
    (h : Gets P ⟨some d, op, ty, pos, after, none⟩ n ds E w Φ) (hd : Nat.blt d n = true) (k : ∀ v w', Φ v w' → (i = q ∨ li.getD q false = true ∨ S w') ∧ WT P ops Q S q fuel (li.setIfInBounds i true) n ds ((d, v) :: E) w') : WP P ops Q S q fuel li n ds E w i := fun a ha => by
  have hw := wanted_of (o := ⟨some d, op, ty, pos, after, some (j, want)⟩) rfl hj hdj hb ha hlt
  unfold wpOp
  simp only [hi]
  rw [if_pos (by rw [hw, he]; cases want <;> rfl)]
  have h' := h a ha (fun a' w' => (i = q ∨ li.getD q false = true ∨ S w') ∧ wpTill P ops Q S q fuel (li.setIfInBounds i true) a' w') Q (fun v w' hv => ⟨(k v w' hv).1, (k v w' hv).2 _ (ha.put d v hd)⟩)
  exact Or.inl h'
theorem Gets.pure {dst : Option Nat} {op : Op} {v : Value} (hT : TabOk P T) (hv : pureOp T E op = some v) : Gets P ⟨dst, op, ty, pos, after, none⟩ n ds E w (fun v' w' => v' = v ∧ w' = w) := Gets.of_runs fun _ ha => pureOp_runs hT ha hv
theorem Gets.pick1 {dst : Option Nat} {c x y : Operand} {b : Bool} {v : Value} (hc : E.ev c = some (.bool b)) (hb : b = true) (hv : E.ev x = some v) : Gets P ⟨dst, .pick c x y, ty, pos, after, none⟩ n ds E w (fun v' w' => v' = v ∧ w' = w) := Gets.of_runs fun a ha w => by simp [execOp, ha.ev hc, asBool, hb, ha.ev hv]
theorem Gets.pick2 {dst : Option Nat} {c x y : Operand} {b : Bool} {v : Value} (hc : E.ev c = some (.bool b)) (hb : b = false) (hv : E.ev y = some v) : Gets P ⟨dst, .pick c x y, ty, pos, after, none⟩ n ds E w (fun v' w' => v' = v ∧ w' = w) := Gets.of_runs fun a ha w => by simp [execOp, ha.ev hc, asBool, hb, ha.ev hv]
theorem Gets.build {dst : Option Nat} (hT : TabOk P T) {t s : Nat} {fs : List (Nat × Nat × Bool)} {z L : List Value} {parts : Array (Nat × Operand)} {ps : List (Nat × Value)} (ht : T.get t = some (.st s fs z)) (hp : evP E parts.toList = some ps) (hL : fillL (fun i => (fs[i]?).map fun f => (f.1, f.2.1)) z ps = some L) : Gets P ⟨dst, .build t parts, ty, pos, after, none⟩ n ds E w (fun v' w' => v' = .agg L.toArray ∧ w' = w) := Gets.of_runs fun _ ha => r_build hT ht hp hL _ ha
/-- what a region's operation yields, with or without a guard, where S is nothing -/
theorem w_one {i : Nat} {v : Value} (hr : Region.ready .any ops li = [i]) (hi : ops[i]? = some ⟨some d, op, ty, pos, after, none⟩) (h : Gets P ⟨some d, op, ty, pos, after, none⟩ n ds E w (fun v' w' => v' = v ∧ w' = w)) (hd : Nat.blt d n = true) (k : WT P ops Q (fun _ => True) q fuel (li.setIfInBounds i true) n ds ((d, v) :: E) w) : WT P ops Q (fun _ => True) q (fuel + 1) li n ds E w :=
  t_one hr (p_gets hi h hd (by rintro _ _ ⟨rfl, rfl⟩; exact ⟨Or.inr (Or.inr trivial), k⟩))
theorem w_oneG {i j dj : Nat} {v : Value} {want b : Bool} {oj : Oper} (hr : Region.ready .any ops li = [i]) (hi : ops[i]? = some ⟨some d, op, ty, pos, after, some (j, want)⟩) (hj : ops[j]? = some oj) (hdj : oj.dst = some dj) (hlt : Nat.blt dj n = true) (hb : E.get dj = some (.bool b)) (he : b = want) (h : Gets P ⟨some d, op, ty, pos, after, none⟩ n ds E w (fun v' w' => v' = v ∧ w' = w)) (hd : Nat.blt d n = true) (k : WT P ops Q (fun _ => True) q fuel (li.setIfInBounds i true) n ds ((d, v) :: E) w) : WT P ops Q (fun _ => True) q (fuel + 1) li n ds E w :=
  t_one hr (p_getsG hi hj hdj hlt hb he h hd (by rintro _ _ ⟨rfl, rfl⟩; exact ⟨Or.inr (Or.inr trivial), k⟩))
theorem w_call {i : Nat} {Φ : Value → World → Prop} {f : FuncId} {x : Operand} {args : Array Operand} {ats : Array TypeId} {vs : List Value} {first caps : List Value} (hr : Region.ready .any ops li = [i]) (hi : ops[i]? = some ⟨some d, .call { callee := .value x, args := args, argTypes := ats }, ty, pos, after, none⟩) (hx : E.ev x = some (.func (.func f) first.toArray caps.toArray)) (hv : E.evs args.toList = some vs) (h : Fn P f (first ++ vs ++ caps) w Φ) (hd : Nat.blt d n = true) (k : ∀ v w', Φ v w' → WT P ops Q (fun _ => True) q fuel (li.setIfInBounds i true) n ds ((d, v) :: E) w') : WT P ops Q (fun _ => True) q (fuel + 1) li n ds E w :=
  t_one hr (p_gets hi (g_call hx hv h) hd (fun v w' hv => ⟨Or.inr (Or.inr trivial), k v w' hv⟩))
theorem w_callG {i j dj : Nat} {want b : Bool} {oj : Oper} {Φ : Value → World → Prop} {f : FuncId} {x : Operand} {args : Array Operand} {ats : Array TypeId} {vs : List Value} {first caps : List Value} (hr : Region.ready .any ops li = [i]) (hi : ops[i]? = some ⟨some d, .call { callee := .value x, args := args, argTypes := ats }, ty, pos, after, some (j, want)⟩) (hj : ops[j]? = some oj) (hdj : oj.dst = some dj) (hlt : Nat.blt dj n = true) (hb : E.get dj = some (.bool b)) (he : b = want) (hx : E.ev x = some (.func (.func f) first.toArray caps.toArray)) (hv : E.evs args.toList = some vs) (h : Fn P f (first ++ vs ++ caps) w Φ) (hd : Nat.blt d n = true) (k : ∀ v w', Φ v w' → WT P ops Q (fun _ => True) q fuel (li.setIfInBounds i true) n ds ((d, v) :: E) w') : WT P ops Q (fun _ => True) q (fuel + 1) li n ds E w :=
  t_one hr (p_getsG hi hj hdj hlt hb he (g_call hx hv h) hd (fun v w' hv => ⟨Or.inr (Or.inr trivial), k v w' hv⟩))
/-- a load (i) and a call (j), in either order -/
theorem w_loadcall {i j gi di dj : Nat} {want b : Bool} {oj : Oper} {t : TypeId} {x : Operand} {p : Addr} {u : Value} {ty' : TypeId} {pos' : String} {after' : Array Edge} {Φ : Value → World → Prop} {f : FuncId} {y : Operand} {args : Array Operand} {ats : Array TypeId} {vs : List Value} {first caps : List Value} (hr : Region.ready .any ops li = [i, j])
    (hi : ops[i]? = some ⟨some d, .load t x, ty, pos, after, some (gi, want)⟩) (hj : ops[j]? = some ⟨some di, .call { callee := .value y, args := args, argTypes := ats }, ty', pos', after', some (gi, want)⟩) (hg : ops[gi]? = some oj) (hdj : oj.dst = some dj) (hlt : Nat.blt dj n = true) (hb : E.get dj = some (.bool b)) (he : b = want) (hx : E.ev x = some (.pointer (some p))) (hl : Loads P t p u w) (hl2 : ∀ v w', Φ v w' → Loads P t p u w')
    (hy : E.ev y = some (.func (.func f) first.toArray caps.toArray)) (hv : E.evs args.toList = some vs) (h : Fn P f (first ++ vs ++ caps) w Φ) (hd : Nat.blt d n = true) (hdi : Nat.blt di n = true) (hne : Nat.beq d di = false) (hned : Nat.beq d dj = false) (hnei : Nat.beq di dj = false)
    (hr1 : Region.ready .any ops (li.setIfInBounds i true) = [j]) (hr2 : Region.ready .any ops (li.setIfInBounds j true) = [i]) (hlli : (li.setIfInBounds j true).setIfInBounds i true = (li.setIfInBounds i true).setIfInBounds j true) (hxE : ∀ v, Fr.ev ((di, v) :: E) x = E.ev x) (hyE : ∀ v, Fr.ev ((d, v) :: E) y = E.ev y) (hvE : ∀ v, Fr.evs ((d, v) :: E) args.toList = E.evs args.toList)
    (k : ∀ v w', Φ v w' → WT P ops Q (fun _ => True) q fuel ((li.setIfInBounds i true).setIfInBounds j true) n ds ((di, v) :: (d, u) :: E) w') : WT P ops Q (fun _ => True) q (fuel + 2) li n ds E w := by
  refine t_two hr ?_ ?_
  · refine p_getsG hi hg hdj hlt hb he (g_load hx hl) hd ?_
    rintro _ _ ⟨rfl, rfl⟩
    refine ⟨Or.inr (Or.inr trivial), t_one hr1 (p_getsG hj hg hdj hlt (by simp only [Fr.get, hned, cond_false]; exact hb) he (g_call ((hyE _).trans hy) ((hvE _).trans hv) h) hdi fun v w' hv' => ⟨Or.inr (Or.inr trivial), k v w' hv'⟩)⟩
  · refine p_getsG hj hg hdj hlt hb he (g_call hy hv h) hdi fun v w' hv' => ⟨Or.inr (Or.inr trivial), t_one hr2 (p_getsG hi hg hdj hlt (by simp only [Fr.get, hnei, cond_false]; exact hb) he (g_load ((hxE _).trans hx) (hl2 v w' hv')) hd ?_)⟩
    intro v2 w2 ⟨e1, e2⟩
    rw [e1, e2]
    refine ⟨Or.inr (Or.inr trivial), ?_⟩
    rw [hlli]
    intro a ha
    refine k v w' hv' a ⟨ha.size, ha.defers, fun t v' ht => ha.at_ t v' ?_⟩
    simp only [Fr.get] at ht ⊢
    by_cases h1 : di = t
    · subst h1
      rw [hne]
      simpa using ht
    · rw [beqF h1] at ht ⊢
      simpa using ht
end
theorem Sl.nil0 (w : World) (sz : Nat) : Sl nF w sz (.slice none 0 0) [] := Or.inl ⟨_, _, rfl, rfl⟩
theorem holdC {w : World} {g k : Nat} {L : List Value} {v : Value} (h : Asr.holds w (.blk g L)) (hk : L[k]? = some v) : w.cell? ⟨g, k, none⟩ = some v := by rw [HoldL.cell h]; exact hk
/-! what is one's own, in another order; some of it forgotten -/
section
variable {F : Nat → Prop} {w0 w w' : World} {Γ Δ : List Asr}
def pickL {α : Type} (l : List α) : List Nat → Option (List α)
  | [] => some []
  | i :: r => match l[i]?, pickL l r with
    | some x, some xs => some (x :: xs)
    | _, _ => none
theorem pickL_at {α : Type} {l : List α} : ∀ {is : List Nat} {xs : List α}, pickL l is = some xs → ∀ (k : Nat) (x : α), xs[k]? = some x → ∃ i, is[k]? = some i ∧ l[i]? = some x := by
  intro is
  induction is with
  | nil => intro xs h k x hx; cases h; simp at hx
  | cons i r ih =>
    intro xs h k x hx
    unfold pickL at h
    split at h
    · rename_i y ys h1 h2
      cases h
      cases k with
      | zero => simp at hx; subst hx; exact ⟨i, rfl, h1⟩
      | succ k => simpa using ih h2 k x (by simpa using hx)
    · cases h
theorem St.reorder (is : List Nat) (h : St F w0 w Γ) (hn : is.Nodup) (hp : pickL Γ is = some Δ) : St F w0 w Δ := by
  have hmem : ∀ A ∈ Δ, A ∈ Γ := fun A hA => by
    obtain ⟨k, hk⟩ := List.mem_iff_getElem?.1 hA
    obtain ⟨i, _, hi⟩ := pickL_at hp k A hk
    exact List.mem_of_getElem? hi
  refine ⟨h.os, h.tape, h.output, h.size, h.base, fun A hA => h.holds A (hmem A hA), fun A hA => h.own A (hmem A hA), ?_⟩
  rw [List.pairwise_iff_getElem]
  intro j k hj hk hlt
  obtain ⟨a, ha, ha2⟩ := pickL_at hp j _ (List.getElem?_eq_getElem hj)
  obtain ⟨b, hb, hb2⟩ := pickL_at hp k _ (List.getElem?_eq_getElem hk)
  refine apart_at h.apart ha2 hb2 (fun e => ?_)
  subst e
  obtain ⟨h1, h2⟩ := List.getElem?_eq_some_iff.1 ha
  obtain ⟨h3, h4⟩ := List.getElem?_eq_some_iff.1 hb
  have := List.pairwise_iff_getElem.1 hn j k h1 h3 hlt
  exact this (h2.trans h4.symm)
end
end Go.Proofs.Ytejnpppejalhfab
/- The types of this program that the step calculus meets (printed by tab.py). -/
namespace Go.Proofs.Ytejnpppejalhfab
open Go.RowKit Go.Sort

def tab : Tab := [
  (3, .sc (.int .i64) 1 (.int .i64 0)),
  (27, .st 6 [(0, 1, false), (1, 1, false), (2, 1, false), (3, 1, false), (4, 1, false), (5, 1, false)] [.string ⟨#[]⟩, .slice none 0 0, .slice none 0 0, .slice none 0 0, .slice none 0 0, .int .i64 0]),
  (9, .sc .string 1 (.string ⟨#[]⟩)),
  (61, .st 5 [(0, 1, false), (1, 1, false), (2, 1, false), (3, 1, false), (4, 1, false)] [.slice none 0 0, .slice none 0 0, .slice none 0 0, .slice none 0 0, .int .i64 0]),
  (131, .st 4 [(0, 1, false), (1, 1, false), (2, 1, false), (3, 1, false)] [.int .i64 0, .int .i64 0, .int .i64 0, .bool false]),
  (82, .st 5 [(0, 1, false), (1, 1, false), (2, 1, false), (3, 1, false), (4, 1, false)] [.int .i64 0, .int .i64 0, .string ⟨#[]⟩, .bool false, .bool false]),
  (37, .sl 131 4 32 true [.int .i64 0, .int .i64 0, .int .i64 0, .bool false]),
  (40, .st 3 [(0, 1, false), (1, 1, false), (2, 1, false)] [.slice none 0 0, .slice none 0 0, .int .i64 0]),
  (158, .sl 177 3 24 true [.int .i64 0, .int .i64 0, .int .i64 0]),
  (23, .sl 82 5 40 true [.int .i64 0, .int .i64 0, .string ⟨#[]⟩, .bool false, .bool false]),
  (49, .st 3 [(0, 1, false), (1, 1, false), (2, 1, false)] [.int .i64 0, .string ⟨#[]⟩, .slice none 0 0]),
  (38, .sl 49 3 48 true [.int .i64 0, .string ⟨#[]⟩, .slice none 0 0]),
  (177, .st 3 [(0, 1, false), (1, 1, false), (2, 1, false)] [.int .i64 0, .int .i64 0, .int .i64 0]),
  (63, .st 2 [(0, 1, false), (1, 1, false)] [.int .i64 0, .int .i64 0]),
  (22, .sl 9 1 16 false [.string ⟨#[]⟩]),
  (25, .sl 87 3 32 true [.int .i64 0, .string ⟨#[]⟩, .int .i64 0]),
  (24, .sl 85 2 24 true [.string ⟨#[]⟩, .int .i64 0]),
  (144, .sl 3 1 8 false [.int .i64 0]),
  (87, .st 3 [(0, 1, false), (1, 1, false), (2, 1, false)] [.int .i64 0, .string ⟨#[]⟩, .int .i64 0]),
  (57, .sl 142 4 32 true [.string ⟨#[]⟩, .int .i64 0, .bool false, .bool false]),
  (146, .st 7 [(0, 5, true), (5, 1, false), (6, 1, false)] [.slice none 0 0, .slice none 0 0, .slice none 0 0, .slice none 0 0, .int .i64 0, .int .i64 0, .slice none 0 0]),
  (36, .sl 27 6 120 true [.string ⟨#[]⟩, .slice none 0 0, .slice none 0 0, .slice none 0 0, .slice none 0 0, .int .i64 0]),
  (59, .sl 160 3 56 true [.bool false, .slice none 0 0, .slice none 0 0]),
  (88, .sc (.pointer 90) 1 (.pointer none)),
  (47, .sl 124 2 24 true [.int .i64 0, .string ⟨#[]⟩]),
  (142, .st 4 [(0, 1, false), (1, 1, false), (2, 1, false), (3, 1, false)] [.string ⟨#[]⟩, .int .i64 0, .bool false, .bool false]),
  (113, .st 7 [(0, 6, true), (6, 1, false)] [.string ⟨#[]⟩, .slice none 0 0, .slice none 0 0, .slice none 0 0, .slice none 0 0, .int .i64 0, .int .i64 0]),
  (160, .st 3 [(0, 1, false), (1, 1, false), (2, 1, false)] [.bool false, .slice none 0 0, .slice none 0 0]),
  (4, .sc .bool 1 (.bool false)),
  (85, .st 2 [(0, 1, false), (1, 1, false)] [.string ⟨#[]⟩, .int .i64 0]),
  (76, .sl 5 1 1 false [.int .u8 0]),
  (109, .sl 113 7 128 true [.string ⟨#[]⟩, .slice none 0 0, .slice none 0 0, .slice none 0 0, .slice none 0 0, .int .i64 0, .int .i64 0]),
  (58, .sl 165 2 24 true [.string ⟨#[]⟩, .int .i64 0]),
  (124, .st 2 [(0, 1, false), (1, 1, false)] [.int .i64 0, .string ⟨#[]⟩]),
  (163, .sl 209 7 56 true [.int .i64 0, .int .i64 0, .int .i64 0, .int .i64 0, .int .i64 0, .int .i64 0, .bool false]),
  (136, .sc (.pointer 146) 1 (.pointer none)),
  (105, .st 7 [(0, 6, true), (6, 1, false)] [.string ⟨#[]⟩, .slice none 0 0, .slice none 0 0, .slice none 0 0, .slice none 0 0, .int .i64 0, .int .i64 0]),
  (165, .st 2 [(0, 1, false), (1, 1, false)] [.string ⟨#[]⟩, .int .i64 0]),
  (117, .ar 256 256 1 false [.int .i64 0, .int .i64 0, .int .i64 0, .int .i64 0, .int .i64 0, .int .i64 0, .int .i64 0, .int .i64 0, .int .i64 0, .int .i64 0, .int .i64 0, .int .i64 0, .int .i64 0, .int .i64 0, .int .i64 0, .int .i64 0, .int .i64 0, .int .i64 0, .int .i64 0, .int .i64 0, .int .i64 0, .int .i64 0, .int .i64 0, .int .i64 0, .int .i64 0, .int .i64 0, .int .i64 0, .int .i64 0, .int .i64 0, .int .i64 0, .int .i64 0, .int .i64 0, .int .i64 0, .int .i64 0, .int .i64 0, .int .i64 0, .int .i64 0, .int .i64 0, .int .i64 0, .int .i64 0, .int .i64 0, .int .i64 0, .int .i64 0, .int .i64 0, .int .i64 0, .int .i64 0, .int .i64 0, .int .i64 0, .int .i64 0, .int .i64 0, .int .i64 0, .int .i64 0, .int .i64 0, .int .i64 0, .int .i64 0, .int .i64 0, .int .i64 0, .int .i64 0, .int .i64 0, .int .i64 0, .int .i64 0, .int .i64 0, .int .i64 0, .int .i64 0, .int .i64 0, .int .i64 0, .int .i64 0, .int .i64 0, .int .i64 0, .int .i64 0, .int .i64 0, .int .i64 0, .int .i64 0, .int .i64 0, .int .i64 0, .int .i64 0, .int .i64 0, .int .i64 0, .int .i64 0, .int .i64 0, .int .i64 0, .int .i64 0, .int .i64 0, .int .i64 0, .int .i64 0, .int .i64 0, .int .i64 0, .int .i64 0, .int .i64 0, .int .i64 0, .int .i64 0, .int .i64 0, .int .i64 0, .int .i64 0, .int .i64 0, .int .i64 0, .int .i64 0, .int .i64 0, .int .i64 0, .int .i64 0, .int .i64 0, .int .i64 0, .int .i64 0, .int .i64 0, .int .i64 0, .int .i64 0, .int .i64 0, .int .i64 0, .int .i64 0, .int .i64 0, .int .i64 0, .int .i64 0, .int .i64 0, .int .i64 0, .int .i64 0, .int .i64 0, .int .i64 0, .int .i64 0, .int .i64 0, .int .i64 0, .int .i64 0, .int .i64 0, .int .i64 0, .int .i64 0, .int .i64 0, .int .i64 0, .int .i64 0, .int .i64 0, .int .i64 0, .int .i64 0, .int .i64 0, .int .i64 0, .int .i64 0, .int .i64 0, .int .i64 0, .int .i64 0, .int .i64 0, .int .i64 0, .int .i64 0, .int .i64 0, .int .i64 0, .int .i64 0, .int .i64 0, .int .i64 0, .int .i64 0, .int .i64 0, .int .i64 0, .int .i64 0, .int .i64 0, .int .i64 0, .int .i64 0, .int .i64 0, .int .i64 0, .int .i64 0, .int .i64 0, .int .i64 0, .int .i64 0, .int .i64 0, .int .i64 0, .int .i64 0, .int .i64 0, .int .i64 0, .int .i64 0, .int .i64 0, .int .i64 0, .int .i64 0, .int .i64 0, .int .i64 0, .int .i64 0, .int .i64 0, .int .i64 0, .int .i64 0, .int .i64 0, .int .i64 0, .int .i64 0, .int .i64 0, .int .i64 0, .int .i64 0, .int .i64 0, .int .i64 0, .int .i64 0, .int .i64 0, .int .i64 0, .int .i64 0, .int .i64 0, .int .i64 0, .int .i64 0, .int .i64 0, .int .i64 0, .int .i64 0, .int .i64 0, .int .i64 0, .int .i64 0, .int .i64 0, .int .i64 0, .int .i64 0, .int .i64 0, .int .i64 0, .int .i64 0, .int .i64 0, .int .i64 0, .int .i64 0, .int .i64 0, .int .i64 0, .int .i64 0, .int .i64 0, .int .i64 0, .int .i64 0, .int .i64 0, .int .i64 0, .int .i64 0, .int .i64 0, .int .i64 0, .int .i64 0, .int .i64 0, .int .i64 0, .int .i64 0, .int .i64 0, .int .i64 0, .int .i64 0, .int .i64 0, .int .i64 0, .int .i64 0, .int .i64 0, .int .i64 0, .int .i64 0, .int .i64 0, .int .i64 0, .int .i64 0, .int .i64 0, .int .i64 0, .int .i64 0, .int .i64 0, .int .i64 0, .int .i64 0, .int .i64 0, .int .i64 0, .int .i64 0, .int .i64 0, .int .i64 0, .int .i64 0, .int .i64 0, .int .i64 0, .int .i64 0, .int .i64 0, .int .i64 0, .int .i64 0, .int .i64 0, .int .i64 0, .int .i64 0, .int .i64 0, .int .i64 0, .int .i64 0, .int .i64 0, .int .i64 0, .int .i64 0]),
  (102, .st 4 [(0, 1, false), (1, 1, false), (2, 1, false), (3, 1, false)] [.map none, .map none, .slice none 0 0, .int .i64 0]),
  (100, .sl 105 7 128 true [.string ⟨#[]⟩, .slice none 0 0, .slice none 0 0, .slice none 0 0, .slice none 0 0, .int .i64 0, .int .i64 0]),
  (75, .sc (.pointer 78) 1 (.pointer none)),
  (185, .st 5 [(0, 1, false), (1, 1, false), (2, 1, false), (3, 1, false), (4, 1, false)] [.int .i64 0, .int .i64 0, .int .i64 0, .int .i64 0, .int .i64 0]),
  (154, .sl 163 1 24 false [.slice none 0 0]),
  (156, .st 4 [(0, 1, false), (1, 1, false), (2, 1, false), (3, 1, false)] [.pointer none, .slice none 0 0, .slice none 0 0, .int .i64 0]),
  (209, .st 7 [(0, 3, true), (3, 4, true)] [.int .i64 0, .int .i64 0, .int .i64 0, .int .i64 0, .int .i64 0, .int .i64 0, .bool false]),
  (99, .sc (.map 9 3) 1 (.map none)),
  (152, .sc (.pointer 156) 1 (.pointer none)),
  (95, .st 0 [] []),
  (78, .st 1 [(0, 1, false)] [.slice none 0 0]),
  (90, .st 1 [(0, 1, false)] [.string ⟨#[]⟩]),
  (98, .sc (.map 9 27) 1 (.map none)),
  (186, .sl 36 1 24 false [.slice none 0 0]),
  (153, .sc (.pointer 61) 1 (.pointer none)),
  (203, .sc (.int .u64) 1 (.int .u64 0)),
  (189, .sc (.map 3 194) 1 (.map none)),
  (5, .sc (.int .u8) 1 (.int .u8 0)),
  (97, .sc (.pointer 102) 1 (.pointer none)),
  (219, .sc (.int .u64) 1 (.int .u64 0)),
  (1, .sc (.func #[] #[] false) 1 (.nilFunc)),
  (28, .sc (.int .i64) 1 (.int .i64 0)),
  (178, .sl 74 1 8 false [.nilFunc]),
  (229, .sc (.func #[21] #[4] false) 1 (.nilFunc)),
  (143, .sc (.func #[140, 3, 3] #[] false) 1 (.nilFunc)),
  (161, .sc (.func #[160] #[4] false) 1 (.nilFunc)),
  (211, .sc (.func #[209] #[4] false) 1 (.nilFunc)),
  (213, .sc (.func #[177, 3] #[3] false) 1 (.nilFunc)),
  (244, .sc (.func #[177] #[4] false) 1 (.nilFunc)),
  (74, .sc (.func #[27] #[28] false) 1 (.nilFunc)),
  (107, .sc (.pointer 40) 1 (.pointer none)),
  (200, .sc (.func #[131, 3] #[3] false) 1 (.nilFunc)),
  (140, .sc (.pointer 142) 1 (.pointer none)),
  (215, .sc (.func #[49, 3] #[3] false) 1 (.nilFunc)),
  (233, .sc (.func #[142] #[4] false) 1 (.nilFunc)),
  (242, .sc (.func #[165] #[4] false) 1 (.nilFunc)),
  (21, .sc (.int .i32) 1 (.int .i32 0))]
set_option maxRecDepth 100000 in
theorem tabOk : TabOk Try.prog tab := by
  unfold tab
  repeat (first | exact TabOk.nil _ | refine TabOk.cons (by kernel_rfl) (by rfl) ?_)
end Go.Proofs.Ytejnpppejalhfab
/- The contracts of bits in the words of the step calculus. -/
namespace Go.Proofs.Ytejnpppejalhfab
open Go.RowKit Go.Sort

theorem Part_fn (l : List UInt8) (off n : Int) (w : World) (hl : l.length ≤ maxLen) : Fn Try.prog 24 [.string ⟨l.toArray⟩, .int .i64 off, .int .i64 n] w (RBf (.tuple #[.string ⟨(if inB off n l.length = true then (l.drop off.toNat).take n.toNat else []).toArray⟩, .int .i64 (if inB off n l.length = true then 0 else 3)]) w) := by
  by_cases h : inB off n l.length = true
  · rw [if_pos h, if_pos h]
    unfold inB at h
    simp only [decide_eq_true_eq] at h
    have h1 := part_yes l off.toNat n.toNat w hl (by omega)
    rw [Int.toNat_of_nonneg (by omega), Int.toNat_of_nonneg (by omega)] at h1
    exact (Fn.of_same ⟨Try.func24, by kernel_rfl, by kernel_rfl⟩ h1).mono (by rintro v w' ⟨rfl, rfl⟩; exact ⟨rfl, St.start _⟩)
  · rw [if_neg h, if_neg h]
    exact (Fn.of_same ⟨Try.func24, by kernel_rfl, by kernel_rfl⟩ (part_no l off n w hl (by simpa using h))).mono (by rintro v w' ⟨rfl, rfl⟩; exact ⟨rfl, St.start _⟩)
theorem Get_fn (l : List UInt8) (w : World) (hl : l.length ≤ maxLen) : Fn Try.prog 95 [.string ⟨l.toArray⟩] w (RBf (.tuple #[.int .i64 (if 1 ≤ l.length ∧ l.length ≤ 8 then wrap64 (numB l) else 0), .int .i64 (if 1 ≤ l.length ∧ l.length ≤ 8 then 0 else 3)]) w) := by
  by_cases h : 1 ≤ l.length ∧ l.length ≤ 8
  · rw [if_pos h, if_pos h]
    exact (Fn.of_same ⟨Try.func95, by kernel_rfl, by kernel_rfl⟩ (get_yes l w h.1 h.2)).mono (by rintro v w' ⟨rfl, rfl⟩; exact ⟨rfl, St.start _⟩)
  · rw [if_neg h, if_neg h]
    exact (Fn.of_same ⟨Try.func95, by kernel_rfl, by kernel_rfl⟩ (get_no l w hl (by omega))).mono (by rintro v w' ⟨rfl, rfl⟩; exact ⟨rfl, St.start _⟩)
theorem Lay_fn (s t : List UInt8) (off : Int) (w : World) (hs : s.length ≤ maxLen) : Fn Try.prog 59 [.string ⟨s.toArray⟩, .int .i64 off, .string ⟨t.toArray⟩] w (RBf (.tuple #[.string ⟨(if inB off t.length s.length = true then splice s off.toNat t else []).toArray⟩, .int .i64 (if inB off t.length s.length = true then 0 else 3)]) w) := by
  by_cases h : inB off t.length s.length = true
  · rw [if_pos h, if_pos h]
    unfold inB at h
    simp only [decide_eq_true_eq] at h
    have h1 := lay_yes s t off.toNat w hs (by omega)
    rw [Int.toNat_of_nonneg (by omega)] at h1
    exact Fn.of_rb ⟨Try.func59, by kernel_rfl, by kernel_rfl⟩ (rb_below h1)
  · rw [if_neg h, if_neg h]
    exact (Fn.of_same ⟨Try.func59, by kernel_rfl, by kernel_rfl⟩ (lay_no s t off w hs (by simpa using h))).mono (by rintro v w' ⟨rfl, rfl⟩; exact ⟨rfl, St.start _⟩)
theorem Over_fn (s t : List UInt8) (off : Nat) (w : World) (hs : s.length ≤ maxLen) (h : off + t.length ≤ s.length) : Fn Try.prog 61 [.string ⟨s.toArray⟩, .int .i64 off, .string ⟨t.toArray⟩] w (RBf (.string ⟨(splice s off t).toArray⟩) w) :=
  ⟨⟨_, Try.func61, by kernel_rfl, by kernel_rfl⟩, (over_any s t off w hs h).mono fun _ _ ⟨he, n, hw⟩ => ⟨_, he, rfl, by subst hw; exact (St.start w).grow ⟨rfl, rfl, rfl, Nat.le_refl _, fun _ _ _ => rfl⟩⟩⟩
end Go.Proofs.Ytejnpppejalhfab
/- The reader's glass. -/
namespace Go.Proofs.Ytejnpppejalhfab
open Go.RowKit Go.Sort

def brV : Value := .iface 95 (.agg #[])
def brk : List PanicEntry := [{ v := brV, recovered := false }]
abbrev gPt (g : Nat) : Value := .pointer (some ⟨g, 0, none⟩)
abbrev GlA (g : Nat) (l : Bs8) : Asr := .blk g [.string ⟨l.toArray⟩]
def GlOk (w : World) (g : Nat) (l : Bs8) (p : Value → Bs8 → Prop) : Value → World → Prop := fun v w' => ∃ r, p v r ∧ St (fps [GlA g l]) w w' [GlA g r]
def GlNo (w : World) (g : Nat) (l : Bs8) (q : Prop) : World → Prop := fun w' => q ∧ ∃ r, St (fps [GlA g l]) w w' [GlA g r]
theorem take_fn {F : Nat → Prop} {w0 w : World} {Γ : List Asr} {g : Nat} {l : Bs8} {n : Int} (hS0 : St F w0 w (GlA g l :: Γ)) (hl : l.length ≤ 1048576) : FnP Try.prog 94 [gPt g, .int .i64 n] w brk (GlOk w g l (fun v r => ∃ s, rdTake n l = some (s, r) ∧ v = .string ⟨s.toArray⟩)) (GlNo w g l (rdTake n l = none)) := by
  have hm : l.length ≤ maxLen := by unfold maxLen; omega
  refine fnP_enter (fn := Try.f94) ⟨Try.func94, by kernel_rfl, by kernel_rfl⟩ (by exact rfl) Try.ntmps94 (by exact rfl) ?_
  have hS := hS0.startM1
  by_cases h : 0 ≤ n ∧ n ≤ (l.length : Int)
  · have hin : inB 0 n l.length = true := by unfold inB; rw [decide_eq_true_eq]; omega
    have e0 : (!decide ((0 : Int) = 0)) = false := rfl
    have hp := fun w => Part_fn l 0 n w hm
    simp only [hin, if_true, Int.toNat_zero, List.drop_zero] at hp
    repeat' (first | (first | ((with_reducible apply l_pure tabOk); exact rfl; exact rfl) | ((with_reducible apply l_load); exact rfl; (((with_reducible apply Loads.sc tabOk); exact rfl; ((exact hS.blkC 0 rfl rfl)))); exact rfl) | (((with_reducible apply l_store hS tabOk (i := 0)); exact rfl; exact rfl; exact rfl; exact rfl; exact rfl; exact rfl; exact rfl; exact rfl; ((exact (rfl : _ = [_]))); intro w' hS'; simp only [List.set] at hS'; clear hS; have hS := hS'; clear hS'))) | (first | (with_reducible apply c_seq) | (with_reducible apply c_region) | (with_reducible apply l_nil) | (with_reducible apply q_then) | (with_reducible apply c_skip) | (with_reducible apply c_ret)) | (((with_reducible apply c_iff); exact rfl; (exact rfl))) | ((with_reducible apply l_call); exact rfl; exact rfl; exact hp _; exact rfl; rintro _ w' ⟨rfl, hS'⟩; replace hS := hS.transA hS'; simp only [appA] at hS; clear hS') | ((with_reducible apply l_strFrom tabOk); exact rfl; exact rfl; exact rfl; exact h.1; exact h.2; exact rfl))
    refine q_rp (Or.inl rfl) ?_
    (apply q_ret1); (repeat (first | exact ResL.nil | (apply ResL.tmp; exact rfl)))
    exact ⟨_, ⟨_, by unfold rdTake; rw [if_pos h], rfl⟩, hS⟩
  · have hin : inB 0 n l.length = false := by unfold inB; rw [decide_eq_false_iff_not]; omega
    have e0 : (!decide ((3 : Int) = 0)) = true := rfl
    have hp := fun w => Part_fn l 0 n w hm
    simp only [hin, Bool.false_eq_true, if_false] at hp
    repeat' (first | (first | ((with_reducible apply l_pure tabOk); exact rfl; exact rfl) | ((with_reducible apply l_load); exact rfl; (((with_reducible apply Loads.sc tabOk); exact rfl; ((exact hS.blkC 0 rfl rfl)))); exact rfl) | ((with_reducible apply l_build tabOk); exact rfl; exact rfl; ((exact rfl)); exact rfl)) | (first | (with_reducible apply c_seq) | (with_reducible apply c_region) | (with_reducible apply l_nil) | (with_reducible apply q_then)) | (((with_reducible apply c_ift); exact rfl; (exact rfl))) | ((with_reducible apply l_call); exact rfl; exact rfl; exact hp _; exact rfl; rintro _ w' ⟨rfl, hS'⟩; replace hS := hS.transA hS'; simp only [appA] at hS; clear hS') | ((with_reducible apply l_iface (by kernel_rfl)); exact rfl; exact rfl) | ((with_reducible apply l_panic); exact rfl) | (with_reducible apply q_then_panic))
    exact q_panicked ⟨by unfold rdTake; rw [if_neg h], _, hS⟩
theorem number_fn {F : Nat → Prop} {w0 w : World} {Γ : List Asr} {g : Nat} {l : Bs8} (hS0 : St F w0 w (GlA g l :: Γ)) (hl : l.length ≤ 1048576) : FnP Try.prog 41 [gPt g] w brk (GlOk w g l (fun v r => ∃ n, rdNum l = some (n, r) ∧ v = .int .i64 n)) (GlNo w g l (rdNum l = none)) := by
  refine fnP_enter (fn := Try.f41) ⟨Try.func41, by kernel_rfl, by kernel_rfl⟩ (by exact rfl) Try.ntmps41 (by exact rfl) ?_
  have hS := hS0.startM1
  have k0 : rdTake 8 l = none → rdNum l = none := fun h => by
    unfold rdTake at h
    split at h
    · cases h
    · unfold rdNum; rw [if_neg (by omega)]
  have k1 : ∀ s r, rdTake 8 l = some (s, r) → 8 ≤ l.length ∧ s = l.take 8 ∧ r = l.drop 8 := fun s r h => by
    obtain ⟨h1, rfl, rfl⟩ := rdTake_some h
    exact ⟨by omega, rfl, rfl⟩
  have hg : 8 ≤ l.length → ∀ w, Fn Try.prog 95 [.string ⟨(l.take 8).toArray⟩] w (RBf (.tuple #[.int .i64 (wrap64 (numB (l.take 8))), .int .i64 0]) w) := fun h8 w => by
    have := Get_fn (l.take 8) w (by rw [List.length_take]; unfold maxLen; omega)
    rw [List.length_take, Nat.min_eq_left h8] at this
    simpa using this
  repeat' (first | (((with_reducible apply l_pure tabOk); exact rfl; exact rfl)) | (first | (with_reducible apply c_seq) | (with_reducible apply c_region) | (with_reducible apply l_nil) | (with_reducible apply q_then) | (with_reducible apply c_ret)) | ((with_reducible apply l_callQ); exact rfl; exact rfl; exact take_fn hS hl; exact rfl; (rintro w' ⟨hno, r, hS'⟩; (repeat' ((with_reducible apply q_then_panic))); exact q_panicked ⟨k0 hno, _, hS.transM1 hS'⟩); rintro _ w' ⟨r, ⟨s, hs, rfl⟩, hS'⟩; replace hS := hS.transM1 hS'; simp only [appA] at hS; clear hS') | (obtain ⟨h8, rfl, rfl⟩ := k1 _ _ hs; ((with_reducible apply l_call); exact rfl; exact rfl; exact hg h8 _; exact rfl; rintro _ w' ⟨rfl, hS'⟩; replace hS := hS.transA hS'; simp only [appA] at hS; clear hS')))
  refine q_rp (Or.inl rfl) ?_
  (apply q_ret1); (repeat (first | exact ResL.nil | (apply ResL.tmp; exact rfl)))
  exact ⟨_, ⟨_, by unfold rdNum; rw [if_pos h8], rfl⟩, hS⟩
theorem text_fn {F : Nat → Prop} {w0 w : World} {Γ : List Asr} {g : Nat} {l : Bs8} (hS0 : St F w0 w (GlA g l :: Γ)) (hl : l.length ≤ 1048576) : FnP Try.prog 37 [gPt g] w brk (GlOk w g l (fun v r => ∃ s, rdText l = some (s, r) ∧ v = .string ⟨s.toArray⟩)) (GlNo w g l (rdText l = none)) := by
  refine fnP_enter (fn := Try.f37) ⟨Try.func37, by kernel_rfl, by kernel_rfl⟩ (by exact rfl) Try.ntmps37 (by exact rfl) ?_
  have hS := hS0.startM1
  repeat' (first | (((with_reducible apply l_pure tabOk); exact rfl; exact rfl)) | (first | (with_reducible apply c_seq) | (with_reducible apply c_region) | (with_reducible apply l_nil) | (with_reducible apply q_then)) | ((with_reducible apply l_callQ); exact rfl; exact rfl; exact number_fn hS hl; exact rfl; (rintro w' ⟨hno, r, hS'⟩; (repeat' ((with_reducible apply q_then_panic))); exact q_panicked ⟨(by unfold rdText; rw [hno]; rfl), _, hS.transM1 hS'⟩); rintro _ w' ⟨r, ⟨n, hn, rfl⟩, hS'⟩; replace hS := hS.transM1 hS'; simp only [appA] at hS; clear hS'))
  have hl2 : r.length ≤ 1048576 := by have := rdNum_len hn; omega
  repeat' (first | (((with_reducible apply l_pure tabOk); exact rfl; exact rfl)) | (first | (with_reducible apply l_nil) | (with_reducible apply q_then) | (with_reducible apply c_ret)) | ((with_reducible apply l_callQ); exact rfl; exact rfl; exact take_fn hS hl2; exact rfl; (rintro w' ⟨hno, r, hS'⟩; (repeat' ((with_reducible apply q_then_panic))); exact q_panicked ⟨(by unfold rdText; rw [hn, Option.bind_some]; exact hno), _, hS.transM1 hS'⟩); rintro _ w' ⟨r, ⟨s, hs, rfl⟩, hS'⟩; replace hS := hS.transM1 hS'; simp only [appA] at hS; clear hS'))
  refine q_rp (Or.inl rfl) ?_
  (apply q_ret1); (repeat (first | exact ResL.nil | (apply ResL.tmp; exact rfl)))
  exact ⟨_, ⟨_, by unfold rdText; rw [hn, Option.bind_some]; exact hs, rfl⟩, hS⟩
theorem truth_fn {F : Nat → Prop} {w0 w : World} {Γ : List Asr} {g : Nat} {l : Bs8} (hS0 : St F w0 w (GlA g l :: Γ)) (hl : l.length ≤ 1048576) : FnP Try.prog 42 [gPt g] w brk (GlOk w g l (fun v r => ∃ b, rdTruth l = some (b, r) ∧ v = .bool b)) (GlNo w g l (rdTruth l = none)) := by
  refine fnP_enter (fn := Try.f42) ⟨Try.func42, by kernel_rfl, by kernel_rfl⟩ (by exact rfl) Try.ntmps42 (by exact rfl) ?_
  have hS := hS0.startM1
  repeat' (first | (first | ((with_reducible apply l_pure tabOk); exact rfl; exact rfl) | ((with_reducible apply l_build tabOk); exact rfl; exact rfl; ((exact rfl)); exact rfl) | (first | ((with_reducible apply l_yes); exact rfl; exact rfl; exact rfl; exact rfl; (assumption)) | ((with_reducible apply l_no); exact rfl; exact rfl; exact rfl; exact rfl; ((assumption)); exact rfl) | ((with_reducible apply l_partn); exact rfl; exact rfl; exact rfl; all_goals (intro hb hp; try (exfalso; omega))) | ((with_reducible apply l_pick1); exact rfl; ((assumption)); exact rfl; exact rfl) | ((with_reducible apply l_pick2); exact rfl; ((assumption)); exact rfl; exact rfl))) | (first | (with_reducible apply c_seq) | (with_reducible apply c_region) | (with_reducible apply l_nil) | (with_reducible apply q_then) | (with_reducible apply c_skip) | (with_reducible apply c_ret)) | (first | ((with_reducible apply c_iff); exact rfl; (exact rfl)) | ((with_reducible apply c_ifn); exact rfl; all_goals (intro hb hp; try (exfalso; omega)))) | ((with_reducible apply l_callQ); exact rfl; exact rfl; exact number_fn hS hl; exact rfl; (rintro w' ⟨hno, r, hS'⟩; (repeat' ((with_reducible apply q_then_panic))); exact q_panicked ⟨(by unfold rdTruth; rw [hno]; rfl), _, hS.transM1 hS'⟩); rintro _ w' ⟨r, ⟨n, hn, rfl⟩, hS'⟩; replace hS := hS.transM1 hS'; simp only [appA] at hS; clear hS'))
  repeat' (first | ((with_reducible apply l_iface (by kernel_rfl)); exact rfl; exact rfl) | ((with_reducible apply l_panic); exact rfl) | (with_reducible apply q_then_panic))
  all_goals first
    | exact q_panicked ⟨by unfold rdTruth; rw [hn, Option.bind_some, if_neg (by simp at *; omega)], _, hS⟩
    | skip
  all_goals (refine q_rp (Or.inl rfl) ?_)
  all_goals ((apply q_ret1); (repeat (first | exact ResL.nil | (apply ResL.tmp; exact rfl))))
  all_goals exact ⟨_, ⟨_, by unfold rdTruth; rw [hn, Option.bind_some, if_pos (by simp at *; omega)], rfl⟩, hS⟩
end Go.Proofs.Ytejnpppejalhfab
/- image.Read: 'each', and the closures. -/
namespace Go.Proofs.Ytejnpppejalhfab
open Go.RowKit Go.Sort

/-- what a reading of some things holds: the glass, the image at work, the things that were read, the variable r -/
abbrev RdD {α : Type} (g gi gr e sz : Nat) (Lf : Value → List Value) (fC : α → List Value) (l : Bs8) (xs : List α) (p : Option Addr) (c : Nat) : List Asr :=
  [.blk g [.string ⟨l.toArray⟩], .blk gi (Lf (.slice p xs.length c)), .row e sz (.slice p xs.length c) (xs.map fC), .blk gr [gPt g]]
def OneOk {α : Type} (f : FuncId) (caps : List Value) (g gi gr e sz : Nat) (Lf : Value → List Value) (fC : α → List Value) (one : Bs8 → Option (α × Bs8)) : Prop :=
  ∀ (F : Nat → Prop) (w0 w1 : World) (Γ : List Asr) (l : Bs8) (xs : List α) (p : Option Addr) (c : Nat), l.length ≤ 1048576 → xs.length ≤ 1048576 → St F w0 w1 (RdD g gi gr e sz Lf fC l xs p c ++ Γ) →
    FnP Try.prog f caps w1 brk (fun _ w2 => ∃ x r p' c', one l = some (x, r) ∧ St (fps (RdD g gi gr e sz Lf fC l xs p c)) w1 w2 (RdD g gi gr e sz Lf fC r (xs ++ [x]) p' c')) (fun w2 => one l = none ∧ ∃ r, St (fps (RdD g gi gr e sz Lf fC l xs p c)) w1 w2 (RdD g gi gr e sz Lf fC r xs p c))
theorem rdList_of {α : Type} {one : Bs8 → Option (α × Bs8)} {l l1 : Bs8} {N : Int} (h : rdNum l = some (N, l1)) : rdList one l = if 0 ≤ N ∧ N ≤ l1.length then rdMany one N.toNat l1 else none := by
  unfold rdList rdCnt
  rw [h, Option.bind_some]
  by_cases hN : 0 ≤ N ∧ N ≤ (l1.length : Int)
  · rw [if_pos hN, if_pos hN]; rfl
  · rw [if_neg hN, if_neg hN]; rfl
theorem St.transAll {F : Nat → Prop} {w0 w w' : World} {Θ Δ : List Asr} (h : St F w0 w Θ) (h2 : St (fps Θ) w w' Δ) : St F w0 w' Δ := by
  have := St.transM (Γ := []) (by rw [List.append_nil]; exact h) h2
  rwa [List.append_nil] at this
theorem rdNum_in {l r : Bs8} {n : Int} (h : rdNum l = some (n, r)) : -9223372036854775808 ≤ n ∧ n ≤ 9223372036854775807 := by
  obtain ⟨_, rfl, _⟩ := rdNum_some h
  unfold wrap64; omega
set_option maxRecDepth 100000 in
set_option maxHeartbeats 2000000 in
theorem each_fn {α : Type} {F : Nat → Prop} {w0 w : World} {Γ : List Asr} {f : FuncId} {caps : List Value} {g gi gr e sz : Nat} {Lf : Value → List Value} {fC : α → List Value} {one : Bs8 → Option (α × Bs8)} {l : Bs8} (he : Eats one) (h1 : OneOk f caps g gi gr e sz Lf fC one)
    (hl : l.length ≤ 1048576) (hS0 : St F w0 w (RdD g gi gr e sz Lf fC l [] none 0 ++ Γ)) :
    FnP Try.prog 38 [gPt g, .func (.func f) #[] caps.toArray] w brk (fun _ w2 => ∃ xs r p c, rdList one l = some (xs, r) ∧ St (fps (RdD g gi gr e sz Lf fC l [] none 0)) w w2 (RdD g gi gr e sz Lf fC r xs p c)) (fun w2 => rdList one l = none ∧ ∃ r xs p c, St (fps (RdD g gi gr e sz Lf fC l [] none 0)) w w2 (RdD g gi gr e sz Lf fC r xs p c)) := by
  refine fnP_enter (fn := Try.f38) ⟨Try.func38, by kernel_rfl, by kernel_rfl⟩ (by exact rfl) Try.ntmps38 (by exact rfl) ?_
  have hS := St.startM (Δ := RdD g gi gr e sz Lf fC l [] none 0) hS0
  repeat' (first | (((with_reducible apply l_pure tabOk); exact rfl; exact rfl)) | (first | (with_reducible apply c_seq) | (with_reducible apply c_region) | (with_reducible apply l_nil) | (with_reducible apply q_then) | (with_reducible apply c_block)) | ((with_reducible apply l_callQ); exact rfl; exact rfl; exact number_fn hS hl; exact rfl; (rintro w' ⟨hno, r, hS'⟩; (repeat' ((with_reducible apply q_then_panic))); exact q_panicked ⟨by unfold rdList rdCnt; rw [hno]; rfl, r, [], none, 0, hS.transM1 hS'⟩); rintro _ w' ⟨l1, ⟨N, hN, rfl⟩, hS'⟩; replace hS := hS.transM1 hS'; simp only [appA] at hS; clear hS'))
  have hN1 := rdNum_in hN
  have hN2 := rdNum_len hN
  refine c_loop (X := List α × Bs8 × Option Addr × Nat) ([], l1, none, 0) (fun x => [(0, gPt g), (1, .func (.func f) #[] caps.toArray), (4, .int .i64 (N - x.1.length))]) (fun x w' => (rdMany one x.1.length l1 = some (x.1, x.2.1) ∧ (0 ≤ N → (x.1.length : Int) ≤ N) ∧ (N < 0 → x.1 = [])) ∧ St (fps (RdD g gi gr e sz Lf fC l [] none 0)) w w' (RdD g gi gr e sz Lf fC x.2.1 x.1 x.2.2.1 x.2.2.2)) (fun x => N.toNat - x.1.length) ?_ ⟨⟨rfl, fun h => by simpa using h, fun _ => rfl⟩, hS⟩ ?_
  · simp only [List.length_nil, Int.natCast_zero, Int.sub_zero]
    repeat (first | exact Fr.sub_nil _ | (apply Fr.sub_cons; exact rfl))
  rintro ⟨xs, l2, p, c⟩ w1 ⟨⟨hx, hle, hneg⟩, hS'⟩
  clear hS
  have hS := hS'
  clear hS'
  dsimp only at hx hle hneg hS ⊢
  have hlen := rdMany_len he hx
  have hxs : N < 0 → xs.length = 0 := fun h => by rw [hneg h]; rfl
  repeat' (first | (first | ((with_reducible apply l_sub); exact rfl; exact rfl; omega; omega; exact rfl) | ((with_reducible apply l_pure tabOk); exact rfl; exact rfl) | ((with_reducible apply l_load); exact rfl; (((with_reducible apply Loads.sc tabOk); exact rfl; ((exact hS.blkC 0 rfl rfl)))); exact rfl) | ((with_reducible apply l_build tabOk); exact rfl; exact rfl; ((exact rfl)); exact rfl) | (first | ((with_reducible apply l_yes); exact rfl; exact rfl; exact rfl; exact rfl; (assumption)) | ((with_reducible apply l_no); exact rfl; exact rfl; exact rfl; exact rfl; ((assumption)); exact rfl) | ((with_reducible apply l_partd); exact rfl; exact rfl; exact rfl; all_goals (intro hb hp; try (exfalso; omega))) | ((with_reducible apply l_pick1); exact rfl; ((assumption)); exact rfl; exact rfl) | ((with_reducible apply l_pick2); exact rfl; ((assumption)); exact rfl; exact rfl))) | (first | (with_reducible apply c_seq) | (with_reducible apply c_region) | (with_reducible apply l_nil) | (with_reducible apply q_then) | (with_reducible apply c_skip) | (with_reducible apply c_block) | (with_reducible apply c_exit) | (with_reducible apply q_then_exit) | (with_reducible apply q_block) | (with_reducible apply q_block_exit)) | (first | ((with_reducible apply c_ift); exact rfl; (exact rfl)) | ((with_reducible apply c_ifd); exact rfl; all_goals (intro hb hp; try (exfalso; omega))) | ((with_reducible apply c_ifn); exact rfl; all_goals (intro hb hp; try (exfalso; omega)))) | ((with_reducible apply l_iface (by kernel_rfl)); exact rfl; exact rfl) | ((with_reducible apply l_panic); exact rfl) | first | (with_reducible apply q_then_panic) | (with_reducible apply q_block_panic) | ((with_reducible apply l_callQ); exact rfl; exact rfl; exact h1 _ _ _ [] l2 xs p c (by omega) (by omega) (by rw [List.append_nil]; exact hS); exact rfl; (rintro w' ⟨hno, r, hS'⟩; (repeat' (first | (with_reducible apply q_then_panic) | (with_reducible apply q_block_panic))); exact q_panicked ⟨by rw [rdList_of hN, if_pos (by omega)]; exact rdMany_none hx hno (by omega), r, xs, p, c, hS.transAll hS'⟩); rintro _ w' ⟨x, r, p', c', hone, hS'⟩; replace hS := hS.transAll hS'; clear hS'))
  · exact q_panicked ⟨by rw [rdList_of hN, if_neg (by omega)], l2, xs, p, c, hS⟩
  · refine q_panicked ⟨?_, l2, xs, p, c, hS⟩
    rw [rdList_of hN]
    split
    · exact rdMany_over he hx (by omega) (by omega)
    · rfl
  · refine q_round (xs ++ [x], r, p', c') ?_ ⟨⟨?_, ?_, ?_⟩, hS⟩ ?_
    all_goals dsimp only
    · rw [show N - ((xs ++ [x]).length : Int) = N - xs.length - 1 by rw [List.length_append]; simp; omega]
      repeat (first | exact Fr.sub_nil _ | (apply Fr.sub_cons; exact rfl))
    · rw [List.length_append]; exact rdMany_snoc hx hone
    · intro _; rw [List.length_append]; simp; omega
    · intro h; omega
    · simp only [List.length_append, List.length_cons, List.length_nil]; omega
  · refine q_rp (Or.inr rfl) ?_
    (apply q_end0); (repeat ((exact ResL.nil)))
    refine ⟨xs, l2, p, c, ?_, hS⟩
    rw [rdList_of hN, if_pos (by omega), show N.toNat = xs.length by omega]
    exact hx
end Go.Proofs.Ytejnpppejalhfab
/- image.Read: the closures that read one thing. -/
namespace Go.Proofs.Ytejnpppejalhfab
open Go.RowKit Go.Sort
def LfN (nm : Value) (a b c : Value) (e : Value) (v : Value) : List Value := [nm, v, a, b, c, e]
def LfS (nm : Value) (a b c : Value) (e : Value) (v : Value) : List Value := [nm, a, v, b, c, e]
def LfY (nm : Value) (a b c : Value) (e : Value) (v : Value) : List Value := [nm, a, b, v, c, e]
def LfR (nm : Value) (a b c : Value) (e : Value) (v : Value) : List Value := [nm, a, b, c, v, e]
set_option maxRecDepth 100000 in
set_option maxHeartbeats 2000000 in
theorem read2_ok {g gi gr : Nat} {nm a b d en : Value} : OneOk 39 [gPt gi, gPt gr] g gi gr 9 1 (LfN nm a b d en) stC rdText := by
  intro F w0 w Γ l xs p c hl hx hS0
  refine fnP_enter (fn := Try.f39) ⟨Try.func39, by kernel_rfl, by kernel_rfl⟩ (by exact rfl) Try.ntmps39 (by exact rfl) ?_
  have hS := St.startM hS0
  simp only [RdD, LfN] at hS ⊢
  refine c_till (fun w' => (Asr.blk gi [nm, .slice p xs.length c, a, b, d, en]).holds w') 5 8 rfl hS (by kernel_rfl) ?_
  clear hS
  intro w1 hS
  ((with_reducible apply t_pure 0 tabOk); exact rfl; kernel_rfl; kernel_rfl; kernel_rfl; exact rfl; exact (fun _ _ _ h => h); exact Or.inr (hS.at_ (i := 1) rfl); exact rfl; exact rfl)
  ((with_reducible apply t_takeL 1); exact rfl; kernel_rfl; kernel_rfl; kernel_rfl; kernel_rfl; exact rfl; exact rfl; exact (fun _ _ _ h => h); exact hS.at_ (i := 1) rfl; exact rfl; (intro w2 hw2; (with_reducible apply Loads.sl tabOk); exact rfl; exact holdC hw2 rfl); exact rfl)
  refine t_one (i := 2) (by kernel_rfl) ?_
  refine p_gets rfl (g_load rfl (by ((with_reducible apply Loads.sc tabOk); exact rfl; ((exact hS.blkC 3 rfl rfl))))) rfl ?_
  rintro _ w2 ⟨rfl, rfl⟩
  refine ⟨Or.inr (Or.inr (hS.at_ (i := 1) rfl)), ?_⟩
  refine t_one (i := 3) (by kernel_rfl) ?_
  refine p_getsP rfl (g_callP (first := []) (caps := []) rfl rfl (text_fn hS hl)) rfl ?_ (by rintro w' ⟨hno, r, hS'⟩; exact q_panicked ⟨hno, _, hS.transM1 hS'⟩)
  rintro _ w2 ⟨r, ⟨s, hs, rfl⟩, hS'⟩
  replace hS := hS.transM1 hS'
  simp only [appA] at hS
  clear hS'
  refine ⟨Or.inr (Or.inr (hS.at_ (i := 1) rfl)), ?_⟩
  refine t_one (i := 4) (by kernel_rfl) ?_
  refine p_gets rfl (g_bslice hS tabOk rfl rfl rfl rfl rfl rfl) rfl ?_
  rintro _ w' ⟨g9, rfl, hS'⟩
  clear hS; have hS := hS'; clear hS'
  refine ⟨Or.inr (Or.inr (hS.at_ (i := 2) rfl)), ?_⟩
  refine t_one (i := 5) (by kernel_rfl) ?_
  refine p_gets rfl (g_append hS tabOk (i := 3) rfl rfl rfl rfl (hS.rowRo 0 rfl) rfl (by simp only [List.length_map]; omega)) rfl ?_
  rintro _ w' ⟨p', c', rfl, hS'⟩
  simp only [List.set] at hS'
  clear hS; have hS := hS'; clear hS'
  refine ⟨Or.inl rfl, ?_⟩
  ((with_reducible apply t_pure 6 tabOk); exact rfl; kernel_rfl; kernel_rfl; kernel_rfl; exact rfl; exact (fun _ _ _ h => h); exact Or.inl rfl; exact rfl; exact rfl)
  refine t_one (i := 7) (by kernel_rfl) ?_
  refine p_gets0 (Φ := fun _ w' => St _ _ w' _) rfl (g_store hS tabOk (i := 2) rfl rfl rfl rfl rfl (Nat.le_of_ble_eq_true rfl) (by intro u hu; simp [Value.cells] at hu; subst hu; rfl)) ?_
  intro _ w' hS'
  simp only [List.set] at hS'
  clear hS; have hS := hS'; clear hS'
  refine ⟨Or.inr (Or.inl rfl), ?_⟩
  refine t_done (by kernel_rfl) ?_
  refine q_rp (Or.inr rfl) ?_
  (apply q_end0); (repeat ((exact ResL.nil)))
  refine ⟨s, r, p', c', hs, ?_⟩
  simp only [List.length_append, List.length_cons, List.length_nil, List.map_append, List.map_cons, List.map_nil]
  rw [List.length_map] at hS
  exact hS.sub (List.sublist_cons_self _ _)
set_option maxRecDepth 100000 in
set_option maxHeartbeats 4000000 in
theorem read3_ok {g gi gr : Nat} {nm a b d en : Value} : OneOk 40 [gPt gr, gPt gi] g gi gr 82 5 (LfS nm a b d en) sgC rdSg := by
  intro F w0 w Γ l xs p c hl hx hS0
  refine fnP_enter (fn := Try.f40) ⟨Try.func40, by kernel_rfl, by kernel_rfl⟩ (by exact rfl) Try.ntmps40 (by exact rfl) ?_
  have hS := St.startM hS0
  simp only [RdD, LfS] at hS ⊢
  clear hS0
  repeat' (first | (first | ((with_reducible apply l_load); exact rfl; (((with_reducible apply Loads.sc tabOk); exact rfl; (first | exact hS.blkC 3 rfl rfl | exact hS.blkC 4 rfl rfl))); exact rfl) | ((with_reducible apply l_build tabOk); exact rfl; exact rfl; ((exact (rfl : _ = some [_, _, _, _, _]))); exact rfl) | ((with_reducible apply l_alloc hS tabOk); exact rfl; exact rfl; exact rfl; intro g w' hS'; clear hS; have hS := hS'; clear hS') | (((with_reducible apply l_store hS tabOk (i := 0)); exact rfl; exact rfl; exact rfl; exact rfl; exact rfl; exact rfl; exact rfl; exact rfl; ((exact (rfl : _ = [_, _, _, _, _]))); intro w' hS'; simp only [List.set] at hS'; clear hS; have hS := hS'; clear hS'))) | (first | (with_reducible apply c_seq) | (with_reducible apply c_region) | (with_reducible apply l_nil) | (with_reducible apply q_then)) | ((with_reducible apply l_callQ); exact rfl; exact rfl; exact number_fn (l := l) hS hl; exact rfl; (rintro w' ⟨hno, r, hS'⟩; (repeat' ((with_reducible apply q_then_panic))); exact q_panicked ⟨(by unfold rdSg; simp only [Option.bind_some, Option.bind_none, *]), _, St.reorder [0, 1, 2, 3] (hS.transM1 hS') (by decide) rfl⟩); rintro _ w' ⟨r1, ⟨n1, hn1, rfl⟩, hS'⟩; replace hS := hS.transM1 hS'; simp only [appA] at hS; clear hS'))
  have l1 := rdNum_len hn1
  replace hS := St.reorder [1, 0, 2, 3, 4] hS (by decide) rfl
  repeat' (first | (first | ((with_reducible apply l_pure tabOk); exact rfl; exact rfl) | ((with_reducible apply l_load); exact rfl; (((with_reducible apply Loads.sc tabOk); exact rfl; ((exact hS.blkC 4 rfl rfl)))); exact rfl) | (((with_reducible apply l_store hS tabOk (i := 1)); exact rfl; exact rfl; exact rfl; exact rfl; exact rfl; exact rfl; exact rfl; exact rfl; ((exact (rfl : _ = [_, _, _, _, _]))); intro w' hS'; simp only [List.set] at hS'; clear hS; have hS := hS'; clear hS'))) | (first | (with_reducible apply c_seq) | (with_reducible apply c_region) | (with_reducible apply l_nil) | (with_reducible apply q_then)) | ((with_reducible apply l_callQ); exact rfl; exact rfl; exact number_fn (l := r1) hS (by omega); exact rfl; (rintro w' ⟨hno, r, hS'⟩; (repeat' ((with_reducible apply q_then_panic))); exact q_panicked ⟨(by unfold rdSg; simp only [Option.bind_some, Option.bind_none, *]), _, St.reorder [0, 2, 3, 4] (hS.transM1 hS') (by decide) rfl⟩); rintro _ w' ⟨r2, ⟨n2, hn2, rfl⟩, hS'⟩; replace hS := hS.transM1 hS'; simp only [appA] at hS; clear hS'))
  have l2 := rdNum_len hn2
  repeat' (first | (first | ((with_reducible apply l_pure tabOk); exact rfl; exact rfl) | ((with_reducible apply l_load); exact rfl; (((with_reducible apply Loads.sc tabOk); exact rfl; ((exact hS.blkC 4 rfl rfl)))); exact rfl) | (((with_reducible apply l_store hS tabOk (i := 1)); exact rfl; exact rfl; exact rfl; exact rfl; exact rfl; exact rfl; exact rfl; exact rfl; ((exact (rfl : _ = [_, _, _, _, _]))); intro w' hS'; simp only [List.set] at hS'; clear hS; have hS := hS'; clear hS'))) | (first | (with_reducible apply c_seq) | (with_reducible apply c_region) | (with_reducible apply l_nil) | (with_reducible apply q_then)) | ((with_reducible apply l_callQ); exact rfl; exact rfl; exact text_fn (l := r2) hS (by omega); exact rfl; (rintro w' ⟨hno, r, hS'⟩; (repeat' ((with_reducible apply q_then_panic))); exact q_panicked ⟨(by unfold rdSg; simp only [Option.bind_some, Option.bind_none, *]), _, St.reorder [0, 2, 3, 4] (hS.transM1 hS') (by decide) rfl⟩); rintro _ w' ⟨r3, ⟨n3, hn3, rfl⟩, hS'⟩; replace hS := hS.transM1 hS'; simp only [appA] at hS; clear hS'))
  have l3 := rdText_len hn3
  repeat' (first | (first | ((with_reducible apply l_pure tabOk); exact rfl; exact rfl) | ((with_reducible apply l_load); exact rfl; (((with_reducible apply Loads.sc tabOk); exact rfl; ((exact hS.blkC 4 rfl rfl)))); exact rfl) | (((with_reducible apply l_store hS tabOk (i := 1)); exact rfl; exact rfl; exact rfl; exact rfl; exact rfl; exact rfl; exact rfl; exact rfl; ((exact (rfl : _ = [_, _, _, _, _]))); intro w' hS'; simp only [List.set] at hS'; clear hS; have hS := hS'; clear hS'))) | (first | (with_reducible apply c_seq) | (with_reducible apply c_region) | (with_reducible apply l_nil) | (with_reducible apply q_then)) | ((with_reducible apply l_callQ); exact rfl; exact rfl; exact truth_fn (l := r3) hS (by omega); exact rfl; (rintro w' ⟨hno, r, hS'⟩; (repeat' ((with_reducible apply q_then_panic))); exact q_panicked ⟨(by unfold rdSg; simp only [Option.bind_some, Option.bind_none, *]), _, St.reorder [0, 2, 3, 4] (hS.transM1 hS') (by decide) rfl⟩); rintro _ w' ⟨r4, ⟨n4, hn4, rfl⟩, hS'⟩; replace hS := hS.transM1 hS'; simp only [appA] at hS; clear hS'))
  have l4 := rdTruth_len hn4
  repeat' (first | (first | ((with_reducible apply l_pure tabOk); exact rfl; exact rfl) | ((with_reducible apply l_load); exact rfl; (first | ((with_reducible apply Loads.sl tabOk); exact rfl; ((exact hS.blkC 2 rfl rfl))) | ((with_reducible apply Loads.st tabOk); exact rfl; ((exact hS.blkR 1 rfl)); exact rfl)); exact rfl) | (((with_reducible apply l_store hS tabOk (i := 1)); exact rfl; exact rfl; exact rfl; exact rfl; exact rfl; exact rfl; exact rfl; exact rfl; ((exact (rfl : _ = [_, _, _, _, _]))); intro w' hS'; simp only [List.set] at hS'; clear hS; have hS := hS'; clear hS')) | ((with_reducible apply l_bslice hS tabOk); exact rfl; exact rfl; exact rfl; exact rfl; exact rfl; exact rfl; exact rfl; intro g w' hS'; clear hS; have hS := hS'; clear hS')) | (first | (with_reducible apply c_region) | (with_reducible apply l_nil) | (with_reducible apply q_then)) | ((with_reducible apply l_callQ); exact rfl; exact rfl; exact truth_fn (l := r4) hS (by omega); exact rfl; (rintro w' ⟨hno, r, hS'⟩; (repeat' ((with_reducible apply q_then_panic))); exact q_panicked ⟨(by unfold rdSg; simp only [Option.bind_some, Option.bind_none, *]), _, St.reorder [0, 2, 3, 4] (hS.transM1 hS') (by decide) rfl⟩); rintro _ w' ⟨r5, ⟨n5, hn5, rfl⟩, hS'⟩; replace hS := hS.transM1 hS'; simp only [appA] at hS; clear hS'))
  have l5 := rdTruth_len hn5
  repeat' (first | (first | ((with_reducible apply l_pure tabOk); exact rfl; exact rfl) | (((with_reducible apply l_store hS tabOk (i := 3)); exact rfl; exact rfl; exact rfl; exact rfl; exact rfl; exact rfl; exact rfl; exact rfl; ((exact (rfl : _ = [_, _, _, _, _, _]))); intro w' hS'; simp only [List.set] at hS'; clear hS; have hS := hS'; clear hS'))) | ((with_reducible apply l_nil)) | ((with_reducible apply l_append hS tabOk 4); exact rfl; exact rfl; exact rfl; exact rfl; exact hS.rowRo 0 rfl; exact rfl; (simp only [List.length_map]; omega); exact rfl; intro p' cap' w' hS'; simp only [List.set] at hS'; clear hS; have hS := hS'; clear hS'))
  refine q_rp (Or.inr rfl) ?_
  (apply q_end0); (repeat ((exact ResL.nil)))
  refine ⟨⟨n1, n2, n3, n4, n5⟩, r5, p', cap', (by unfold rdSg; simp only [Option.bind_some, *]), ?_⟩
  simp only [List.length_append, List.length_cons, List.length_nil, List.map_append, List.map_cons, List.map_nil]
  rw [List.length_map] at hS
  exact hS.reorder [1, 3, 4, 5] (by decide) rfl
set_option maxRecDepth 100000 in
set_option maxHeartbeats 4000000 in
theorem read4_ok {g gi gr : Nat} {nm a b d en : Value} : OneOk 43 [gPt gr, gPt gi] g gi gr 85 2 (LfY nm a b d en) syC rdSy := by
  intro F w0 w Γ l xs p c hl hx hS0
  refine fnP_enter (fn := Try.f43) ⟨Try.func43, by kernel_rfl, by kernel_rfl⟩ (by exact rfl) Try.ntmps43 (by exact rfl) ?_
  have hS := St.startM hS0
  simp only [RdD, LfY] at hS ⊢
  clear hS0
  repeat' (first | (first | ((with_reducible apply l_load); exact rfl; (((with_reducible apply Loads.sc tabOk); exact rfl; (first | exact hS.blkC 3 rfl rfl | exact hS.blkC 4 rfl rfl))); exact rfl) | ((with_reducible apply l_build tabOk); exact rfl; exact rfl; ((exact (rfl : _ = some [_, _]))); exact rfl) | ((with_reducible apply l_alloc hS tabOk); exact rfl; exact rfl; exact rfl; intro g w' hS'; clear hS; have hS := hS'; clear hS') | (((with_reducible apply l_store hS tabOk (i := 0)); exact rfl; exact rfl; exact rfl; exact rfl; exact rfl; exact rfl; exact rfl; exact rfl; ((exact (rfl : _ = [_, _]))); intro w' hS'; simp only [List.set] at hS'; clear hS; have hS := hS'; clear hS'))) | (first | (with_reducible apply c_seq) | (with_reducible apply c_region) | (with_reducible apply l_nil) | (with_reducible apply q_then)) | ((with_reducible apply l_callQ); exact rfl; exact rfl; exact text_fn (l := l) hS hl; exact rfl; (rintro w' ⟨hno, r, hS'⟩; (repeat' ((with_reducible apply q_then_panic))); exact q_panicked ⟨(by unfold rdSy; simp only [Option.bind_some, Option.bind_none, *]), _, St.reorder [0, 1, 2, 3] (hS.transM1 hS') (by decide) rfl⟩); rintro _ w' ⟨r1, ⟨n1, hn1, rfl⟩, hS'⟩; replace hS := hS.transM1 hS'; simp only [appA] at hS; clear hS'))
  have l1 := rdText_len hn1
  replace hS := St.reorder [1, 0, 2, 3, 4] hS (by decide) rfl
  repeat' (first | (first | ((with_reducible apply l_pure tabOk); exact rfl; exact rfl) | ((with_reducible apply l_load); exact rfl; (first | ((with_reducible apply Loads.sl tabOk); exact rfl; ((exact hS.blkC 2 rfl rfl))) | ((with_reducible apply Loads.st tabOk); exact rfl; ((exact hS.blkR 1 rfl)); exact rfl)); exact rfl) | (((with_reducible apply l_store hS tabOk (i := 1)); exact rfl; exact rfl; exact rfl; exact rfl; exact rfl; exact rfl; exact rfl; exact rfl; ((exact (rfl : _ = [_, _]))); intro w' hS'; simp only [List.set] at hS'; clear hS; have hS := hS'; clear hS')) | ((with_reducible apply l_bslice hS tabOk); exact rfl; exact rfl; exact rfl; exact rfl; exact rfl; exact rfl; exact rfl; intro g w' hS'; clear hS; have hS := hS'; clear hS')) | (first | (with_reducible apply c_region) | (with_reducible apply l_nil) | (with_reducible apply q_then)) | ((with_reducible apply l_callQ); exact rfl; exact rfl; exact number_fn (l := r1) hS (by omega); exact rfl; (rintro w' ⟨hno, r, hS'⟩; (repeat' ((with_reducible apply q_then_panic))); exact q_panicked ⟨(by unfold rdSy; simp only [Option.bind_some, Option.bind_none, *]), _, St.reorder [0, 2, 3, 4] (hS.transM1 hS') (by decide) rfl⟩); rintro _ w' ⟨r2, ⟨n2, hn2, rfl⟩, hS'⟩; replace hS := hS.transM1 hS'; simp only [appA] at hS; clear hS'))
  have l2 := rdNum_len hn2
  repeat' (first | (first | ((with_reducible apply l_pure tabOk); exact rfl; exact rfl) | (((with_reducible apply l_store hS tabOk (i := 3)); exact rfl; exact rfl; exact rfl; exact rfl; exact rfl; exact rfl; exact rfl; exact rfl; ((exact (rfl : _ = [_, _, _, _, _, _]))); intro w' hS'; simp only [List.set] at hS'; clear hS; have hS := hS'; clear hS'))) | ((with_reducible apply l_nil)) | ((with_reducible apply l_append hS tabOk 4); exact rfl; exact rfl; exact rfl; exact rfl; exact hS.rowRo 0 rfl; exact rfl; (simp only [List.length_map]; omega); exact rfl; intro p' cap' w' hS'; simp only [List.set] at hS'; clear hS; have hS := hS'; clear hS'))
  refine q_rp (Or.inr rfl) ?_
  (apply q_end0); (repeat ((exact ResL.nil)))
  refine ⟨⟨n1, n2⟩, r2, p', cap', (by unfold rdSy; simp only [Option.bind_some, *]), ?_⟩
  simp only [List.length_append, List.length_cons, List.length_nil, List.map_append, List.map_cons, List.map_nil]
  rw [List.length_map] at hS
  exact hS.reorder [1, 3, 4, 5] (by decide) rfl
set_option maxRecDepth 100000 in
set_option maxHeartbeats 4000000 in
theorem read5_ok {g gi gr : Nat} {nm a b d en : Value} : OneOk 44 [gPt gr, gPt gi] g gi gr 87 3 (LfR nm a b d en) rlC rdRl := by
  intro F w0 w Γ l xs p c hl hx hS0
  refine fnP_enter (fn := Try.f44) ⟨Try.func44, by kernel_rfl, by kernel_rfl⟩ (by exact rfl) Try.ntmps44 (by exact rfl) ?_
  have hS := St.startM hS0
  simp only [RdD, LfR] at hS ⊢
  clear hS0
  repeat' (first | (first | ((with_reducible apply l_load); exact rfl; (((with_reducible apply Loads.sc tabOk); exact rfl; (first | exact hS.blkC 3 rfl rfl | exact hS.blkC 4 rfl rfl))); exact rfl) | ((with_reducible apply l_build tabOk); exact rfl; exact rfl; ((exact (rfl : _ = some [_, _, _]))); exact rfl) | ((with_reducible apply l_alloc hS tabOk); exact rfl; exact rfl; exact rfl; intro g w' hS'; clear hS; have hS := hS'; clear hS') | (((with_reducible apply l_store hS tabOk (i := 0)); exact rfl; exact rfl; exact rfl; exact rfl; exact rfl; exact rfl; exact rfl; exact rfl; ((exact (rfl : _ = [_, _, _]))); intro w' hS'; simp only [List.set] at hS'; clear hS; have hS := hS'; clear hS'))) | (first | (with_reducible apply c_seq) | (with_reducible apply c_region) | (with_reducible apply l_nil) | (with_reducible apply q_then)) | ((with_reducible apply l_callQ); exact rfl; exact rfl; exact number_fn (l := l) hS hl; exact rfl; (rintro w' ⟨hno, r, hS'⟩; (repeat' ((with_reducible apply q_then_panic))); exact q_panicked ⟨(by unfold rdRl; simp only [Option.bind_some, Option.bind_none, *]), _, St.reorder [0, 1, 2, 3] (hS.transM1 hS') (by decide) rfl⟩); rintro _ w' ⟨r1, ⟨n1, hn1, rfl⟩, hS'⟩; replace hS := hS.transM1 hS'; simp only [appA] at hS; clear hS'))
  have l1 := rdNum_len hn1
  replace hS := St.reorder [1, 0, 2, 3, 4] hS (by decide) rfl
  repeat' (first | (first | ((with_reducible apply l_pure tabOk); exact rfl; exact rfl) | ((with_reducible apply l_load); exact rfl; (((with_reducible apply Loads.sc tabOk); exact rfl; ((exact hS.blkC 4 rfl rfl)))); exact rfl) | (((with_reducible apply l_store hS tabOk (i := 1)); exact rfl; exact rfl; exact rfl; exact rfl; exact rfl; exact rfl; exact rfl; exact rfl; ((exact (rfl : _ = [_, _, _]))); intro w' hS'; simp only [List.set] at hS'; clear hS; have hS := hS'; clear hS'))) | (first | (with_reducible apply c_seq) | (with_reducible apply c_region) | (with_reducible apply l_nil) | (with_reducible apply q_then)) | ((with_reducible apply l_callQ); exact rfl; exact rfl; exact text_fn (l := r1) hS (by omega); exact rfl; (rintro w' ⟨hno, r, hS'⟩; (repeat' ((with_reducible apply q_then_panic))); exact q_panicked ⟨(by unfold rdRl; simp only [Option.bind_some, Option.bind_none, *]), _, St.reorder [0, 2, 3, 4] (hS.transM1 hS') (by decide) rfl⟩); rintro _ w' ⟨r2, ⟨n2, hn2, rfl⟩, hS'⟩; replace hS := hS.transM1 hS'; simp only [appA] at hS; clear hS'))
  have l2 := rdText_len hn2
  repeat' (first | (first | ((with_reducible apply l_pure tabOk); exact rfl; exact rfl) | ((with_reducible apply l_load); exact rfl; (first | ((with_reducible apply Loads.sl tabOk); exact rfl; ((exact hS.blkC 2 rfl rfl))) | ((with_reducible apply Loads.st tabOk); exact rfl; ((exact hS.blkR 1 rfl)); exact rfl)); exact rfl) | (((with_reducible apply l_store hS tabOk (i := 1)); exact rfl; exact rfl; exact rfl; exact rfl; exact rfl; exact rfl; exact rfl; exact rfl; ((exact (rfl : _ = [_, _, _]))); intro w' hS'; simp only [List.set] at hS'; clear hS; have hS := hS'; clear hS')) | ((with_reducible apply l_bslice hS tabOk); exact rfl; exact rfl; exact rfl; exact rfl; exact rfl; exact rfl; exact rfl; intro g w' hS'; clear hS; have hS := hS'; clear hS')) | (first | (with_reducible apply c_region) | (with_reducible apply l_nil) | (with_reducible apply q_then)) | ((with_reducible apply l_callQ); exact rfl; exact rfl; exact number_fn (l := r2) hS (by omega); exact rfl; (rintro w' ⟨hno, r, hS'⟩; (repeat' ((with_reducible apply q_then_panic))); exact q_panicked ⟨(by unfold rdRl; simp only [Option.bind_some, Option.bind_none, *]), _, St.reorder [0, 2, 3, 4] (hS.transM1 hS') (by decide) rfl⟩); rintro _ w' ⟨r3, ⟨n3, hn3, rfl⟩, hS'⟩; replace hS := hS.transM1 hS'; simp only [appA] at hS; clear hS'))
  have l3 := rdNum_len hn3
  repeat' (first | (first | ((with_reducible apply l_pure tabOk); exact rfl; exact rfl) | (((with_reducible apply l_store hS tabOk (i := 3)); exact rfl; exact rfl; exact rfl; exact rfl; exact rfl; exact rfl; exact rfl; exact rfl; ((exact (rfl : _ = [_, _, _, _, _, _]))); intro w' hS'; simp only [List.set] at hS'; clear hS; have hS := hS'; clear hS'))) | ((with_reducible apply l_nil)) | ((with_reducible apply l_append hS tabOk 4); exact rfl; exact rfl; exact rfl; exact rfl; exact hS.rowRo 0 rfl; exact rfl; (simp only [List.length_map]; omega); exact rfl; intro p' cap' w' hS'; simp only [List.set] at hS'; clear hS; have hS := hS'; clear hS'))
  refine q_rp (Or.inr rfl) ?_
  (apply q_end0); (repeat ((exact ResL.nil)))
  refine ⟨⟨n1, n2, n3⟩, r3, p', cap', (by unfold rdRl; simp only [Option.bind_some, *]), ?_⟩
  simp only [List.length_append, List.length_cons, List.length_nil, List.map_append, List.map_cons, List.map_nil]
  rw [List.length_map] at hS
  exact hS.reorder [1, 3, 4, 5] (by decide) rfl
end Go.Proofs.Ytejnpppejalhfab
