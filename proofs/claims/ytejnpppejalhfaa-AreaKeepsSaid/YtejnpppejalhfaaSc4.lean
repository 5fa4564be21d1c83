/- THE STEP CALCULUS, part 4: the judgements, and the rules on code and on lists of operations. -/
import Derived.Test.YtejnpppejalhfaaSc3
namespace Go.Proofs.Ytejnpppejalhfaa
open Go.RowKit Go.Sort

section
variable {P : Program} {n : Nat} {ds : List Deferred} {E : Fr} {w : World} {Q : Exit → Act → World → Prop} {ops : Array Oper} {rest : List Oper}

def WL (P : Program) (ops : Array Oper) (Q : Exit → Act → World → Prop) (l : List Oper) (n : Nat) (ds : List Deferred) (E : Fr) (w : World) : Prop := ∀ a, Has n ds a E → wpList P ops Q l a w
def WC (P : Program) (c : Code) (Q : Exit → Act → World → Prop) (n : Nat) (ds : List Deferred) (E : Fr) (w : World) : Prop := ∀ a, Has n ds a E → c.wp P Q a w
def WQ (Q : Exit → Act → World → Prop) (e : Exit) (n : Nat) (ds : List Deferred) (E : Fr) (w : World) : Prop := ∀ a, Has n ds a E → Q e a w
/-- the operation, begun so, yields v in a world w' of which Φ -/
def Gets (P : Program) (o : Oper) (n : Nat) (ds : List Deferred) (E : Fr) (w : World) (Φ : Value → World → Prop) : Prop :=
  ∀ a, Has n ds a E → ∀ (K : Act → World → Prop) (Q : Exit → Act → World → Prop), (∀ v w', Φ v w' → K (a.put o.dst v) w') → o.wp P a w K Q

/-! code -/
theorem c_seq {x y : Code} (h : WC P x (Exit.then (y.wp P Q) Q) n ds E w) : WC P (.seq x y) Q n ds E w := fun a ha => wp_seq (h a ha)
theorem c_skip (h : WQ Q .normal n ds E w) : WC P .skip Q n ds E w := fun a ha => wp_skip (h a ha)
theorem c_exit {i : Nat} (h : WQ Q (.exit i) n ds E w) : WC P (.exit i) Q n ds E w := fun a ha => wp_exit (h a ha)
theorem c_ret (h : WQ Q .ret n ds E w) : WC P .ret Q n ds E w := fun a ha => wp_ret (h a ha)
theorem c_block {i : Nat} {c : Code} (h : WC P c (Exit.inBlock i Q) n ds E w) : WC P (.block i c) Q n ds E w := fun a ha => wp_block (h a ha)
theorem c_region {i : Nat} {l : List Oper} (h : WL P l.toArray Q l n ds E w) : WC P (.region i l.toArray false) Q n ds E w := fun a ha => wp_region_lit (h a ha)
theorem c_if {c : Operand} {x y : Code} {b : Bool} (hc : E.ev c = some (.bool b)) (ht : b = true → WC P x Q n ds E w) (hf : b = false → WC P y Q n ds E w) : WC P (.cond c x y) Q n ds E w :=
  fun a ha => wp_cond_split (ha.ev hc) (fun h => ht h a ha) (fun h => hf h a ha)
theorem c_ift {c : Operand} {x y : Code} {b : Bool} (hc : E.ev c = some (.bool b)) (hb : b = true) (ht : WC P x Q n ds E w) : WC P (.cond c x y) Q n ds E w :=
  c_if hc (fun _ => ht) (fun h => by rw [hb] at h; cases h)
theorem c_iff {c : Operand} {x y : Code} {b : Bool} (hc : E.ev c = some (.bool b)) (hb : b = false) (hf : WC P y Q n ds E w) : WC P (.cond c x y) Q n ds E w :=
  c_if hc (fun h => by rw [hb] at h; cases h) (fun _ => hf)
theorem c_mono {c : Code} {Q' : Exit → Act → World → Prop} (h : WC P c Q n ds E w) (hq : ∀ e a w, Q e a w → Q' e a w) : WC P c Q' n ds E w := fun a ha => Code.wp_mono hq (h a ha)
theorem c_weak {c : Code} {E' : Fr} (hs : Fr.sub E' E) (h : WC P c Q n ds E' w) : WC P c Q n ds E w := fun a ha => h a (ha.sub hs)
theorem l_weak {l : List Oper} {E' : Fr} (hs : Fr.sub E' E) (h : WL P ops Q l n ds E' w) : WL P ops Q l n ds E w := fun a ha => h a (ha.sub hs)
/-- A LOOP: x runs over what changes from round to round -/
theorem c_loop {X : Type} {c : Code} (x0 : X) (Ef : X → Fr) (I : X → World → Prop) (m : X → Nat) (h0 : Fr.sub (Ef x0) E) (hI : I x0 w)
    (round : ∀ x w', I x w' → WC P c (Exit.then (fun a' w'' => ∃ x', Has n ds a' (Ef x') ∧ I x' w'' ∧ m x' < m x) Q) n ds (Ef x) w') : WC P (.loop c) Q n ds E w := by
  intro a ha
  classical
  have key : ∀ (a : Act) (w : World), (∃ k x, Has n ds a (Ef x) ∧ I x w ∧ m x = k) → ∃ k x, Has n ds a (Ef x) ∧ I x w ∧ m x = k ∧ ∀ x', Has n ds a (Ef x') → I x' w → k ≤ m x' := by
    intro a w ⟨k, hk⟩
    induction k using Nat.strongRecOn with
    | _ k ih =>
      obtain ⟨x, h1, h2, h3⟩ := hk
      by_cases hex : ∃ x', Has n ds a (Ef x') ∧ I x' w ∧ m x' < k
      · obtain ⟨x', h4, h5, h6⟩ := hex
        exact ih (m x') h6 ⟨x', h4, h5, rfl⟩
      · exact ⟨k, x, h1, h2, h3, fun x' h4 h5 => Nat.le_of_not_lt fun h6 => hex ⟨x', h4, h5, h6⟩⟩
  have ex : ∀ (a : Act) (w : World), ∃ k : Nat, (∃ x, Has n ds a (Ef x) ∧ I x w) → ∃ x, Has n ds a (Ef x) ∧ I x w ∧ m x = k ∧ ∀ x', Has n ds a (Ef x') → I x' w → k ≤ m x' := by
    intro a w
    by_cases h : ∃ x, Has n ds a (Ef x) ∧ I x w
    · obtain ⟨x, h1, h2⟩ := h
      obtain ⟨k, x, h⟩ := key a w ⟨m x, x, h1, h2, rfl⟩
      exact ⟨k, fun _ => ⟨x, h⟩⟩
    · exact ⟨0, fun h' => (h h').elim⟩
  refine wp_loop (fun a w => ∃ x, Has n ds a (Ef x) ∧ I x w) (fun a w => Classical.choose (ex a w)) ⟨x0, ha.sub h0, hI⟩ fun a' w' hh => ?_
  obtain ⟨x, h1, h2, h3, _⟩ := Classical.choose_spec (ex a' w') hh
  refine Code.wp_mono (fun e a2 w2 q => ?_) (round x w' h2 a' h1)
  cases e with
  | normal =>
    obtain ⟨x', h5, h6, h7⟩ := q
    refine ⟨⟨x', h5, h6⟩, ?_⟩
    obtain ⟨_, _, _, _, hmin⟩ := Classical.choose_spec (ex a2 w2) ⟨x', h5, h6⟩
    have := hmin x' h5 h6
    omega
  | exit i => exact q
  | goto l => exact q
  | ret => exact q
  | panic c => exact q
  | outgrown => exact q

/-- ways that meet again: x runs over what is known there -/
theorem c_join {X : Type} (Ef : X → Fr) (I : X → World → Prop) {x z : Code} (hx : WC P x (Exit.then (fun a' w' => ∃ m, Has n ds a' (Ef m) ∧ I m w') Q) n ds E w) (hz : ∀ m w', I m w' → WC P z Q n ds (Ef m) w') : WC P (.seq x z) Q n ds E w := fun a ha =>
  wp_seq (Code.wp_mono (fun e a' w' q => by
    cases e with
    | normal => obtain ⟨m, h1, h2⟩ := q; exact hz m w' h2 a' h1
    | exit i => exact q
    | goto l => exact q
    | ret => exact q
    | panic c => exact q
    | outgrown => exact q) (hx a ha))
theorem c_join2 {X : Type} (Ef : X → Fr) (I : X → World → Prop) {x y z : Code} (hx : WC P x (Exit.then (y.wp P (Exit.then (fun a' w' => ∃ m, Has n ds a' (Ef m) ∧ I m w') Q)) Q) n ds E w) (hz : ∀ m w', I m w' → WC P z Q n ds (Ef m) w') : WC P (.seq x (.seq y z)) Q n ds E w := fun a ha =>
  wp_seq (Code.wp_mono (fun e a' w' q => by
    cases e with
    | normal =>
      refine wp_seq (Code.wp_mono (fun e a2 w2 q2 => ?_) q)
      cases e with
      | normal => obtain ⟨m, h1, h2⟩ := q2; exact hz m w2 h2 a2 h1
      | exit i => exact q2
      | goto l => exact q2
      | ret => exact q2
      | panic c => exact q2
      | outgrown => exact q2
    | exit i => exact q
    | goto l => exact q
    | ret => exact q
    | panic c => exact q
    | outgrown => exact q) (hx a ha))
theorem q_join {X : Type} {Ef : X → Fr} {I : X → World → Prop} (m : X) (h0 : Fr.sub (Ef m) E) (hI : I m w) : WQ (Exit.then (fun a' w' => ∃ m, Has n ds a' (Ef m) ∧ I m w') Q) .normal n ds E w := fun _ ha => ⟨m, ha.sub h0, hI⟩
/-! exits -/
theorem l_nil (h : WQ Q .normal n ds E w) : WL P ops Q [] n ds E w := h
theorem q_then {y : Code} {Q' : Exit → Act → World → Prop} (h : WC P y Q' n ds E w) : WQ (Exit.then (y.wp P Q') Q) .normal n ds E w := h
theorem q_then_exit {N : Act → World → Prop} {i : Nat} (h : WQ Q (.exit i) n ds E w) : WQ (Exit.then N Q) (.exit i) n ds E w := h
theorem q_then_ret {N : Act → World → Prop} (h : WQ Q .ret n ds E w) : WQ (Exit.then N Q) .ret n ds E w := h
theorem q_block {i : Nat} (h : WQ Q .normal n ds E w) : WQ (Exit.inBlock i Q) .normal n ds E w := h
theorem q_block_ret {i : Nat} (h : WQ Q .ret n ds E w) : WQ (Exit.inBlock i Q) .ret n ds E w := h
theorem q_block_exit {i : Nat} (h : WQ Q .normal n ds E w) : WQ (Exit.inBlock i Q) (.exit i) n ds E w := fun a ha => by
  show if i = i then _ else _
  rw [if_pos rfl]; exact h a ha
theorem q_block_other {i j : Nat} (hn : Nat.beq j i = false) (h : WQ Q (.exit j) n ds E w) : WQ (Exit.inBlock i Q) (.exit j) n ds E w := fun a ha => by
  show if j = i then _ else _
  rw [if_neg (fun e => by subst e; rw [Nat.beq_refl] at hn; cases hn)]; exact h a ha
/-- a round's end -/
theorem q_round {X : Type} {Ef : X → Fr} {I : X → World → Prop} {m : X → Nat} {k : Nat} (x' : X) (h0 : Fr.sub (Ef x') E) (hI : I x' w) (hm : m x' < k) :
    WQ (Exit.then (fun a' w'' => ∃ x', Has n ds a' (Ef x') ∧ I x' w'' ∧ m x' < k) Q) .normal n ds E w := fun _ ha => ⟨x', ha.sub h0, hI, hm⟩

/-! lists -/
variable {d : Nat} {op : Op} {ty : TypeId} {pos : String} {after : Array Edge}
theorem l_gets {Φ : Value → World → Prop} (hd : Nat.blt d n = true) (h : Gets P ⟨some d, op, ty, pos, after, none⟩ n ds E w Φ) (k : ∀ v w', Φ v w' → WL P ops Q rest n ds ((d, v) :: E) w') : WL P ops Q (⟨some d, op, ty, pos, after, none⟩ :: rest) n ds E w :=
  fun a ha => wpList_plain rfl fun _ hK => h a ha _ _ fun v w' hv => hK _ _ (k v w' hv _ (ha.put d v hd))
theorem l_gets0 {Φ : Value → World → Prop} (h : Gets P ⟨none, op, ty, pos, after, none⟩ n ds E w Φ) (k : ∀ v w', Φ v w' → WL P ops Q rest n ds E w') : WL P ops Q (⟨none, op, ty, pos, after, none⟩ :: rest) n ds E w :=
  fun a ha => wpList_plain rfl fun _ hK => h a ha _ _ fun v w' hv => hK _ _ (k v w' hv _ ha)
/-- what it yields does not hang on the world -/
theorem Gets.of_runs {o : Oper} {v : Value} (h : ∀ a, Has n ds a E → Runs P o a v) : Gets P o n ds E w (fun v' w' => v' = v ∧ w' = w) := by
  intro a ha K Q k
  unfold Oper.wp
  rw [h a ha w]
  exact k v w ⟨rfl, rfl⟩
theorem l_runs {v : Value} (h : ∀ a, Has n ds a E → Runs P ⟨some d, op, ty, pos, after, none⟩ a v) (hd : Nat.blt d n = true) (k : WL P ops Q rest n ds ((d, v) :: E) w) : WL P ops Q (⟨some d, op, ty, pos, after, none⟩ :: rest) n ds E w :=
  l_gets hd (Gets.of_runs h) (by rintro _ _ ⟨rfl, rfl⟩; exact k)
theorem l_pure {T : Tab} (hT : TabOk P T) {v : Value} (h : pureOp T E op = some v) (hd : Nat.blt d n = true) (k : WL P ops Q rest n ds ((d, v) :: E) w) : WL P ops Q (⟨some d, op, ty, pos, after, none⟩ :: rest) n ds E w :=
  l_runs (fun _ ha => pureOp_runs hT ha h) hd k

/-! guards -/
theorem wanted_of {o oj : Oper} {j : Nat} {want b : Bool} {dj : Nat} (hg : o.guard = some (j, want)) (hj : ops[j]? = some oj) (hdj : oj.dst = some dj) (hb : E.get dj = some (.bool b)) {a : Act} (ha : Has n ds a E) (hlt : Nat.blt dj n = true) :
    Region.wanted o (yielded ops a.tmps) = (b == want) := by
  have hlt' : dj < a.tmps.size := by rw [ha.size]; simpa [Nat.blt_eq] using hlt
  have h1 : a.tmps[dj]? = some (.bool b) := by
    have := ha.at_ dj _ hb
    rw [Array.getD_eq_getD_getElem?] at this
    rw [Array.getElem?_eq_getElem hlt'] at this ⊢
    exact congrArg some this
  have hy : yielded ops a.tmps j = some b := by simp [yielded, hj, hdj, h1]
  simp only [Region.wanted, hg, hy]
  cases b <;> cases want <;> rfl
theorem l_yes {j : Nat} {want b : Bool} {oj : Oper} {dj : Nat} {dst : Option Nat} (hj : ops[j]? = some oj) (hdj : oj.dst = some dj) (hlt : Nat.blt dj n = true) (hb : E.get dj = some (.bool b)) (he : b = want) (k : WL P ops Q (⟨dst, op, ty, pos, after, none⟩ :: rest) n ds E w) :
    WL P ops Q (⟨dst, op, ty, pos, after, some (j, want)⟩ :: rest) n ds E w := fun a ha => by
  have hw := wanted_of (o := ⟨dst, op, ty, pos, after, some (j, want)⟩) rfl hj hdj hb ha hlt
  have h := k a ha
  unfold wpList at h ⊢
  rw [if_pos (show Region.wanted _ _ = true from rfl)] at h
  rw [if_pos (by rw [hw, he]; cases want <;> rfl)]
  exact h
theorem l_no {j : Nat} {want b : Bool} {oj : Oper} {dj : Nat} (hj : ops[j]? = some oj) (hdj : oj.dst = some dj) (hlt : Nat.blt dj n = true) (hb : E.get dj = some (.bool b)) (he : b = !want) (hd : Nat.blt d n = true) (k : WL P ops Q rest n ds ((d, undef) :: E) w) :
    WL P ops Q (⟨some d, op, ty, pos, after, some (j, want)⟩ :: rest) n ds E w := fun a ha => by
  have hw := wanted_of (o := ⟨some d, op, ty, pos, after, some (j, want)⟩) rfl hj hdj hb ha hlt
  unfold wpList
  rw [if_neg (by rw [hw, he]; cases want <;> simp)]
  exact k _ (ha.put d undef hd)
theorem l_part {j : Nat} {want b : Bool} {oj : Oper} {dj : Nat} {dst : Option Nat} (_hj : ops[j]? = some oj) (_hdj : oj.dst = some dj) (_hb : E.get dj = some (.bool b)) (k1 : b = true → WL P ops Q (⟨dst, op, ty, pos, after, some (j, want)⟩ :: rest) n ds E w) (k2 : b = false → WL P ops Q (⟨dst, op, ty, pos, after, some (j, want)⟩ :: rest) n ds E w) :
    WL P ops Q (⟨dst, op, ty, pos, after, some (j, want)⟩ :: rest) n ds E w := by cases b; exact k2 rfl; exact k1 rfl
theorem l_pick1 {c x y : Operand} {b : Bool} {v : Value} (hc : E.ev c = some (.bool b)) (hb : b = true) (hv : E.ev x = some v) (hd : Nat.blt d n = true) (k : WL P ops Q rest n ds ((d, v) :: E) w) : WL P ops Q (⟨some d, .pick c x y, ty, pos, after, none⟩ :: rest) n ds E w :=
  l_runs (fun a ha w => by simp [execOp, ha.ev hc, asBool, hb, ha.ev hv]) hd k
theorem l_pick2 {c x y : Operand} {b : Bool} {v : Value} (hc : E.ev c = some (.bool b)) (hb : b = false) (hv : E.ev y = some v) (hd : Nat.blt d n = true) (k : WL P ops Q rest n ds ((d, v) :: E) w) : WL P ops Q (⟨some d, .pick c x y, ty, pos, after, none⟩ :: rest) n ds E w :=
  l_runs (fun a ha w => by simp [execOp, ha.ev hc, asBool, hb, ha.ev hv]) hd k

/-! numbers that do not wrap; places -/
theorem wrap_in {m : Int} (h1 : -9223372036854775808 ≤ m) (h2 : m ≤ 9223372036854775807) : IntKind.i64.wrap m = m := IntWalk.i64_in m ⟨h1, h2⟩
theorem r_add {t yt : TypeId} {x y : Operand} {m k : Int} (hx : E.ev x = some (.int .i64 m)) (hy : E.ev y = some (.int .i64 k)) (h1 : -9223372036854775808 ≤ m + k) (h2 : m + k ≤ 9223372036854775807) : ∀ a, Has n ds a E → ∀ dst, Runs P ⟨dst, .binOp .add t x y yt, ty, pos, after, none⟩ a (.int .i64 (m + k)) := fun a ha _ w => by
  simp [execOp, ha.ev hx, ha.ev hy, eqGuard, binOp, Op.intArith, wrap_in h1 h2]
theorem r_sub {t yt : TypeId} {x y : Operand} {m k : Int} (hx : E.ev x = some (.int .i64 m)) (hy : E.ev y = some (.int .i64 k)) (h1 : -9223372036854775808 ≤ m - k) (h2 : m - k ≤ 9223372036854775807) : ∀ a, Has n ds a E → ∀ dst, Runs P ⟨dst, .binOp .sub t x y yt, ty, pos, after, none⟩ a (.int .i64 (m - k)) := fun a ha _ w => by
  simp [execOp, ha.ev hx, ha.ev hy, eqGuard, binOp, Op.intArith, wrap_in h1 h2]
theorem r_mul {t yt : TypeId} {x y : Operand} {m k : Int} (hx : E.ev x = some (.int .i64 m)) (hy : E.ev y = some (.int .i64 k)) (h1 : -9223372036854775808 ≤ m * k) (h2 : m * k ≤ 9223372036854775807) : ∀ a, Has n ds a E → ∀ dst, Runs P ⟨dst, .binOp .mul t x y yt, ty, pos, after, none⟩ a (.int .i64 (m * k)) := fun a ha _ w => by
  simp [execOp, ha.ev hx, ha.ev hy, eqGuard, binOp, Op.intArith, wrap_in h1 h2]
theorem r_quo {t yt : TypeId} {x y : Operand} {m k : Int} (hx : E.ev x = some (.int .i64 m)) (hy : E.ev y = some (.int .i64 k)) (h1 : 0 ≤ m) (h2 : m ≤ 9223372036854775807) (h3 : 0 < k) : ∀ a, Has n ds a E → ∀ dst, Runs P ⟨dst, .binOp .quo t x y yt, ty, pos, after, none⟩ a (.int .i64 (m / k)) := fun a ha _ w => by
  have e : m.tdiv k = m / k := Int.tdiv_eq_ediv_of_nonneg h1
  have h4 : 0 ≤ m / k := Int.ediv_nonneg h1 (by omega)
  have h5 : m / k ≤ m := Int.ediv_le_self k h1
  have hk : ¬ k = 0 := by omega
  simp [execOp, ha.ev hx, ha.ev hy, eqGuard, binOp, Op.intDiv, hk, e, wrap_in (show -9223372036854775808 ≤ m / k by omega) (show m / k ≤ 9223372036854775807 by omega)]
theorem r_rem {t yt : TypeId} {x y : Operand} {m k : Int} (hx : E.ev x = some (.int .i64 m)) (hy : E.ev y = some (.int .i64 k)) (h1 : 0 ≤ m) (h3 : 0 < k) : ∀ a, Has n ds a E → ∀ dst, Runs P ⟨dst, .binOp .rem t x y yt, ty, pos, after, none⟩ a (.int .i64 (m % k)) := fun a ha _ w => by
  have e : m.tmod k = m % k := Int.tmod_eq_emod_of_nonneg h1
  have hk : ¬ k = 0 := by omega
  simp [execOp, ha.ev hx, ha.ev hy, eqGuard, binOp, Op.intDiv, hk, e]
/-- '&xs[i]' -/
theorem r_ix {T : Tab} (hT : TabOk P T) {t : TypeId} {x y : Operand} {el sz eb b off m c j : Nat} {ag : Bool} {z : List Value} {i : Int} (ht : T.get t = some (.sl el sz eb ag z)) (hx : E.ev x = some (.slice (some ⟨b, off, none⟩) m c)) (hy : E.ev y = some (.int .i64 i)) (hj : (j : Int) = i) (hm : j < m) :
    ∀ a, Has n ds a E → ∀ dst, Runs P ⟨dst, .indexAddr t x y, ty, pos, after, none⟩ a (.pointer (some ⟨b, off + j * sz, none⟩)) := fun a ha _ w => by
  obtain ⟨ji, zv, hu, hi, _, hs, _⟩ := hT.sl ht
  subst hj
  have hadd : (⟨b, off, none⟩ : Addr).add (j * sz) = ⟨b, off + j * sz, none⟩ := by unfold Addr.add; split <;> simp_all
  simp [execOp, ha.ev hx, ha.ev hy, Instr.indexAt, asIntOf, underlying, hu, sizeOf, typeInfo, hi, hs, hadd, hm, Result.andThen]
/-- '&arr[i]', arr an array in memory -/
theorem r_ixa {T : Tab} (hT : TabOk P T) {t : TypeId} {x y : Operand} {s len sz g k j : Nat} {ag : Bool} {z : List Value} {i : Int} (ht : T.get t = some (.ar s len sz ag z)) (hx : E.ev x = some (.pointer (some ⟨g, k, none⟩))) (hy : E.ev y = some (.int .i64 i)) (hj : (j : Int) = i) (hm : j < len) :
    ∀ a, Has n ds a E → ∀ dst, Runs P ⟨dst, .indexAddr t x y, ty, pos, after, none⟩ a (.pointer (some ⟨g, k + j * sz, none⟩)) := fun a ha _ w => by
  obtain ⟨el, i1, j1, hu, _, hi, _, _, hs, _⟩ := hT.ar ht
  subst hj
  have hadd : (⟨g, k, none⟩ : Addr).add (j * sz) = ⟨g, k + j * sz, none⟩ := by unfold Addr.add; split <;> simp_all
  simp [execOp, ha.ev hx, ha.ev hy, Instr.indexAt, Instr.sureAddr, asIntOf, underlying, hu, sizeOf, typeInfo, hi, hs, hadd, hm, Result.andThen]
/-- 's[i]', s a string -/
theorem r_ixs {t : TypeId} {T : Tab} (hT : TabOk P T) {sz : Nat} {z : Value} {x y : Operand} {l : List UInt8} {i : Int} {j : Nat} {c : UInt8} (ht : T.get t = some (.sc .string sz z)) (hx : E.ev x = some (.string ⟨l.toArray⟩)) (hy : E.ev y = some (.int .i64 i)) (hj : (j : Int) = i) (hc : l[j]? = some c) :
    ∀ a, Has n ds a E → ∀ dst, Runs P ⟨dst, .index t x y, ty, pos, after, none⟩ a (.int .u8 c.toNat) := fun a ha _ w => by
  obtain ⟨i1, hu, _⟩ := hT.sc ht
  subst hj
  have hc' : (⟨l.toArray⟩ : ByteArray)[j]? = some c := by
    have : (⟨l.toArray⟩ : ByteArray)[j]? = l.toArray[j]? := rfl
    rw [this]; simpa using hc
  simp [execOp, ha.ev hx, ha.ev hy, Instr.index, asIntOf, underlying, hu, hc', Result.andThen]
end
end Go.Proofs.Ytejnpppejalhfaa
