/- THE STEP CALCULUS, part 9: the rules as the walk takes them. -/
import Derived.Test.YtejnpppejalhfaaSc8
import Derived.Laws.StructEq
import Derived.Lib.SliceRun
import Derived.Laws.Pointers
import Derived.WalkSpells
namespace Go.Proofs.Ytejnpppejalhfaa
open Go.RowKit Go.Sort

def celL : Value → Option (List Value)
  | .agg ⟨l⟩ => some l
  | .tuple _ => none
  | v => some [v]
theorem celL_eq {v : Value} {L : List Value} (h : celL v = some L) : v.cells.toList = L := by
  unfold celL at h
  split at h <;> cases h
  · rfl
  · rename_i n _; cases v <;> first | rfl | exact (n _ rfl).elim
section
variable {P : Program} {n : Nat} {ds : List Deferred} {E : Fr} {w : World} {Q : Exit → Act → World → Prop} {ops : Array Oper} {rest : List Oper} {d : Nat} {ty : TypeId} {pos : String} {after : Array Edge} {T : Tab}
theorem l_add {t yt : TypeId} {x y : Operand} {m k : Int} (hx : E.ev x = some (.int .i64 m)) (hy : E.ev y = some (.int .i64 k)) (h1 : -9223372036854775808 ≤ m + k) (h2 : m + k ≤ 9223372036854775807) (hd : Nat.blt d n = true) (k' : WL P ops Q rest n ds ((d, .int .i64 (m + k)) :: E) w) : WL P ops Q (⟨some d, .binOp .add t x y yt, ty, pos, after, none⟩ :: rest) n ds E w := l_runs (fun a ha => r_add hx hy h1 h2 a ha _) hd k'
theorem d_add {C : World → Prop} {K : Act → Prop} {t yt : TypeId} {x y : Operand} {m k : Int} (hx : E.ev x = some (.int .i64 m)) (hy : E.ev y = some (.int .i64 k)) (h1 : -9223372036854775808 ≤ m + k) (h2 : m + k ≤ 9223372036854775807) (hd : Nat.blt d n = true) (k' : WD P ops C K rest n ds ((d, .int .i64 (m + k)) :: E)) : WD P ops C K (⟨some d, .binOp .add t x y yt, ty, pos, after, none⟩ :: rest) n ds E := d_runs (fun a ha => r_add hx hy h1 h2 a ha _) hd k'
theorem l_sub {t yt : TypeId} {x y : Operand} {m k : Int} (hx : E.ev x = some (.int .i64 m)) (hy : E.ev y = some (.int .i64 k)) (h1 : -9223372036854775808 ≤ m - k) (h2 : m - k ≤ 9223372036854775807) (hd : Nat.blt d n = true) (k' : WL P ops Q rest n ds ((d, .int .i64 (m - k)) :: E) w) : WL P ops Q (⟨some d, .binOp .sub t x y yt, ty, pos, after, none⟩ :: rest) n ds E w := l_runs (fun a ha => r_sub hx hy h1 h2 a ha _) hd k'
theorem d_sub {C : World → Prop} {K : Act → Prop} {t yt : TypeId} {x y : Operand} {m k : Int} (hx : E.ev x = some (.int .i64 m)) (hy : E.ev y = some (.int .i64 k)) (h1 : -9223372036854775808 ≤ m - k) (h2 : m - k ≤ 9223372036854775807) (hd : Nat.blt d n = true) (k' : WD P ops C K rest n ds ((d, .int .i64 (m - k)) :: E)) : WD P ops C K (⟨some d, .binOp .sub t x y yt, ty, pos, after, none⟩ :: rest) n ds E := d_runs (fun a ha => r_sub hx hy h1 h2 a ha _) hd k'
theorem l_mul {t yt : TypeId} {x y : Operand} {m k : Int} (hx : E.ev x = some (.int .i64 m)) (hy : E.ev y = some (.int .i64 k)) (h1 : -9223372036854775808 ≤ m * k) (h2 : m * k ≤ 9223372036854775807) (hd : Nat.blt d n = true) (k' : WL P ops Q rest n ds ((d, .int .i64 (m * k)) :: E) w) : WL P ops Q (⟨some d, .binOp .mul t x y yt, ty, pos, after, none⟩ :: rest) n ds E w := l_runs (fun a ha => r_mul hx hy h1 h2 a ha _) hd k'
theorem d_mul {C : World → Prop} {K : Act → Prop} {t yt : TypeId} {x y : Operand} {m k : Int} (hx : E.ev x = some (.int .i64 m)) (hy : E.ev y = some (.int .i64 k)) (h1 : -9223372036854775808 ≤ m * k) (h2 : m * k ≤ 9223372036854775807) (hd : Nat.blt d n = true) (k' : WD P ops C K rest n ds ((d, .int .i64 (m * k)) :: E)) : WD P ops C K (⟨some d, .binOp .mul t x y yt, ty, pos, after, none⟩ :: rest) n ds E := d_runs (fun a ha => r_mul hx hy h1 h2 a ha _) hd k'
theorem l_quo {t yt : TypeId} {x y : Operand} {m k : Int} (hx : E.ev x = some (.int .i64 m)) (hy : E.ev y = some (.int .i64 k)) (h1 : 0 ≤ m) (h2 : m ≤ 9223372036854775807) (h3 : 0 < k) (hd : Nat.blt d n = true) (k' : WL P ops Q rest n ds ((d, .int .i64 (m / k)) :: E) w) : WL P ops Q (⟨some d, .binOp .quo t x y yt, ty, pos, after, none⟩ :: rest) n ds E w := l_runs (fun a ha => r_quo hx hy h1 h2 h3 a ha _) hd k'
theorem d_quo {C : World → Prop} {K : Act → Prop} {t yt : TypeId} {x y : Operand} {m k : Int} (hx : E.ev x = some (.int .i64 m)) (hy : E.ev y = some (.int .i64 k)) (h1 : 0 ≤ m) (h2 : m ≤ 9223372036854775807) (h3 : 0 < k) (hd : Nat.blt d n = true) (k' : WD P ops C K rest n ds ((d, .int .i64 (m / k)) :: E)) : WD P ops C K (⟨some d, .binOp .quo t x y yt, ty, pos, after, none⟩ :: rest) n ds E := d_runs (fun a ha => r_quo hx hy h1 h2 h3 a ha _) hd k'
theorem l_rem {t yt : TypeId} {x y : Operand} {m k : Int} (hx : E.ev x = some (.int .i64 m)) (hy : E.ev y = some (.int .i64 k)) (h1 : 0 ≤ m) (h3 : 0 < k) (hd : Nat.blt d n = true) (k' : WL P ops Q rest n ds ((d, .int .i64 (m % k)) :: E) w) : WL P ops Q (⟨some d, .binOp .rem t x y yt, ty, pos, after, none⟩ :: rest) n ds E w := l_runs (fun a ha => r_rem hx hy h1 h3 a ha _) hd k'
theorem d_rem {C : World → Prop} {K : Act → Prop} {t yt : TypeId} {x y : Operand} {m k : Int} (hx : E.ev x = some (.int .i64 m)) (hy : E.ev y = some (.int .i64 k)) (h1 : 0 ≤ m) (h3 : 0 < k) (hd : Nat.blt d n = true) (k' : WD P ops C K rest n ds ((d, .int .i64 (m % k)) :: E)) : WD P ops C K (⟨some d, .binOp .rem t x y yt, ty, pos, after, none⟩ :: rest) n ds E := d_runs (fun a ha => r_rem hx hy h1 h3 a ha _) hd k'
theorem l_ix (hT : TabOk P T) {t : TypeId} {x y : Operand} {el sz eb b off m c j : Nat} {ag : Bool} {z : List Value} {i : Int} (ht : T.get t = some (.sl el sz eb ag z)) (hx : E.ev x = some (.slice (some ⟨b, off, none⟩) m c)) (hy : E.ev y = some (.int .i64 i)) (hj : (j : Int) = i) (hm : j < m) (hd : Nat.blt d n = true) (k' : WL P ops Q rest n ds ((d, .pointer (some ⟨b, off + j * sz, none⟩)) :: E) w) : WL P ops Q (⟨some d, .indexAddr t x y, ty, pos, after, none⟩ :: rest) n ds E w := l_runs (fun a ha => r_ix hT ht hx hy hj hm a ha _) hd k'
theorem d_ix {C : World → Prop} {K : Act → Prop} (hT : TabOk P T) {t : TypeId} {x y : Operand} {el sz eb b off m c j : Nat} {ag : Bool} {z : List Value} {i : Int} (ht : T.get t = some (.sl el sz eb ag z)) (hx : E.ev x = some (.slice (some ⟨b, off, none⟩) m c)) (hy : E.ev y = some (.int .i64 i)) (hj : (j : Int) = i) (hm : j < m) (hd : Nat.blt d n = true) (k' : WD P ops C K rest n ds ((d, .pointer (some ⟨b, off + j * sz, none⟩)) :: E)) : WD P ops C K (⟨some d, .indexAddr t x y, ty, pos, after, none⟩ :: rest) n ds E := d_runs (fun a ha => r_ix hT ht hx hy hj hm a ha _) hd k'
theorem l_ixa (hT : TabOk P T) {t : TypeId} {x y : Operand} {s len sz g k j : Nat} {ag : Bool} {z : List Value} {i : Int} (ht : T.get t = some (.ar s len sz ag z)) (hx : E.ev x = some (.pointer (some ⟨g, k, none⟩))) (hy : E.ev y = some (.int .i64 i)) (hj : (j : Int) = i) (hm : j < len) (hd : Nat.blt d n = true) (k' : WL P ops Q rest n ds ((d, .pointer (some ⟨g, k + j * sz, none⟩)) :: E) w) : WL P ops Q (⟨some d, .indexAddr t x y, ty, pos, after, none⟩ :: rest) n ds E w := l_runs (fun a ha => r_ixa hT ht hx hy hj hm a ha _) hd k'
theorem d_ixa {C : World → Prop} {K : Act → Prop} (hT : TabOk P T) {t : TypeId} {x y : Operand} {s len sz g k j : Nat} {ag : Bool} {z : List Value} {i : Int} (ht : T.get t = some (.ar s len sz ag z)) (hx : E.ev x = some (.pointer (some ⟨g, k, none⟩))) (hy : E.ev y = some (.int .i64 i)) (hj : (j : Int) = i) (hm : j < len) (hd : Nat.blt d n = true) (k' : WD P ops C K rest n ds ((d, .pointer (some ⟨g, k + j * sz, none⟩)) :: E)) : WD P ops C K (⟨some d, .indexAddr t x y, ty, pos, after, none⟩ :: rest) n ds E := d_runs (fun a ha => r_ixa hT ht hx hy hj hm a ha _) hd k'
theorem l_ixs (hT : TabOk P T) {t : TypeId} {sz : Nat} {z : Value} {x y : Operand} {l : List UInt8} {i : Int} {j : Nat} {c : UInt8} (ht : T.get t = some (.sc .string sz z)) (hx : E.ev x = some (.string ⟨l.toArray⟩)) (hy : E.ev y = some (.int .i64 i)) (hj : (j : Int) = i) (hc : l[j]? = some c) (hd : Nat.blt d n = true) (k' : WL P ops Q rest n ds ((d, .int .u8 c.toNat) :: E) w) : WL P ops Q (⟨some d, .index t x y, ty, pos, after, none⟩ :: rest) n ds E w := l_runs (fun a ha => r_ixs hT ht hx hy hj hc a ha _) hd k'
theorem d_ixs {C : World → Prop} {K : Act → Prop} (hT : TabOk P T) {t : TypeId} {sz : Nat} {z : Value} {x y : Operand} {l : List UInt8} {i : Int} {j : Nat} {c : UInt8} (ht : T.get t = some (.sc .string sz z)) (hx : E.ev x = some (.string ⟨l.toArray⟩)) (hy : E.ev y = some (.int .i64 i)) (hj : (j : Int) = i) (hc : l[j]? = some c) (hd : Nat.blt d n = true) (k' : WD P ops C K rest n ds ((d, .int .u8 c.toNat) :: E)) : WD P ops C K (⟨some d, .index t x y, ty, pos, after, none⟩ :: rest) n ds E := d_runs (fun a ha => r_ixs hT ht hx hy hj hc a ha _) hd k'
theorem l_build (hT : TabOk P T) {t s : Nat} {fs : List (Nat × Nat × Bool)} {z L : List Value} {parts : Array (Nat × Operand)} {ps : List (Nat × Value)} (ht : T.get t = some (.st s fs z)) (hp : evP E parts.toList = some ps) (hL : fillL (fun i => (fs[i]?).map fun f => (f.1, f.2.1)) z ps = some L) (hd : Nat.blt d n = true) (k' : WL P ops Q rest n ds ((d, .agg L.toArray) :: E) w) : WL P ops Q (⟨some d, .build t parts, ty, pos, after, none⟩ :: rest) n ds E w := l_runs (fun a ha => r_build hT ht hp hL a ha) hd k'
theorem d_build {C : World → Prop} {K : Act → Prop} (hT : TabOk P T) {t s : Nat} {fs : List (Nat × Nat × Bool)} {z L : List Value} {parts : Array (Nat × Operand)} {ps : List (Nat × Value)} (ht : T.get t = some (.st s fs z)) (hp : evP E parts.toList = some ps) (hL : fillL (fun i => (fs[i]?).map fun f => (f.1, f.2.1)) z ps = some L) (hd : Nat.blt d n = true) (k' : WD P ops C K rest n ds ((d, .agg L.toArray) :: E)) : WD P ops C K (⟨some d, .build t parts, ty, pos, after, none⟩ :: rest) n ds E := d_runs (fun a ha => r_build hT ht hp hL a ha) hd k'
/-! equality at other types -/
theorem eqbool (a b : Bool) : (a == b) = decide (a = b) := by cases a <;> cases b <;> rfl
theorem r_eqb (hT : TabOk P T) {t yt : TypeId} {x y : Operand} {a b : Bool} {s : Nat} {z : Value} (ht : T.get t = some (.sc .bool s z)) (hx : E.ev x = some (.bool a)) (hy : E.ev y = some (.bool b)) : ∀ c, Has n ds c E → ∀ dst, Runs P ⟨dst, .binOp .eql t x y yt, ty, pos, after, none⟩ c (.bool (decide (a = b))) := fun c hc _ w => by
  obtain ⟨i, hu, _⟩ := hT.sc ht
  have e : (Op.equal t (.bool a) (.bool b)).run P w = .ok (decide (a = b)) w := by rw [← eqbool]; exact run_equalIn_bool' (P := P) w 9999 t a b hu
  simp only [execOp, hc.ev hx, hc.ev hy, eqGuard, binOp, Sem.run_bind]
  simp [e, Result.andThen]
theorem r_neb (hT : TabOk P T) {t yt : TypeId} {x y : Operand} {a b : Bool} {s : Nat} {z : Value} (ht : T.get t = some (.sc .bool s z)) (hx : E.ev x = some (.bool a)) (hy : E.ev y = some (.bool b)) : ∀ c, Has n ds c E → ∀ dst, Runs P ⟨dst, .binOp .neq t x y yt, ty, pos, after, none⟩ c (.bool (!decide (a = b))) := fun c hc _ w => by
  obtain ⟨i, hu, _⟩ := hT.sc ht
  have e : (Op.equal t (.bool a) (.bool b)).run P w = .ok (decide (a = b)) w := by rw [← eqbool]; exact run_equalIn_bool' (P := P) w 9999 t a b hu
  simp only [execOp, hc.ev hx, hc.ev hy, eqGuard, binOp, Sem.run_bind]
  simp [e, Result.andThen]
theorem l_eqb (hT : TabOk P T) {t yt : TypeId} {x y : Operand} {a b : Bool} {s : Nat} {z : Value} (ht : T.get t = some (.sc .bool s z)) (hx : E.ev x = some (.bool a)) (hy : E.ev y = some (.bool b)) (hd : Nat.blt d n = true) (k' : WL P ops Q rest n ds ((d, .bool (decide (a = b))) :: E) w) : WL P ops Q (⟨some d, .binOp .eql t x y yt, ty, pos, after, none⟩ :: rest) n ds E w := l_runs (fun a ha => r_eqb hT ht hx hy a ha _) hd k'
theorem d_eqb {C : World → Prop} {K : Act → Prop} (hT : TabOk P T) {t yt : TypeId} {x y : Operand} {a b : Bool} {s : Nat} {z : Value} (ht : T.get t = some (.sc .bool s z)) (hx : E.ev x = some (.bool a)) (hy : E.ev y = some (.bool b)) (hd : Nat.blt d n = true) (k' : WD P ops C K rest n ds ((d, .bool (decide (a = b))) :: E)) : WD P ops C K (⟨some d, .binOp .eql t x y yt, ty, pos, after, none⟩ :: rest) n ds E := d_runs (fun a ha => r_eqb hT ht hx hy a ha _) hd k'
theorem l_neb (hT : TabOk P T) {t yt : TypeId} {x y : Operand} {a b : Bool} {s : Nat} {z : Value} (ht : T.get t = some (.sc .bool s z)) (hx : E.ev x = some (.bool a)) (hy : E.ev y = some (.bool b)) (hd : Nat.blt d n = true) (k' : WL P ops Q rest n ds ((d, .bool (!decide (a = b))) :: E) w) : WL P ops Q (⟨some d, .binOp .neq t x y yt, ty, pos, after, none⟩ :: rest) n ds E w := l_runs (fun a ha => r_neb hT ht hx hy a ha _) hd k'
theorem d_neb {C : World → Prop} {K : Act → Prop} (hT : TabOk P T) {t yt : TypeId} {x y : Operand} {a b : Bool} {s : Nat} {z : Value} (ht : T.get t = some (.sc .bool s z)) (hx : E.ev x = some (.bool a)) (hy : E.ev y = some (.bool b)) (hd : Nat.blt d n = true) (k' : WD P ops C K rest n ds ((d, .bool (!decide (a = b))) :: E)) : WD P ops C K (⟨some d, .binOp .neq t x y yt, ty, pos, after, none⟩ :: rest) n ds E := d_runs (fun a ha => r_neb hT ht hx hy a ha _) hd k'
/-- two structs held against each other -/
def EqIs (P : Program) (t : TypeId) (X Y : List Value) (b : Bool) : Prop := (∀ w, (Op.equalIn 10000 t (.agg X.toArray) (.agg Y.toArray)).run P w = .ok b w) ∧ P.eqGuardType P.depth t = false
theorem r_eqs {t yt : TypeId} {x y : Operand} {X Y : List Value} {b : Bool} (hx : E.ev x = some (.agg X.toArray)) (hy : E.ev y = some (.agg Y.toArray)) (h : EqIs P t X Y b) : ∀ c, Has n ds c E → ∀ dst, Runs P ⟨dst, .binOp .eql t x y yt, ty, pos, after, none⟩ c (.bool b) := fun c hc _ w => by
  simp only [execOp, hc.ev hx, hc.ev hy, Sem.run_bind, run_eqGuard_agg w _ _ _ _ _ _ h.2, Result.andThen_ok, run_eql_struct, h.1 w, Sem.run_pure]
theorem r_nes {t yt : TypeId} {x y : Operand} {X Y : List Value} {b : Bool} (hx : E.ev x = some (.agg X.toArray)) (hy : E.ev y = some (.agg Y.toArray)) (h : EqIs P t X Y b) : ∀ c, Has n ds c E → ∀ dst, Runs P ⟨dst, .binOp .neq t x y yt, ty, pos, after, none⟩ c (.bool (!b)) := fun c hc _ w => by
  simp only [execOp, hc.ev hx, hc.ev hy, Sem.run_bind, run_eqGuard_agg w _ _ _ _ _ _ h.2, Result.andThen_ok, run_neq_struct, h.1 w, Sem.run_pure]
theorem l_eqs {t yt : TypeId} {x y : Operand} {X Y : List Value} {b : Bool} (hx : E.ev x = some (.agg X.toArray)) (hy : E.ev y = some (.agg Y.toArray)) (h : EqIs P t X Y b) (hd : Nat.blt d n = true) (k' : WL P ops Q rest n ds ((d, .bool b) :: E) w) : WL P ops Q (⟨some d, .binOp .eql t x y yt, ty, pos, after, none⟩ :: rest) n ds E w := l_runs (fun a ha => r_eqs hx hy h a ha _) hd k'
theorem d_eqs {C : World → Prop} {K : Act → Prop} {t yt : TypeId} {x y : Operand} {X Y : List Value} {b : Bool} (hx : E.ev x = some (.agg X.toArray)) (hy : E.ev y = some (.agg Y.toArray)) (h : EqIs P t X Y b) (hd : Nat.blt d n = true) (k' : WD P ops C K rest n ds ((d, .bool b) :: E)) : WD P ops C K (⟨some d, .binOp .eql t x y yt, ty, pos, after, none⟩ :: rest) n ds E := d_runs (fun a ha => r_eqs hx hy h a ha _) hd k'
theorem l_nes {t yt : TypeId} {x y : Operand} {X Y : List Value} {b : Bool} (hx : E.ev x = some (.agg X.toArray)) (hy : E.ev y = some (.agg Y.toArray)) (h : EqIs P t X Y b) (hd : Nat.blt d n = true) (k' : WL P ops Q rest n ds ((d, .bool (!b)) :: E) w) : WL P ops Q (⟨some d, .binOp .neq t x y yt, ty, pos, after, none⟩ :: rest) n ds E w := l_runs (fun a ha => r_nes hx hy h a ha _) hd k'
theorem d_nes {C : World → Prop} {K : Act → Prop} {t yt : TypeId} {x y : Operand} {X Y : List Value} {b : Bool} (hx : E.ev x = some (.agg X.toArray)) (hy : E.ev y = some (.agg Y.toArray)) (h : EqIs P t X Y b) (hd : Nat.blt d n = true) (k' : WD P ops C K rest n ds ((d, .bool (!b)) :: E)) : WD P ops C K (⟨some d, .binOp .neq t x y yt, ty, pos, after, none⟩ :: rest) n ds E := d_runs (fun a ha => r_nes hx hy h a ha _) hd k'
/-! tests -/
theorem c_ifd {c : Operand} {x y : Code} {p : Prop} {_i : Decidable p} (hc : E.ev c = some (.bool (decide p))) (ht : decide p = true → p → WC P x Q n ds E w) (hf : decide p = false → ¬ p → WC P y Q n ds E w) : WC P (.cond c x y) Q n ds E w :=
  c_if hc (fun h => ht h (of_decide_eq_true h)) (fun h => hf h (of_decide_eq_false h))
theorem c_ifn {c : Operand} {x y : Code} {p : Prop} {_i : Decidable p} (hc : E.ev c = some (.bool (!decide p))) (ht : (!decide p) = true → ¬ p → WC P x Q n ds E w) (hf : (!decide p) = false → p → WC P y Q n ds E w) : WC P (.cond c x y) Q n ds E w :=
  c_if hc (fun h => ht h (by simpa using h)) (fun h => hf h (by simpa using h))
theorem c_ifp {c : Operand} {x y : Code} {b : Bool} (hc : E.ev c = some (.bool b)) (ht : b = true → True → WC P x Q n ds E w) (hf : b = false → True → WC P y Q n ds E w) : WC P (.cond c x y) Q n ds E w :=
  c_if hc (fun h => ht h trivial) (fun h => hf h trivial)
section
variable {op : Op}
theorem l_partd {j : Nat} {want : Bool} {p : Prop} {_i : Decidable p} {oj : Oper} {dj : Nat} {dst : Option Nat} (_hj : ops[j]? = some oj) (_hdj : oj.dst = some dj) (_hb : E.get dj = some (.bool (decide p))) (k1 : decide p = true → p → WL P ops Q (⟨dst, op, ty, pos, after, some (j, want)⟩ :: rest) n ds E w) (k2 : decide p = false → ¬ p → WL P ops Q (⟨dst, op, ty, pos, after, some (j, want)⟩ :: rest) n ds E w) :
    WL P ops Q (⟨dst, op, ty, pos, after, some (j, want)⟩ :: rest) n ds E w := l_part _hj _hdj _hb (fun h => k1 h (of_decide_eq_true h)) (fun h => k2 h (of_decide_eq_false h))
theorem l_partn {j : Nat} {want : Bool} {p : Prop} {_i : Decidable p} {oj : Oper} {dj : Nat} {dst : Option Nat} (_hj : ops[j]? = some oj) (_hdj : oj.dst = some dj) (_hb : E.get dj = some (.bool (!decide p))) (k1 : (!decide p) = true → ¬ p → WL P ops Q (⟨dst, op, ty, pos, after, some (j, want)⟩ :: rest) n ds E w) (k2 : (!decide p) = false → p → WL P ops Q (⟨dst, op, ty, pos, after, some (j, want)⟩ :: rest) n ds E w) :
    WL P ops Q (⟨dst, op, ty, pos, after, some (j, want)⟩ :: rest) n ds E w := l_part _hj _hdj _hb (fun h => k1 h (by simpa using h)) (fun h => k2 h (by simpa using h))
theorem l_partp {j : Nat} {want b : Bool} {oj : Oper} {dj : Nat} {dst : Option Nat} (_hj : ops[j]? = some oj) (_hdj : oj.dst = some dj) (_hb : E.get dj = some (.bool b)) (k1 : b = true → True → WL P ops Q (⟨dst, op, ty, pos, after, some (j, want)⟩ :: rest) n ds E w) (k2 : b = false → True → WL P ops Q (⟨dst, op, ty, pos, after, some (j, want)⟩ :: rest) n ds E w) :
    WL P ops Q (⟨dst, op, ty, pos, after, some (j, want)⟩ :: rest) n ds E w := l_part _hj _hdj _hb (fun h => k1 h trivial) (fun h => k2 h trivial)
variable {C : World → Prop} {K : Act → Prop}
theorem d_partd {j : Nat} {want : Bool} {p : Prop} {_i : Decidable p} {oj : Oper} {dj : Nat} {dst : Option Nat} (_hj : ops[j]? = some oj) (_hdj : oj.dst = some dj) (_hb : E.get dj = some (.bool (decide p))) (k1 : decide p = true → p → WD P ops C K (⟨dst, op, ty, pos, after, some (j, want)⟩ :: rest) n ds E) (k2 : decide p = false → ¬ p → WD P ops C K (⟨dst, op, ty, pos, after, some (j, want)⟩ :: rest) n ds E) :
    WD P ops C K (⟨dst, op, ty, pos, after, some (j, want)⟩ :: rest) n ds E := d_part _hj _hdj _hb (fun h => k1 h (of_decide_eq_true h)) (fun h => k2 h (of_decide_eq_false h))
theorem d_partn {j : Nat} {want : Bool} {p : Prop} {_i : Decidable p} {oj : Oper} {dj : Nat} {dst : Option Nat} (_hj : ops[j]? = some oj) (_hdj : oj.dst = some dj) (_hb : E.get dj = some (.bool (!decide p))) (k1 : (!decide p) = true → ¬ p → WD P ops C K (⟨dst, op, ty, pos, after, some (j, want)⟩ :: rest) n ds E) (k2 : (!decide p) = false → p → WD P ops C K (⟨dst, op, ty, pos, after, some (j, want)⟩ :: rest) n ds E) :
    WD P ops C K (⟨dst, op, ty, pos, after, some (j, want)⟩ :: rest) n ds E := d_part _hj _hdj _hb (fun h => k1 h (by simpa using h)) (fun h => k2 h (by simpa using h))
theorem d_partp {j : Nat} {want b : Bool} {oj : Oper} {dj : Nat} {dst : Option Nat} (_hj : ops[j]? = some oj) (_hdj : oj.dst = some dj) (_hb : E.get dj = some (.bool b)) (k1 : b = true → True → WD P ops C K (⟨dst, op, ty, pos, after, some (j, want)⟩ :: rest) n ds E) (k2 : b = false → True → WD P ops C K (⟨dst, op, ty, pos, after, some (j, want)⟩ :: rest) n ds E) :
    WD P ops C K (⟨dst, op, ty, pos, after, some (j, want)⟩ :: rest) n ds E := d_part _hj _hdj _hb (fun h => k1 h trivial) (fun h => k2 h trivial)
end
/-! the ways out -/
section
variable {fn : Func} {Φ : Value → World → Prop} {v v1 v2 v3 : Value}
theorem q_ret0 (hr : ResL P E w fn.results.toList []) (hΦ : Φ (.tuple #[]) w) : WQ (bodyPost P fn (fun e w' => ∃ v, e = .returned v ∧ Φ v w')) .ret n [] E w := q_ret rfl hr rfl hΦ
theorem q_ret1 (hr : ResL P E w fn.results.toList [v]) (hΦ : Φ v w) : WQ (bodyPost P fn (fun e w' => ∃ v, e = .returned v ∧ Φ v w')) .ret n [] E w := q_ret rfl hr rfl hΦ
theorem q_ret2 (hr : ResL P E w fn.results.toList [v1, v2]) (hΦ : Φ (.tuple #[v1, v2]) w) : WQ (bodyPost P fn (fun e w' => ∃ v, e = .returned v ∧ Φ v w')) .ret n [] E w := q_ret rfl hr rfl hΦ
theorem q_ret3 (hr : ResL P E w fn.results.toList [v1, v2, v3]) (hΦ : Φ (.tuple #[v1, v2, v3]) w) : WQ (bodyPost P fn (fun e w' => ∃ v, e = .returned v ∧ Φ v w')) .ret n [] E w := q_ret rfl hr rfl hΦ
theorem q_end0 (hr : ResL P E w fn.results.toList []) (hΦ : Φ (.tuple #[]) w) : WQ (bodyPost P fn (fun e w' => ∃ v, e = .returned v ∧ Φ v w')) .normal n [] E w := q_end rfl hr rfl hΦ
end
/-! memory -/
variable {F : Nat → Prop} {w0 : World} {Γ : List Asr}
theorem l_box (hS : St F w0 w Γ) {t : TypeId} {x : Operand} {v : Value} {L : List Value} (hx : E.ev x = some v) (hc : celL v = some L) (hd : Nat.blt d n = true) (k : ∀ g w', St F w0 w' (.blk g L :: Γ) → WL P ops Q rest n ds ((d, .pointer (some ⟨g, 0, none⟩)) :: E) w') : WL P ops Q (⟨some d, .box t x, ty, pos, after, none⟩ :: rest) n ds E w :=
  l_gets hd (g_box hS hx) (by rintro _ w' ⟨g, rfl, h⟩; rw [celL_eq hc] at h; exact k g w' h)
theorem l_alloc (hS : St F w0 w Γ) (hT : TabOk P T) {t : TypeId} {i : TI} {L : List Value} (ht : T.get t = some i) (hL : some i.zeroCells = some L) (hd : Nat.blt d n = true) (k : ∀ g w', St F w0 w' (.blk g L :: Γ) → WL P ops Q rest n ds ((d, .pointer (some ⟨g, 0, none⟩)) :: E) w') : WL P ops Q (⟨some d, .alloc t, ty, pos, after, none⟩ :: rest) n ds E w :=
  l_gets hd (g_allocT hS hT ht hL) (by rintro _ w' ⟨g, rfl, h⟩; exact k g w' h)
theorem l_store (hS : St F w0 w Γ) (hT : TabOk P T) {t : TypeId} {ti : TI} {x y : Operand} {g j i : Nat} {v : Value} {L c L' : List Value} (ht : T.get t = some ti) (hx : E.ev x = some (.pointer (some ⟨g, j, none⟩))) (hy : E.ev y = some v) (hi : Γ[i]? = some (.blk g L)) (hc : celL v = some c)
    (hsz : Nat.beq c.length ti.size = true) (hk : Nat.ble (j + ti.size) L.length = true) (h1 : c.all (·.oneCell') = true) (hL : setL L j c = L') (k : ∀ w', St F w0 w' (Γ.set i (.blk g L')) → WL P ops Q rest n ds E w') : WL P ops Q (⟨none, .store t x y, ty, pos, after, none⟩ :: rest) n ds E w :=
  l_gets0 (g_store hS hT ht hx hy hi (by rw [celL_eq hc]; exact Nat.eq_of_beq_eq_true hsz) (Nat.le_of_ble_eq_true hk) (by rw [celL_eq hc]; exact fun u hu => List.all_eq_true.1 h1 u hu)) (by intro _ w' h; rw [celL_eq hc, hL] at h; exact k w' h)
theorem l_storeR (hS : St F w0 w Γ) (hT : TabOk P T) {t : TypeId} {ti : TI} {x y : Operand} {g kk j o i e sz m cap : Nat} {v : Value} {rows : List (List Value)} {r c r' : List Value} (ht : T.get t = some ti) (hx : E.ev x = some (.pointer (some ⟨g, o, none⟩))) (hy : E.ev y = some v) (hi : Γ[i]? = some (.row e sz (.slice (some ⟨g, 0, none⟩) m cap) rows))
    (ho : o = 0 + kk * sz + j) (hr : rows[kk]? = some r) (hc : celL v = some c) (hsz : Nat.beq c.length ti.size = true) (hk : Nat.ble (j + ti.size) sz = true) (h1 : c.all (·.oneCell') = true) (hL : setL r j c = r') (k : ∀ w', St F w0 w' (Γ.set i (.row e sz (.slice (some ⟨g, 0, none⟩) m cap) (rows.set kk r'))) → WL P ops Q rest n ds E w') : WL P ops Q (⟨none, .store t x y, ty, pos, after, none⟩ :: rest) n ds E w :=
  l_gets0 (g_storeR hS hT ht hx hy hi ho hr (celL_eq hc) (Nat.eq_of_beq_eq_true hsz) (Nat.le_of_ble_eq_true hk) h1) (by intro _ w' h; rw [hL] at h; exact k w' h)
theorem l_storeR0 (hS : St F w0 w Γ) (hT : TabOk P T) {t : TypeId} {ti : TI} {x y : Operand} {g kk i e sz m cap : Nat} {v : Value} {rows : List (List Value)} {r c r' : List Value} (ht : T.get t = some ti) (hx : E.ev x = some (.pointer (some ⟨g, 0 + kk * sz, none⟩))) (hy : E.ev y = some v) (hi : Γ[i]? = some (.row e sz (.slice (some ⟨g, 0, none⟩) m cap) rows))
    (hr : rows[kk]? = some r) (hc : celL v = some c) (hsz : Nat.beq c.length ti.size = true) (hk : Nat.ble (0 + ti.size) sz = true) (h1 : c.all (·.oneCell') = true) (hL : setL r 0 c = r') (k : ∀ w', St F w0 w' (Γ.set i (.row e sz (.slice (some ⟨g, 0, none⟩) m cap) (rows.set kk r'))) → WL P ops Q rest n ds E w') : WL P ops Q (⟨none, .store t x y, ty, pos, after, none⟩ :: rest) n ds E w :=
  l_storeR hS hT ht hx hy hi rfl hr hc hsz hk h1 hL k
theorem l_storeRj (hS : St F w0 w Γ) (hT : TabOk P T) {t : TypeId} {ti : TI} {x y : Operand} {g kk j i e sz m cap : Nat} {v : Value} {rows : List (List Value)} {r c r' : List Value} (ht : T.get t = some ti) (hx : E.ev x = some (.pointer (some ⟨g, 0 + kk * sz + j, none⟩))) (hy : E.ev y = some v) (hi : Γ[i]? = some (.row e sz (.slice (some ⟨g, 0, none⟩) m cap) rows))
    (hr : rows[kk]? = some r) (hc : celL v = some c) (hsz : Nat.beq c.length ti.size = true) (hk : Nat.ble (j + ti.size) sz = true) (h1 : c.all (·.oneCell') = true) (hL : setL r j c = r') (k : ∀ w', St F w0 w' (Γ.set i (.row e sz (.slice (some ⟨g, 0, none⟩) m cap) (rows.set kk r'))) → WL P ops Q rest n ds E w') : WL P ops Q (⟨none, .store t x y, ty, pos, after, none⟩ :: rest) n ds E w :=
  l_storeR hS hT ht hx hy hi rfl hr hc hsz hk h1 hL k
theorem l_bslice (hS : St F w0 w Γ) (hT : TabOk P T) {t e sz eb len : Nat} {ag : Bool} {ez : List Value} {parts : Array (Nat × Operand)} {ps : List (Nat × Value)} {rows : List (List Value)} (ht : T.get t = some (.sl e sz eb ag ez)) (hp : evP E parts.toList = some ps) (hr : seqV 0 sz ps = some rows) (hl : Nat.beq rows.length len = true)
    (hbig : Nat.ble (len * sz) 16777216 = true) (h1 : oneAll rows = true) (hd : Nat.blt d n = true) (k : ∀ g w', St F w0 w' (.row e sz (.slice (some ⟨g, 0, none⟩) len len) rows :: Γ) → WL P ops Q rest n ds ((d, .slice (some ⟨g, 0, none⟩) len len) :: E) w') : WL P ops Q (⟨some d, .buildSlice t len parts, ty, pos, after, none⟩ :: rest) n ds E w :=
  l_gets hd (g_bslice hS hT ht hp hr hl hbig h1) (by rintro _ w' ⟨g, rfl, h⟩; exact k g w' h)
theorem l_make (hS : St F w0 w Γ) (hT : TabOk P T) {t e sz eb m : Nat} {ag : Bool} {ez : List Value} {x y : Operand} {i j : Int} (ht : T.get t = some (.sl e sz eb ag ez)) (hx : E.ev x = some (.int .i64 i)) (hy : E.ev y = some (.int .i64 j)) (hi : (m : Int) = i) (hj : (m : Int) = j) (hm : m ≤ 140737488355327) (hb : (eb : Int) * m ≤ 281474976710656) (h1 : ez.all (·.oneCell') = true) (hd : Nat.blt d n = true) (k : ∀ g w', St F w0 w' (.row e sz (.slice (some ⟨g, 0, none⟩) m m) (List.replicate m ez) :: Γ) → WL P ops Q rest n ds ((d, .slice (some ⟨g, 0, none⟩) m m) :: E) w') : WL P ops Q (⟨some d, .makeSlice t x y, ty, pos, after, none⟩ :: rest) n ds E w :=
  l_gets hd (g_make hS hT ht hx hy hi hj hm hb h1) (by rintro _ w' ⟨g, rfl, h⟩; exact k g w' h)
theorem l_append (hS : St F w0 w Γ) (hT : TabOk P T) {t e sz eb m c b off : Nat} (i : Nat) {ag : Bool} {ez : List Value} {x y : Operand} {v : Value} {rows news : List (List Value)} (ht : T.get t = some (.sl e sz eb ag ez)) (hx : E.ev x = some v) (hi : Γ[i]? = some (.row e sz v rows)) (hy : E.ev y = some (.slice (some ⟨b, off, none⟩) m c))
    (hn : RoAt nF w b off sz news) (hm : news.length = m) (hbig : (rows.length + m) * (eb + 1) ≤ 140737488355328) (hd : Nat.blt d n = true) (k : ∀ p cap w', St F w0 w' (Γ.set i (.row e sz (.slice p (rows.length + m) cap) (rows ++ news))) → WL P ops Q rest n ds ((d, .slice p (rows.length + m) cap) :: E) w') : WL P ops Q (⟨some d, .call { callee := .builtin .append, args := #[x, y], argTypes := #[t, t] }, ty, pos, after, none⟩ :: rest) n ds E w :=
  l_gets hd (g_append hS hT ht hx hi hy hn hm hbig) (by rintro _ w' ⟨p, cap, rfl, h⟩; exact k p cap w' h)
theorem l_call {f : FuncId} {x : Operand} {args : Array Operand} {ats : Array TypeId} {vs : List Value} {first caps : List Value} {Φ : Value → World → Prop} (hx : E.ev x = some (.func (.func f) first.toArray caps.toArray)) (hv : E.evs args.toList = some vs) (h : Fn P f (first ++ vs ++ caps) w Φ) (hd : Nat.blt d n = true) (k : ∀ v w', Φ v w' → WL P ops Q rest n ds ((d, v) :: E) w') :
    WL P ops Q (⟨some d, .call { callee := .value x, args := args, argTypes := ats }, ty, pos, after, none⟩ :: rest) n ds E w := l_gets hd (g_call hx hv h) k
/-- a result that is not kept -/
theorem l_call0 {f : FuncId} {x : Operand} {args : Array Operand} {ats : Array TypeId} {vs : List Value} {first caps : List Value} {Φ : Value → World → Prop} (hx : E.ev x = some (.func (.func f) first.toArray caps.toArray)) (hv : E.evs args.toList = some vs) (h : Fn P f (first ++ vs ++ caps) w Φ) (k : ∀ v w', Φ v w' → WL P ops Q rest n ds E w') :
    WL P ops Q (⟨none, .call { callee := .value x, args := args, argTypes := ats }, ty, pos, after, none⟩ :: rest) n ds E w := l_gets0 (g_call hx hv h) k
end
section
variable {F : Nat → Prop} {w0 w w' : World} {Γ : List Asr}
theorem St.addNil (h : St F w0 w Γ) (e sz : Nat) : St F w0 w (.row e sz (.slice none 0 0) [] :: Γ) :=
  h.new ⟨rfl, rfl, rfl, Nat.le_refl _, fun _ _ _ => rfl⟩ ⟨World.ownsRow_nil _ _ _ _, by simp, by simp⟩ (by simp [Asr.fp, Value.ownBlock])
theorem St.rowLen (h : St F w0 w Γ) (i : Nat) {e sz n cap : Nat} {p : Option Addr} {rows : List (List Value)} (hi : Γ[i]? = some (.row e sz (.slice p n cap) rows)) : n = rows.length := by
  rcases h.rowForm i hi with ⟨h1, h2⟩ | ⟨g, cap', h1, _⟩
  · cases h1; rw [h2]; rfl
  · cases h1; rfl
theorem St.rowSome (h : St F w0 w Γ) (i : Nat) {e sz n cap : Nat} {p : Option Addr} {rows : List (List Value)} (hi : Γ[i]? = some (.row e sz (.slice p n cap) rows)) (hn : 0 < n) : ∃ g, p = some ⟨g, 0, none⟩ := by
  rcases h.rowForm i hi with ⟨h1, h2⟩ | ⟨g, cap', h1, _⟩
  · cases h1; omega
  · cases h1; exact ⟨g, rfl⟩
theorem Sl.parts {sz n cap : Nat} {p : Option Addr} {rows : List (List Value)} (h : Sl F w0 sz (.slice p n cap) rows) : n = rows.length ∧ (rows = [] ∨ ∃ b off, p = some ⟨b, off, none⟩ ∧ n ≤ cap ∧ cap ≤ maxLen ∧ RoAt F w0 b off sz rows) := by
  rcases h with ⟨p1, c1, h1, h2⟩ | ⟨b, off, cap0, h1, h2, h3, h4⟩
  · cases h1; subst h2; exact ⟨rfl, Or.inl rfl⟩
  · cases h1; exact ⟨rfl, Or.inr ⟨b, off, rfl, h2, h3, h4⟩⟩
def appA : List Asr → List Asr → List Asr
  | [], Γ => Γ
  | A :: Δ, Γ => A :: appA Δ Γ
theorem appA_eq (Δ Γ : List Asr) : appA Δ Γ = Δ ++ Γ := by
  induction Δ with
  | nil => rfl
  | cons A Δ ih => simp [appA, ih]
theorem St.transA {Δ : List Asr} (h : St F w0 w Γ) (h2 : St nF w w' Δ) : St F w0 w' (appA Δ Γ) := by rw [appA_eq]; exact h.trans h2
theorem St.one {A : Asr} (h : St F w0 w (A :: Γ)) : St F w0 w [A] := h.sub (List.Sublist.cons_cons _ (List.nil_sublist _))
theorem St.transM1 {A : Asr} {Δ : List Asr} (h : St F w0 w (A :: Γ)) (h2 : St (fps [A]) w w' Δ) : St F w0 w' (appA Δ Γ) := by rw [appA_eq]; exact St.transM (Θ := [A]) h h2
theorem St.startM1 {A : Asr} (h : St F w0 w (A :: Γ)) : St (fps [A]) w w [A] := St.startM (Δ := [A]) h
theorem set_get {α : Type} {l : List α} {i : Nat} {x : α} (h : l[i]? = some x) (y : α) : (l.set i y)[i]? = some y := by
  have := (List.getElem?_eq_some_iff.1 h).1
  simp [this]
/-- a cell of the base -/
structure Bs (F : Nat → Prop) (w0 : World) (p : Addr) (v : Value) : Prop where
  cell : w0.cell? p = some v
  nf : ¬ F p.block
theorem St.bs (h : St F w0 w Γ) {p : Addr} {v : Value} (hb : Bs F w0 p v) : w.cell? p = some v := h.baseC hb.cell hb.nf
theorem St.bsM {A : Asr} (h : St F w0 w (A :: Γ)) {p : Addr} {v : Value} (hb : Bs F w0 p v) : Bs (fps [A]) w p v := ⟨h.bs hb, fun ⟨B, hB, e⟩ => by
  simp at hB
  subst hB
  rcases h.own B List.mem_cons_self _ e with h1 | h1
  · have := World.block_lt_of_cell? w0 p hb.cell; omega
  · exact hb.nf h1⟩
theorem Bs.of {p : Addr} {v : Value} (h : w.cell? p = some v) : Bs nF w p v := ⟨h, id⟩
/-- the i-th thing is no more spoken of; it may have been written -/
theorem St.lose {A : Asr} (h : St F w0 w (A :: Γ)) (hg : w.grownBy w' A.fp) : St F w0 w' Γ where
  os := hg.os.trans h.os
  tape := hg.tape.trans h.tape
  output := hg.output.trans h.output
  size := Nat.le_trans h.size hg.size
  base k hk hF := by
    refine (hg.block k (Nat.lt_of_lt_of_le hk h.size) (fun e => ?_)).trans (h.base k hk hF)
    rcases h.own A List.mem_cons_self k e.symm with h1 | h1
    · omega
    · exact hF h1
  holds B hB := Asr.kept (h.holds B (List.mem_cons_of_mem _ hB)) hg ((List.pairwise_cons.1 h.apart).1 B hB).symm
  own B hB := h.own B (List.mem_cons_of_mem _ hB)
  apart := (List.pairwise_cons.1 h.apart).2
end
end Go.Proofs.Ytejnpppejalhfaa
