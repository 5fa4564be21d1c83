/- THE STEP CALCULUS, part 10: guards over what was not run. -/
import Derived.Test.YtejnpppejalhfaaSc9
namespace Go.Proofs.Ytejnpppejalhfaa
open Go.RowKit Go.Sort

section
variable {P : Program} {n : Nat} {ds : List Deferred} {E : Fr} {w : World} {Q : Exit → Act → World → Prop} {ops : Array Oper} {rest : List Oper} {C : World → Prop} {K : Act → Prop} {d : Nat} {op : Op} {ty : TypeId} {pos : String} {after : Array Edge}
theorem unwanted_of {o oj : Oper} {j : Nat} {want : Bool} {dj : Nat} (hg : o.guard = some (j, want)) (hj : ops[j]? = some oj) (hdj : oj.dst = some dj) (hb : E.get dj = some undef) {a : Act} (ha : Has n ds a E) (hlt : Nat.blt dj n = true) :
    Region.wanted o (yielded ops a.tmps) = false := by
  have hlt' : dj < a.tmps.size := by rw [ha.size]; simpa [Nat.blt_eq] using hlt
  have h1 : a.tmps[dj]? = some undef := by
    have := ha.at_ dj _ hb
    rw [Array.getD_eq_getD_getElem?] at this
    rw [Array.getElem?_eq_getElem hlt'] at this ⊢
    exact congrArg some this
  have hy : yielded ops a.tmps j = none := by simp [yielded, hj, hdj, h1, undef]
  simp only [Region.wanted, hg, hy]
  rfl
theorem l_undef {j : Nat} {want : Bool} {oj : Oper} {dj : Nat} (hj : ops[j]? = some oj) (hdj : oj.dst = some dj) (hlt : Nat.blt dj n = true) (hb : E.get dj = some undef) (hd : Nat.blt d n = true) (k : WL P ops Q rest n ds ((d, undef) :: E) w) :
    WL P ops Q (⟨some d, op, ty, pos, after, some (j, want)⟩ :: rest) n ds E w := fun a ha => by
  have hw := unwanted_of (o := ⟨some d, op, ty, pos, after, some (j, want)⟩) rfl hj hdj hb ha hlt
  unfold wpList
  rw [if_neg (by rw [hw]; simp)]
  exact k _ (ha.put d undef hd)
theorem d_undef {j : Nat} {want : Bool} {oj : Oper} {dj : Nat} (hj : ops[j]? = some oj) (hdj : oj.dst = some dj) (hlt : Nat.blt dj n = true) (hb : E.get dj = some undef) (hd : Nat.blt d n = true) (k : WD P ops C K rest n ds ((d, undef) :: E)) :
    WD P ops C K (⟨some d, op, ty, pos, after, some (j, want)⟩ :: rest) n ds E := fun a ha => by
  have hw := unwanted_of (o := ⟨some d, op, ty, pos, after, some (j, want)⟩) rfl hj hdj hb ha hlt
  unfold wpQuiet
  rw [if_neg (by rw [hw]; simp)]
  exact k _ (ha.put d undef hd)
/-- a store that is not run -/
theorem l_no0 {j : Nat} {want b : Bool} {oj : Oper} {dj : Nat} (hj : ops[j]? = some oj) (hdj : oj.dst = some dj) (hlt : Nat.blt dj n = true) (hb : E.get dj = some (.bool b)) (he : b = !want) (k : WL P ops Q rest n ds E w) :
    WL P ops Q (⟨none, op, ty, pos, after, some (j, want)⟩ :: rest) n ds E w := fun a ha => by
  have hw := wanted_of (o := ⟨none, op, ty, pos, after, some (j, want)⟩) rfl hj hdj hb ha hlt
  unfold wpList
  rw [if_neg (by rw [hw, he]; cases want <;> simp)]
  exact k _ ha
theorem l_undef0 {j : Nat} {want : Bool} {oj : Oper} {dj : Nat} (hj : ops[j]? = some oj) (hdj : oj.dst = some dj) (hlt : Nat.blt dj n = true) (hb : E.get dj = some undef) (k : WL P ops Q rest n ds E w) :
    WL P ops Q (⟨none, op, ty, pos, after, some (j, want)⟩ :: rest) n ds E w := fun a ha => by
  have hw := unwanted_of (o := ⟨none, op, ty, pos, after, some (j, want)⟩) rfl hj hdj hb ha hlt
  unfold wpList
  rw [if_neg (by rw [hw]; simp)]
  exact k _ ha
/-- what is not wanted any more is forgotten -/
def Fr.only (E : Fr) : List Nat → Option Fr
  | [] => some []
  | k :: r => match Fr.get E k, Fr.only E r with
    | some v, some E' => some ((k, v) :: E')
    | _, _ => none
theorem Fr.only_sub {E : Fr} : ∀ {ks : List Nat} {E' : Fr}, Fr.only E ks = some E' → Fr.sub E' E := by
  intro ks
  induction ks with
  | nil => intro E' h; cases h; exact Fr.sub_nil _
  | cons k r ih =>
    intro E' h
    unfold Fr.only at h
    split at h
    · rename_i v E2 h1 h2
      cases h
      exact Fr.sub_cons h1 (ih h2)
    · cases h
theorem c_keep (ks : List Nat) {E' : Fr} {c : Code} (h0 : Fr.only E ks = some E') (h : WC P c Q n ds E' w) : WC P c Q n ds E w := c_weak (Fr.only_sub h0) h
/-! a stretch of code that leaves what is known as it was -/
variable {F : Nat → Prop} {w0 : World} {Γ : List Asr}
def Same (n : Nat) (ds : List Deferred) (E : Fr) (F : Nat → Prop) (w0 : World) (Γ : List Asr) : Act → World → Prop := fun a' w' => Has n ds a' E ∧ St F w0 w' Γ
theorem c_same {x y : Code} {Q1 Q2 : Exit → Act → World → Prop} (_hS : St F w0 w Γ) (hx : WC P x (Exit.then (Same n ds E F w0 Γ) Q2) n ds E w) (hz : ∀ w', St F w0 w' Γ → WC P y Q1 n ds E w') : WC P x (Exit.then (y.wp P Q1) Q2) n ds E w := fun a ha =>
  Code.wp_mono (fun e a' w' q => by
    cases e with
    | normal => exact hz w' q.2 a' q.1
    | exit i => exact q
    | goto l => exact q
    | ret => exact q
    | panic c => exact q
    | outgrown => exact q) (hx a ha)
/-- a stretch that tells one thing more, in slot d -/
theorem c_var {X : Type} (f : X → Value) (d : Nat) (p : X → Prop) {x y : Code} {Q1 Q2 : Exit → Act → World → Prop} (_hS : St F w0 w Γ) (hx : WC P x (Exit.then (fun a' w' => ∃ m, Has n ds a' ((d, f m) :: E) ∧ (p m ∧ St F w0 w' Γ)) Q2) n ds E w) (hz : ∀ m w', p m ∧ St F w0 w' Γ → WC P y Q1 n ds ((d, f m) :: E) w') : WC P x (Exit.then (y.wp P Q1) Q2) n ds E w := fun a ha =>
  Code.wp_mono (fun e a' w' q => by
    cases e with
    | normal => obtain ⟨m, h1, h2⟩ := q; exact hz m w' h2 a' h1
    | exit i => exact q
    | goto l => exact q
    | ret => exact q
    | panic c => exact q
    | outgrown => exact q) (hx a ha)
theorem q_var {X : Type} {f : X → Value} {d : Nat} {p : X → Prop} {E' : Fr} (m : X) (h0 : Fr.sub ((d, f m) :: E') E) (hp : p m) (hS : St F w0 w Γ) : WQ (Exit.then (fun a' w' => ∃ m, Has n ds a' ((d, f m) :: E') ∧ (p m ∧ St F w0 w' Γ)) Q) .normal n ds E w := fun _ ha => ⟨m, ha.sub h0, hp, hS⟩
theorem q_same {E' : Fr} (h0 : Fr.sub E' E) (hS : St F w0 w Γ) : WQ (Exit.then (Same n ds E' F w0 Γ) Q) .normal n ds E w := fun _ ha => ⟨ha.sub h0, hS⟩
end
end Go.Proofs.Ytejnpppejalhfaa
