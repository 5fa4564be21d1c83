/- THE STEP CALCULUS, part 1: frames as lists of what their slots hold; the value of each operation that touches no memory, by a function that the kernel computes. -/
import Derived.Test.YtejnpppejalhfaaObj
namespace Go.Proofs.Ytejnpppejalhfaa
open Go.RowKit Go.Sort

theorem beqF {a b : Nat} (h : a ≠ b) : Nat.beq a b = false := by
  cases e : Nat.beq a b
  · rfl
  · exact absurd (Nat.eq_of_beq_eq_true e) h
/-- what slots hold, the newest first -/
abbrev Fr := List (Nat × Value)
def Fr.get : Fr → Nat → Option Value
  | [], _ => none
  | (k, v) :: r, n => bif Nat.beq k n then some v else Fr.get r n
def Fr.ev (F : Fr) : Operand → Option Value
  | .tmp t => F.get t
  | .const v => some v
  | .global g => some (.pointer (some ⟨g, 0, none⟩))
  | .func f => some (.func (.func f) #[] #[])
def Fr.evs (F : Fr) : List Operand → Option (List Value)
  | [] => some []
  | x :: r => match F.ev x, Fr.evs F r with
    | some v, some vs => some (v :: vs)
    | _, _ => none
/-- the frame holds at least this -/
structure Has (n : Nat) (ds : List Deferred) (a : Act) (F : Fr) : Prop where
  size : a.tmps.size = n
  defers : a.defers = ds
  at_ : ∀ t v, F.get t = some v → a.tmps.getD t undef = v

theorem Has.ev {n : Nat} {ds : List Deferred} {a : Act} {F : Fr} (h : Has n ds a F) {x : Operand} {v : Value} (hx : F.ev x = some v) : a.eval x = v := by
  cases x with
  | tmp t => exact h.at_ t v hx
  | const u => simp only [Fr.ev, Option.some.injEq] at hx; exact hx
  | global g => simp only [Fr.ev, Option.some.injEq] at hx; exact hx
  | func f => simp only [Fr.ev, Option.some.injEq] at hx; exact hx
theorem Has.evs {n : Nat} {ds : List Deferred} {a : Act} {F : Fr} (h : Has n ds a F) : ∀ {xs : List Operand} {vs : List Value}, F.evs xs = some vs → xs.map a.eval = vs := by
  intro xs
  induction xs with
  | nil => intro vs hx; simp [Fr.evs] at hx; simp [hx]
  | cons x r ih =>
    intro vs hx
    simp only [Fr.evs] at hx
    split at hx
    · rename_i v us h1 h2
      simp only [Option.some.injEq] at hx
      subst hx
      rw [List.map_cons, h.ev h1, ih h2]
    · cases hx
theorem Has.put {n : Nat} {ds : List Deferred} {a : Act} {F : Fr} (h : Has n ds a F) (d : Nat) (v : Value) (hd : Nat.blt d n = true) : Has n ds (a.put (some d) v) ((d, v) :: F) := by
  have hd' : d < n := by simpa [Nat.blt_eq] using hd
  refine ⟨by simpa [Act.put] using h.size, by simpa [Act.put] using h.defers, fun t u ht => ?_⟩
  simp only [Fr.get] at ht
  by_cases e : d = t
  · subst e
    simp at ht
    subst ht
    simp [Act.put, h.size, hd']
  · rw [beqF e] at ht
    have := h.at_ t u (by simpa using ht)
    simp only [Act.put, Array.getD_eq_getD_getElem?] at *
    rwa [Array.getElem?_setIfInBounds_ne e]
theorem Has.put0 {n : Nat} {ds : List Deferred} {a : Act} {F : Fr} (h : Has n ds a F) (v : Value) : Has n ds (a.put none v) F := h
/-- another list of the same frame, all of whose places the first one tells -/
def Fr.sub (G : Fr) (F : Fr) : Prop := ∀ p ∈ G, F.get p.1 = some p.2
theorem Fr.sub_nil (F : Fr) : Fr.sub [] F := fun _ h => by cases h
theorem Fr.sub_cons {F G : Fr} {t : Nat} {v : Value} (h : F.get t = some v) (r : Fr.sub G F) : Fr.sub ((t, v) :: G) F := fun p hp => by
  rcases List.mem_cons.1 hp with rfl | hp
  · exact h
  · exact r p hp
theorem Fr.get_mem {F : Fr} {t : Nat} {v : Value} (h : F.get t = some v) : (t, v) ∈ F := by
  induction F with
  | nil => cases h
  | cons p r ih =>
    simp only [Fr.get] at h
    by_cases e : p.1 = t
    · subst e
      simp at h
      rw [← h]
      exact List.mem_cons_self
    · rw [beqF e] at h
      exact List.mem_cons_of_mem _ (ih (by simpa using h))
theorem Has.sub {n : Nat} {ds : List Deferred} {a : Act} {F G : Fr} (h : Has n ds a F) (hs : Fr.sub G F) : Has n ds a G :=
  ⟨h.size, h.defers, fun t v ht => h.at_ t v (hs (t, v) (Fr.get_mem ht))⟩

/-- WHAT THE CALCULUS NEEDS OF A TYPE -/
inductive TI where
  | sc (d : TypeDesc) (size : Nat) (zero : Value)
  | st (size : Nat) (fs : List (Nat × Nat × Bool)) (zero : List Value)
  | ar (size : Nat) (len : Nat) (esz : Nat) (agg : Bool) (zero : List Value)
  | sl (elem : Nat) (esz : Nat) (ebytes : Nat) (agg : Bool) (ezero : List Value)
def isAggD : TypeDesc → Bool
  | .struct _ | .array _ _ => true
  | _ => false
def mkFs (P : Program) : List Field → Option (List (Nat × Nat × Bool))
  | [] => some []
  | f :: r => match P.info? f.type, P.underlying f.type, mkFs P r with
    | some j, some d, some l => some ((f.offset, j.size, isAggD d) :: l)
    | _, _, _ => none
def mkTI (P : Program) (t : TypeId) : Option TI :=
  match P.underlying t, P.info? t with
  | some (.struct fields), some i => match i.zero, mkFs P fields.toList with
    | some (.agg z), some fs => some (.st i.size fs z.toList)
    | _, _ => none
  | some (.array n e), some i => match i.zero, P.info? e, P.underlying e with
    | some (.agg z), some j, some d => some (.ar i.size n j.size (isAggD d) z.toList)
    | _, _, _ => none
  | some (.slice e), some i => match i.size, i.zero, P.info? e, P.underlying e with
    | 1, some (.slice none 0 0), some j, some d => match j.zero with
      | some z => some (.sl e j.size j.bytes (isAggD d) z.cells.toList)
      | none => none
    | _, _, _, _ => none
  | some d, some i => match i.zero with
    | some z => some (.sc d i.size z)
    | none => none
  | none, _ | _, none => none
def TI.okB : TI → Bool
  | .sc _ s z => Nat.beq s 1 && Nat.beq z.cells.size 1
  | .st s fs z => Nat.beq s z.length && fs.all (fun f => !Nat.beq f.2.1 0)
  | .ar s _ e _ z => Nat.beq s z.length && !Nat.beq e 0
  | .sl _ e _ _ z => Nat.beq e z.length && !Nat.beq e 0
abbrev Tab := List (Nat × TI)
def Tab.get : Tab → Nat → Option TI
  | [], _ => none
  | (k, v) :: r, n => bif Nat.beq k n then some v else Tab.get r n
def TabOk (P : Program) (T : Tab) : Prop := ∀ p ∈ T, mkTI P p.1 = some p.2 ∧ p.2.okB = true
theorem TabOk.nil (P : Program) : TabOk P [] := fun _ h => by cases h
theorem TabOk.cons {P : Program} {T : Tab} {t : Nat} {i : TI} (h : mkTI P t = some i) (hb : i.okB = true) (r : TabOk P T) : TabOk P ((t, i) :: T) := fun p hp => by
  rcases List.mem_cons.1 hp with rfl | hp
  · exact ⟨h, hb⟩
  · exact r p hp
theorem TabOk.at_ {P : Program} {T : Tab} (h : TabOk P T) {t : Nat} {i : TI} (hg : T.get t = some i) : mkTI P t = some i ∧ i.okB = true := by
  induction T with
  | nil => cases hg
  | cons p r ih =>
    simp only [Tab.get] at hg
    by_cases e : p.1 = t
    · subst e
      simp at hg
      rw [← hg]
      exact h p List.mem_cons_self
    · rw [beqF e] at hg
      exact ih (fun q hq => h q (List.mem_cons_of_mem _ hq)) (by simpa using hg)

section tables
variable {P : Program} {t : TypeId}
theorem TabOk.st {T : Tab} (hT : TabOk P T) {s : Nat} {fs : List (Nat × Nat × Bool)} {z : List Value} (hg : T.get t = some (.st s fs z)) :
    ∃ (fields : Array Field) (i : TypeInfo), P.underlying t = some (.struct fields) ∧ mkFs P fields.toList = some fs ∧ P.info? t = some i ∧ i.size = s ∧ i.zero = some (.agg z.toArray) ∧ s = z.length ∧ ∀ f ∈ fs, f.2.1 ≠ 0 := by
  obtain ⟨h, hb⟩ := hT.at_ hg
  simp only [TI.okB, Bool.and_eq_true, List.all_eq_true, Bool.not_eq_true'] at hb
  have hs := Nat.eq_of_beq_eq_true hb.1
  have hf : ∀ f ∈ fs, f.2.1 ≠ 0 := fun f hf e => by
    have := hb.2 f hf
    rw [e] at this
    cases this
  unfold mkTI at h
  split at h
  · rename_i fields i hu hi
    split at h
    · rename_i z' fs' hz hfs
      simp only [Option.some.injEq, TI.st.injEq] at h
      obtain ⟨rfl, rfl, rfl⟩ := h
      exact ⟨fields, i, hu, hfs, hi, rfl, by simpa using hz, hs, hf⟩
    · cases h
  · split at h <;> cases h
  · split at h
    · split at h <;> cases h
    · cases h
  · split at h <;> cases h
  · cases h
  · cases h
theorem TabOk.ar {T : Tab} (hT : TabOk P T) {s n e : Nat} {g : Bool} {z : List Value} (hg : T.get t = some (.ar s n e g z)) :
    ∃ (el : TypeId) (i j : TypeInfo), P.underlying t = some (.array n el) ∧ P.info? t = some i ∧ P.info? el = some j ∧ i.size = s ∧ i.zero = some (.agg z.toArray) ∧ j.size = e ∧ (∃ d, P.underlying el = some d ∧ isAggD d = g) ∧ s = z.length ∧ e ≠ 0 := by
  obtain ⟨h, hb⟩ := hT.at_ hg
  simp only [TI.okB, Bool.and_eq_true, Bool.not_eq_true'] at hb
  have hs := Nat.eq_of_beq_eq_true hb.1
  have hf : e ≠ 0 := fun k => by
    have := hb.2
    rw [k] at this
    cases this
  unfold mkTI at h
  split at h
  · split at h <;> cases h
  · rename_i n' el i hu hi
    split at h
    · rename_i z' j d hz hj hd
      simp only [Option.some.injEq, TI.ar.injEq] at h
      obtain ⟨rfl, rfl, rfl, rfl, rfl⟩ := h
      exact ⟨el, i, j, hu, hi, hj, rfl, by simpa using hz, rfl, ⟨d, hd, rfl⟩, hs, hf⟩
    · cases h
  · split at h
    · split at h <;> cases h
    · cases h
  · split at h <;> cases h
  · cases h
  · cases h
theorem TabOk.sl {T : Tab} (hT : TabOk P T) {el e b : Nat} {g : Bool} {z : List Value} (hg : T.get t = some (.sl el e b g z)) :
    ∃ (j : TypeInfo) (zv : Value), P.underlying t = some (.slice el) ∧ P.info? el = some j ∧ (∃ i, P.info? t = some i ∧ i.size = 1 ∧ i.zero = some (.slice none 0 0)) ∧ j.size = e ∧ j.bytes = b ∧ j.zero = some zv ∧ zv.cells.toList = z ∧ (∃ d, P.underlying el = some d ∧ isAggD d = g) ∧ e = z.length ∧ e ≠ 0 := by
  obtain ⟨h, hb⟩ := hT.at_ hg
  simp only [TI.okB, Bool.and_eq_true, Bool.not_eq_true'] at hb
  have hs := Nat.eq_of_beq_eq_true hb.1
  have hf : e ≠ 0 := fun k => by
    have := hb.2
    rw [k] at this
    cases this
  unfold mkTI at h
  split at h
  · split at h <;> cases h
  · split at h <;> cases h
  · rename_i el' i hu hi
    split at h
    · rename_i j d hi1 hz1 hj hd
      split at h
      · rename_i zv hz
        simp only [Option.some.injEq, TI.sl.injEq] at h
        obtain ⟨rfl, rfl, rfl, rfl, rfl⟩ := h
        exact ⟨j, zv, hu, hj, ⟨i, hi, hi1, hz1⟩, rfl, rfl, hz, rfl, ⟨d, hd, rfl⟩, hs, hf⟩
      · cases h
    · cases h
  · split at h <;> cases h
  · cases h
  · cases h
theorem TabOk.sc {T : Tab} (hT : TabOk P T) {d : TypeDesc} {s : Nat} {z : Value} (hg : T.get t = some (.sc d s z)) :
    ∃ (i : TypeInfo), P.underlying t = some d ∧ isAggD d = false ∧ P.info? t = some i ∧ i.size = 1 ∧ i.zero = some z ∧ z.cells.size = 1 := by
  obtain ⟨h, hb⟩ := hT.at_ hg
  simp only [TI.okB, Bool.and_eq_true] at hb
  have hs := Nat.eq_of_beq_eq_true hb.1
  have hz1 := Nat.eq_of_beq_eq_true hb.2
  unfold mkTI at h
  split at h
  · split at h <;> cases h
  · split at h <;> cases h
  · split at h
    · split at h <;> cases h
    · cases h
  · rename_i d' i n1 n2 n3 hu hi
    split at h
    · rename_i z' hz
      simp only [Option.some.injEq, TI.sc.injEq] at h
      obtain ⟨rfl, rfl, rfl⟩ := h
      refine ⟨i, hu, ?_, hi, hs, hz, hz1⟩
      cases d' <;> first | rfl | (exfalso; first | exact n1 _ rfl | exact n2 _ _ rfl)
    · cases h
  · cases h
  · cases h
theorem mkFs_at {fields : List Field} {fs : List (Nat × Nat × Bool)} (h : mkFs P fields = some fs) : ∀ {k : Nat} {x : Nat × Nat × Bool}, fs[k]? = some x →
    ∃ (f : Field) (j : TypeInfo), fields[k]? = some f ∧ P.info? f.type = some j ∧ f.offset = x.1 ∧ j.size = x.2.1 ∧ (∃ d, P.underlying f.type = some d ∧ isAggD d = x.2.2) := by
  induction fields generalizing fs with
  | nil => intro k x hx; simp [mkFs] at h; subst h; simp at hx
  | cons f r ih =>
    intro k x hx
    simp only [mkFs] at h
    split at h
    · rename_i j d l hj hd hl
      simp only [Option.some.injEq] at h
      subst h
      cases k with
      | zero => simp at hx; subst hx; exact ⟨f, j, rfl, hj, rfl, rfl, d, hd, rfl⟩
      | succ k => exact ih hl (by simpa using hx)
    · cases h
end tables
end Go.Proofs.Ytejnpppejalhfaa
