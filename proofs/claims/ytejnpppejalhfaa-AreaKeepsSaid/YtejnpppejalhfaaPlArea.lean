/- Plain laws on areas and boards, with no program in sight. -/
import Derived.Handy
namespace Go.Proofs.Ytejnpppejalhfaa

/-- an area: its first page, how many, its Prot, is it Zero -/
structure Ar where
  pg : Int
  n : Int
  prot : Int
  z : Bool
deriving DecidableEq

namespace Ar
def fin (a : Ar) : Int := a.pg + a.n
def mk' (a : Ar) : Int := 1 + 2 * a.prot + (if a.z then 8 else 0)
def ok (a : Ar) : Prop := 1 ≤ a.pg ∧ a.pg ≤ 255 ∧ 1 ≤ a.n ∧ a.n ≤ 256 - a.pg ∧ 0 ≤ a.prot ∧ a.prot ≤ 3
def alike (a b : Ar) : Prop := a.fin = b.pg ∧ a.prot = b.prot ∧ a.z = b.z
end Ar
instance (a b : Ar) : Decidable (a.alike b) := by unfold Ar.alike; infer_instance
instance (a : Ar) : Decidable a.ok := by unfold Ar.ok; infer_instance

/-- areas that rise from the page e on -/
def RiseF : Int → List Ar → Prop
  | _, [] => True
  | e, a :: l => a.ok ∧ e ≤ a.pg ∧ RiseF a.fin l
/-- no two neighbours are alike -/
def Apart : List Ar → Prop
  | [] => True
  | [_] => True
  | a :: b :: l => ¬ a.alike b ∧ Apart (b :: l)
def Good (l : List Ar) : Prop := RiseF 1 l ∧ Apart l

/-- the mark of a page -/
def paint : List Ar → Int → Int
  | [], _ => 0
  | a :: l, p => if a.pg ≤ p ∧ p < a.fin then a.mk' else paint l p

def growLast : List Ar → List Ar
  | [] => []
  | [a] => [{ a with n := a.n + 1 }]
  | a :: l => a :: growLast l
/-- one step of the reference's areasOf -/
def aStep (b : Int → Int) (out : List Ar) (p : Int) : List Ar :=
  if b p = 0 then out else if b (p - 1) = b p then growLast out else out ++ [⟨p, 1, (b p - 1) % 8 / 2, decide (8 ≤ b p - 1)⟩]
def aUpto (b : Int → Int) : Nat → List Ar
  | 0 => []
  | k + 1 => aStep b (aUpto b k) (k + 1)

/-- what of the areas lies at pages up to k -/
def trunc : List Ar → Int → List Ar
  | [], _ => []
  | a :: l, k => if k < a.pg then [] else if a.fin ≤ k + 1 then a :: trunc l k else [{ a with n := k + 1 - a.pg }]

theorem paint_below {l : List Ar} : ∀ {e p : Int}, RiseF e l → p < e → paint l p = 0 := by
  induction l with
  | nil => intros; rfl
  | cons a l ih =>
    intro e p h hp
    obtain ⟨h1, h2, h3⟩ := h
    unfold paint
    rw [if_neg (by omega)]
    exact ih h3 (by unfold Ar.fin; unfold Ar.ok at h1; omega)

theorem mk_pos {a : Ar} (h : a.ok) : 1 ≤ a.mk' := by
  unfold Ar.ok at h; unfold Ar.mk'; split <;> omega
theorem mk_prot {a : Ar} (h : a.ok) : (a.mk' - 1) % 8 / 2 = a.prot := by
  unfold Ar.ok at h; unfold Ar.mk'; split <;> omega
theorem mk_z {a : Ar} (h : a.ok) : decide (8 ≤ a.mk' - 1) = a.z := by
  unfold Ar.ok at h; unfold Ar.mk'; cases a.z <;> simp <;> omega
theorem mk_inj {a b : Ar} (ha : a.ok) (hb : b.ok) (h : a.mk' = b.mk') : a.prot = b.prot ∧ a.z = b.z := by
  refine ⟨?_, ?_⟩
  · rw [← mk_prot ha, ← mk_prot hb, h]
  · rw [← mk_z ha, ← mk_z hb, h]

theorem trunc_none {l : List Ar} : ∀ {e k : Int}, RiseF e l → k < e → trunc l k = [] := by
  cases l with
  | nil => intros; rfl
  | cons a l => intro e k h hk; unfold trunc; rw [if_pos (by have := h.2.1; omega)]

theorem growLast_cons (a : Ar) {l : List Ar} (h : l ≠ []) : growLast (a :: l) = a :: growLast l := by
  cases l with
  | nil => exact absurd rfl h
  | cons b l => rfl

theorem paint_cons_in {a : Ar} {l : List Ar} {p : Int} (h : a.pg ≤ p ∧ p < a.fin) : paint (a :: l) p = a.mk' := by
  simp only [paint]; rw [if_pos h]
theorem paint_cons_out {a : Ar} {l : List Ar} {p : Int} (h : ¬ (a.pg ≤ p ∧ p < a.fin)) : paint (a :: l) p = paint l p := by
  simp only [paint]; rw [if_neg h]

/-- a step, at areas that are good -/
theorem trunc_step {l : List Ar} : ∀ {e p : Int}, RiseF e l → Apart l → 1 ≤ e → e ≤ p → trunc l p = aStep (paint l) (trunc l (p - 1)) p := by
  induction l with
  | nil => intro e p _ _ _ _; simp [trunc, aStep, paint]
  | cons a l ih =>
    intro e p h ha he hp
    obtain ⟨h1, h2, h3⟩ := h
    have hpos := mk_pos h1
    have hok := h1
    unfold Ar.ok at hok
    by_cases c1 : p < a.pg
    · -- ahead of a
      unfold aStep
      rw [paint_cons_out (by omega), paint_below h3 (by unfold Ar.fin; omega), if_pos rfl]
      simp only [trunc]
      rw [if_pos c1, if_pos (by omega)]
    by_cases c2 : p = a.pg
    · -- a begins
      unfold aStep
      rw [paint_cons_in (by unfold Ar.fin; omega), if_neg (by omega), paint_cons_out (by omega), paint_below h3 (by unfold Ar.fin; omega), if_neg (by omega), mk_prot h1, mk_z h1]
      simp only [trunc]
      rw [if_neg c1, if_pos (show p - 1 < a.pg by omega)]
      subst c2
      by_cases c3 : a.fin ≤ a.pg + 1
      · rw [if_pos c3, trunc_none h3 (by unfold Ar.fin; omega)]
        have : a.n = 1 := by unfold Ar.fin at c3; omega
        cases a; simp_all
      · rw [if_neg c3]
        simp only [List.nil_append]
        rw [show a.pg + 1 - a.pg = 1 by omega]
    by_cases c3 : p < a.fin
    · -- within a
      unfold aStep
      rw [paint_cons_in (by omega), if_neg (by omega), paint_cons_in (by omega), if_pos rfl]
      simp only [trunc]
      rw [if_neg c1, if_neg (show ¬ p - 1 < a.pg by omega), if_neg (show ¬ a.fin ≤ p - 1 + 1 by omega)]
      unfold growLast
      by_cases c4 : a.fin ≤ p + 1
      · rw [if_pos c4, trunc_none h3 (show p < a.fin by omega)]
        have : a.n = p + 1 - a.pg := by unfold Ar.fin at *; omega
        simp only
        rw [show p - 1 + 1 - a.pg + 1 = a.n by omega]
      · rw [if_neg c4]
        simp only
        rw [show p - 1 + 1 - a.pg + 1 = p + 1 - a.pg by omega]
    · -- behind a
      have hl : Apart l := by cases l with
        | nil => trivial
        | cons b l => exact ha.2
      have s := ih h3 hl (by unfold Ar.fin; omega) (show a.fin ≤ p by omega)
      have e1 : trunc (a :: l) p = a :: trunc l p := by simp only [trunc]; rw [if_neg c1, if_pos (by omega)]
      have e2 : trunc (a :: l) (p - 1) = a :: trunc l (p - 1) := by simp only [trunc]; rw [if_neg (by omega), if_pos (by omega)]
      rw [e1, e2, s]
      unfold aStep
      rw [paint_cons_out (by omega)]
      by_cases c4 : paint l p = 0
      · rw [if_pos c4, if_pos c4]
      rw [if_neg c4, if_neg c4]
      by_cases c5 : a.fin ≤ p - 1
      · rw [paint_cons_out (by omega)]
        by_cases c6 : paint l (p - 1) = paint l p
        · rw [if_pos c6, if_pos c6, growLast_cons]
          intro hn
          cases l with
          | nil => exact c4 rfl
          | cons b l =>
            simp only [trunc] at hn
            by_cases c7 : p - 1 < b.pg
            · have hb := h3
              have : paint (b :: l) (p - 1) = 0 := by
                rw [paint_cons_out (by omega), paint_below hb.2.2 (by unfold Ar.fin; have := hb.1; unfold Ar.ok at this; omega)]
              omega
            · rw [if_neg c7] at hn
              split at hn <;> exact List.cons_ne_nil _ _ hn
        · rw [if_neg c6, if_neg c6]; rfl
      · -- just behind a
        have c6 : p = a.fin := by omega
        rw [paint_cons_in (by omega), paint_below h3 (show p - 1 < a.fin by omega), if_neg (by omega), if_neg ?_]
        · rfl
        · intro hm
          cases l with
          | nil => exact c4 rfl
          | cons b l =>
            obtain ⟨g1, g2, g3⟩ := h3
            by_cases c7 : p < b.pg
            · exact c4 (by rw [paint_cons_out (by omega), paint_below g3 (by unfold Ar.fin; unfold Ar.ok at g1; omega)])
            · have c8 : b.pg = p := by omega
              rw [paint_cons_in (by unfold Ar.fin; unfold Ar.ok at g1; omega)] at hm
              obtain ⟨q1, q2⟩ := mk_inj h1 g1 hm
              exact ha.1 ⟨by omega, q1, q2⟩

theorem aUpto_trunc {l : List Ar} (h : Good l) (k : Nat) : aUpto (paint l) k = trunc l k := by
  induction k with
  | zero => rw [show ((0 : Nat) : Int) = 0 from rfl, trunc_none h.1 (by omega)]; rfl
  | succ k ih =>
    unfold aUpto
    rw [ih]
    have := trunc_step (p := (k : Int) + 1) h.1 h.2 (by omega) (by omega)
    rw [show (k : Int) + 1 - 1 = k by omega] at this
    rw [← this]; rfl

theorem trunc_all {l : List Ar} : ∀ {e : Int}, RiseF e l → trunc l 255 = l := by
  induction l with
  | nil => intros; rfl
  | cons a l ih =>
    intro e h
    obtain ⟨h1, h2, h3⟩ := h
    have hok := h1
    unfold Ar.ok at hok
    simp only [trunc]
    rw [if_neg (by omega), if_pos (by unfold Ar.fin; omega), ih h3]

/-- THE AREAS OF A BOARD THAT GOOD AREAS PAINT ARE THOSE AREAS -/
theorem areas_of_paint {l : List Ar} (h : Good l) : aUpto (paint l) 255 = l := by
  rw [aUpto_trunc h]; exact trunc_all h.1

/-! THE TEST OF AREAS, by index. -/
/-- the area at i may be, behind the one ahead of it -/
def OkAt (l : List Ar) (i : Nat) : Prop := ∃ a, l[i]? = some a ∧ a.ok ∧ ∀ j b, i = j + 1 → l[j]? = some b → b.fin ≤ a.pg ∧ ¬ b.alike a

theorem okAt_cons {a b : Ar} {l : List Ar} {i : Nat} : OkAt (a :: b :: l) (i + 2) ↔ OkAt (b :: l) (i + 1) := by
  unfold OkAt
  constructor
  · rintro ⟨c, h1, h2, h3⟩
    exact ⟨c, h1, h2, fun j d hj hd => h3 (j + 1) d (by omega) (by simpa using hd)⟩
  · rintro ⟨c, h1, h2, h3⟩
    refine ⟨c, h1, h2, fun j d hj hd => ?_⟩
    cases j with
    | zero => omega
    | succ j => exact h3 j d (by omega) (by simpa using hd)

theorem riseF_mono {l : List Ar} {e e' : Int} (h : RiseF e l) (he : e' ≤ e) : RiseF e' l := by
  cases l with
  | nil => trivial
  | cons a l => exact ⟨h.1, by have := h.2.1; omega, h.2.2⟩

theorem good_iff (l : List Ar) : Good l ↔ ∀ i, i < l.length → OkAt l i := by
  unfold Good
  induction l with
  | nil => exact ⟨fun _ i hi => by simp at hi, fun _ => ⟨trivial, trivial⟩⟩
  | cons a l ih =>
    cases l with
    | nil =>
      constructor
      · rintro ⟨⟨h1, h2, _⟩, _⟩ i hi
        have : i = 0 := by simpa using hi
        subst this
        exact ⟨a, rfl, h1, fun j b hj => by omega⟩
      · intro h
        obtain ⟨c, hc, h1, _⟩ := h 0 (by simp)
        simp at hc
        subst hc
        exact ⟨⟨h1, by unfold Ar.ok at h1; omega, trivial⟩, trivial⟩
    | cons b l =>
      constructor
      · rintro ⟨⟨h1, h2, h3⟩, h4, h5⟩ i hi
        have hb : Good (b :: l) := ⟨riseF_mono h3 (by unfold Ar.fin; unfold Ar.ok at h1; omega), h5⟩
        match i with
        | 0 => exact ⟨a, rfl, h1, fun j b hj => by omega⟩
        | 1 =>
          obtain ⟨c, hc, g1, _⟩ := ih.1 hb 0 (by simp)
          simp at hc
          subst hc
          refine ⟨b, rfl, g1, fun j d hj hd => ?_⟩
          obtain rfl : j = 0 := by omega
          simp at hd
          subst hd
          exact ⟨h3.2.1, h4⟩
        | i + 2 => exact okAt_cons.2 (ih.1 hb (i + 1) (by simpa using hi))
      · intro h
        have hb : RiseF 1 (b :: l) ∧ Apart (b :: l) := ih.2 fun i hi => by
          cases i with
          | zero =>
            obtain ⟨c, hc, g1, _⟩ := h 1 (by simp)
            exact ⟨c, by simpa using hc, g1, fun j d hj => by omega⟩
          | succ i => exact okAt_cons.1 (h (i + 2) (by simpa using hi))
        obtain ⟨c, hc, g1, _⟩ := h 0 (by simp)
        simp at hc
        subst hc
        obtain ⟨d, hd, g2, g3⟩ := h 1 (by simp)
        simp at hd
        subst hd
        obtain ⟨g4, g5⟩ := g3 0 a rfl rfl
        exact ⟨⟨g1, by unfold Ar.ok at g1; omega, ⟨hb.1.1, g4, hb.1.2.2⟩⟩, g5, hb.2⟩

instance (l : List Ar) : Decidable (Good l) := decidable_of_iff (∀ i : Fin l.length, l[i].ok ∧ ∀ h : 0 < i.1, l[i.1 - 1].fin ≤ l[i].pg ∧ ¬ l[i.1 - 1].alike l[i]) (by
  rw [good_iff]
  constructor
  · intro h i hi
    obtain ⟨h1, h2⟩ := h ⟨i, hi⟩
    refine ⟨l[i], by simp [hi], h1, fun j b hj hb => ?_⟩
    subst hj
    obtain ⟨_, rfl⟩ := List.getElem?_eq_some_iff.1 hb
    exact h2 (by simp)
  · intro h i
    obtain ⟨a, ha, h1, h2⟩ := h i.1 i.2
    obtain ⟨_, rfl⟩ := List.getElem?_eq_some_iff.1 ha
    refine ⟨h1, fun h0 => ?_⟩
    exact h2 (i.1 - 1) _ (by omega) (List.getElem?_eq_some_iff.2 ⟨by omega, rfl⟩))
/-- what Check answers: 0 OK, 1 ErrForm, 2 ErrMany -/
def checkI (l : List Ar) : Int := if 255 < l.length then 2 else if Good l then 0 else 1

/-! BOARDS -/
/-- a mark that an area may have -/
def Mark (n : Int) : Prop := n = 0 ∨ (1 ≤ n ∧ n ≤ 16 ∧ n % 2 = 1)
theorem mark_mk {a : Ar} (h : a.ok) : Mark a.mk' := by
  right; unfold Ar.ok at h; unfold Ar.mk'; split <;> omega
theorem mark_paint {l : List Ar} : ∀ {e : Int} (p : Int), RiseF e l → Mark (paint l p) := by
  induction l with
  | nil => intros; exact Or.inl rfl
  | cons a l ih =>
    intro e p h
    unfold paint
    split
    · exact mark_mk h.1
    · exact ih p h.2.2

/-- the last area of a list, behind k pages: it ends at k or ahead; if it ends at k then its mark is that page's -/
def LastOk (b : Int → Int) (k : Int) (l : List Ar) : Prop := ∀ a, l.getLast? = some a → a.fin ≤ k + 1 ∧ (a.fin = k + 1 → b k ≠ 0 ∧ a.prot = (b k - 1) % 8 / 2 ∧ a.z = decide (8 ≤ b k - 1)) 
theorem apart_snoc {l : List Ar} {a : Ar} (h : Apart l) (hl : ∀ b, l.getLast? = some b → ¬ b.alike a) : Apart (l ++ [a]) := by
  induction l with
  | nil => trivial
  | cons c l ih =>
    cases l with
    | nil => exact ⟨hl c rfl, trivial⟩
    | cons d l => exact ⟨h.1, ih h.2 (fun b hb => hl b (by simpa using hb))⟩
theorem growLast_eq (l : List Ar) (a : Ar) : growLast (l ++ [a]) = l ++ [{ a with n := a.n + 1 }] := by
  induction l with
  | nil => rfl
  | cons c l ih => rw [List.cons_append, growLast_cons c (by simp), ih]; rfl
theorem apart_last {l : List Ar} {a a' : Ar} (h : Apart (l ++ [a])) (h1 : a'.pg = a.pg) (h2 : a'.prot = a.prot) (h3 : a'.z = a.z) : Apart (l ++ [a']) := by
  induction l with
  | nil => trivial
  | cons c l ih =>
    cases l with
    | nil =>
      refine ⟨fun hc => h.1 ?_, trivial⟩
      unfold Ar.alike at *
      rw [h1, h2, h3] at hc
      exact hc
    | cons d l => exact ⟨h.1, ih h.2⟩
theorem aUpto_apart (b : Int → Int) (hm : ∀ p, Mark (b p)) (h0 : b 0 = 0) (k : Nat) : Apart (aUpto b k) ∧ LastOk b k (aUpto b k) ∧ (b k ≠ 0 → ∃ l a, aUpto b k = l ++ [a] ∧ a.fin = (k : Int) + 1) := by
  induction k with
  | zero => exact ⟨trivial, fun a ha => by simp [aUpto] at ha, fun h => absurd h0 h⟩
  | succ k ih =>
    obtain ⟨h1, h2, h3⟩ := ih
    unfold aUpto aStep
    rw [show (k : Int) + 1 - 1 = k by omega, show ((k + 1 : Nat) : Int) = (k : Int) + 1 by omega]
    by_cases c1 : b ((k : Int) + 1) = 0
    · rw [if_pos c1]
      refine ⟨h1, fun a ha => ?_, fun h => absurd c1 h⟩
      obtain ⟨g1, _⟩ := h2 a ha
      exact ⟨by omega, fun g => by omega⟩
    rw [if_neg c1]
    by_cases c2 : b (k : Int) = b ((k : Int) + 1)
    · rw [if_pos c2]
      obtain ⟨l, a, hla, hfin⟩ := h3 (by omega)
      rw [hla, growLast_eq]
      rw [hla] at h1 h2
      obtain ⟨_, g2⟩ := h2 a (by simp)
      obtain ⟨_, g3, g4⟩ := g2 hfin
      refine ⟨apart_last h1 rfl rfl rfl, fun a' ha' => ?_, fun _ => ⟨l, _, rfl, ?_⟩⟩
      · simp at ha'
        subst ha'
        rw [← c2]
        exact ⟨by unfold Ar.fin at *; simp only; omega, fun _ => ⟨by omega, g3, g4⟩⟩
      · unfold Ar.fin at *; simp only; omega
    · rw [if_neg c2]
      refine ⟨apart_snoc h1 fun c hc hal => ?_, fun a' ha' => ?_, fun _ => ⟨_, _, rfl, ?_⟩⟩
      · obtain ⟨g1, g2⟩ := h2 c hc
        unfold Ar.alike at hal
        simp only at hal
        obtain ⟨q1, q2, q3⟩ := hal
        obtain ⟨q4, q5, q6⟩ := g2 q1
        rw [q5] at q2
        rw [q6] at q3
        have m1 := hm k
        have m2 := hm (k + 1)
        unfold Mark at m1 m2
        have q3' : (8 ≤ b k - 1) ↔ (8 ≤ b (k + 1) - 1) := by simpa using q3
        omega
      · simp at ha'
        subst ha'
        exact ⟨by unfold Ar.fin; simp only; omega, fun _ => ⟨c1, rfl, rfl⟩⟩
      · unfold Ar.fin; simp only
/-- REBUILDING FROM THE BOARD GIVES THE SAME AREAS JUST WHERE NO NEIGHBOURS ARE ALIKE -/
theorem rebuild_iff {l : List Ar} (h : RiseF 1 l) : aUpto (paint l) 255 = l ↔ Apart l := by
  constructor
  · intro e
    have := (aUpto_apart (paint l) (fun p => mark_paint p h) (paint_below h (by omega)) 255).1
    rwa [e] at this
  · intro ha
    exact areas_of_paint ⟨h, ha⟩
end Go.Proofs.Ytejnpppejalhfaa
