/- Plain laws on areas: cut, joined, turned. -/
import Derived.Test.YtejnpppejalhfaaPlArea
namespace Go.Proofs.Ytejnpppejalhfaa

def endOf : Int → List Ar → Int
  | e, [] => e
  | _, a :: l => endOf a.fin l
theorem riseF_append {o x : List Ar} : ∀ {e : Int}, RiseF e (o ++ x) ↔ RiseF e o ∧ RiseF (endOf e o) x := by
  induction o with
  | nil => intro e; simp [RiseF, endOf]
  | cons a o ih => intro e; simp only [List.cons_append, RiseF, endOf, ih]; exact ⟨fun ⟨a, b, c, d⟩ => ⟨⟨a, b, c⟩, d⟩, fun ⟨⟨a, b, c⟩, d⟩ => ⟨a, b, c, d⟩⟩
theorem endOf_snoc {o : List Ar} {b : Ar} : ∀ {e : Int}, endOf e (o ++ [b]) = b.fin := by
  induction o with
  | nil => intro e; rfl
  | cons a o ih => intro e; exact ih
theorem endOf_ge {o : List Ar} : ∀ {e : Int}, RiseF e o → e ≤ endOf e o := by
  induction o with
  | nil => intro e _; exact Int.le_refl _
  | cons a o ih =>
    intro e h
    have := ih h.2.2
    have h1 := h.1
    have h2 := h.2.1
    unfold Ar.ok at h1
    unfold endOf
    unfold Ar.fin at *
    omega
theorem paint_prefix {x y : List Ar} {p : Int} (h : paint x p = paint y p) (o : List Ar) : paint (o ++ x) p = paint (o ++ y) p := by
  induction o with
  | nil => exact h
  | cons a o ih => simp only [List.cons_append, paint]; rw [ih]

/-- two alike neighbours as one -/
theorem merge {a b : Ar} {l : List Ar} {e : Int} (h : RiseF e (b :: a :: l)) (hal : b.alike a) :
    RiseF e ({ b with n := b.n + a.n } :: l) ∧ ∀ p, paint ({ b with n := b.n + a.n } :: l) p = paint (b :: a :: l) p := by
  obtain ⟨h1, h2, h3, h4, h5⟩ := h
  obtain ⟨q1, q2, q3⟩ := hal
  have k1 := h1
  have k3 := h3
  unfold Ar.ok at k1 k3
  have hf : ({ b with n := b.n + a.n } : Ar).fin = a.fin := by unfold Ar.fin at *; simp only; omega
  refine ⟨⟨?_, h2, by rw [hf]; exact h5⟩, fun p => ?_⟩
  · unfold Ar.ok; simp only; unfold Ar.fin at *; omega
  · have hm : ({ b with n := b.n + a.n } : Ar).mk' = b.mk' := rfl
    have hm2 : a.mk' = b.mk' := by unfold Ar.mk'; rw [q2, q3]
    simp only [paint]
    rw [hf, hm, hm2]
    by_cases c1 : b.pg ≤ p ∧ p < b.fin
    · rw [if_pos c1, if_pos (by unfold Ar.fin at *; omega)]
    · rw [if_neg c1]
      by_cases c2 : a.pg ≤ p ∧ p < a.fin
      · rw [if_pos c2, if_pos (by unfold Ar.fin at *; omega)]
      · rw [if_neg c2, if_neg (by unfold Ar.fin at *; omega)]

def joinStep (out : List Ar) (a : Ar) : List Ar :=
  match out.getLast? with
  | some b => if b.alike a then out.dropLast ++ [{ b with n := b.n + a.n }] else out ++ [a]
  | none => out ++ [a]
def joined (l : List Ar) : List Ar := l.foldl joinStep []

theorem join_inv (l : List Ar) : ∀ out, RiseF 1 (out ++ l) → Apart out → Good (l.foldl joinStep out) ∧ ∀ p, paint (l.foldl joinStep out) p = paint (out ++ l) p := by
  induction l with
  | nil => intro out h ha; rw [List.append_nil] at *; exact ⟨⟨h, ha⟩, fun _ => rfl⟩
  | cons a l ih =>
    intro out h ha
    rw [List.foldl_cons]
    have plain : (∀ b, out.getLast? = some b → ¬ b.alike a) → Good (l.foldl joinStep (out ++ [a])) ∧ ∀ p, paint (l.foldl joinStep (out ++ [a])) p = paint (out ++ a :: l) p := fun hb => by
      have := ih (out ++ [a]) (by simpa using h) (apart_snoc ha hb)
      simpa using this
    cases hg : out.getLast? with
    | none =>
      have e : joinStep out a = out ++ [a] := by unfold joinStep; rw [hg]
      rw [e]
      exact plain (by rw [hg]; intro b hb; cases hb)
    | some b =>
      by_cases hal : b.alike a
      · have e : joinStep out a = out.dropLast ++ [{ b with n := b.n + a.n }] := by unfold joinStep; rw [hg]; simp only; rw [if_pos hal]
        rw [e]
        obtain ⟨o, rfl⟩ := List.getLast?_eq_some_iff.1 hg
        rw [List.dropLast_concat]
        have h' : RiseF 1 (o ++ (b :: a :: l)) := by simpa using h
        obtain ⟨g1, g2⟩ := riseF_append.1 h'
        obtain ⟨m1, m2⟩ := merge g2 hal
        have key := ih (o ++ [{ b with n := b.n + a.n }]) (by simpa using riseF_append.2 ⟨g1, m1⟩) (apart_last ha rfl rfl rfl)
        refine ⟨key.1, fun p => ?_⟩
        rw [key.2 p]
        simpa using paint_prefix (m2 p) o
      · have e : joinStep out a = out ++ [a] := by unfold joinStep; rw [hg]; simp only; rw [if_neg hal]
        rw [e]
        exact plain (by rw [hg]; intro c hc; cases hc; exact hal)
/-- JOINED: good areas, with the same marks -/
theorem joined_spec {l : List Ar} (h : RiseF 1 l) : Good (joined l) ∧ ∀ p, paint (joined l) p = paint l p := join_inv l [] h trivial

/-! CUT -/
def cutA (l : List Ar) (q : Int) : List Ar := l.filterMap fun a => if a.pg < q then some { a with n := min a.fin q - a.pg } else none
def cutB (l : List Ar) (q : Int) : List Ar := l.filterMap fun a => if q < a.fin then some { a with pg := max a.pg q, n := a.fin - max a.pg q } else none

/-- cut's areas ahead: they rise, end by q, and bear the marks ahead of q -/
theorem cutA_spec {l : List Ar} (q : Int) : ∀ {e : Int}, RiseF e l → RiseF e (cutA l q) ∧ endOf (min e q) (cutA l q) ≤ q ∧ ∀ p, paint (cutA l q) p = if p < q then paint l p else 0 := by
  induction l with
  | nil => intro e _; exact ⟨trivial, by unfold cutA endOf; simp; omega, fun p => by simp [cutA, paint]⟩
  | cons a l ih =>
    intro e h
    obtain ⟨h1, h2, h3⟩ := h
    obtain ⟨i1, i2, i3⟩ := ih h3
    have k1 := h1
    unfold Ar.ok at k1
    unfold cutA at *
    by_cases c : a.pg < q
    · have e1 : List.filterMap (fun a : Ar => if a.pg < q then some { a with n := min a.fin q - a.pg } else none) (a :: l) = { a with n := min a.fin q - a.pg } :: List.filterMap (fun a : Ar => if a.pg < q then some { a with n := min a.fin q - a.pg } else none) l := by
        rw [List.filterMap_cons]; simp [c]
      rw [e1]
      have hf : ({ a with n := min a.fin q - a.pg } : Ar).fin = min a.fin q := by unfold Ar.fin; simp only; omega
      have hfin : a.fin = a.pg + a.n := rfl
      refine ⟨⟨?_, h2, ?_⟩, ?_, fun p => ?_⟩
      · unfold Ar.ok; simp only; omega
      · rw [hf]; exact riseF_mono i1 (by omega)
      · unfold endOf; rw [hf]; exact i2
      · have hm : ({ a with n := min a.fin q - a.pg } : Ar).mk' = a.mk' := rfl
        simp only [paint]
        rw [hf, hm, i3]
        by_cases c1 : p < q
        · rw [if_pos c1, if_pos c1]
          by_cases c2 : a.pg ≤ p ∧ p < a.fin
          · rw [if_pos c2, if_pos (by omega)]
          · rw [if_neg c2, if_neg (by omega)]
        · rw [if_neg c1, if_neg c1, if_neg (by omega)]
    · have e1 : List.filterMap (fun a : Ar => if a.pg < q then some { a with n := min a.fin q - a.pg } else none) (a :: l) = List.filterMap (fun a : Ar => if a.pg < q then some { a with n := min a.fin q - a.pg } else none) l := by
        rw [List.filterMap_cons]; simp [c]
      rw [e1]
      have hfin : a.fin = a.pg + a.n := rfl
      refine ⟨riseF_mono i1 (by omega), ?_, fun p => ?_⟩
      · rw [show min e q = min e q from rfl]
        have : min a.fin q = q := by omega
        rw [this] at i2
        cases hl : List.filterMap (fun a : Ar => if a.pg < q then some { a with n := min a.fin q - a.pg } else none) l with
        | nil => unfold endOf; omega
        | cons b t => rw [hl] at i2; exact i2
      · rw [i3]
        by_cases c1 : p < q
        · rw [if_pos c1, if_pos c1, paint_cons_out (by omega)]
        · rw [if_neg c1, if_neg c1]
/-- cut's areas behind: they rise from q on, and bear the marks from q on -/
theorem cutB_spec {l : List Ar} (q : Int) (hq : 1 ≤ q) : ∀ {e : Int}, RiseF e l → RiseF (max e q) (cutB l q) ∧ ∀ p, paint (cutB l q) p = if q ≤ p then paint l p else 0 := by
  induction l with
  | nil => intro e _; exact ⟨trivial, fun p => by simp [cutB, paint]⟩
  | cons a l ih =>
    intro e h
    obtain ⟨h1, h2, h3⟩ := h
    obtain ⟨i1, i2⟩ := ih h3
    have k1 := h1
    unfold Ar.ok at k1
    unfold cutB at *
    have hfin : a.fin = a.pg + a.n := rfl
    by_cases c : q < a.fin
    · have e1 : List.filterMap (fun a : Ar => if q < a.fin then some { a with pg := max a.pg q, n := a.fin - max a.pg q } else none) (a :: l) = { a with pg := max a.pg q, n := a.fin - max a.pg q } :: List.filterMap (fun a : Ar => if q < a.fin then some { a with pg := max a.pg q, n := a.fin - max a.pg q } else none) l := by
        rw [List.filterMap_cons]; simp [c]
      rw [e1]
      have hf : ({ a with pg := max a.pg q, n := a.fin - max a.pg q } : Ar).fin = a.fin := by unfold Ar.fin; simp only; omega
      refine ⟨⟨?_, ?_, ?_⟩, fun p => ?_⟩
      · unfold Ar.ok; simp only; omega
      · simp only; omega
      · rw [hf]; rw [show a.fin = max a.fin q by omega]; exact i1
      · have hm : ({ a with pg := max a.pg q, n := a.fin - max a.pg q } : Ar).mk' = a.mk' := rfl
        simp only [paint]
        rw [hf, hm, i2]
        by_cases c1 : q ≤ p
        · rw [if_pos c1, if_pos c1]
          by_cases c2 : a.pg ≤ p ∧ p < a.fin
          · rw [if_pos c2, if_pos (by omega)]
          · rw [if_neg c2, if_neg (by omega)]
        · rw [if_neg c1, if_neg c1, if_neg (by omega)]
    · have e1 : List.filterMap (fun a : Ar => if q < a.fin then some { a with pg := max a.pg q, n := a.fin - max a.pg q } else none) (a :: l) = List.filterMap (fun a : Ar => if q < a.fin then some { a with pg := max a.pg q, n := a.fin - max a.pg q } else none) l := by
        rw [List.filterMap_cons]; simp [c]
      rw [e1]
      refine ⟨riseF_mono i1 (by omega), fun p => ?_⟩
      rw [i2]
      by_cases c1 : q ≤ p
      · rw [if_pos c1, if_pos c1, paint_cons_out (by omega)]
      · rw [if_neg c1, if_neg c1]

/-! TURNED -/
theorem paint_above {l : List Ar} : ∀ {e p : Int}, RiseF e l → endOf e l ≤ p → paint l p = 0 := by
  induction l with
  | nil => intros; rfl
  | cons a l ih =>
    intro e p h hp
    have := endOf_ge h.2.2
    unfold endOf at hp
    rw [paint_cons_out (by omega)]
    exact ih h.2.2 hp
theorem paint_add {o x : List Ar} : ∀ {e p : Int}, RiseF e (o ++ x) → paint (o ++ x) p = paint o p + paint x p := by
  induction o with
  | nil => intro e p _; simp [paint]
  | cons a o ih =>
    intro e p h
    obtain ⟨h1, h2, h3⟩ := h
    have h4 := riseF_append.1 h3
    have h5 := endOf_ge h4.1
    simp only [List.cons_append, paint]
    by_cases c : a.pg ≤ p ∧ p < a.fin
    · rw [if_pos c, if_pos c, paint_below h4.2 (by omega)]; omega
    · rw [if_neg c, if_neg c]; exact ih h3
theorem endOf_le {l : List Ar} {e e' q : Int} (h : endOf e l ≤ q) (he : e' ≤ q) : endOf e' l ≤ q := by
  cases l with
  | nil => exact he
  | cons a l => exact h

/-- the areas ahead, M' in the middle, the areas behind */ -/
def turnL (l : List Ar) (q q' : Int) (M : List Ar) : List Ar := joined (cutA l q ++ (M ++ cutB (cutB l q) q'))
def midL (l : List Ar) (q q' : Int) : List Ar := cutA (cutB l q) q'

theorem turn_spec {l M : List Ar} {q q' : Int} (h : RiseF 1 l) (hq : 1 ≤ q) (hqq : q < q') (hM : RiseF q M) (hMe : endOf q M ≤ q') :
    Good (turnL l q q' M) ∧ ∀ p, paint (turnL l q q' M) p = if q ≤ p ∧ p < q' then paint M p else paint l p := by
  obtain ⟨a1, a2, a3⟩ := cutA_spec q h
  rw [show min 1 q = 1 by omega] at a2
  obtain ⟨b1, b2⟩ := cutB_spec q hq h
  rw [show max 1 q = q by omega] at b1
  obtain ⟨c1, c2⟩ := cutB_spec q' (by omega) b1
  rw [show max q q' = q' by omega] at c1
  have hr2 : RiseF (endOf 1 (cutA l q)) (M ++ cutB (cutB l q) q') := riseF_append.2 ⟨riseF_mono hM a2, riseF_mono c1 (endOf_le hMe (by omega))⟩
  have hr : RiseF 1 (cutA l q ++ (M ++ cutB (cutB l q) q')) := riseF_append.2 ⟨a1, hr2⟩
  obtain ⟨j1, j2⟩ := joined_spec hr
  refine ⟨j1, fun p => ?_⟩
  unfold turnL
  rw [j2, paint_add hr, paint_add hr2, a3, c2, b2]
  by_cases d1 : p < q
  · rw [if_pos d1, paint_below hM d1, if_neg (by omega), if_neg (by omega)]; omega
  · rw [if_neg d1]
    by_cases d2 : p < q'
    · rw [if_neg (by omega), if_pos (by omega)]; omega
    · rw [if_pos (by omega), if_pos (by omega), if_neg (by omega), paint_above hM (by omega)]; omega
/-- WHAT COMES IS WHAT THE BOARD's MARKS GIVE -/
theorem turn_areas {l M : List Ar} {q q' : Int} (h : RiseF 1 l) (hq : 1 ≤ q) (hqq : q < q') (hM : RiseF q M) (hMe : endOf q M ≤ q') (nb : Int → Int) (hn : ∀ p, nb p = if q ≤ p ∧ p < q' then paint M p else paint l p) :
    aUpto nb 255 = turnL l q q' M := by
  obtain ⟨g1, g2⟩ := turn_spec h hq hqq hM hMe
  have : nb = paint (turnL l q q' M) := funext fun p => by rw [hn, g2]
  rw [this]
  exact areas_of_paint g1

theorem mid_spec {l : List Ar} {q q' : Int} (h : RiseF 1 l) (hq : 1 ≤ q) (hqq : q < q') : RiseF q (midL l q q') ∧ endOf q (midL l q q') ≤ q' ∧ ∀ p, paint (midL l q q') p = if q ≤ p ∧ p < q' then paint l p else 0 := by
  obtain ⟨b1, b2⟩ := cutB_spec q hq h
  rw [show max 1 q = q by omega] at b1
  obtain ⟨a1, a2, a3⟩ := cutA_spec q' b1
  rw [show min q q' = q by omega] at a2
  refine ⟨a1, a2, fun p => ?_⟩
  unfold midL
  rw [a3, b2]
  by_cases d1 : p < q'
  · rw [if_pos d1]
    by_cases d2 : q ≤ p
    · rw [if_pos d2, if_pos ⟨d2, d1⟩]
    · rw [if_neg d2, if_neg (by omega)]
  · rw [if_neg d1, if_neg (by omega)]
theorem mid_nil {l : List Ar} {q q' : Int} (h : RiseF 1 l) (hq : 1 ≤ q) (hqq : q < q') : midL l q q' = [] ↔ ∀ p, q ≤ p → p < q' → paint l p = 0 := by
  obtain ⟨m1, m2, m3⟩ := mid_spec h hq hqq
  constructor
  · intro e p h1 h2
    have := m3 p
    rw [e, if_pos ⟨h1, h2⟩] at this
    exact this.symm
  · intro hz
    cases hm : midL l q q' with
    | nil => rfl
    | cons a t =>
      rw [hm] at m1 m2 m3
      have hp := mk_pos m1.1
      have hok := m1.1
      unfold Ar.ok at hok
      have h1 := m3 a.pg
      rw [paint_cons_in (by unfold Ar.fin; omega)] at h1
      split at h1
      · rename_i hc
        rw [hz a.pg hc.1 hc.2] at h1
        omega
      · omega

def sumN : List Ar → Int
  | [] => 0
  | a :: l => a.n + sumN l
theorem sumN_spec {l : List Ar} : ∀ {q q' : Int}, RiseF q l → endOf q l ≤ q' → q ≤ q' → sumN l ≤ q' - q ∧ (sumN l = q' - q ↔ ∀ p, q ≤ p → p < q' → paint l p ≠ 0) := by
  induction l with
  | nil =>
    intro q q' _ _ hq
    refine ⟨by simp [sumN]; omega, fun h p h1 h2 => by simp [sumN] at h; omega, fun h => ?_⟩
    simp only [sumN]
    rcases Int.lt_or_eq_of_le hq with hlt | he
    · exact absurd rfl (h q (Int.le_refl _) hlt)
    · omega
  | cons a l ih =>
    intro q q' h he hq
    obtain ⟨h1, h2, h3⟩ := h
    have hok := h1
    unfold Ar.ok at hok
    have hf : a.fin = a.pg + a.n := rfl
    have hge := endOf_ge h3
    have hp := mk_pos h1
    obtain ⟨i1, i2⟩ := ih h3 he (by unfold endOf at he; omega)
    simp only [sumN]
    refine ⟨by omega, fun hs p g1 g2 => ?_, fun hall => ?_⟩
    · by_cases c : p < a.fin
      · rw [paint_cons_in (by omega)]; omega
      · rw [paint_cons_out (by omega)]
        exact i2.1 (by omega) p (by omega) g2
    · have hq2 : a.pg = q := by
        rcases Int.lt_or_eq_of_le h2 with hlt | e
        · have hle : q < q' := by unfold endOf at he; omega
          exact absurd (by rw [paint_cons_out (by omega), paint_below h3 (by omega)]) (hall q (Int.le_refl _) hle)
        · omega
      have := i2.2 fun p g1 g2 => by
        have := hall p (by omega) g2
        rwa [paint_cons_out (by omega)] at this
      omega

/-- a mark with another Prot -/
def reMark (prot m : Int) : Int := if m = 0 then 0 else 1 + 2 * prot + (if 8 < m then 8 else 0)
def setProt (prot : Int) (l : List Ar) : List Ar := l.map fun a => { a with prot := prot }
theorem setProt_spec (prot : Int) (hp : 0 ≤ prot ∧ prot ≤ 3) {l : List Ar} : ∀ {e : Int}, RiseF e l → RiseF e (setProt prot l) ∧ endOf e (setProt prot l) = endOf e l ∧
    ∀ p, paint (setProt prot l) p = reMark prot (paint l p) := by
  induction l with
  | nil => intro e _; exact ⟨trivial, rfl, fun p => by simp [setProt, paint, reMark]⟩
  | cons a l ih =>
    intro e h
    obtain ⟨h1, h2, h3⟩ := h
    obtain ⟨i1, i2, i3⟩ := ih h3
    have hok := h1
    unfold Ar.ok at hok
    have e1 : setProt prot (a :: l) = { a with prot := prot } :: setProt prot l := rfl
    rw [e1]
    have hf : ({ a with prot := prot } : Ar).fin = a.fin := rfl
    refine ⟨⟨?_, h2, by rw [hf]; exact i1⟩, by unfold endOf; rw [hf]; exact i2, fun p => ?_⟩
    · unfold Ar.ok; simp only; omega
    · by_cases c : a.pg ≤ p ∧ p < a.fin
      · rw [paint_cons_in c, paint_cons_in (by exact c)]
        unfold reMark
        have := mk_pos h1
        rw [if_neg (by omega)]
        unfold Ar.mk'
        simp only
        cases a.z
        · simp; omega
        · simp; omega
      · rw [paint_cons_out c, paint_cons_out (by exact c)]
        exact i3 p
end Go.Proofs.Ytejnpppejalhfaa
