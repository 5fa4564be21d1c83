/- What AreaKeeps says, in plain Lean. -/
import Derived.Test.YtejnpppejalhfaaAs5
namespace Go.Proofs.Ytejnpppejalhfaa
open Go.RowKit Go.Sort

theorem rise_len {L : List Ar} : ∀ {e : Int}, RiseF e L → L ≠ [] → e + L.length ≤ 256 := by
  induction L with
  | nil => intro e _ h; exact (h rfl).elim
  | cons a L ih =>
    intro e h _
    obtain ⟨h1, h2, h3⟩ := h
    unfold Ar.ok at h1
    have hf : a.fin = a.pg + a.n := rfl
    cases L with
    | nil => simp; omega
    | cons b L =>
      have := ih h3 (by simp)
      simp only [List.length_cons] at this ⊢
      omega
theorem check_good {L : List Ar} (h : Good L) : checkI L = 0 := by
  refine checkI_zero.2 ⟨?_, h⟩
  by_cases e : L = []
  · subst e; simp
  · have := rise_len h.1 e
    omega
def markO : Option Ar → Int
  | none => 0
  | some a => a.mk'
theorem paint_find {L : List Ar} (p : Int) : ∀ {e : Int}, RiseF e L → paint L p = markO (findA L p) := by
  induction L with
  | nil => intro e _; rfl
  | cons a L ih =>
    intro e h
    obtain ⟨h1, h2, h3⟩ := h
    unfold findA at ih ⊢
    rw [List.find?_cons]
    by_cases hin : a.pg ≤ p ∧ p < a.fin
    · rw [paint_cons_in hin]
      have : holdsB p a = true := by unfold holdsB; simp; exact hin
      rw [this]
      rfl
    · rw [paint_cons_out hin]
      have : holdsB p a = false := by unfold holdsB; simp; omega
      rw [this]
      exact ih h3
theorem find_ok {L : List Ar} {p : Int} {a : Ar} (h : RiseF 1 L) (hf : findA L p = some a) : a.ok := by
  unfold findA at hf
  obtain ⟨i, hi⟩ := List.mem_iff_getElem?.1 (List.mem_of_find?_eq_some hf)
  exact rise_ok h i a hi
/-- what the mark of a page tells of what Find answers -/
theorem find_mark {L M : List Ar} {p : Int} (hL : Good L) (hM : Good M) (h : paint L p = paint M p) : (findA L p).isSome = (findA M p).isSome ∧ ((findA L p).getD zeroAr).prot = ((findA M p).getD zeroAr).prot ∧ ((findA L p).getD zeroAr).z = ((findA M p).getD zeroAr).z := by
  rw [paint_find p hL.1, paint_find p hM.1] at h
  cases h1 : findA L p with
  | none =>
    cases h2 : findA M p with
    | none => exact ⟨rfl, rfl, rfl⟩
    | some b => rw [h1, h2] at h; have := mk_pos (find_ok hM.1 h2); unfold markO at h; simp only at h; omega
  | some a =>
    cases h2 : findA M p with
    | none => rw [h1, h2] at h; have := mk_pos (find_ok hL.1 h1); unfold markO at h; simp only at h; omega
    | some b =>
      rw [h1, h2] at h
      obtain ⟨e1, e2⟩ := mk_inj (find_ok hL.1 h1) (find_ok hM.1 h2) h
      exact ⟨rfl, e1, e2⟩
theorem find_zero {L : List Ar} {p : Int} (hL : Good L) (h : paint L p = 0) : findA L p = none := by
  rw [paint_find p hL.1] at h
  cases h1 : findA L p with
  | none => rfl
  | some a => rw [h1] at h; have := mk_pos (find_ok hL.1 h1); unfold markO at h; simp only at h; omega
theorem find_some {L : List Ar} {p prot : Int} {z : Bool} (hL : Good L) (hp : 0 ≤ prot ∧ prot ≤ 3) (h : paint L p = 1 + 2 * prot + (if z then 8 else 0)) : ∃ a, findA L p = some a ∧ a.prot = prot ∧ a.z = z := by
  rw [paint_find p hL.1] at h
  cases h1 : findA L p with
  | none => rw [h1] at h; unfold markO at h; simp only at h; split at h <;> omega
  | some a =>
    rw [h1] at h
    have h' : a.mk' = (⟨1, 1, prot, z⟩ : Ar).mk' := h
    obtain ⟨e1, e2⟩ := mk_inj (find_ok hL.1 h1) (by unfold Ar.ok; simp only; omega) h'
    exact ⟨a, rfl, e1, e2⟩
/-- of what comes, if there is no error -/
structure Kept (L R : List Ar) (page pages p : Int) (inn : Option Ar → Prop) : Prop where
  good : checkI R = 0
  out : ¬ (page ≤ p ∧ p - page < pages) → (findI R p).isSome = (findI L p).isSome ∧ ((findI R p).getD zeroAr).prot = ((findI L p).getD zeroAr).prot ∧ ((findI R p).getD zeroAr).z = ((findI L p).getD zeroAr).z
  ins : page ≤ p ∧ p - page < pages → inn (findI R p)
theorem findI_good {L : List Ar} {p : Int} (h : checkI L = 0) : findI L p = findA L p := if_pos h
theorem kept_of {L M : List Ar} {page pages p : Int} {inn : Option Ar → Prop} (hc : checkI L = 0) (h1 : 1 ≤ page) (h2 : 1 ≤ pages) (hM : RiseF page M) (hMe : endOf page M ≤ page + pages)
    (hin : page ≤ p ∧ p - page < pages → ∀ R, Good R → paint R p = paint M p → inn (findA R p)) : Kept L (turnL L page (page + pages) M) page pages p inn := by
  have hg := (checkI_zero.1 hc).2
  obtain ⟨g1, g2⟩ := turn_spec hg.1 h1 (by omega) hM hMe
  have hcr := check_good g1
  refine ⟨hcr, fun h => ?_, fun h => ?_⟩
  · rw [findI_good hcr, findI_good hc]
    exact find_mark g1 hg (by rw [g2 p, if_neg (by omega)])
  · rw [findI_good hcr]
    exact hin h _ g1 (by rw [g2 p, if_pos (by omega)])
theorem spanE_bits {L : List Ar} {page pages prot : Int} (h : spanE L page pages prot = 0) : checkI L = 0 ∧ 1 ≤ page ∧ page ≤ 255 ∧ 1 ≤ pages ∧ pages ≤ 256 - page ∧ 0 ≤ prot ∧ prot ≤ 3 := by
  obtain ⟨h1, h2⟩ := spanE_zero.1 h
  exact ⟨h1, (spanB_iff page pages prot).1 h2⟩
theorem keep_map {L : List Ar} {page pages prot : Int} (p : Int) (h : (mapR L page pages prot).2 = 0) : Kept L (mapR L page pages prot).1 page pages p (fun o => findI L p = none ∧ ∃ a, o = some a ∧ a.prot = prot ∧ a.z = true) := by
  unfold mapR at h ⊢
  by_cases hs : spanE L page pages prot = 0
  · rw [if_neg (fun k => k hs)] at h ⊢
    by_cases hm : midL L page (page + pages) = []
    · rw [if_pos hm]
      obtain ⟨hc, p1, p2, p3, p4, p5, p6⟩ := spanE_bits hs
      have hg := (checkI_zero.1 hc).2
      refine kept_of hc p1 p3 ⟨⟨p1, p2, p3, by simp only; omega, p5, p6⟩, Int.le_refl _, trivial⟩ (by simp [endOf, Ar.fin]) (fun hin R hR hpr => ⟨?_, ?_⟩)
      · rw [findI_good hc]
        exact find_zero hg ((mid_nil hg.1 p1 (by omega)).1 hm p hin.1 (by omega))
      · refine find_some hR ⟨p5, p6⟩ (z := true) (hpr.trans ?_)
        rw [paint_cons_in (by unfold Ar.fin; simp only; omega)]
        rfl
    · rw [if_neg hm] at h; simp at h
  · rw [if_pos hs] at h; exact (hs h).elim
theorem keep_unmap {L : List Ar} {page pages : Int} (p : Int) (h : (unmapR L page pages).2 = 0) : Kept L (unmapR L page pages).1 page pages p (fun o => o = none) := by
  unfold unmapR at h ⊢
  by_cases hs : spanE L page pages 0 = 0
  · rw [if_neg (fun k => k hs)] at h ⊢
    obtain ⟨hc, p1, p2, p3, p4, p5, p6⟩ := spanE_bits hs
    exact kept_of hc p1 p3 trivial (by unfold endOf; omega) (fun hin R hR hpr => find_zero hR hpr)
  · rw [if_pos hs] at h; exact (hs h).elim
theorem keep_prot {L : List Ar} {page pages prot : Int} (p : Int) (h : (protR L page pages prot).2 = 0) : Kept L (protR L page pages prot).1 page pages p (fun o => ∃ a b, o = some a ∧ findI L p = some b ∧ a.prot = prot ∧ a.z = b.z) := by
  unfold protR at h ⊢
  by_cases hs : spanE L page pages prot = 0
  · rw [if_neg (fun k => k hs)] at h ⊢
    by_cases hm : sumN (midL L page (page + pages)) < pages
    · rw [if_pos hm] at h; simp at h
    · rw [if_neg hm]
      obtain ⟨hc, p1, p2, p3, p4, p5, p6⟩ := spanE_bits hs
      have hg := (checkI_zero.1 hc).2
      obtain ⟨m1, m2, m3⟩ := mid_spec hg.1 p1 (q' := page + pages) (by omega)
      obtain ⟨s1, s2, s3⟩ := setProt_spec prot ⟨p5, p6⟩ m1
      obtain ⟨u1, u2⟩ := sumN_spec m1 m2 (by omega)
      refine kept_of hc p1 p3 s1 (by rw [s2]; exact m2) (fun hin R hR hpr => ?_)
      have hne : paint L p ≠ 0 := by
        have := u2.1 (by omega) p hin.1 (by omega)
        rw [m3 p, if_pos (by omega)] at this
        exact this
      cases hb : findA L p with
      | none => rw [paint_find p hg.1, hb] at hne; exact (hne rfl).elim
      | some b =>
        have hbo := find_ok hg.1 hb
        have hpl : paint L p = b.mk' := by rw [paint_find p hg.1, hb]; rfl
        rw [s3, m3, if_pos (by omega), hpl] at hpr
        have hz : paint R p = 1 + 2 * prot + (if b.z then 8 else 0) := by
          rw [hpr]
          unfold reMark Ar.mk'
          unfold Ar.ok at hbo
          cases b.z <;> simp <;> (repeat' split) <;> omega
        obtain ⟨a, ha1, ha2, ha3⟩ := find_some hR ⟨p5, p6⟩ hz
        exact ⟨a, b, ha1, by rw [findI_good hc]; exact hb, ha2, ha3⟩
  · rw [if_pos hs] at h; exact (hs h).elim
end Go.Proofs.Ytejnpppejalhfaa
