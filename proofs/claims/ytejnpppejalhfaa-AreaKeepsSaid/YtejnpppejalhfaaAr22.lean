/- slices.Concat of rows of areas. -/
import Derived.Test.YtejnpppejalhfaaAr21
namespace Go.Proofs.Ytejnpppejalhfaa
open Go.RowKit Go.Sort

theorem flat_append (L M : List Ar) : flat (L ++ M) = flat L ++ flat M := by simp [flat]
theorem sl_cells {w : World} {b : Nat} : ∀ (L : List Ar) (off : Nat), (∀ i a, L[i]? = some a → CellsAr w b (off + i * 4) a) → ∀ j u, (flat L)[j]? = some u → w.cell? ⟨b, off + j, none⟩ = some u := by
  intro L
  induction L with
  | nil => intro off _ j u h; simp [flat] at h
  | cons a L ih =>
    intro off h j u hu
    obtain ⟨c0, c1, c2, c3⟩ := h 0 a rfl
    rw [show off + 0 * 4 = off by omega] at c0 c1 c2 c3
    have hfl : flat (a :: L) = arC a ++ flat L := by simp [flat]
    rw [hfl] at hu
    by_cases hj : j < 4
    · rw [List.getElem?_append_left (by simpa [arC] using hj)] at hu
      match j, hj with
      | 0, _ => simp [arC] at hu; subst hu; exact c0
      | 1, _ => simp [arC] at hu; subst hu; exact c1
      | 2, _ => simp [arC] at hu; subst hu; exact c2
      | 3, _ => simp [arC] at hu; subst hu; exact c3
    · rw [List.getElem?_append_right (by simp [arC]; omega)] at hu
      have hl : (arC a).length = 4 := rfl
      rw [hl] at hu
      have := ih (off + 4) (fun i a' ha => by
        have := h (i + 1) a' ha
        rw [show off + (i + 1) * 4 = off + 4 + i * 4 by omega] at this
        exact this) (j - 4) u hu
      rw [show off + 4 + (j - 4) = off + j by omega] at this
      exact this
theorem flat_one (L : List Ar) : ∀ u ∈ flat L, u.oneCell' = true := by
  intro u hu
  unfold flat at hu
  obtain ⟨a, _, ha⟩ := List.mem_flatMap.1 hu
  simp [arC] at ha
  rcases ha with rfl | rfl | rfl | rfl <;> rfl
/-- append of a slice of areas onto a row of one's own -/
theorem append_sl {w : World} {base : Nat} {v u : Value} {L M : List Ar} (hown : w.ownsRow base 63 4 v L.length (flat L)) (hs : SlAr w u M) (hlen : L.length + M.length ≤ 10000) (hb : base ≤ w.heap.size) :
    ∃ v' w', (Builtin.append_ #[61, 61] 61 #[v, u]).run Try.prog w = .ok v' w' ∧ w'.ownsRow base 63 4 v' (L ++ M).length (flat (L ++ M)) ∧ w.grownBy w' v.ownBlock := by
  obtain ⟨i0, hi0, hz0, hs0, hy0⟩ := info_area
  rcases hs with ⟨p, c, rfl, rfl⟩ | ⟨b, off, cap, rfl, h2, h3, h4, h5⟩
  · cases p with
    | none =>
      have e : Builtin.append_ #[61, 61] 61 #[v, .slice none 0 c] = Builtin.append_ #[61, 61] 61 #[v, .slice none 0 0] := rfl
      rw [e]
      refine ⟨v, w, run_append_owned_none w base _ _ _ i0 4 Try.underlying61 hi0 v _ _ hown, ?_, World.grownBy.refl _ _⟩
      rw [List.append_nil]
      exact hown
    | some a =>
      obtain ⟨v', w', hr, ho, hg, _⟩ := run_append_own_wide (P := Try.prog) w base 61 61 63 i0 _ 4 32 Try.underlying61 hi0 hz0 hs0 hy0 rfl (by decide) v _ _ hown a 0 c [] rfl (fun j u hu => by simp at hu) (by simp) (by unfold maxLen; omega) (by simp at hlen; omega) hb
      refine ⟨v', w', hr, ?_, hg⟩
      rw [List.append_nil] at ho ⊢
      exact ho
  · obtain ⟨v', w', hr, ho, hg, _⟩ := run_append_own_wide (P := Try.prog) w base 61 61 63 i0 _ 4 32 Try.underlying61 hi0 hz0 hs0 hy0 rfl (by decide) v _ _ hown ⟨b, off, none⟩ M.length cap (flat M) (flat_len M) (fun j u hu => by rw [Addr.add_lit]; exact sl_cells M off h5 j u hu) (flat_one M) (by unfold maxLen; omega) (by omega) hb
    refine ⟨v', w', hr, ?_, hg⟩
    rw [flat_append, List.length_append]
    exact ho
end Go.Proofs.Ytejnpppejalhfaa
