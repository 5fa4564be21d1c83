/- Arguments that are slices, opened: what their elements' cells are. -/
import Derived.Test.YtejnpppejalhfaaSc9
import Derived.Deep.Slices
import Derived.OpenShut
import Derived.WideShapes
import Derived.ProofKit
namespace Go.Proofs.Ytejnpppejalhfaa
open Go.ChangeShapes Go.WideShapes Go.ChangeAt Go.RowKit Go.Deep

/-- these rows are what these things' cells are -/
def RowsAre {α : Type} (R : α → List Value → Prop) (xs : List α) (rows : List (List Value)) : Prop := rows.length = xs.length ∧ ∀ (i : Nat) (x : α) (r : List Value), xs[i]? = some x → rows[i]? = some r → R x r

section
variable {H : Type} {enc : TypeId × Value → H} {P : Program} {w : World} {base : Nat} {spare : Nat → Bool} {held : Bool}
theorem open_sl {α : Type} [Inhabited α] {t e : TypeId} {fuel sz : Nat} {cs : List Value} {y : DataW H × List MemPlace} (ht : P.underlying t = some (.slice e)) (hsz : P.cellsOf e = sz) (hpos : 0 < sz) (R : α → List Value → Prop) (hR1 : ∀ x r, R x r → r.all (·.oneCell') = true)
    (hR : ∀ (n : Nat) (cs' : List Value) (z : DataW H × List MemPlace), cs'.length = sz → DataW.trod enc P w base spare held n e cs' = some z → ∃ x : α, R x cs') (h : DataW.trod enc P w base spare held fuel t cs = some y) :
    ∃ v xs rows, cs = [v] ∧ Sl nF w sz v rows ∧ RowsAre R xs rows ∧ v.oneCell' = true := by
  rcases open_slice ht h with ⟨rfl, _⟩ | ⟨a, len, cap, m, n, D, Pl, rfl, hb, hl, hm, hmm, _, hx⟩
  · exact ⟨_, [], [], rfl, Or.inl ⟨_, _, rfl, rfl⟩, ⟨rfl, fun i x r h => by simp at h⟩, rfl⟩
  · have hlm : len ≤ m := by rw [hmm]; split <;> omega
    rw [hsz] at hx
    have key : ∀ i, ∃ r x, i < len → w.cells? base (a.add (i * sz)) sz = some r ∧ R x r ∧ r.length = sz := fun i => by
      by_cases hi : i < len
      · obtain ⟨cs', h1, h2⟩ := hx i (by omega)
        have hl := (World.cells?_some h1).2.1
        obtain ⟨x, hr⟩ := hR n cs' _ hl h2
        exact ⟨cs', x, fun _ => ⟨h1, hr, hl⟩⟩
      · exact ⟨[], default, fun h => (hi h).elim⟩
    obtain ⟨r, hr⟩ := Classical.axiomOfChoice key
    obtain ⟨x, hr⟩ := Classical.axiomOfChoice hr
    refine ⟨_, (List.range len).map x, (List.range len).map r, rfl, ?_, ⟨by simp, fun i y r' h1 h2 => ?_⟩, rfl⟩
    · by_cases h0 : len = 0
      · subst h0; exact Or.inl ⟨_, _, rfl, rfl⟩
      · obtain ⟨b, off, spot⟩ := a
        have hcell : ∀ i, i < len → ∀ j, j < sz → w.cell? (((⟨b, off, spot⟩ : Addr).add (i * sz)).add j) = (r i)[j]? := fun i hi j hj => (World.cells?_some (hr i hi).1).2.2 j hj
        have h00 := hcell 0 (by omega) 0 hpos
        obtain ⟨u0, hu0⟩ : ∃ u, (r 0)[0]? = some u := ⟨(r 0)[0]'(by rw [(hr 0 (by omega)).2.2]; exact hpos), by simp⟩
        rw [hu0] at h00
        simp only [Nat.zero_mul, Addr.add, if_true] at h00
        have hspot : spot = none := by
          cases spot with
          | none => rfl
          | some s => simp [World.cell?] at h00; split at h00 <;> simp at h00
        subst hspot
        have hbl := World.block_lt_of_cell? w _ h00
        refine Or.inr ⟨b, off, cap, by simp, by simpa using hl, hm, ⟨hbl, id, fun r' hr' => ?_, fun r' hr' => ?_, fun k r' hk j u hj => ?_⟩⟩
        · obtain ⟨i, hi, rfl⟩ := List.mem_map.1 hr'
          exact (hr i (by simpa using hi)).2.2
        · obtain ⟨i, hi, rfl⟩ := List.mem_map.1 hr'
          exact hR1 _ _ (hr i (by simpa using hi)).2.1
        · have hk' : k < len := by have := lt_of_getE hk; simpa using this
          simp [hk'] at hk
          subst hk
          have hjl : j < sz := by have := lt_of_getE hj; rwa [(hr k hk').2.2] at this
          have := hcell k hk' j hjl
          rw [hj] at this
          rwa [Addr.add_mid, Addr.add_mid] at this
    · have hi : i < len := by have := lt_of_getE h1; simpa using this
      simp [hi] at h1 h2
      subst h1 h2
      exact (hr i hi).2.1
end
end Go.Proofs.Ytejnpppejalhfaa
