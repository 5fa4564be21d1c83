/- The contract of area.cut. -/
import Derived.Test.YtejnpppejalhfaaAr17
import Derived.Maps.AppendAt
namespace Go.Proofs.Ytejnpppejalhfaa
open Go.RowKit Go.Sort

def ctA (L : List Ar) (q : Int) (i : Nat) : List Ar := cutA (L.take i) q
def ctB (L : List Ar) (q : Int) (i : Nat) : List Ar := cutB (L.take i) q
theorem ctA_yes {L : List Ar} {q : Int} {i : Nat} {a : Ar} (ha : L[i]? = some a) (h : a.pg < q) : ctA L q (i + 1) = ctA L q i ++ [{ a with n := min a.fin q - a.pg }] := by
  unfold ctA cutA; rw [take_snoc ha, List.filterMap_append]; simp [h]
theorem ctA_no {L : List Ar} {q : Int} {i : Nat} {a : Ar} (ha : L[i]? = some a) (h : ¬ a.pg < q) : ctA L q (i + 1) = ctA L q i := by
  unfold ctA cutA; rw [take_snoc ha, List.filterMap_append]; simp [h]
theorem ctB_yes {L : List Ar} {q : Int} {i : Nat} {a : Ar} (ha : L[i]? = some a) (h : q < a.fin) : ctB L q (i + 1) = ctB L q i ++ [{ a with pg := max a.pg q, n := a.fin - max a.pg q }] := by
  unfold ctB cutB; rw [take_snoc ha, List.filterMap_append]; simp [h]
theorem ctB_no {L : List Ar} {q : Int} {i : Nat} {a : Ar} (ha : L[i]? = some a) (h : ¬ q < a.fin) : ctB L q (i + 1) = ctB L q i := by
  unfold ctB cutB; rw [take_snoc ha, List.filterMap_append]; simp [h]
theorem ctA_len (L : List Ar) (q : Int) (i : Nat) : (ctA L q i).length ≤ i := by
  unfold ctA cutA
  exact Nat.le_trans (List.length_filterMap_le _ _) (by simp; omega)
theorem ctB_len (L : List Ar) (q : Int) (i : Nat) : (ctB L q i).length ≤ i := by
  unfold ctB cutB
  exact Nat.le_trans (List.length_filterMap_le _ _) (by simp; omega)
/-- two rows of one's own lie apart -/
def RowsApart (v u : Value) : Prop := v.ownBlock = none ∨ v.ownBlock ≠ u.ownBlock
theorem RowsApart.symm {v u : Value} (h : RowsApart v u) : RowsApart u v := by
  unfold RowsApart at *
  cases hv : v.ownBlock <;> cases hu : u.ownBlock <;> simp_all
  omega
def CutPost (A B : List Ar) (w : World) (e : Ending) (w' : World) : Prop := ∃ va vb, e = .returned (.tuple #[va, vb]) ∧ w'.ownsRow w.heap.size 63 4 va A.length (flat A) ∧ w'.ownsRow w.heap.size 63 4 vb B.length (flat B) ∧ RowsApart va vb ∧ Below w.heap.size w w'
end Go.Proofs.Ytejnpppejalhfaa
