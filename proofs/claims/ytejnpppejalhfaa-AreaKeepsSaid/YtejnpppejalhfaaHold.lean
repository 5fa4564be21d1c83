/- Laws on new blocks, each under a name of its own. -/
import Derived.Test.YtejnpppejalhfaaObj
namespace Go.Proofs.Ytejnpppejalhfaa
open Go.RowKit Go.Sort
section
variable {P : Program} {w : World} {ops : Array Oper} {rest : List Oper} {o : Oper} {a : Act} {Q : Exit → Act → World → Prop}
/-- the same, the new block under a name of its own -/
theorem wpList_new_row' (hgd : o.guard = none) (dst : Option Tmp) (hdst : o.dst = dst) (L : List Value) (t : TypeId)
    (hrun : (execOp a.eval o).run P w = .ok (.value (.pointer (some ⟨w.heap.size, 0, none⟩))) (w.alloc (.cells L.toArray t))) (B : Nat) (w0 : World) (hb : Below B w0 w) (hB : B ≤ w.heap.size)
    (next : ∀ g w', HoldL w' g L → B ≤ g → Below B w0 w' → (∀ k, k < w.heap.size → w'.heap[k]? = w.heap[k]?) → (∀ k, k < w.heap.size → k ≠ g) → wpList P ops Q rest (a.put dst (.pointer (some ⟨g, 0, none⟩))) w') :
    wpList P ops Q (o :: rest) a w :=
  wpList_new_row hgd dst hdst L t hrun B w0 hb hB fun w' h1 h2 _ h4 => next _ w' h1 hB h2 h4 fun _ h => Nat.ne_of_lt h
theorem wpList_box_row' (hgd : o.guard = none) (t : TypeId) (x : Operand) (ho : o.op = .box t x) (dst : Option Tmp) (hdst : o.dst = dst) (L : List Value) (hx : a.eval x = .agg L.toArray) (B : Nat) (w0 : World) (hb : Below B w0 w) (hB : B ≤ w.heap.size)
    (next : ∀ g w', HoldL w' g L → B ≤ g → Below B w0 w' → (∀ k, k < w.heap.size → w'.heap[k]? = w.heap[k]?) → (∀ k, k < w.heap.size → k ≠ g) → wpList P ops Q rest (a.put dst (.pointer (some ⟨g, 0, none⟩))) w') :
    wpList P ops Q (o :: rest) a w :=
  wpList_box_row hgd t x ho dst hdst L hx B w0 hb hB fun w' h1 h2 _ h4 => next _ w' h1 hB h2 h4 fun _ h => Nat.ne_of_lt h
end
end Go.Proofs.Ytejnpppejalhfaa
