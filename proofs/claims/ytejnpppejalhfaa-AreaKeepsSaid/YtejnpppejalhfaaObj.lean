/- Laws on a block whose cells are known: made, loaded, stored whole or at one place (also one that is not written in the text). Behind each stands an abstract world. -/
import Derived.Test.YtejnpppejalhfaaKit
import Derived.Test.YtejnpppejalhfaaRegion
import Derived.Great.BuildSlice
import Derived.Great.Ranges
import Derived.Great.Walk
namespace Go.Proofs.Ytejnpppejalhfaa
open Go.RowKit Go.Sort

/-- the block g holds these cells, and they may be written -/
def HoldL (w : World) (g : Nat) (L : List Value) : Prop := ∃ t, w.heap[g]? = some (.cells L.toArray t (0, 0))

theorem HoldL.cell {w : World} {g : Nat} {L : List Value} (h : HoldL w g L) (j : Nat) : w.cell? ⟨g, j, none⟩ = L[j]? := by
  obtain ⟨t, h⟩ := h
  simp [World.cell?, h]
theorem HoldL.frozen {w : World} {g : Nat} {L : List Value} (h : HoldL w g L) (j : Nat) : w.frozen? ⟨g, j, none⟩ = false := by
  obtain ⟨t, h⟩ := h
  simp [World.frozen?, h]
theorem HoldL.lt {w : World} {g : Nat} {L : List Value} (h : HoldL w g L) : g < w.heap.size := by
  obtain ⟨t, h⟩ := h
  exact (Array.getElem?_eq_some_iff.1 h).1
theorem HoldL.grown {w w' : World} {B g : Nat} {L : List Value} (h : HoldL w g L) (hb : Below B w w') (hg : g < B) : HoldL w' g L := by
  obtain ⟨t, h⟩ := h
  exact ⟨t, by rw [hb.block g hg]; exact h⟩
/-- behind a call: w1 is where the cells were known, w2 where the call began -/
theorem HoldL.past {w1 w2 w3 : World} {g : Nat} {L : List Value} (h : HoldL w1 g L) (hb : Below w1.heap.size w1 w2) (hb2 : Below w2.heap.size w2 w3) : HoldL w3 g L :=
  (h.grown hb h.lt).grown hb2 (h.grown hb h.lt).lt
theorem HoldL.kept {w w' : World} {g : Nat} {L : List Value} (h : HoldL w g L) (hk : ∀ k, k < w.heap.size → w'.heap[k]? = w.heap[k]?) : HoldL w' g L := by
  have hl := h.lt
  obtain ⟨t, h⟩ := h
  exact ⟨t, by rw [hk g hl]; exact h⟩
/-- all other blocks are as they were -/
def Others (g : Nat) (w w' : World) : Prop := w'.heap.size = w.heap.size ∧ ∀ k, k ≠ g → w'.heap[k]? = w.heap[k]?
theorem HoldL.other {w w' : World} {g k : Nat} {L : List Value} (h : HoldL w k L) (ho : Others g w w') (hk : k ≠ g) : HoldL w' k L := by
  obtain ⟨t, h⟩ := h
  exact ⟨t, by rw [ho.2 k hk]; exact h⟩
theorem Others.cell {w w' : World} {g : Nat} (ho : Others g w w') (q : Addr) (hq : q.block ≠ g) : w'.cell? q = w.cell? q := World.cell?_of_block (w := w) (ho.2 q.block hq)
theorem Others.frozen {w w' : World} {g : Nat} (ho : Others g w w') (q : Addr) (hq : q.block ≠ g) : w'.frozen? q = w.frozen? q := World.frozen?_of_block (w := w) (ho.2 q.block hq)

theorem HoldL.drew {w : World} {g : Nat} {L : List Value} (h : HoldL w g L) : HoldL w.drew g L := h
theorem HoldL.put {w : World} {g : Nat} {L : List Value} (h : HoldL w g L) (k : Nat) (v : Value) : HoldL (w.setCell ⟨g, k, none⟩ v) g (L.set k v) := by
  obtain ⟨t, ht⟩ := h
  refine ⟨t, ?_⟩
  rw [setCell_eq_setRow w g k _ t _ v ht, setRow_heap w g _ _ t _ ht]; simp
theorem HoldL.putOther {w : World} {g i k : Nat} {L : List Value} (h : HoldL w g L) (v : Value) (hi : g ≠ i) : HoldL (w.setCell ⟨i, k, none⟩ v) g L := by
  obtain ⟨t, ht⟩ := h
  exact ⟨t, by rw [Below.heap_setCell w ⟨i, k, none⟩ v g hi]; exact ht⟩

/-- A GUARD: the next operation stores at the address in slot d -/
theorem at_store (d : Tmp) {P : Program} {ops : Array Oper} {Q : Exit → Act → World → Prop} {t : TypeId} {y : Operand} {ty : TypeId} {pos : String} {after : Array Edge} {g : Option (Nat × Bool)} {rest : List Oper} {a : Act} {w : World}
    (h : wpList P ops Q (⟨none, .store t (.tmp d) y, ty, pos, after, g⟩ :: rest) a w) : wpList P ops Q (⟨none, .store t (.tmp d) y, ty, pos, after, g⟩ :: rest) a w := h

section
variable {P : Program} {w : World} {ops : Array Oper} {rest : List Oper} {o : Oper} {a : Act} {Q : Exit → Act → World → Prop}

theorem wpList_put_cell (hgd : o.guard = none) (ty : TypeId) (x y : Operand) (ho : o.op = .store ty x y) (hd : o.dst = none)
    (hs : (P.info? ty).map (·.size) = some 1)
    (g k : Nat) (n : Int) (hx : a.eval x = .pointer (some ⟨g, k, none⟩)) (hy : a.eval y = .int .i64 n) (L : List Value) (h : HoldL w g L) (hk : k < L.length) (B : Nat) (w0 : World) (hb : Below B w0 w) (hB : B ≤ g)
    (next : ∀ w', HoldL w' g (L.set k (.int .i64 n)) → Below B w0 w' → Others g w w' → wpList P ops Q rest a w') :
    wpList P ops Q (o :: rest) a w := by
  refine wpList_plain hgd fun K hK => ?_
  have hc : w.cell? ⟨g, k, none⟩ = some L[k] := by rw [h.cell]; simp
  have hf := h.frozen k
  have hrun : (storeVar ty ⟨g, k, none⟩ (.int .i64 n)).run P w = .ok () (w.setCell ⟨g, k, none⟩ (.int .i64 n)) := by
    cases hq : P.info? ty with
    | none => simp [hq] at hs
    | some i =>
      have hs' : i.size = 1 := by simpa [hq] using hs
      simp [go_sem, storeVar, sizeOf, typeInfo, hq, hs', hc, hf, storeCells]
  unfold Oper.wp execOp
  simp only [ho, hx, hy, Instr.storeAt, Instr.sureAddr, Sem.run_bind, Sem.run_pure, Result.andThen_ok, hrun, Oper.upon_skip]
  refine hK _ _ ?_
  rw [hd]
  obtain ⟨t, ht⟩ := h
  have e := setCell_eq_setRow w g k _ t _ (.int .i64 n) ht
  refine next _ ⟨t, ?_⟩ (hb.setCell hB _) ⟨by simp, fun q hq => ?_⟩
  · rw [e, setRow_heap w g _ _ t _ ht]; simp
  · rw [e, setRow_other w g q _ hq]

theorem wpList_put_row (hgd : o.guard = none) (ty : TypeId) (x y : Operand) (ho : o.op = .store ty x y) (hd : o.dst = none)
    (g : Nat) (L old : List Value) (hx : a.eval x = .pointer (some ⟨g, 0, none⟩)) (hy : a.eval y = .agg L.toArray) (h : HoldL w g old)
    (hi : (P.info? ty).map (·.size) = some L.length) (hold : old.length = L.length) (h1 : L.all (·.oneCell') = true) (B : Nat) (w0 : World) (hb : Below B w0 w) (hB : B ≤ g)
    (next : ∀ w', HoldL w' g L → Below B w0 w' → Others g w w' → wpList P ops Q rest a w') :
    wpList P ops Q (o :: rest) a w := by
  obtain ⟨t, ht⟩ := h
  refine wpList_store_rowTo hgd ty x y ho hd g L.toArray hx hy t old.toArray ht (by simpa using hi) (by simpa using hold) (by simpa using h1) ?_
  have hoth : Others g w (w.setRow g L.toArray) := ⟨by simp, fun q hq => setRow_other w g q _ hq⟩
  exact next _ ⟨t, setRow_heap w g _ _ t _ ht⟩ ⟨hb.os, hb.tape, hb.output, by simpa using hb.size, fun k hk => (hoth.2 k (by omega)).trans (hb.block k hk)⟩ hoth

theorem wpList_get_row (hgd : o.guard = none) (ty : TypeId) (x : Operand) (ho : o.op = .load ty x) (g : Nat) (L : List Value) (hx : a.eval x = .pointer (some ⟨g, 0, none⟩)) (h : HoldL w g L) (d : TypeDesc)
    (hu : P.underlying ty = some d) (hd : (match d with | .struct _ | .array _ _ => true | _ => false) = true) (hi : (P.info? ty).map (·.size) = some L.length)
    (next : wpList P ops Q rest (a.put o.dst (.agg L.toArray)) w) : wpList P ops Q (o :: rest) a w := by
  obtain ⟨t, ht⟩ := h
  exact wpList_load_row hgd ty x ho g hx t _ _ d ht hu hd (by simpa using hi) next

theorem wpList_box_row (hgd : o.guard = none) (t : TypeId) (x : Operand) (ho : o.op = .box t x) (dst : Option Tmp) (hdst : o.dst = dst) (L : List Value) (hx : a.eval x = .agg L.toArray) (B : Nat) (w0 : World) (hb : Below B w0 w) (hB : B ≤ w.heap.size)
    (next : ∀ w', HoldL w' w.heap.size L → Below B w0 w' → w.heap.size < w'.heap.size → (∀ k, k < w.heap.size → w'.heap[k]? = w.heap[k]?) → wpList P ops Q rest (a.put dst (.pointer (some ⟨w.heap.size, 0, none⟩))) w') :
    wpList P ops Q (o :: rest) a w := by
  refine Go.Great.wpList_boxTo hgd t x ho dst hdst w.heap.size rfl L.toArray (by rw [hx]; rfl) ?_
  exact next _ ⟨t, heap_alloc_new w _⟩ (hb.alloc hB _) (by simp) (fun k hk => Below.heap_alloc w _ k hk)

theorem wpList_new_row (hgd : o.guard = none) (dst : Option Tmp) (hdst : o.dst = dst) (L : List Value) (t : TypeId)
    (hrun : (execOp a.eval o).run P w = .ok (.value (.pointer (some ⟨w.heap.size, 0, none⟩))) (w.alloc (.cells L.toArray t))) (B : Nat) (w0 : World) (hb : Below B w0 w) (hB : B ≤ w.heap.size)
    (next : ∀ w', HoldL w' w.heap.size L → Below B w0 w' → w.heap.size < w'.heap.size → (∀ k, k < w.heap.size → w'.heap[k]? = w.heap[k]?) → wpList P ops Q rest (a.put dst (.pointer (some ⟨w.heap.size, 0, none⟩))) w') :
    wpList P ops Q (o :: rest) a w :=
  Go.Great.wpList_allocTo hgd dst hdst _ _ hrun (next _ ⟨t, heap_alloc_new w _⟩ (hb.alloc hB _) (by simp) (fun k hk => Below.heap_alloc w _ k hk))

/-- what a function's named result that lies in memory is, at its end -/
theorem results_hold {fn : Func} {p : Tmp} {ty : TypeId} (h : fn.results = #[.cell p ty]) (tmps : Array Value) (g : Nat) (L : List Value) (d : TypeDesc)
    (hp : tmps.getD p undef = .pointer (some ⟨g, 0, none⟩)) (hl : HoldL w g L)
    (hu : P.underlying ty = some d) (hd : (match d with | .struct _ | .array _ _ => true | _ => false) = true) (hi : (P.info? ty).map (·.size) = some L.length) :
    (results fn tmps).run P w = .ok (.agg L.toArray) w := by
  obtain ⟨t, ht⟩ := hl
  exact results_cell_row h tmps w g t _ _ d hp ht hu hd (by simpa using hi)
theorem results_hold2 {fn : Func} {p q : Tmp} {ty : TypeId} (h : fn.results = #[.cell p ty, .tmp q]) (tmps : Array Value) (g : Nat) (L : List Value) (v : Value) (d : TypeDesc)
    (hp : tmps.getD p undef = .pointer (some ⟨g, 0, none⟩)) (hq : tmps.getD q undef = v) (hl : HoldL w g L)
    (hu : P.underlying ty = some d) (hd : (match d with | .struct _ | .array _ _ => true | _ => false) = true) (hi : (P.info? ty).map (·.size) = some L.length) :
    (results fn tmps).run P w = .ok (.tuple #[.agg L.toArray, v]) w := by
  obtain ⟨t, ht⟩ := hl
  have hp' : tmps[p]?.getD undef = .pointer (some ⟨g, 0, none⟩) := by simpa using hp
  have hq' : tmps[q]?.getD undef = v := by simpa using hq
  simp [results, h, hp', hq', asAddr, run_loadVar_row w g t ty _ _ d ht hu hd (by simpa using hi)]
end
end Go.Proofs.Ytejnpppejalhfaa
