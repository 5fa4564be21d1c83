/- A REGION THAT DRAWS ITS ORDER: operations that read, and calls that lay blocks, in whatever order; behind them a tail in one forced order, which may write. The class of worlds is mine to choose (Derived.Deep.Quiet), the forced tail is as in Derived.StillTail. -/
import Derived.StillTail
import Derived.Lib.QuietBelow
import Derived.BigQuiet
namespace Go.Proofs.Ytejnpppejalhfaa
open Go.RowKit Go.Sort

section
variable {P : Program} {ops : Array Oper} {md : Region.Mode} {C : World → Prop}

/-- so many operations of the head are still to come, in any order; then L -/
def HeadQ (P : Program) (md : Region.Mode) (ops : Array Oper) (C : World → Prop) (n : Nat) (L : Array Bool → Act → Prop) : Nat → Array Bool → Act → Prop
  | 0 => L
  | more + 1 => fun seen a => Region.ready md ops seen ≠ [] ∧ ∀ i ∈ Region.ready md ops seen, i < n ∧ qOp P ops C i (HeadQ P md ops C n L more (seen.setIfInBounds i true)) a

/-- what may not touch the operation i, of all that is still to come -/
def FreeOf (md : Region.Mode) (ops : Array Oper) (seen : Array Bool) (i : Nat) (oi : Oper) : Prop :=
  ∀ j oj, ops[j]? = some oj → j ≠ i → seen.getD j true = false → (∀ e ∈ oj.after, Region.binds md e = true → e.on ≠ i) → oi.apart ops oj = true

theorem FreeOf.more {seen : Array Bool} {i j : Nat} {oi : Oper} (h : FreeOf md ops seen i oi) (hj : seen.getD j true = false) : FreeOf md ops (seen.setIfInBounds j true) i oi :=
  fun k ok hk hne hun hno => h k ok hk hne (by
    by_cases e : j = k
    · exact e ▸ hj
    · rwa [getD_set_ne true e] at hun) hno

theorem wpAny_of_HeadQ {n g : Nat} {L : Array Bool → Act → Prop} {Q' : Exit → Act → World → Prop} (tail : ∀ seen a w, C w → L seen a → wpAny P md ops Q' g seen a w) (more : Nat) :
    ∀ seen a w, C w → HeadQ P md ops C n L more seen a → wpAny P md ops Q' (more + g) seen a w := by
  induction more with
  | zero => intro seen a w hw h; exact (Nat.zero_add g).symm ▸ tail seen a w hw h
  | succ more ih =>
    intro seen a w hw h
    rw [Nat.succ_add]
    exact ⟨fun none => (h.1 none).elim, fun i hi => wpOp_of_qOp hw (fun a' w' hw' k => ih _ a' w' hw' k) (h.2 i hi).2⟩

theorem HeadQ_first {n i : Nat} {oi : Oper} {v : Value} {L : Array Bool → Act → Prop} (hi : ops[i]? = some oi) (hsel : ∀ (j : Nat) (o : Oper) cs b, ops[j]? = some o → o.op ≠ .select cs b)
    (hs : Region.sinkB md ops n = true) (hc : Region.chainB md ops n = true) (hn : n < ops.size) (hin : i < n) (done : ∀ seen a, L seen a → ∀ j ∈ Region.ready md ops seen, n ≤ j) (more : Nat) :
    ∀ (seen : Array Bool) (a : Act), HeadInv md ops n seen → FreeOf md ops seen i oi → i ∈ Region.ready md ops seen → YieldsIn P ops C oi v a →
      HeadQ P md ops C n L more (seen.setIfInBounds i true) (a.put oi.dst v) → HeadQ P md ops C n L (more + 1) seen a := by
  induction more with
  | zero =>
    intro seen a inv free hr hy H
    have low : ∀ j ∈ Region.ready md ops seen, j < n := fun j hj => Nat.lt_of_not_le fun hle => tail_waits hs hc hn inv _ i rfl hin (mem_ready.1 hr).1 j hle hj
    refine ⟨List.ne_nil_of_mem hr, fun j hj => ⟨low j hj, ?_⟩⟩
    by_cases e : j = i
    · cases e; exact hy.qOp hi H
    · exact absurd (done _ _ H j (ready_mono hj e)) (Nat.not_le.2 (low j hj))
  | succ more ih =>
    intro seen a inv free hr hy H
    have low : ∀ j ∈ Region.ready md ops seen, j < n := fun j hj => Nat.lt_of_not_le fun hle => tail_waits hs hc hn inv _ i rfl hin (mem_ready.1 hr).1 j hle hj
    refine ⟨List.ne_nil_of_mem hr, fun j hj => ⟨low j hj, ?_⟩⟩
    by_cases e : j = i
    · cases e; exact hy.qOp hi H
    · obtain ⟨un, oj, hoj, deps⟩ := mem_ready.1 hj
      have off : ∀ d ∈ oj.after, Region.binds md d = true → d.on ≠ i := fun d hd hb hon => by
        have := deps d hd hb
        rw [hon, getD_both (mem_ready.1 hr).1] at this
        exact Bool.noConfusion this
      have swapped := qOp_put hoj (free j oj hoj e un off) (fun cs b => hsel i oi cs b hi) (fun cs b => hsel j oj cs b hoj) hy (H.2 j (ready_mono hj e)).2
      exact qOp_mono (fun a' q => ih _ a' (inv.set hj (low j hj)) (free.more un) (ready_mono hr (fun x => e x.symm)) q.1 (by have := q.2; rwa [Array.setIfInBounds_comm _ _ (fun x => e x.symm)] at this)) swapped

theorem HeadQ_lex {n g : Nat} {R : Act → Prop} (hsel : Region.noSelect ops = true) (hs : Region.sinkB md ops n = true) (hc : Region.chainB md ops n = true) (hn : n < ops.size) (l : List Oper) :
    ∀ (k : Nat) (seen : Array Bool) (a : Act), (∀ j, j < l.length → l[j]? = ops[k + j]?) → k + l.length = n → HeadInv md ops n seen → Region.lexHead md ops g l.length k seen = true → wpQuiet P ops C R l a →
      HeadQ P md ops C n (fun seen' a' => Region.seqB md ops g n seen' = true ∧ R a') l.length seen a := by
  induction l with
  | nil =>
    intro k seen a _ hk _ hB h
    obtain rfl : k = n := hk
    exact ⟨hB, h⟩
  | cons o l ih =>
    intro k seen a hl hk inv hB h
    have at0 : ops[k]? = some o := ((hl 0 (Nat.zero_lt_succ _)).symm.trans rfl)
    rw [List.length_cons] at hk hB
    simp only [Region.lexHead, Bool.and_eq_true] at hB
    have hr : k ∈ Region.ready md ops seen := List.contains_iff_mem.1 hB.1.1
    have hq : qOp P ops C k (wpQuiet P ops C R l) a := by unfold qOp; simp only [at0]; exact h
    obtain ⟨v, hy, hK⟩ := yieldsIn_of_qOp at0 hq
    refine HeadQ_first at0 (Region.noSelect_spec hsel) hs hc hn (by omega) (fun _ _ q => seqB_ready q.1) l.length seen a inv (Region.free_spec at0 hB.1.2) hr hy ?_
    refine ih (k + 1) _ _ (fun j hj => ?_) (by omega) (inv.set hr (by omega)) hB.2 hK
    have := hl (j + 1) (Nat.succ_lt_succ hj)
    rwa [List.getElem?_cons_succ, show k + (j + 1) = k + 1 + j from by omega] at this

theorem wp_region_quiet_tail {id : Nat} {Q : Exit → Act → World → Prop} {a : Act} {w : World} {l : List Oper} (n : Nat) (hm : P.follows .mixedOrders = true) (hB : Region.lexTailB .any l.toArray n = true)
    (hw : C { w with drawn := w.drawn + 1 }) (h : wpQuiet P l.toArray C (fun a' => ∀ w', C w' → wpList P l.toArray Q (l.drop n) a' w') (l.take n) a) : (Code.region id l.toArray true).wp P Q a w := by
  unfold Region.lexTailB at hB
  simp only [Bool.and_eq_true, decide_eq_true_eq] at hB
  have hn : n < l.length := by have := hB.1.1.1.2; rwa [List.size_toArray] at this
  have len : (l.take n).length = n := by rw [List.length_take]; omega
  have start : HeadInv .any l.toArray n (Array.replicate l.toArray.size false) :=
    { size := Array.size_replicate
      closed := fun j oj _ hl => by rw [getD_replicate_false] at hl; exact Bool.noConfusion hl
      tail := fun t _ ht => getD_in (by rwa [Array.size_replicate]) (getD_replicate_false _ _) }
  have H := HeadQ_lex (C := C) (g := l.toArray.size - n) hB.1.1.1.1 hB.1.1.2 hB.1.2 hB.1.1.1.2 (l.take n) 0 _ a (fun j hj => by
    rw [len] at hj
    rw [List.getElem?_take_of_lt hj]; simp) (by rw [len, Nat.zero_add]) start (by rw [len]; exact hB.2) h
  rw [len] at H
  refine wp_region_any hm ?_
  have last := wpAny_of_HeadQ (Q' := Q) (g := l.toArray.size - n) (fun seen a' w' hw' q => by
    have e : (l.drop n).length = l.toArray.size - n := by rw [List.length_drop, List.size_toArray]
    have := wpAny_of_seq (md := .any) (Q' := Q) (l.drop n) n seen a' w' (fun j => by rw [List.getElem?_drop]; simp) (by rw [e]; exact q.1) (q.2 w' hw')
    rwa [e] at this) n _ a _ hw H
  rwa [show n + (l.toArray.size - n) = l.toArray.size from by rw [List.size_toArray]; omega] at last

/-- at the worlds that lie above w -/
theorem wp_region_grown_tail {id : Nat} {Q : Exit → Act → World → Prop} {a : Act} {w : World} {l : List Oper} (n : Nat) (hm : P.follows .mixedOrders = true) (hB : Region.lexTailB .any l.toArray n = true)
    (h : wpQuiet P l.toArray (fun w' => ∃ p : Regrown, w' = grow (redrawn w p.d) p.os) (fun a' => ∀ w', (∃ p : Regrown, w' = grow (redrawn w p.d) p.os) → wpList P l.toArray Q (l.drop n) a' w') (l.take n) a) : (Code.region id l.toArray true).wp P Q a w :=
  wp_region_quiet_tail (C := fun w' => ∃ p : Regrown, w' = grow (redrawn w p.d) p.os) n hm hB ⟨⟨w.drawn + 1, #[]⟩, by rw [grow_empty]; rfl⟩ h
end

theorem of_regrown {w w' : World} {d : Nat} {os : Array Obj} (h : w' = grow (redrawn w d) os) : Below w.heap.size w w' := h ▸ below_regrown w d os
/-- a place below, in the forms in which the walk asks for it -/
theorem ltAll {g n : Nat} (h : g < n) : g < n ∧ g ≤ n ∧ ∀ k, g < n + k := ⟨h, Nat.le_of_lt h, fun _ => Nat.lt_of_lt_of_le h (Nat.le_add_right _ _)⟩
/-- what the walk takes of a Below: cells, marks, numbers of blocks -/
theorem bcell3 {W w1 : World} (hb : Below W.heap.size W w1) :
    (∀ p : Addr, p.block < W.heap.size → w1.cell? p = W.cell? p) ∧ (∀ p : Addr, p.block < W.heap.size → w1.frozen? p = W.frozen? p) ∧ (∀ k : Nat, k < W.heap.size → k < w1.heap.size ∧ k ≤ w1.heap.size ∧ ∀ n, k < w1.heap.size + n) :=
  ⟨fun _ h => hb.cell h, fun _ h => hb.frozen h, fun _ h => ltAll (Nat.lt_of_lt_of_le h hb.size)⟩
@[go_sem] theorem cell_grow (W : World) (d : Nat) (os : Array Obj) (p : Addr) (h : p.block < W.heap.size) : (grow (redrawn W d) os).cell? p = W.cell? p := (below_regrown W d os).cell h
@[go_sem] theorem frozen_grow (W : World) (d : Nat) (os : Array Obj) (p : Addr) (h : p.block < W.heap.size) : (grow (redrawn W d) os).frozen? p = W.frozen? p := (below_regrown W d os).frozen h
end Go.Proofs.Ytejnpppejalhfaa
