/- The contracts of the reference's mark and boardOf. -/
import Derived.Test.YtejnpppejalhfaaAr4
namespace Go.Proofs.Ytejnpppejalhfaa
open Go.RowKit Go.Sort

set_option maxRecDepth 100000 in
theorem mark_any (prot : Int) (z : Bool) (h : 0 ≤ prot ∧ prot ≤ 3) (w : World) : Calls Try.prog 75 #[.int .i64 prot, .bool z] w fun e w' => e = .returned (.int .i64 (1 + 2 * prot + (if z then 8 else 0))) ∧ w = w' := by
  obtain ⟨h1, h2⟩ := h
  cases z
  · go_enter Try.func75, Try.ntmps75
    go_wp2
    go_ret
    exact ⟨ret_int (by simp), rfl⟩
  · go_enter Try.func75, Try.ntmps75
    go_wp2
    go_ret
    exact ⟨ret_int (by simp), rfl⟩

/-- a board's cells -/
def bdC (b : Int → Int) : List Value := (List.range 256).map fun p : Nat => Value.int .i64 (b p)
theorem bdC_len (b : Int → Int) : (bdC b).length = 256 := by simp [bdC]
theorem bdC_at (b : Int → Int) (p : Nat) (h : p < 256) : (bdC b)[p]? = some (.int .i64 (b p)) := by simp [bdC, h]
theorem bdC_set (b : Int → Int) (p : Nat) (n : Int) : (bdC b).set p (.int .i64 n) = bdC (fun x => if x = p then n else b x) := by
  apply List.ext_getElem?
  intro i
  by_cases hi : i < 256
  · rw [bdC_at _ _ hi]
    by_cases e : p = i
    · subst e
      rw [List.getElem?_set_self (by rw [bdC_len]; exact hi)]; simp
    · rw [List.getElem?_set_ne e, bdC_at _ _ hi]
      rw [if_neg (by omega)]
  · rw [List.getElem?_eq_none (by rw [List.length_set, bdC_len]; omega), List.getElem?_eq_none (by rw [bdC_len]; omega)]
theorem bdC_ext {b b' : Int → Int} (h : ∀ p : Int, 0 ≤ p → p ≤ 255 → b p = b' p) : bdC b = bdC b' := by
  unfold bdC
  apply List.map_congr_left
  intro p hp
  rw [List.mem_range] at hp
  rw [h p (by omega) (by omega)]
theorem bdC_one (b : Int → Int) : (bdC b).all (·.oneCell') = true := by simp [bdC, Value.oneCell']

theorem paint_snoc {o : List Ar} {a : Ar} {e : Int} (h : RiseF e (o ++ [a])) (p : Int) : paint (o ++ [a]) p = if a.pg ≤ p ∧ p < a.fin then a.mk' else paint o p := by
  rw [paint_add h]
  simp only [paint]
  split
  · rename_i hc
    have h2 := riseF_append.1 h
    rw [paint_above h2.1 (by have := h2.2.2.1; omega)]; omega
  · omega
theorem take_snoc {L : List Ar} {i : Nat} {a : Ar} (ha : L[i]? = some a) : L.take (i + 1) = L.take i ++ [a] := by
  obtain ⟨hi, rfl⟩ := List.getElem?_eq_some_iff.1 ha
  rw [List.take_succ_eq_append_getElem hi]
theorem rise_take {L : List Ar} {e : Int} (h : RiseF e L) (i : Nat) : RiseF e (L.take i) := by
  rw [← List.take_append_drop i L] at h
  exact (riseF_append.1 h).1
theorem rise_snoc {o : List Ar} {a : Ar} {e : Int} : RiseF e (o ++ [a]) ↔ RiseF e o ∧ a.ok ∧ endOf e o ≤ a.pg := by
  rw [riseF_append]
  exact ⟨fun ⟨h1, h2, h3, _⟩ => ⟨h1, h2, h3⟩, fun ⟨h1, h2, h3⟩ => ⟨h1, h2, h3, trivial⟩⟩

/-- the board while an area is laid, up to the page q -/
def laying (o : List Ar) (a : Ar) (q : Int) (x : Int) : Int := if a.pg ≤ x ∧ x < q then a.mk' else paint o x
theorem laying_start (o : List Ar) (a : Ar) : bdC (laying o a a.pg) = bdC (paint o) := bdC_ext fun p _ _ => by unfold laying; rw [if_neg (by omega)]
theorem laying_step (o : List Ar) (a : Ar) (q : Nat) (h : a.pg ≤ q) : (bdC (laying o a q)).set q (.int .i64 a.mk') = bdC (laying o a ((q : Int) + 1)) := by
  rw [bdC_set]
  refine bdC_ext fun p _ _ => ?_
  unfold laying
  by_cases e : p = q
  · rw [if_pos e, if_pos (by omega)]
  · rw [if_neg e]
    by_cases c : a.pg ≤ p ∧ p < q
    · rw [if_pos c, if_pos (by omega)]
    · rw [if_neg c, if_neg (by omega)]
theorem laying_end {o : List Ar} {a : Ar} {e : Int} (h : RiseF e (o ++ [a])) : bdC (laying o a a.fin) = bdC (paint (o ++ [a])) := bdC_ext fun p _ _ => by
  rw [paint_snoc h]; rfl

instance riseDec : (e : Int) → (l : List Ar) → Decidable (RiseF e l)
  | _, [] => isTrue trivial
  | e, a :: l => by
    unfold RiseF
    have := riseDec a.fin l
    infer_instance
def BoardPost (L : List Ar) (w : World) (e : Ending) (w' : World) : Prop :=
  ∃ b : Int → Int, e = .returned (.tuple #[.agg (bdC b).toArray, .bool (decide (RiseF 1 L))]) ∧ Below w.heap.size w w' ∧ (RiseF 1 L → bdC b = bdC (paint L))
end Go.Proofs.Ytejnpppejalhfaa
