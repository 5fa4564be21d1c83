/- THE STEP CALCULUS, part 6: literals, rows, append, calls, results. -/
import Derived.Test.YtejnpppejalhfaaSc5
import Derived.Laws.MakeOwn
import Derived.Great.BuildSlice
namespace Go.Proofs.Ytejnpppejalhfaa
open Go.RowKit Go.Sort

/-! lists into which is written -/
theorem setL_nil (L : List Value) (k : Nat) : setL L k [] = L := rfl
theorem setL_app (A L : List Value) (k : Nat) (c : List Value) : setL (A ++ L) (A.length + k) c = A ++ setL L k c := by
  induction c generalizing L k with
  | nil => rfl
  | cons v r ih =>
    simp only [setL]
    rw [List.set_append_right _ _ (by omega), show A.length + k - A.length = k from by omega, Nat.add_assoc]
    exact ih _ _
theorem setL_front (L B : List Value) (k : Nat) (c : List Value) (h : k + c.length ≤ L.length) : setL (L ++ B) k c = setL L k c ++ B := by
  induction c generalizing L k with
  | nil => rfl
  | cons v r ih =>
    simp only [setL, List.length_cons] at h ⊢
    rw [List.set_append_left _ _ (by omega)]
    exact ih _ _ (by simp; omega)
theorem setL_all (L c : List Value) (h : L.length = c.length) : setL L 0 c = c := by
  have : ∀ (c L A : List Value), L.length = c.length → setL (A ++ L) A.length c = A ++ c := by
    intro c
    induction c with
    | nil => intro L A h; simp [setL, List.eq_nil_of_length_eq_zero h]
    | cons v r ih =>
      intro L A h
      cases L with
      | nil => simp at h
      | cons x L =>
        simp only [setL]
        rw [List.set_append_right _ _ (by omega)]
        simp only [Nat.sub_self, List.set_cons_zero]
        have := ih L (A ++ [v]) (by simpa using h)
        simpa using this
  simpa using this c L [] h
theorem setL_row {rows : List (List Value)} {size : Nat} (hs : ∀ r ∈ rows, r.length = size) {kk j : Nat} {r c : List Value} (hk : rows[kk]? = some r) (hj : j + c.length ≤ size) (B : List Value) : setL (rows.flatten ++ B) (kk * size + j) c = (rows.set kk (setL r j c)).flatten ++ B := by
  have hkl := lt_of_getE hk
  have hr : r.length = size := hs r (List.mem_of_getElem? hk)
  have e1 : rows = rows.take kk ++ r :: rows.drop (kk + 1) := by
    have : rows[kk] = r := by rw [List.getElem?_eq_getElem hkl] at hk; exact Option.some.inj hk
    rw [← this]; simp
  have e2 : rows.set kk (setL r j c) = rows.take kk ++ setL r j c :: rows.drop (kk + 1) := by rw [List.set_eq_take_append_cons_drop, if_pos hkl]
  have hl : (rows.take kk).flatten.length = kk * size := by
    rw [rows_len (fun r hr => hs r (List.mem_of_mem_take hr)), List.length_take]
    congr 1; omega
  rw [e2]
  conv => lhs; rw [e1]
  simp only [List.flatten_append, List.flatten_cons, List.append_assoc]
  rw [← hl, setL_app, setL_front _ _ _ _ (by omega)]
def fillL (pl : Nat → Option (Nat × Nat)) (L : List Value) : List (Nat × Value) → Option (List Value)
  | [] => some L
  | (i, v) :: r => match pl i with
    | some (o, s) => bif Nat.beq v.cells.toList.length s && Nat.ble (o + s) L.length then fillL pl (setL L o v.cells.toList) r else none
    | none => none
theorem foldl_set (c : List Value) (A : Array Value) (o : Nat) : ∀ k, ((c.zipIdx k).foldl (fun cs (x : Value × Nat) => cs.setIfInBounds (o + x.2) x.1) A).toList = setL A.toList (o + k) c := by
  induction c generalizing A with
  | nil => intro k; rfl
  | cons v r ih =>
    intro k
    simp only [List.zipIdx_cons, List.foldl_cons, setL]
    rw [ih]
    simp [Nat.add_assoc]
theorem fill_run {pl : Nat → Option (Nat × Nat)} : ∀ {parts : List (Nat × Value)} {L L' : List Value}, fillL pl L parts = some L' → Instr.fill pl L.toArray parts = some L'.toArray := by
  intro parts
  induction parts with
  | nil => intro L L' h; simp only [fillL, Option.some.injEq] at h; subst h; rfl
  | cons x r ih =>
    obtain ⟨i, v⟩ := x
    intro L L' h
    simp only [fillL] at h
    split at h
    · rename_i o s hi
      by_cases hc : (Nat.beq v.cells.toList.length s && Nat.ble (o + s) L.length) = true
      · rw [hc] at h
        simp only [Bool.and_eq_true] at hc
        have h1 := Nat.eq_of_beq_eq_true hc.1
        have h2 := Nat.le_of_ble_eq_true hc.2
        have hv : v.cells.size = s := by simpa using h1
        have e : (v.cells.zipIdx.foldl (fun (cs : Array Value) (x : Value × Nat) => cs.setIfInBounds (o + x.2) x.1) L.toArray) = (setL L o v.cells.toList).toArray := by
          apply Array.ext'
          have := foldl_set v.cells.toList L.toArray o 0
          simp only [Nat.add_zero] at this
          rw [← Array.foldl_toList, Array.toList_zipIdx]
          exact this
        have := ih (L := setL L o v.cells.toList) (L' := L') h
        simp only [Instr.fill, hi, hv]
        rw [if_neg (by simp; omega)]
        exact e ▸ this
      · rw [Bool.not_eq_true] at hc
        rw [hc] at h
        cases h
    · cases h
def evP (E : Fr) : List (Nat × Operand) → Option (List (Nat × Value))
  | [] => some []
  | (i, x) :: r => match E.ev x, evP E r with
    | some v, some l => some ((i, v) :: l)
    | _, _ => none
theorem Has.evP {n : Nat} {ds : List Deferred} {a : Act} {E : Fr} (h : Has n ds a E) : ∀ {xs : List (Nat × Operand)} {vs : List (Nat × Value)}, evP E xs = some vs → xs.map (fun p => (p.1, a.eval p.2)) = vs := by
  intro xs
  induction xs with
  | nil => intro vs hx; simp [Proofs.Ytejnpppejalhfaa.evP] at hx; simp [hx]
  | cons x r ih =>
    obtain ⟨i, x⟩ := x
    intro vs hx
    simp only [Proofs.Ytejnpppejalhfaa.evP] at hx
    split at hx
    · rename_i v us h1 h2
      cases hx
      rw [List.map_cons, ih h2, h.ev h1]
    · cases hx

section
variable {P : Program} {n : Nat} {ds : List Deferred} {E : Fr} {w : World} {dst : Option Nat} {ty : TypeId} {pos : String} {after : Array Edge}
/-- 'T{..}' -/
theorem r_build {T : Tab} (hT : TabOk P T) {t s : Nat} {fs : List (Nat × Nat × Bool)} {z L : List Value} {parts : Array (Nat × Operand)} {ps : List (Nat × Value)} (ht : T.get t = some (.st s fs z)) (hp : evP E parts.toList = some ps) (hL : fillL (fun i => (fs[i]?).map fun f => (f.1, f.2.1)) z ps = some L) :
    ∀ a, Has n ds a E → Runs P ⟨dst, .build t parts, ty, pos, after, none⟩ a (.agg L.toArray) := fun a ha w => by
  obtain ⟨fields, i, hu, hfs, hi, _, hz, _, _⟩ := hT.st ht
  have hpl : ∀ (l : List Field) (fs : List (Nat × Nat × Bool)), mkFs P l = some fs → ((l.mapM fun f => (do pure (f.offset, ← sizeOf f.type) : Sem (Nat × Nat))).run P w) = .ok (fs.map fun f => (f.1, f.2.1)) w := by
    intro l
    induction l with
    | nil => intro fs h; simp only [mkFs, Option.some.injEq] at h; subst h; rfl
    | cons f r ih =>
      intro fs h
      simp only [mkFs] at h
      split at h
      · rename_i j d l' hj hd hl
        cases h
        have e := ih l' hl
        rw [List.mapM_cons]
        simp only [Sem.run_bind, Sem.run_pure, Result.andThen_ok, sizeOf, typeInfo, run_program, hj, List.map_cons]
        have e2 : (List.mapM (fun f => (do pure (f.offset, ← sizeOf f.type) : Sem (Nat × Nat))) r).run P w = .ok (l'.map fun f => (f.1, f.2.1)) w := e
        unfold sizeOf typeInfo at e2
        rw [e2]
        rfl
      · cases h
  have hpl' := hpl fields.toList fs hfs
  have harr : ((fields.mapM fun f => (do pure (f.offset, ← sizeOf f.type) : Sem (Nat × Nat))).run P w) = .ok (fs.map fun f => (f.1, f.2.1)).toArray w := by
    rw [Array.mapM_eq_mapM_toList]
    rw [← bind_pure_comp, Sem.run_bind, hpl']
    rfl
  have e1 : (parts.map fun p => (p.1, a.eval p.2)) = ps.toArray := by rw [← ha.evP hp, ← Array.toList_map, Array.toArray_toList]
  have hf := fill_run hL
  have hpe : (fun (i : Nat) => (fs[i]?).map fun (f : Nat × Nat × Bool) => (f.1, f.2.1)) = (fun (i : Nat) => ((fs.map fun (f : Nat × Nat × Bool) => (f.1, f.2.1)).toArray)[i]?) := by funext i; simp
  rw [hpe] at hf
  have e2 : (parts.map fun (x : Nat × Operand) => match x with | (i, x) => (i, a.eval x)) = ps.toArray := e1
  simp only [execOp, e2, Instr.build, zeroValue, typeInfo, Sem.run_bind, run_program, Result.andThen_ok, hi, hz, Sem.run_pure, underlying, hu, harr, hf, Value.cells]
end
end Go.Proofs.Ytejnpppejalhfaa
