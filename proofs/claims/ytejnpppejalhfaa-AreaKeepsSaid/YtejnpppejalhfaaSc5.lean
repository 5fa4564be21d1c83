/- THE STEP CALCULUS, part 5: operations on memory; what slices hold; calls; results. -/
import Derived.Test.YtejnpppejalhfaaSc4
import Derived.Deep.MidRow
namespace Go.Proofs.Ytejnpppejalhfaa
open Go.RowKit Go.Sort

/-! what is only read -/
structure RoAt (F : Nat → Prop) (w0 : World) (b off sz : Nat) (rows : List (List Value)) : Prop where
  lt : b < w0.heap.size
  nf : ¬ F b
  len : ∀ r ∈ rows, r.length = sz
  one : ∀ r ∈ rows, r.all (·.oneCell') = true
  cells : ∀ k r, rows[k]? = some r → ∀ j u, r[j]? = some u → w0.cell? ⟨b, off + k * sz + j, none⟩ = some u
def Sl (F : Nat → Prop) (w0 : World) (sz : Nat) (v : Value) (rows : List (List Value)) : Prop :=
  (∃ p c, v = .slice p 0 c ∧ rows = []) ∨ ∃ b off cap, v = .slice (some ⟨b, off, none⟩) rows.length cap ∧ rows.length ≤ cap ∧ cap ≤ maxLen ∧ RoAt F w0 b off sz rows

section
variable {F : Nat → Prop} {w0 w w' : World} {Γ Δ : List Asr} {A A' : Asr} {b off sz : Nat} {rows : List (List Value)}
theorem St.baseC (h : St F w0 w Γ) {p : Addr} {v : Value} (hp : w0.cell? p = some v) (hn : ¬ F p.block) : w.cell? p = some v := by
  rw [World.cell?_of_block (h.base p.block (World.block_lt_of_cell? w0 p hp) hn)]; exact hp
theorem St.roC (h : St F w0 w Γ) (hr : RoAt F w0 b off sz rows) {k j : Nat} {r : List Value} {u : Value} (hk : rows[k]? = some r) (hj : r[j]? = some u) : w.cell? ⟨b, off + k * sz + j, none⟩ = some u :=
  h.baseC (hr.cells k r hk j u hj) hr.nf
theorem RoAt.now (hr : RoAt F w0 b off sz rows) (h : St F w0 w Γ) : RoAt nF w b off sz rows :=
  ⟨Nat.lt_of_lt_of_le hr.lt h.size, id, hr.len, hr.one, fun _ _ hk _ _ hj => h.roC hr hk hj⟩
theorem Sl.now {v : Value} (hr : Sl F w0 sz v rows) (h : St F w0 w Γ) : Sl nF w sz v rows := by
  rcases hr with hr | ⟨b, off, cap, h1, h2, h3, h4⟩
  · exact Or.inl hr
  · exact Or.inr ⟨b, off, cap, h1, h2, h3, h4.now h⟩
/-- for a callee that turns the things Θ -/
theorem RoAt.nowM {Θ : List Asr} (hr : RoAt F w0 b off sz rows) (h : St F w0 w (Θ ++ Γ)) : RoAt (fps Θ) w b off sz rows :=
  ⟨Nat.lt_of_lt_of_le hr.lt h.size, fun ⟨A, hA, e⟩ => by
    rcases h.own A (List.mem_append_left _ hA) b e with h1 | h1
    · have := hr.lt; omega
    · exact hr.nf h1, hr.len, hr.one, fun _ _ hk _ _ hj => h.roC hr hk hj⟩
theorem Sl.nowM {Θ : List Asr} {v : Value} (hr : Sl F w0 sz v rows) (h : St F w0 w (Θ ++ Γ)) : Sl (fps Θ) w sz v rows := by
  rcases hr with hr | ⟨b, off, cap, h1, h2, h3, h4⟩
  · exact Or.inl hr
  · exact Or.inr ⟨b, off, cap, h1, h2, h3, h4.nowM h⟩
theorem St.rowRo (h : St F w0 w Γ) (i : Nat) {e n cap g : Nat} (hi : Γ[i]? = some (.row e sz (.slice (some ⟨g, 0, none⟩) n cap) rows)) : RoAt nF w g 0 sz rows :=
  ⟨Asr.lt (h.at_ hi) rfl, id, (h.at_ hi).2.1, (h.at_ hi).2.2, fun k r hk j u hj => by rw [Nat.zero_add]; exact h.rowC i hi hk hj⟩
theorem St.rowSl (h : St F w0 w Γ) (i : Nat) {e : Nat} {v : Value} (hi : Γ[i]? = some (.row e sz v rows)) : Sl nF w sz v rows := by
  obtain ⟨ho, hs, _⟩ := h.at_ hi
  rcases ho.2 with ⟨rfl, h0⟩ | ⟨g, cap, cur, rfl, _, _, h1, h2, _⟩
  · exact Or.inl ⟨_, _, rfl, List.eq_nil_of_length_eq_zero h0⟩
  · exact Or.inr ⟨g, 0, cap, rfl, h1, h2, h.rowRo i hi⟩
/-- what a row's slice is -/
theorem St.rowForm (h : St F w0 w Γ) (i : Nat) {e : Nat} {v : Value} (hi : Γ[i]? = some (.row e sz v rows)) : (v = .slice none 0 0 ∧ rows = []) ∨ ∃ g cap, v = .slice (some ⟨g, 0, none⟩) rows.length cap ∧ rows.length ≤ cap ∧ cap ≤ maxLen := by
  obtain ⟨ho, hs, _⟩ := h.at_ hi
  rcases ho.2 with ⟨rfl, h0⟩ | ⟨g, cap, cur, rfl, _, _, h1, h2, _⟩
  · exact Or.inl ⟨rfl, List.eq_nil_of_length_eq_zero h0⟩
  · exact Or.inr ⟨g, cap, rfl, h1, h2⟩
theorem St.rowSlice (h : St F w0 w Γ) (i : Nat) {e : Nat} {v : Value} (hi : Γ[i]? = some (.row e sz v rows)) : ∃ p cap, v = .slice p rows.length cap := by
  rcases h.rowForm i hi with ⟨rfl, rfl⟩ | ⟨g, cap, rfl, _⟩
  · exact ⟨_, _, rfl⟩
  · exact ⟨_, _, rfl⟩
theorem Sl.form {v : Value} (h : Sl F w0 sz v rows) : ∃ p cap, v = .slice p rows.length cap := by
  rcases h with ⟨p, c, rfl, rfl⟩ | ⟨b, off, cap, rfl, _⟩
  · exact ⟨_, _, rfl⟩
  · exact ⟨_, _, rfl⟩
end

/-- the variable at p holds v -/
def Loads (P : Program) (t : TypeId) (p : Addr) (v : Value) (w : World) : Prop := (loadVar t p).run P w = .ok v w
section
variable {P : Program} {T : Tab} {w : World} {t : TypeId}
theorem isAgg_und {d : TypeDesc} (h : P.underlying t = some d) : (isAgg t).run P w = .ok (isAggD d) w := isAgg_run ⟨d, h, rfl⟩ w
theorem Loads.sc (hT : TabOk P T) {d : TypeDesc} {s : Nat} {z v : Value} {p : Addr} (ht : T.get t = some (.sc d s z)) (hc : w.cell? p = some v) : Loads P t p v w := by
  obtain ⟨i, hu, ha, _⟩ := hT.sc ht
  have := isAgg_und (P := P) (w := w) hu
  rw [ha] at this
  simp [Loads, loadVar, this, load, Sem.run, hc, Result.andThen]
theorem Loads.sl (hT : TabOk P T) {el e b : Nat} {g : Bool} {z : List Value} {v : Value} {p : Addr} (ht : T.get t = some (.sl el e b g z)) (hc : w.cell? p = some v) : Loads P t p v w := by
  obtain ⟨j, zv, hu, _⟩ := hT.sl ht
  have := isAgg_und (P := P) (w := w) hu
  simp [Loads, loadVar, this, isAggD, load, Sem.run, hc, Result.andThen]
theorem Loads.st (hT : TabOk P T) {s g k : Nat} {fs : List (Nat × Nat × Bool)} {z L : List Value} (ht : T.get t = some (.st s fs z)) (hc : w.rangeAt g k L) (hl : L.length = s) : Loads P t ⟨g, k, none⟩ (.agg L.toArray) w := by
  obtain ⟨fields, i, hu, _, hi, hsz, _⟩ := hT.st ht
  exact run_loadVar_mid w g k t L _ hc hu rfl (by rw [hi]; simp [hsz, hl])
theorem Loads.ar (hT : TabOk P T) {s n e g k : Nat} {ag : Bool} {z L : List Value} (ht : T.get t = some (.ar s n e ag z)) (hc : w.rangeAt g k L) (hl : L.length = s) : Loads P t ⟨g, k, none⟩ (.agg L.toArray) w := by
  obtain ⟨el, i, j, hu, hi, _, hsz, _⟩ := hT.ar ht
  exact run_loadVar_mid w g k t L _ hc hu rfl (by rw [hi]; simp [hsz, hl])
end
section
variable {F : Nat → Prop} {w0 w w' : World} {Γ Δ : List Asr} {A A' : Asr} {b off sz : Nat} {rows : List (List Value)}
theorem St.blkR (h : St F w0 w Γ) (i : Nat) {g : Nat} {L : List Value} (hi : Γ[i]? = some (.blk g L)) : w.rangeAt g 0 L := fun j v hj => by
  rw [Nat.zero_add]; exact h.blkC i hi hj
theorem St.blkRk (h : St F w0 w Γ) (i k m : Nat) {g : Nat} {L : List Value} (hi : Γ[i]? = some (.blk g L)) : w.rangeAt g k ((L.drop k).take m) := fun j v hj => by
  refine h.blkC i hi ?_
  rw [List.getElem?_take] at hj
  split at hj
  · rw [List.getElem?_drop] at hj; exact hj
  · cases hj
theorem St.rowR (h : St F w0 w Γ) (i : Nat) {e g n cap k : Nat} {r : List Value} (hi : Γ[i]? = some (.row e sz (.slice (some ⟨g, 0, none⟩) n cap) rows)) (hk : rows[k]? = some r) : w.rangeAt g (0 + k * sz) r := fun j v hj => by
  rw [Nat.zero_add]; exact h.rowC i hi hk hj
theorem St.roR (h : St F w0 w Γ) (hr : RoAt F w0 b off sz rows) {k : Nat} {r : List Value} (hk : rows[k]? = some r) : w.rangeAt b (off + k * sz) r := fun _ _ hj => h.roC hr hk hj
theorem St.rowC0 (h : St F w0 w Γ) (i : Nat) {e g n cap k : Nat} {r : List Value} {u : Value} (hi : Γ[i]? = some (.row e sz (.slice (some ⟨g, 0, none⟩) n cap) rows)) (hk : rows[k]? = some r) (hj : r[0]? = some u) : w.cell? ⟨g, 0 + k * sz, none⟩ = some u := h.rowR i hi hk 0 u hj
theorem St.rowCj (h : St F w0 w Γ) (i : Nat) {e g n cap k j : Nat} {r : List Value} {u : Value} (hi : Γ[i]? = some (.row e sz (.slice (some ⟨g, 0, none⟩) n cap) rows)) (hk : rows[k]? = some r) (hj : r[j]? = some u) : w.cell? ⟨g, 0 + k * sz + j, none⟩ = some u := h.rowR i hi hk j u hj
theorem St.roC0 (h : St F w0 w Γ) (hr : RoAt F w0 b off sz rows) {k : Nat} {r : List Value} {u : Value} (hk : rows[k]? = some r) (hj : r[0]? = some u) : w.cell? ⟨b, off + k * sz, none⟩ = some u := h.roC hr hk hj
end

section
variable {P : Program} {n : Nat} {ds : List Deferred} {E : Fr} {w : World} {dst : Option Nat} {ty : TypeId} {pos : String} {after : Array Edge}
theorem g_load {t : TypeId} {x : Operand} {p : Addr} {v : Value} (hx : E.ev x = some (.pointer (some p))) (h : Loads P t p v w) : Gets P ⟨dst, .load t x, ty, pos, after, none⟩ n ds E w (fun v' w' => v' = v ∧ w' = w) := by
  intro a ha K Q k
  unfold Loads at h
  simp only [Oper.wp, execOp, ha.ev hx, Instr.loadAt, Instr.sureAddr, Sem.run_bind, Sem.run_pure, Result.andThen_ok, h, Oper.upon_value]
  exact k _ _ ⟨rfl, rfl⟩
variable {F : Nat → Prop} {w0 : World} {Γ : List Asr}
/-- 'x := v', x in memory -/
theorem g_box (hS : St F w0 w Γ) {t : TypeId} {x : Operand} {v : Value} (hx : E.ev x = some v) : Gets P ⟨dst, .box t x, ty, pos, after, none⟩ n ds E w (fun v' w' => ∃ g, v' = .pointer (some ⟨g, 0, none⟩) ∧ St F w0 w' (.blk g v.cells.toList :: Γ)) := by
  intro a ha K Q k
  have e : (execOp a.eval ⟨dst, .box t x, ty, pos, after, none⟩).run P w = .ok (.value (.pointer (some ⟨w.heap.size, 0, none⟩))) (w.alloc (.cells v.cells t)) := by
    simp only [execOp, ha.ev hx]; rfl
  unfold Oper.wp
  rw [e]
  exact k _ _ ⟨_, rfl, hS.new (World.grownBy_alloc w _ none) ⟨t, by rw [heap_alloc_new w _]⟩ (by simp [Asr.fp])⟩
/-- 'var x T' -/
theorem g_alloc (hS : St F w0 w Γ) {t : TypeId} {i : TypeInfo} {z : Value} (hi : P.info? t = some i) (hz : i.zero = some z) : Gets P ⟨dst, .alloc t, ty, pos, after, none⟩ n ds E w (fun v' w' => ∃ g, v' = .pointer (some ⟨g, 0, none⟩) ∧ St F w0 w' (.blk g z.cells.toList :: Γ)) := by
  intro a ha K Q k
  have e : (execOp a.eval ⟨dst, .alloc t, ty, pos, after, none⟩).run P w = .ok (.value (.pointer (some ⟨w.heap.size, 0, none⟩))) (w.alloc (.cells z.cells t)) := by
    simp [execOp, Instr.alloc, zeroValue, typeInfo, hi, hz, newVar, newRow, newObj, Sem.run, Result.andThen]
  unfold Oper.wp
  rw [e]
  exact k _ _ ⟨_, rfl, hS.new (World.grownBy_alloc w _ none) ⟨t, by rw [heap_alloc_new w _]⟩ (by simp [Asr.fp])⟩
def TI.zeroCells : TI → List Value
  | .sc _ _ z => z.cells.toList
  | .st _ _ z => z
  | .ar _ _ _ _ z => z
  | .sl _ _ _ _ _ => [.slice none 0 0]
def TI.size : TI → Nat
  | .sc _ s _ => s
  | .st s _ _ => s
  | .ar s _ _ _ _ => s
  | .sl _ _ _ _ _ => 1
theorem g_allocT (hS : St F w0 w Γ) {T : Tab} (hT : TabOk P T) {t : TypeId} {i : TI} (ht : T.get t = some i) {L : List Value} (hL : some i.zeroCells = some L) : Gets P ⟨dst, .alloc t, ty, pos, after, none⟩ n ds E w (fun v' w' => ∃ g, v' = .pointer (some ⟨g, 0, none⟩) ∧ St F w0 w' (.blk g L :: Γ)) := by
  cases i with
  | sc d s z =>
    obtain ⟨i, _, _, hi, _, hz, _⟩ := hT.sc ht
    simp only [TI.zeroCells, Option.some.injEq] at hL; subst hL
    exact g_alloc hS hi hz
  | st s fs z =>
    obtain ⟨_, i, _, _, hi, _, hz, _⟩ := hT.st ht
    simp only [TI.zeroCells, Option.some.injEq] at hL; subst hL
    have := g_alloc (dst := dst) (ty := ty) (pos := pos) (after := after) (n := n) (ds := ds) (E := E) hS hi hz
    simpa [Value.cells] using this
  | ar s m e g z =>
    obtain ⟨_, i, _, _, hi, _, _, hz, _⟩ := hT.ar ht
    simp only [TI.zeroCells, Option.some.injEq] at hL; subst hL
    have := g_alloc (dst := dst) (ty := ty) (pos := pos) (after := after) (n := n) (ds := ds) (E := E) hS hi hz
    simpa [Value.cells] using this
  | sl e z b g ez =>
    obtain ⟨_, _, _, _, ⟨i, hi, _, hz⟩, _⟩ := hT.sl ht
    simp only [TI.zeroCells, Option.some.injEq] at hL; subst hL
    exact g_alloc hS hi hz

/-! stores -/
def setL (L : List Value) (k : Nat) : List Value → List Value
  | [] => L
  | v :: r => setL (L.set k v) (k + 1) r
theorem setL_len (L : List Value) (k : Nat) (r : List Value) : (setL L k r).length = L.length := by
  induction r generalizing L k with
  | nil => rfl
  | cons v r ih => simp [setL, ih]
theorem setCells_hold {w : World} {g : Nat} {L : List Value} (h : HoldL w g L) (k : Nat) (vs : List Value) : HoldL (w.setCells g k vs) g (setL L k vs) := by
  induction vs generalizing w L k with
  | nil => exact h
  | cons v r ih => exact ih (h.put k v) (k + 1)
theorem grownBy_setCells (w : World) (g k : Nat) (vs : List Value) : w.grownBy (w.setCells g k vs) (some g) := by
  induction vs generalizing w k with
  | nil => exact ⟨rfl, rfl, rfl, Nat.le_refl _, fun _ _ _ => rfl⟩
  | cons v r ih =>
    have h1 : w.grownBy (w.setCell ⟨g, k, none⟩ v) (some g) := ⟨rfl, rfl, rfl, by simp, fun j _ hj => Below.heap_setCell w ⟨g, k, none⟩ v j (fun e => hj (by simp at e; rw [e]))⟩
    have h2 := ih (w.setCell ⟨g, k, none⟩ v) (k + 1)
    exact ⟨h2.os.trans h1.os, h2.tape.trans h1.tape, h2.output.trans h1.output, Nat.le_trans h1.size h2.size, fun j hj hne => (h2.block j (Nat.lt_of_lt_of_le hj h1.size) hne).trans (h1.block j hj hne)⟩
theorem storeVar_run {t : TypeId} {g k : Nat} {v : Value} {w : World} (hsz : (P.info? t).map (·.size) = some v.cells.size) (ht : w.there g k v.cells.size) (h1 : ∀ u ∈ v.cells.toList, u.oneCell' = true) : (storeVar t ⟨g, k, none⟩ v).run P w = .ok () (w.setCells g k v.cells.toList) := by
  have := run_storeVar_mid (P := P) w g k t v.cells ht hsz (by rw [Array.all_eq_true_iff_forall_mem]; intro u hu; exact h1 u (by simpa using hu))
  unfold storeVar at this ⊢
  exact this
theorem g_store (hS : St F w0 w Γ) {T : Tab} (hT : TabOk P T) {t : TypeId} {ti : TI} {x y : Operand} {g k i : Nat} {v : Value} {L : List Value} (ht : T.get t = some ti) (hx : E.ev x = some (.pointer (some ⟨g, k, none⟩))) (hy : E.ev y = some v) (hi : Γ[i]? = some (.blk g L))
    (hsz : v.cells.toList.length = ti.size) (hk : k + ti.size ≤ L.length) (h1 : ∀ u ∈ v.cells.toList, u.oneCell' = true) :
    Gets P ⟨dst, .store t x y, ty, pos, after, none⟩ n ds E w (fun _ w' => St F w0 w' (Γ.set i (.blk g (setL L k v.cells.toList)))) := by
  intro a ha K Q kk
  have hh : HoldL w g L := hS.at_ hi
  have hinfo : (P.info? t).map (·.size) = some ti.size := by
    cases ti with
    | sc d s z => obtain ⟨i, _, _, h, h2, _⟩ := hT.sc ht; have := (hT.at_ ht).2; simp only [TI.okB, Bool.and_eq_true] at this; rw [h]; simp [h2, TI.size, Nat.eq_of_beq_eq_true this.1]
    | st s fs z => obtain ⟨_, i, _, _, h, h2, _⟩ := hT.st ht; rw [h]; simp [h2, TI.size]
    | ar s m e g z => obtain ⟨_, i, _, _, h, _, h2, _⟩ := hT.ar ht; rw [h]; simp [h2, TI.size]
    | sl e z b g ez => obtain ⟨_, _, _, _, ⟨i, h, h2, _⟩, _⟩ := hT.sl ht; rw [h]; simp [h2, TI.size]
  have hthere : w.there g k v.cells.size := fun j hj => by
    have hj' : j < v.cells.toList.length := by simpa using hj
    have : k + j < L.length := by omega
    exact ⟨by rw [hh.cell]; simp [this], hh.frozen _⟩
  have e : (execOp a.eval ⟨dst, .store t x y, ty, pos, after, none⟩).run P w = .ok .skip (w.setCells g k v.cells.toList) := by
    simp only [execOp, ha.ev hx, ha.ev hy, Instr.storeAt, Instr.sureAddr, Sem.run_bind, Sem.run_pure, Result.andThen_ok]
    rw [storeVar_run (by rw [hinfo]; simp [← hsz]) hthere h1]
    rfl
  unfold Oper.wp
  rw [e]
  exact kk undef _ (hS.upd hi (grownBy_setCells w g k _) (setCells_hold hh k _) (fun q hq => Or.inl hq))
end
end Go.Proofs.Ytejnpppejalhfaa
