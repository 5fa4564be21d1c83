/- THE STEP CALCULUS, part 8: stores into rows; calls; the way in and the way out; regions that draw their order. -/
import Derived.Test.YtejnpppejalhfaaSc7
import Derived.Test.YtejnpppejalhfaaRegion
namespace Go.Proofs.Ytejnpppejalhfaa
open Go.RowKit Go.Sort

theorem setCells_heap {w : World} {g : Nat} {cur : Array Value} {t : TypeId} (h : w.heap[g]? = some (.cells cur t (0, 0))) (k : Nat) (vs : List Value) : (w.setCells g k vs).heap[g]? = some (.cells (setL cur.toList k vs).toArray t (0, 0)) := by
  induction vs generalizing w cur k with
  | nil => exact (by simpa [setL] using h : w.heap[g]? = some (.cells (setL cur.toList k []).toArray t (0, 0)))
  | cons v r ih =>
    have e := setCell_eq_setRow w g k cur t (0, 0) v h
    have h2 : (w.setCell ⟨g, k, none⟩ v).heap[g]? = some (.cells (cur.setIfInBounds k v) t (0, 0)) := by rw [e]; exact setRow_heap w g _ _ t _ h
    have := ih h2 (k + 1)
    exact (by simpa [setL] using this : ((w.setCell ⟨g, k, none⟩ v).setCells g (k + 1) r).heap[g]? = some (.cells (setL cur.toList k (v :: r)).toArray t (0, 0)))
section
variable {P : Program} {n : Nat} {ds : List Deferred} {E : Fr} {w : World} {dst : Option Nat} {ty : TypeId} {pos : String} {after : Array Edge} {F : Nat → Prop} {w0 : World} {Γ : List Asr} {T : Tab}
theorem info_size (hT : TabOk P T) {t : TypeId} {ti : TI} (ht : T.get t = some ti) : (P.info? t).map (·.size) = some ti.size := by
  cases ti with
  | sc d s z => obtain ⟨i, _, _, h, h2, _⟩ := hT.sc ht; have := (hT.at_ ht).2; simp only [TI.okB, Bool.and_eq_true] at this; rw [h]; simp [h2, TI.size, Nat.eq_of_beq_eq_true this.1]
  | st s fs z => obtain ⟨_, i, _, _, h, h2, _⟩ := hT.st ht; rw [h]; simp [h2, TI.size]
  | ar s m e g z => obtain ⟨_, i, _, _, h, _, h2, _⟩ := hT.ar ht; rw [h]; simp [h2, TI.size]
  | sl e z b g ez => obtain ⟨_, _, _, _, ⟨i, h, h2, _⟩, _⟩ := hT.sl ht; rw [h]; simp [h2, TI.size]
/-- 'v[kk].f = y', v a row of one's own -/
theorem g_storeR (hS : St F w0 w Γ) (hT : TabOk P T) {t : TypeId} {ti : TI} {x y : Operand} {g kk j o i e sz m cap : Nat} {v : Value} {rows : List (List Value)} {r c : List Value} (ht : T.get t = some ti) (hx : E.ev x = some (.pointer (some ⟨g, o, none⟩))) (hy : E.ev y = some v) (hi : Γ[i]? = some (.row e sz (.slice (some ⟨g, 0, none⟩) m cap) rows))
    (ho : o = 0 + kk * sz + j) (hr : rows[kk]? = some r) (hc : v.cells.toList = c) (hsz : c.length = ti.size) (hk : j + ti.size ≤ sz) (h1 : c.all (·.oneCell') = true) :
    Gets P ⟨dst, .store t x y, ty, pos, after, none⟩ n ds E w (fun _ w' => St F w0 w' (Γ.set i (.row e sz (.slice (some ⟨g, 0, none⟩) m cap) (rows.set kk (setL r j c))))) := by
  intro a ha K Q k
  obtain ⟨hown, hlen, hone⟩ := hS.at_ hi
  rcases hown.2 with ⟨hv, _⟩ | ⟨g', cap', cur, hv, _, hg, hmc, hcm, hcs, htake⟩
  · cases hv
  cases hv
  have hrl : r.length = sz := hlen r (List.mem_of_getElem? hr)
  have hkl := lt_of_getE hr
  have hHL : HoldL w g cur.toList := ⟨e, hg⟩
  have hspan : kk * sz + sz ≤ rows.length * sz := by rw [← Nat.succ_mul]; exact Nat.mul_le_mul_right _ hkl
  have hcl : rows.length * sz ≤ cur.size := by rw [hcs]; exact Nat.mul_le_mul_right _ hmc
  have hcells : v.cells.toList.length = c.length := by rw [hc]
  have hthere : w.there g o v.cells.size := fun q hq => by
    have hq' : q < c.length := by rw [← hcells]; simpa using hq
    have : o + q < cur.toList.length := by simp; omega
    exact ⟨by rw [hHL.cell]; simp only [Option.isSome_iff_exists]; exact ⟨_, List.getElem?_eq_getElem this⟩, hHL.frozen _⟩
  have hx' : (execOp a.eval ⟨dst, .store t x y, ty, pos, after, none⟩).run P w = .ok .skip (w.setCells g o c) := by
    simp only [execOp, ha.ev hx, ha.ev hy, Instr.storeAt, Instr.sureAddr, Sem.run_bind, Sem.run_pure, Result.andThen_ok]
    rw [storeVar_run (by rw [info_size hT ht, ← hsz, ← hcells]; simp) hthere (by rw [hc]; exact fun u hu => List.all_eq_true.1 h1 u hu), hc]
    rfl
  unfold Oper.wp
  rw [hx']
  have hA : (Asr.row e sz (.slice (some ⟨g, 0, none⟩) rows.length cap) (rows.set kk (setL r j c))).holds (w.setCells g o c) := by
    have hl2 : ∀ r' ∈ rows.set kk (setL r j c), r'.length = sz := fun r' hr' => by
      rcases List.mem_or_eq_of_mem_set hr' with h | h
      · exact hlen r' h
      · rw [h, setL_len, hrl]
    refine ⟨⟨by rw [rows_len hl2], .inr ⟨g, cap, _, by simp, Nat.zero_le _, setCells_heap hg o c, by simpa using hmc, hcm, by simp [setL_len, hcs], ?_⟩⟩, hl2, fun r' hr' => ?_⟩
    · have hsplit : cur.toList = rows.flatten ++ cur.toList.drop (rows.length * sz) := by rw [← htake]; simp
      have := setL_row hlen hr (c := c) (j := j) (by omega) (cur.toList.drop (rows.length * sz))
      rw [← hsplit] at this
      rw [List.toList_toArray, ho, Nat.zero_add, this]
      rw [show (rows.set kk (setL r j c)).length * sz = (rows.set kk (setL r j c)).flatten.length from (rows_len hl2).symm]
      exact List.take_left
    · rcases List.mem_or_eq_of_mem_set hr' with h | h
      · exact hone r' h
      · rw [h]
        have hr1 := hone r (List.mem_of_getElem? hr)
        have : ∀ (c : List Value) (L : List Value) (q : Nat), L.all (·.oneCell') = true → c.all (·.oneCell') = true → (setL L q c).all (·.oneCell') = true := by
          intro c
          induction c with
          | nil => intro L q h _; exact h
          | cons x c ih =>
            intro L q h h2
            simp only [List.all_cons, Bool.and_eq_true] at h2
            refine ih _ _ ?_ h2.2
            rw [List.all_eq_true]
            intro y hy
            rcases List.mem_or_eq_of_mem_set hy with h3 | h3
            · exact List.all_eq_true.1 h y h3
            · rw [h3]; exact h2.1
        exact this c r j hr1 h1
  exact k undef _ (hS.upd hi (grownBy_setCells w g o c) hA (fun q hq => Or.inl hq))

/-! calls -/
structure CallOk (P : Program) (f : FuncId) (fn : Func) : Prop where
  at_ : P.funcs[f]? = some fn
  name : (fn.name == "runtime.NumGoroutine") = false
  body : fn.body.isNone = false
/-- the call returns; of what it hands back, and of the memory behind it: Φ -/
structure Fn (P : Program) (f : FuncId) (args : List Value) (w : World) (Φ : Value → World → Prop) : Prop where
  ok : ∃ fn, CallOk P f fn
  calls : Calls P f args.toArray w (fun e w' => ∃ v, e = .returned v ∧ Φ v w')
theorem Fn.mono {f : FuncId} {args : List Value} {Φ Ψ : Value → World → Prop} (h : Fn P f args w Φ) (hi : ∀ v w', Φ v w' → Ψ v w') : Fn P f args w Ψ := ⟨h.ok, h.calls.mono fun _ _ ⟨v, he, hv⟩ => ⟨v, he, hi v _ hv⟩⟩
theorem callFunc_run {f : FuncId} {fn : Func} (h : CallOk P f fn) (args : Array Value) (w : World) : (callFunc f args).run P w = .ok (.enter f args) w := by
  have hb := h.body
  unfold callFunc
  simp only [Sem.run_bind, run_program, Result.andThen_ok, h.at_]
  rw [if_neg (by rw [h.name]; simp), if_neg (by rw [hb]; simp)]
  rfl
theorem g_call {f : FuncId} {x : Operand} {args : Array Operand} {ats : Array TypeId} {vs : List Value} {first caps : List Value} {Φ : Value → World → Prop} (hx : E.ev x = some (.func (.func f) first.toArray caps.toArray)) (hv : E.evs args.toList = some vs) (h : Fn P f (first ++ vs ++ caps) w Φ) :
    Gets P ⟨dst, .call { callee := .value x, args := args, argTypes := ats }, ty, pos, after, none⟩ n ds E w Φ := by
  intro a ha K Q k
  obtain ⟨⟨fn, hok⟩, hc⟩ := h
  have e1 : args.map a.eval = vs.toArray := by rw [← ha.evs hv, ← Array.toList_map, Array.toArray_toList]
  have hrun : (execOp a.eval ⟨dst, .call { callee := .value x, args := args, argTypes := ats }, ty, pos, after, none⟩).run P w = .ok (.enter f (first ++ vs ++ caps).toArray) w := by
    simp only [execOp, resolve, ha.ev hx, Deferred.ofValue, Sem.run_bind, Sem.run_pure, Result.andThen_ok, invoke, e1]
    rw [callFunc_run hok]
    simp
  unfold Oper.wp
  rw [hrun]
  exact hc.mono fun e w' ⟨v, he, hΦ⟩ => by subst he; exact k v w' hΦ
/-- a call whose answer does not hang on the world, and that only lays blocks -/
def RBf (v : Value) (w : World) : Value → World → Prop := fun v' w' => v' = v ∧ St nF w w' []
theorem Fn.of_rb {f : FuncId} {fn : Func} {args : List Value} {v : Value} (hok : CallOk P f fn) (h : Calls P f args.toArray w (RB v w)) : Fn P f args w (RBf v w) := ⟨⟨fn, hok⟩, h.mono fun _ _ ⟨he, hb⟩ => ⟨v, he, rfl, St.of_below hb⟩⟩
theorem Fn.of_same {f : FuncId} {fn : Func} {args : List Value} {v : Value} (hok : CallOk P f fn) (h : Calls P f args.toArray w (fun e w' => e = .returned v ∧ w = w')) : Fn P f args w (fun v' w' => v' = v ∧ w' = w) := ⟨⟨fn, hok⟩, h.mono fun _ _ ⟨he, hb⟩ => ⟨v, he, rfl, hb.symm⟩⟩
theorem Fn.rb {f : FuncId} {args : List Value} {v : Value} (h : Fn P f args w (RBf v w)) : Calls P f args.toArray w (RB v w) := h.calls.mono fun _ _ ⟨_, he, hv, hs⟩ => ⟨by rw [he, hv], hs.below⟩

/-! the way in -/
def argFr : Nat → List Value → Fr
  | _, [] => []
  | k, v :: r => (k, v) :: argFr (k + 1) r
theorem argFr_get : ∀ {args : List Value} {k t : Nat} {v : Value}, Fr.get (argFr k args) t = some v → k ≤ t ∧ args[t - k]? = some v := by
  intro args
  induction args with
  | nil => intro k t v h; cases h
  | cons x r ih =>
    intro k t v h
    simp only [argFr, Fr.get] at h
    by_cases e : k = t
    · subst e; simp at h; subst h; simp
    · rw [beqF e] at h
      obtain ⟨h1, h2⟩ := ih (by simpa using h)
      exact ⟨by omega, by rw [show t - k = (t - (k + 1)) + 1 from by omega]; simpa using h2⟩
theorem fn_enter {f : FuncId} {fn : Func} {c : Code} {args : List Value} {Φ : Value → World → Prop} {m : Nat} (hok : CallOk P f fn) (hb : fn.body = some c) (hm : fn.ntmps = m) (hl : Nat.ble args.length m = true)
    (h : WC P c (bodyPost P fn (fun e w' => ∃ v, e = .returned v ∧ Φ v w')) m [] (argFr 0 args) w) : Fn P f args w Φ := by
  refine ⟨⟨fn, hok⟩, calls_of_wp hok.at_ hb (h _ ⟨?_, rfl, fun t v ht => ?_⟩)⟩
  · have := Nat.le_of_ble_eq_true hl
    simp; omega
  · obtain ⟨_, h2⟩ := argFr_get ht
    have hlt := lt_of_getE h2
    rw [Nat.sub_zero] at h2 hlt
    rw [Array.getD_eq_getD_getElem?, Array.getElem?_append_left (by simpa using hlt)]
    simp [h2]
/-! the way out -/
inductive ResL (P : Program) (E : Fr) (w : World) : List ResultVar → List Value → Prop where
  | nil : ResL P E w [] []
  | tmp {t : Nat} {v : Value} {r : List ResultVar} {vs : List Value} (h : E.get t = some v) (k : ResL P E w r vs) : ResL P E w (.tmp t :: r) (v :: vs)
  | cell {t : Nat} {ty : TypeId} {a : Addr} {v : Value} {r : List ResultVar} {vs : List Value} (h : E.get t = some (.pointer (some a))) (hl : Loads P ty a v w) (k : ResL P E w r vs) : ResL P E w (.cell t ty :: r) (v :: vs)
theorem ResL.run {rs : List ResultVar} {vs : List Value} (h : ResL P E w rs vs) {a : Act} (ha : Has n ds a E) : (rs.mapM fun (x : ResultVar) => (match x with
    | .tmp t => (pure (a.tmps.getD t undef) : Sem Value)
    | .cell p t => do loadVar t (← asAddr (a.tmps.getD p undef)))).run P w = .ok vs w := by
  induction h with
  | nil => rfl
  | tmp h _ ih =>
    rw [List.mapM_cons]
    simp only [Sem.run_bind, Sem.run_pure, Result.andThen_ok, ih, ha.at_ _ _ h]
  | cell h hl _ ih =>
    unfold Loads at hl
    rw [List.mapM_cons]
    simp only [Sem.run_bind, Sem.run_pure, ha.at_ _ _ h]
    rename_i p _ _ _ _
    rw [show (asAddr (.pointer (some p)) : Sem Addr) = pure p from rfl, Sem.run_pure, Result.andThen_ok, hl, Result.andThen_ok, ih]
    rfl
def packL : List Value → Value
  | [v] => v
  | vs => .tuple vs.toArray
theorem q_out {fn : Func} {Φ : Value → World → Prop} {rs : List ResultVar} {vs : List Value} {v : Value} (hrs : fn.results.toList = rs) (hr : ResL P E w rs vs) (hv : packL vs = v) (hΦ : Φ v w) {a : Act} (ha : Has n [] a E) : a.defers = [] ∧ ∃ v, (results fn a.tmps).run P w = .ok v w ∧ ∃ u, Ending.returned v = .returned u ∧ Φ u w := by
  refine ⟨ha.defers, v, ?_, v, rfl, hΦ⟩
  have h := hr.run ha
  rw [← hrs] at h
  unfold results
  rw [Array.mapM_eq_mapM_toList, Sem.run_bind]
  have h2 : (List.toArray <$> (fn.results.toList.mapM fun (x : ResultVar) => (match x with
    | .tmp t => (pure (a.tmps.getD t undef) : Sem Value)
    | .cell p t => do loadVar t (← asAddr (a.tmps.getD p undef))))).run P w = .ok vs.toArray w := by
    rw [← bind_pure_comp, Sem.run_bind, h]
    rfl
  refine (congrArg (fun r => Result.andThen r _) h2).trans ?_
  subst hv
  match vs with
  | [] => rfl
  | [x] => rfl
  | x :: y :: r => simp [packL]
theorem q_ret {fn : Func} {Φ : Value → World → Prop} {rs : List ResultVar} {vs : List Value} {v : Value} (hrs : fn.results.toList = rs) (hr : ResL P E w rs vs) (hv : packL vs = v) (hΦ : Φ v w) : WQ (bodyPost P fn (fun e w' => ∃ v, e = .returned v ∧ Φ v w')) .ret n [] E w := fun _ ha => q_out hrs hr hv hΦ ha
theorem q_end {fn : Func} {Φ : Value → World → Prop} {rs : List ResultVar} {vs : List Value} {v : Value} (hrs : fn.results.toList = rs) (hr : ResL P E w rs vs) (hv : packL vs = v) (hΦ : Φ v w) : WQ (bodyPost P fn (fun e w' => ∃ v, e = .returned v ∧ Φ v w')) .normal n [] E w := fun _ ha => q_out hrs hr hv hΦ ha
end

/-! regions that draw their order: quiet operations in whatever order, then a tail in one order -/
section
variable {P : Program} {n : Nat} {ds : List Deferred} {E : Fr} {w : World} {Q : Exit → Act → World → Prop} {ops : Array Oper} {rest : List Oper} {C : World → Prop} {d : Nat} {op : Op} {ty : TypeId} {pos : String} {after : Array Edge}
def WD (P : Program) (ops : Array Oper) (C : World → Prop) (K : Act → Prop) (l : List Oper) (n : Nat) (ds : List Deferred) (E : Fr) : Prop := ∀ a, Has n ds a E → wpQuiet P ops C K l a
theorem c_draw (F : Nat → Prop) (w0 : World) (Γ : List Asr) {id : Nat} {l : List Oper} (m : Nat) (hm : P.follows .mixedOrders = true) (hB : Region.lexTailB .any l.toArray m = true) (hS : St F w0 w Γ)
    (h : WD P l.toArray (fun w' => St F w0 w' Γ) (fun a' => ∀ w', St F w0 w' Γ → wpList P l.toArray Q (l.drop m) a' w') (l.take m) n ds E) : WC P (.region id l.toArray true) Q n ds E w := fun a ha =>
  wp_region_quiet_tail (C := fun w' => St F w0 w' Γ) m hm hB (hS.grow ⟨rfl, rfl, rfl, Nat.le_refl _, fun _ _ _ => rfl⟩) (h a ha)
theorem c_drawAll (F : Nat → Prop) (w0 : World) (Γ : List Asr) {id : Nat} {l : List Oper} (hm : P.follows .mixedOrders = true) (hB : Region.lexB .any l.toArray = true) (hS : St F w0 w Γ)
    (h : WD P l.toArray (fun w' => St F w0 w' Γ) (fun a' => ∀ w', St F w0 w' Γ → wpList P l.toArray Q [] a' w') l n ds E) : WC P (.region id l.toArray true) Q n ds E w := fun a ha =>
  wp_region_quiet (C := fun w' => St F w0 w' Γ) hm hB (hS.grow ⟨rfl, rfl, rfl, Nat.le_refl _, fun _ _ _ => rfl⟩) (show wpQuiet P l.toArray _ (fun a' => ∀ w', St F w0 w' Γ → wpList P l.toArray Q [] a' w') l a from h a ha)
theorem d_nil {S : World → Prop} {l : List Oper} (h : ∀ w', S w' → WL P ops Q l n ds E w') : WD P ops C (fun a' => ∀ w', S w' → wpList P ops Q l a' w') [] n ds E := fun a ha w' hw => h w' hw a ha
theorem wq_plain {K : Act → Prop} {o : Oper} {a : Act} {v : Value} (hg : o.guard = none) (h : ∀ w, C w → o.quietAt P a C w v) (k : wpQuiet P ops C K rest (a.put o.dst v)) : wpQuiet P ops C K (o :: rest) a := by
  unfold wpQuiet
  rw [if_pos (by simp [Region.wanted, hg])]
  exact ⟨v, h, k⟩
theorem d_runs {K : Act → Prop} {v : Value} (h : ∀ a, Has n ds a E → Runs P ⟨some d, op, ty, pos, after, none⟩ a v) (hd : Nat.blt d n = true) (k : WD P ops C K rest n ds ((d, v) :: E)) : WD P ops C K (⟨some d, op, ty, pos, after, none⟩ :: rest) n ds E := fun a ha =>
  wq_plain rfl (fun w _ => by unfold Oper.quietAt; rw [h a ha w]; exact ⟨rfl, rfl⟩) (k _ (ha.put d v hd))
theorem d_pure {K : Act → Prop} {T : Tab} (hT : TabOk P T) {v : Value} (h : pureOp T E op = some v) (hd : Nat.blt d n = true) (k : WD P ops C K rest n ds ((d, v) :: E)) : WD P ops C K (⟨some d, op, ty, pos, after, none⟩ :: rest) n ds E :=
  d_runs (fun _ ha => pureOp_runs hT ha h) hd k
theorem d_load {K : Act → Prop} {t : TypeId} {x : Operand} {p : Addr} {v : Value} (hx : E.ev x = some (.pointer (some p))) (h : ∀ w, C w → Loads P t p v w) (hd : Nat.blt d n = true) (k : WD P ops C K rest n ds ((d, v) :: E)) : WD P ops C K (⟨some d, .load t x, ty, pos, after, none⟩ :: rest) n ds E := fun a ha =>
  wq_plain (v := v) rfl (fun w hw => by
    have hl := h w hw
    unfold Loads at hl
    simp only [Oper.quietAt, execOp, ha.ev hx, Instr.loadAt, Instr.sureAddr, Sem.run_bind, Sem.run_pure, Result.andThen_ok, hl]
    exact ⟨rfl, rfl⟩) (k _ (ha.put d v hd))
theorem l_load {t : TypeId} {x : Operand} {p : Addr} {v : Value} (hx : E.ev x = some (.pointer (some p))) (h : Loads P t p v w) (hd : Nat.blt d n = true) (k : WL P ops Q rest n ds ((d, v) :: E) w) : WL P ops Q (⟨some d, .load t x, ty, pos, after, none⟩ :: rest) n ds E w :=
  l_gets hd (g_load hx h) (by rintro _ _ ⟨rfl, rfl⟩; exact k)
theorem d_call {F : Nat → Prop} {w0 : World} {Γ : List Asr} {K : Act → Prop} {f : FuncId} {x : Operand} {args : Array Operand} {ats : Array TypeId} {vs : List Value} {first caps : List Value} {v : Value} (hx : E.ev x = some (.func (.func f) first.toArray caps.toArray)) (hv : E.evs args.toList = some vs) (h : ∀ w, St F w0 w Γ → Fn P f (first ++ vs ++ caps) w (RBf v w)) (hd : Nat.blt d n = true)
    (k : WD P ops (fun w' => St F w0 w' Γ) K rest n ds ((d, v) :: E)) : WD P ops (fun w' => St F w0 w' Γ) K (⟨some d, .call { callee := .value x, args := args, argTypes := ats }, ty, pos, after, none⟩ :: rest) n ds E := fun a ha =>
  wq_plain (v := v) rfl (fun w hw => by
    obtain ⟨⟨fn, hok⟩, hc⟩ := h w hw
    have e1 : args.map a.eval = vs.toArray := by rw [← ha.evs hv, ← Array.toList_map, Array.toArray_toList]
    unfold Oper.quietAt
    simp only [execOp, resolve, ha.ev hx, Deferred.ofValue, Sem.run_bind, Sem.run_pure, Result.andThen_ok, invoke, e1]
    rw [callFunc_run hok]
    refine ⟨rfl, ?_⟩
    simp only [List.append_toArray]
    exact hc.mono fun e w' ⟨u, he, hu, hs⟩ => ⟨by rw [he, hu], hw.grow (grown_of_below hs.below)⟩) (k _ (ha.put d v hd))
theorem d_yes {K : Act → Prop} {j : Nat} {want b : Bool} {oj : Oper} {dj : Nat} {dst : Option Nat} (hj : ops[j]? = some oj) (hdj : oj.dst = some dj) (hlt : Nat.blt dj n = true) (hb : E.get dj = some (.bool b)) (he : b = want) (k : WD P ops C K (⟨dst, op, ty, pos, after, none⟩ :: rest) n ds E) :
    WD P ops C K (⟨dst, op, ty, pos, after, some (j, want)⟩ :: rest) n ds E := fun a ha => by
  have hw := wanted_of (o := ⟨dst, op, ty, pos, after, some (j, want)⟩) rfl hj hdj hb ha hlt
  have h := k a ha
  unfold wpQuiet at h ⊢
  rw [if_pos (show Region.wanted _ _ = true from rfl)] at h
  rw [if_pos (by rw [hw, he]; cases want <;> rfl)]
  exact h
theorem d_no {K : Act → Prop} {j : Nat} {want b : Bool} {oj : Oper} {dj : Nat} (hj : ops[j]? = some oj) (hdj : oj.dst = some dj) (hlt : Nat.blt dj n = true) (hb : E.get dj = some (.bool b)) (he : b = !want) (hd : Nat.blt d n = true) (k : WD P ops C K rest n ds ((d, undef) :: E)) :
    WD P ops C K (⟨some d, op, ty, pos, after, some (j, want)⟩ :: rest) n ds E := fun a ha => by
  have hw := wanted_of (o := ⟨some d, op, ty, pos, after, some (j, want)⟩) rfl hj hdj hb ha hlt
  unfold wpQuiet
  rw [if_neg (by rw [hw, he]; cases want <;> simp)]
  exact k _ (ha.put d undef hd)
theorem d_part {K : Act → Prop} {j : Nat} {want b : Bool} {oj : Oper} {dj : Nat} {dst : Option Nat} (_hj : ops[j]? = some oj) (_hdj : oj.dst = some dj) (_hb : E.get dj = some (.bool b)) (k1 : b = true → WD P ops C K (⟨dst, op, ty, pos, after, some (j, want)⟩ :: rest) n ds E) (k2 : b = false → WD P ops C K (⟨dst, op, ty, pos, after, some (j, want)⟩ :: rest) n ds E) :
    WD P ops C K (⟨dst, op, ty, pos, after, some (j, want)⟩ :: rest) n ds E := by cases b; exact k2 rfl; exact k1 rfl
theorem d_pick1 {K : Act → Prop} {c x y : Operand} {b : Bool} {v : Value} (hc : E.ev c = some (.bool b)) (hb : b = true) (hv : E.ev x = some v) (hd : Nat.blt d n = true) (k : WD P ops C K rest n ds ((d, v) :: E)) : WD P ops C K (⟨some d, .pick c x y, ty, pos, after, none⟩ :: rest) n ds E :=
  d_runs (fun a ha w => by simp [execOp, ha.ev hc, asBool, hb, ha.ev hv]) hd k
theorem d_pick2 {K : Act → Prop} {c x y : Operand} {b : Bool} {v : Value} (hc : E.ev c = some (.bool b)) (hb : b = false) (hv : E.ev y = some v) (hd : Nat.blt d n = true) (k : WD P ops C K rest n ds ((d, v) :: E)) : WD P ops C K (⟨some d, .pick c x y, ty, pos, after, none⟩ :: rest) n ds E :=
  d_runs (fun a ha w => by simp [execOp, ha.ev hc, asBool, hb, ha.ev hv]) hd k
end
end Go.Proofs.Ytejnpppejalhfaa
