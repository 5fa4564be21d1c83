/- Texts that the proof stands on, one behind the other: Sc8, Sc9, Sc10, Sc11, PlImg, Plain, PlLnk3, Sc12, Sc14, Sc15, Sc16, Sc17, Sc18, Sc19, Map. -/
import Derived.Laws.StructEq
import Derived.Lib.SliceRun
import Derived.Laws.Pointers
import Derived.WalkSpells
import Derived.Lib.AppendStr
import Derived.Laws.RangeString
import Derived.LoopN
import Derived.Handy
import Derived.Laws.OwnMore
import Derived.OrdersHeld
import Derived.WalkLawsBesides
import Derived.Recover
import Derived.Laws.Strings2
import Derived.Laws.Strings3
import Derived.MapKept
import Derived.Test.YtejnpppejalhfabPLinkLong1
/- THE STEP CALCULUS, part 8: stores into rows; calls; the way in and the way out; regions that draw their order. -/
namespace Go.Proofs.Ytejnpppejalhfab
open Go.RowKit Go.Sort

theorem setCells_heap {w : World} {g : Nat} {cur : Array Value} {t : TypeId} (h : w.heap[g]? = some (.cells cur t (0, 0))) (k : Nat) (vs : List Value) : (w.setCells g k vs).heap[g]? = some (.cells (setL cur.toList k vs).toArray t (0, 0)) := by
  induction vs generalizing w cur k with
  | nil => exact (by simpa [setL] using h : w.heap[g]? = some (.cells (setL cur.toList k []).toArray t (0, 0)))
  | cons v r ih =>
    have e := setCell_eq_setRow w g k cur t (0, 0) v h
    have h2 : (w.setCell ⟨g, k, none⟩ v).heap[g]? = some (.cells (cur.setIfInBounds k v) t (0, 0)) := by rw [e]; exact setRow_heap w g _ _ t _ h
    have := ih h2 (k + 1)
    exact (by simpa [setL] using this : ((w.setCell ⟨g, k, none⟩ v).setCells g (k + 1) r).heap[g]? = some (.cells (setL cur.toList k (v :: r)).toArray t (0, 0)))
section
variable {P : Program} {n : Nat} {ds : List Deferred} {E : Fr} {w : World} {dst : Option Nat} {ty : TypeId} {pos : String} {after : Array Edge} {F : Nat → Prop} {w0 : World} {Γ : List Asr} {T : Tab}
theorem info_size (hT : TabOk P T) {t : TypeId} {ti : TI} (ht : T.get t = some ti) : (P.info? t).map (·.size) = some ti.size := by
  cases ti with
  | sc d s z => obtain ⟨i, _, _, h, h2, _⟩ := hT.sc ht; have := (hT.at_ ht).2; simp only [TI.okB, Bool.and_eq_true] at this; rw [h]; simp [h2, TI.size, Nat.eq_of_beq_eq_true this.1]
  | st s fs z => obtain ⟨_, i, _, _, h, h2, _⟩ := hT.st ht; rw [h]; simp [h2, TI.size]
  | ar s m e g z => obtain ⟨_, i, _, _, h, _, h2, _⟩ := hT.ar ht; rw [h]; simp [h2, TI.size]
  | sl e z b g ez => obtain ⟨_, _, _, _, ⟨i, h, h2, _⟩, _⟩ := hT.sl ht; rw [h]; simp [h2, TI.size]
/-- 'v[kk].f = y', v a row of one's own -/
theorem g_storeR (hS : St F w0 w Γ) (hT : TabOk P T) {t : TypeId} {ti : TI} {x y : Operand} {g kk j o i e sz m cap : Nat} {v : Value} {rows : List (List Value)} {r c : List Value} (ht : T.get t = some ti) (hx : E.ev x = some (.pointer (some ⟨g, o, none⟩))) (hy : E.ev y = some v) (hi : Γ[i]? = some (.row e sz (.slice (some ⟨g, 0, none⟩) m cap) rows))
    (ho : o = 0 + kk * sz + j) (hr : rows[kk]? = some r) (hc : v.cells.toList = c) (hsz : c.length = ti.size) (hk : j + ti.size ≤ sz) (h1 : c.all (·.oneCell') = true) :
    Gets P ⟨dst, .store t x y, ty, pos, after, none⟩ n ds E w (fun _ w' => St F w0 w' (Γ.set i (.row e sz (.slice (some ⟨g, 0, none⟩) m cap) (rows.set kk (setL r j c))))) := by
  intro a ha K Q k
  obtain ⟨hown, hlen, hone⟩ := hS.at_ hi
  rcases hown.2 with ⟨hv, _⟩ | ⟨g', cap', cur, hv, _, hg, hmc, hcm, hcs, htake⟩
  · cases hv
  cases hv
  have hrl : r.length = sz := hlen r (List.mem_of_getElem? hr)
  have hkl := lt_of_getE hr
  have hHL : HoldL w g cur.toList := ⟨e, hg⟩
  have hspan : kk * sz + sz ≤ rows.length * sz := by rw [← Nat.succ_mul]; exact Nat.mul_le_mul_right _ hkl
  have hcl : rows.length * sz ≤ cur.size := by rw [hcs]; exact Nat.mul_le_mul_right _ hmc
  have hcells : v.cells.toList.length = c.length := by rw [hc]
  have hthere : w.there g o v.cells.size := fun q hq => by
    have hq' : q < c.length := by rw [← hcells]; simpa using hq
    have : o + q < cur.toList.length := by simp; omega
    exact ⟨by rw [hHL.cell]; simp only [Option.isSome_iff_exists]; exact ⟨_, List.getElem?_eq_getElem this⟩, hHL.frozen _⟩
  have hx' : (execOp a.eval ⟨dst, .store t x y, ty, pos, after, none⟩).run P w = .ok .skip (w.setCells g o c) := by
    simp only [execOp, ha.ev hx, ha.ev hy, Instr.storeAt, Instr.sureAddr, Sem.run_bind, Sem.run_pure, Result.andThen_ok]
    rw [storeVar_run (by rw [info_size hT ht, ← hsz, ← hcells]; simp) hthere (by rw [hc]; exact fun u hu => List.all_eq_true.1 h1 u hu), hc]
    rfl
  unfold Oper.wp
  rw [hx']
  have hA : (Asr.row e sz (.slice (some ⟨g, 0, none⟩) rows.length cap) (rows.set kk (setL r j c))).holds (w.setCells g o c) := by
    have hl2 : ∀ r' ∈ rows.set kk (setL r j c), r'.length = sz := fun r' hr' => by
      rcases List.mem_or_eq_of_mem_set hr' with h | h
      · exact hlen r' h
      · rw [h, setL_len, hrl]
    refine ⟨⟨by rw [rows_len hl2], .inr ⟨g, cap, _, by simp, Nat.zero_le _, setCells_heap hg o c, by simpa using hmc, hcm, by simp [setL_len, hcs], ?_⟩⟩, hl2, fun r' hr' => ?_⟩
    · have hsplit : cur.toList = rows.flatten ++ cur.toList.drop (rows.length * sz) := by rw [← htake]; simp
      have := setL_row hlen hr (c := c) (j := j) (by omega) (cur.toList.drop (rows.length * sz))
      rw [← hsplit] at this
      rw [List.toList_toArray, ho, Nat.zero_add, this]
      rw [show (rows.set kk (setL r j c)).length * sz = (rows.set kk (setL r j c)).flatten.length from (rows_len hl2).symm]
      exact List.take_left
    · rcases List.mem_or_eq_of_mem_set hr' with h | h
      · exact hone r' h
      · rw [h]
        have hr1 := hone r (List.mem_of_getElem? hr)
        have : ∀ (c : List Value) (L : List Value) (q : Nat), L.all (·.oneCell') = true → c.all (·.oneCell') = true → (setL L q c).all (·.oneCell') = true := by
          intro c
          induction c with
          | nil => intro L q h _; exact h
          | cons x c ih =>
            intro L q h h2
            simp only [List.all_cons, Bool.and_eq_true] at h2
            refine ih _ _ ?_ h2.2
            rw [List.all_eq_true]
            intro y hy
            rcases List.mem_or_eq_of_mem_set hy with h3 | h3
            · exact List.all_eq_true.1 h y h3
            · rw [h3]; exact h2.1
        exact this c r j hr1 h1
  exact k undef _ (hS.upd hi (grownBy_setCells w g o c) hA (fun q hq => Or.inl hq))

/-! calls -/
structure CallOk (P : Program) (f : FuncId) (fn : Func) : Prop where
  at_ : P.funcs[f]? = some fn
  name : (fn.name == "runtime.NumGoroutine") = false
  body : fn.body.isNone = false
/-- the call returns; of what it hands back, and of the memory behind it: Φ -/
structure Fn (P : Program) (f : FuncId) (args : List Value) (w : World) (Φ : Value → World → Prop) : Prop where
  ok : ∃ fn, CallOk P f fn
  calls : Calls P f args.toArray w (fun e w' => ∃ v, e = .returned v ∧ Φ v w')
theorem Fn.mono {f : FuncId} {args : List Value} {Φ Ψ : Value → World → Prop} (h : Fn P f args w Φ) (hi : ∀ v w', Φ v w' → Ψ v w') : Fn P f args w Ψ := ⟨h.ok, h.calls.mono fun _ _ ⟨v, he, hv⟩ => ⟨v, he, hi v _ hv⟩⟩
theorem callFunc_run {f : FuncId} {fn : Func} (h : CallOk P f fn) (args : Array Value) (w : World) : (callFunc f args).run P w = .ok (.enter f args) w := by
  have hb := h.body
  unfold callFunc
  simp only [Sem.run_bind, run_program, Result.andThen_ok, h.at_]
  rw [if_neg (by rw [h.name]; simp), if_neg (by rw [hb]; simp)]
  rfl
theorem g_call {f : FuncId} {x : Operand} {args : Array Operand} {ats : Array TypeId} {vs : List Value} {first caps : List Value} {Φ : Value → World → Prop} (hx : E.ev x = some (.func (.func f) first.toArray caps.toArray)) (hv : E.evs args.toList = some vs) (h : Fn P f (first ++ vs ++ caps) w Φ) :
    Gets P ⟨dst, .call { callee := .value x, args := args, argTypes := ats }, ty, pos, after, none⟩ n ds E w Φ := by
  intro a ha K Q k
  obtain ⟨⟨fn, hok⟩, hc⟩ := h
  have e1 : args.map a.eval = vs.toArray := by rw [← ha.evs hv, ← Array.toList_map, Array.toArray_toList]
  have hrun : (execOp a.eval ⟨dst, .call { callee := .value x, args := args, argTypes := ats }, ty, pos, after, none⟩).run P w = .ok (.enter f (first ++ vs ++ caps).toArray) w := by
    simp only [execOp, resolve, ha.ev hx, Deferred.ofValue, Sem.run_bind, Sem.run_pure, Result.andThen_ok, invoke, e1]
    rw [callFunc_run hok]
    simp
  unfold Oper.wp
  rw [hrun]
  exact hc.mono fun e w' ⟨v, he, hΦ⟩ => by subst he; exact k v w' hΦ
/-- a call whose answer does not hang on the world, and that only lays blocks -/
def RBf (v : Value) (w : World) : Value → World → Prop := fun v' w' => v' = v ∧ St nF w w' []
theorem Fn.of_rb {f : FuncId} {fn : Func} {args : List Value} {v : Value} (hok : CallOk P f fn) (h : Calls P f args.toArray w (RB v w)) : Fn P f args w (RBf v w) := ⟨⟨fn, hok⟩, h.mono fun _ _ ⟨he, hb⟩ => ⟨v, he, rfl, St.of_below hb⟩⟩
theorem Fn.of_same {f : FuncId} {fn : Func} {args : List Value} {v : Value} (hok : CallOk P f fn) (h : Calls P f args.toArray w (fun e w' => e = .returned v ∧ w = w')) : Fn P f args w (fun v' w' => v' = v ∧ w' = w) := ⟨⟨fn, hok⟩, h.mono fun _ _ ⟨he, hb⟩ => ⟨v, he, rfl, hb.symm⟩⟩
theorem Fn.rb {f : FuncId} {args : List Value} {v : Value} (h : Fn P f args w (RBf v w)) : Calls P f args.toArray w (RB v w) := h.calls.mono fun _ _ ⟨_, he, hv, hs⟩ => ⟨by rw [he, hv], hs.below⟩

/-! the way in -/
def argFr : Nat → List Value → Fr
  | _, [] => []
  | k, v :: r => (k, v) :: argFr (k + 1) r
theorem argFr_get : ∀ {args : List Value} {k t : Nat} {v : Value}, Fr.get (argFr k args) t = some v → k ≤ t ∧ args[t - k]? = some v := by
  intro args
  induction args with
  | nil => intro k t v h; cases h
  | cons x r ih =>
    intro k t v h
    simp only [argFr, Fr.get] at h
    by_cases e : k = t
    · subst e; simp at h; subst h; simp
    · rw [beqF e] at h
      obtain ⟨h1, h2⟩ := ih (by simpa using h)
      exact ⟨by omega, by rw [show t - k = (t - (k + 1)) + 1 from by omega]; simpa using h2⟩
theorem fn_enter {f : FuncId} {fn : Func} {c : Code} {args : List Value} {Φ : Value → World → Prop} {m : Nat} (hok : CallOk P f fn) (hb : fn.body = some c) (hm : fn.ntmps = m) (hl : Nat.ble args.length m = true)
    (h : WC P c (bodyPost P fn (fun e w' => ∃ v, e = .returned v ∧ Φ v w')) m [] (argFr 0 args) w) : Fn P f args w Φ := by
  refine ⟨⟨fn, hok⟩, calls_of_wp hok.at_ hb (h _ ⟨?_, rfl, fun t v ht => ?_⟩)⟩
  · have := Nat.le_of_ble_eq_true hl
    simp; omega
  · obtain ⟨_, h2⟩ := argFr_get ht
    have hlt := lt_of_getE h2
    rw [Nat.sub_zero] at h2 hlt
    rw [Array.getD_eq_getD_getElem?, Array.getElem?_append_left (by simpa using hlt)]
    simp [h2]
/-! the way out -/
inductive ResL (P : Program) (E : Fr) (w : World) : List ResultVar → List Value → Prop where
  | nil : ResL P E w [] []
  | tmp {t : Nat} {v : Value} {r : List ResultVar} {vs : List Value} (h : E.get t = some v) (k : ResL P E w r vs) : ResL P E w (.tmp t :: r) (v :: vs)
  | cell {t : Nat} {ty : TypeId} {a : Addr} {v : Value} {r : List ResultVar} {vs : List Value} (h : E.get t = some (.pointer (some a))) (hl : Loads P ty a v w) (k : ResL P E w r vs) : ResL P E w (.cell t ty :: r) (v :: vs)
theorem ResL.run {rs : List ResultVar} {vs : List Value} (h : ResL P E w rs vs) {a : Act} (ha : Has n ds a E) : (rs.mapM fun (x : ResultVar) => (match x with
    | .tmp t => (pure (a.tmps.getD t undef) : Sem Value)
    | .cell p t => do loadVar t (← asAddr (a.tmps.getD p undef)))).run P w = .ok vs w := by
  induction h with
  | nil => rfl
  | tmp h _ ih =>
    rw [List.mapM_cons]
    simp only [Sem.run_bind, Sem.run_pure, Result.andThen_ok, ih, ha.at_ _ _ h]
  | cell h hl _ ih =>
    unfold Loads at hl
    rw [List.mapM_cons]
    simp only [Sem.run_bind, Sem.run_pure, ha.at_ _ _ h]
    rename_i p _ _ _ _
    rw [show (asAddr (.pointer (some p)) : Sem Addr) = pure p from rfl, Sem.run_pure, Result.andThen_ok, hl, Result.andThen_ok, ih]
    rfl
def packL : List Value → Value
  | [v] => v
  | vs => .tuple vs.toArray
theorem q_out {fn : Func} {Φ : Value → World → Prop} {rs : List ResultVar} {vs : List Value} {v : Value} (hrs : fn.results.toList = rs) (hr : ResL P E w rs vs) (hv : packL vs = v) (hΦ : Φ v w) {a : Act} (ha : Has n [] a E) : a.defers = [] ∧ ∃ v, (results fn a.tmps).run P w = .ok v w ∧ ∃ u, Ending.returned v = .returned u ∧ Φ u w := by
  refine ⟨ha.defers, v, ?_, v, rfl, hΦ⟩
  have h := hr.run ha
  rw [← hrs] at h
  unfold results
  rw [Array.mapM_eq_mapM_toList, Sem.run_bind]
  have h2 : (List.toArray <$> (fn.results.toList.mapM fun (x : ResultVar) => (match x with
    | .tmp t => (pure (a.tmps.getD t undef) : Sem Value)
    | .cell p t => do loadVar t (← asAddr (a.tmps.getD p undef))))).run P w = .ok vs.toArray w := by
    rw [← bind_pure_comp, Sem.run_bind, h]
    rfl
  refine (congrArg (fun r => Result.andThen r _) h2).trans ?_
  subst hv
  match vs with
  | [] => rfl
  | [x] => rfl
  | x :: y :: r => simp [packL]
theorem q_ret {fn : Func} {Φ : Value → World → Prop} {rs : List ResultVar} {vs : List Value} {v : Value} (hrs : fn.results.toList = rs) (hr : ResL P E w rs vs) (hv : packL vs = v) (hΦ : Φ v w) : WQ (bodyPost P fn (fun e w' => ∃ v, e = .returned v ∧ Φ v w')) .ret n [] E w := fun _ ha => q_out hrs hr hv hΦ ha
end

/-! regions that draw their order: quiet operations in whatever order, then a tail in one order -/
section
variable {P : Program} {n : Nat} {ds : List Deferred} {E : Fr} {w : World} {Q : Exit → Act → World → Prop} {ops : Array Oper} {rest : List Oper} {C : World → Prop} {d : Nat} {op : Op} {ty : TypeId} {pos : String} {after : Array Edge}
def WD (P : Program) (ops : Array Oper) (C : World → Prop) (K : Act → Prop) (l : List Oper) (n : Nat) (ds : List Deferred) (E : Fr) : Prop := ∀ a, Has n ds a E → wpQuiet P ops C K l a
theorem c_draw (F : Nat → Prop) (w0 : World) (Γ : List Asr) {id : Nat} {l : List Oper} (m : Nat) (hm : P.follows .mixedOrders = true) (hB : Region.lexTailB .any l.toArray m = true) (hS : St F w0 w Γ)
    (h : WD P l.toArray (fun w' => St F w0 w' Γ) (fun a' => ∀ w', St F w0 w' Γ → wpList P l.toArray Q (l.drop m) a' w') (l.take m) n ds E) : WC P (.region id l.toArray true) Q n ds E w := fun a ha =>
  wp_region_quiet_tail (C := fun w' => St F w0 w' Γ) m hm hB (hS.grow ⟨rfl, rfl, rfl, Nat.le_refl _, fun _ _ _ => rfl⟩) (h a ha)
theorem c_drawAll (F : Nat → Prop) (w0 : World) (Γ : List Asr) {id : Nat} {l : List Oper} (hm : P.follows .mixedOrders = true) (hB : Region.lexB .any l.toArray = true) (hS : St F w0 w Γ)
    (h : WD P l.toArray (fun w' => St F w0 w' Γ) (fun a' => ∀ w', St F w0 w' Γ → wpList P l.toArray Q [] a' w') l n ds E) : WC P (.region id l.toArray true) Q n ds E w := fun a ha =>
  wp_region_quiet (C := fun w' => St F w0 w' Γ) hm hB (hS.grow ⟨rfl, rfl, rfl, Nat.le_refl _, fun _ _ _ => rfl⟩) (show wpQuiet P l.toArray _ (fun a' => ∀ w', St F w0 w' Γ → wpList P l.toArray Q [] a' w') l a from h a ha)
theorem d_nil {S : World → Prop} {l : List Oper} (h : ∀ w', S w' → WL P ops Q l n ds E w') : WD P ops C (fun a' => ∀ w', S w' → wpList P ops Q l a' w') [] n ds E := fun a ha w' hw => h w' hw a ha
theorem wq_plain {K : Act → Prop} {o : Oper} {a : Act} {v : Value} (hg : o.guard = none) (h : ∀ w, C w → o.quietAt P a C w v) (k : wpQuiet P ops C K rest (a.put o.dst v)) : wpQuiet P ops C K (o :: rest) a := by
  unfold wpQuiet
  rw [if_pos (by simp [Region.wanted, hg])]
  exact ⟨v, h, k⟩
theorem d_runs {K : Act → Prop} {v : Value} (h : ∀ a, Has n ds a E → Runs P ⟨some d, op, ty, pos, after, none⟩ a v) (hd : Nat.blt d n = true) (k : WD P ops C K rest n ds ((d, v) :: E)) : WD P ops C K (⟨some d, op, ty, pos, after, none⟩ :: rest) n ds E := fun a ha =>
  wq_plain rfl (fun w _ => by unfold Oper.quietAt; rw [h a ha w]; exact ⟨rfl, rfl⟩) (k _ (ha.put d v hd))
theorem d_pure {K : Act → Prop} {T : Tab} (hT : TabOk P T) {v : Value} (h : pureOp T E op = some v) (hd : Nat.blt d n = true) (k : WD P ops C K rest n ds ((d, v) :: E)) : WD P ops C K (⟨some d, op, ty, pos, after, none⟩ :: rest) n ds E :=
  d_runs (fun _ ha => pureOp_runs hT ha h) hd k
theorem d_load {K : Act → Prop} {t : TypeId} {x : Operand} {p : Addr} {v : Value} (hx : E.ev x = some (.pointer (some p))) (h : ∀ w, C w → Loads P t p v w) (hd : Nat.blt d n = true) (k : WD P ops C K rest n ds ((d, v) :: E)) : WD P ops C K (⟨some d, .load t x, ty, pos, after, none⟩ :: rest) n ds E := fun a ha =>
  wq_plain (v := v) rfl (fun w hw => by
    have hl := h w hw
    unfold Loads at hl
    simp only [Oper.quietAt, execOp, ha.ev hx, Instr.loadAt, Instr.sureAddr, Sem.run_bind, Sem.run_pure, Result.andThen_ok, hl]
    exact ⟨rfl, rfl⟩) (k _ (ha.put d v hd))
theorem l_load {t : TypeId} {x : Operand} {p : Addr} {v : Value} (hx : E.ev x = some (.pointer (some p))) (h : Loads P t p v w) (hd : Nat.blt d n = true) (k : WL P ops Q rest n ds ((d, v) :: E) w) : WL P ops Q (⟨some d, .load t x, ty, pos, after, none⟩ :: rest) n ds E w :=
  l_gets hd (g_load hx h) (by rintro _ _ ⟨rfl, rfl⟩; exact k)
theorem d_call {F : Nat → Prop} {w0 : World} {Γ : List Asr} {K : Act → Prop} {f : FuncId} {x : Operand} {args : Array Operand} {ats : Array TypeId} {vs : List Value} {first caps : List Value} {v : Value} (hx : E.ev x = some (.func (.func f) first.toArray caps.toArray)) (hv : E.evs args.toList = some vs) (h : ∀ w, St F w0 w Γ → Fn P f (first ++ vs ++ caps) w (RBf v w)) (hd : Nat.blt d n = true)
    (k : WD P ops (fun w' => St F w0 w' Γ) K rest n ds ((d, v) :: E)) : WD P ops (fun w' => St F w0 w' Γ) K (⟨some d, .call { callee := .value x, args := args, argTypes := ats }, ty, pos, after, none⟩ :: rest) n ds E := fun a ha =>
  wq_plain (v := v) rfl (fun w hw => by
    obtain ⟨⟨fn, hok⟩, hc⟩ := h w hw
    have e1 : args.map a.eval = vs.toArray := by rw [← ha.evs hv, ← Array.toList_map, Array.toArray_toList]
    unfold Oper.quietAt
    simp only [execOp, resolve, ha.ev hx, Deferred.ofValue, Sem.run_bind, Sem.run_pure, Result.andThen_ok, invoke, e1]
    rw [callFunc_run hok]
    refine ⟨rfl, ?_⟩
    simp only [List.append_toArray]
    exact hc.mono fun e w' ⟨u, he, hu, hs⟩ => ⟨by rw [he, hu], hw.grow (grown_of_below hs.below)⟩) (k _ (ha.put d v hd))
theorem d_yes {K : Act → Prop} {j : Nat} {want b : Bool} {oj : Oper} {dj : Nat} {dst : Option Nat} (hj : ops[j]? = some oj) (hdj : oj.dst = some dj) (hlt : Nat.blt dj n = true) (hb : E.get dj = some (.bool b)) (he : b = want) (k : WD P ops C K (⟨dst, op, ty, pos, after, none⟩ :: rest) n ds E) :
    WD P ops C K (⟨dst, op, ty, pos, after, some (j, want)⟩ :: rest) n ds E := fun a ha => by
  have hw := wanted_of (o := ⟨dst, op, ty, pos, after, some (j, want)⟩) rfl hj hdj hb ha hlt
  have h := k a ha
  unfold wpQuiet at h ⊢
  rw [if_pos (show Region.wanted _ _ = true from rfl)] at h
  rw [if_pos (by rw [hw, he]; cases want <;> rfl)]
  exact h
theorem d_no {K : Act → Prop} {j : Nat} {want b : Bool} {oj : Oper} {dj : Nat} (hj : ops[j]? = some oj) (hdj : oj.dst = some dj) (hlt : Nat.blt dj n = true) (hb : E.get dj = some (.bool b)) (he : b = !want) (hd : Nat.blt d n = true) (k : WD P ops C K rest n ds ((d, undef) :: E)) :
    WD P ops C K (⟨some d, op, ty, pos, after, some (j, want)⟩ :: rest) n ds E := fun a ha => by
  have hw := wanted_of (o := ⟨some d, op, ty, pos, after, some (j, want)⟩) rfl hj hdj hb ha hlt
  unfold wpQuiet
  rw [if_neg (by rw [hw, he]; cases want <;> simp)]
  exact k _ (ha.put d undef hd)
theorem d_part {K : Act → Prop} {j : Nat} {want b : Bool} {oj : Oper} {dj : Nat} {dst : Option Nat} (_hj : ops[j]? = some oj) (_hdj : oj.dst = some dj) (_hb : E.get dj = some (.bool b)) (k1 : b = true → WD P ops C K (⟨dst, op, ty, pos, after, some (j, want)⟩ :: rest) n ds E) (k2 : b = false → WD P ops C K (⟨dst, op, ty, pos, after, some (j, want)⟩ :: rest) n ds E) :
    WD P ops C K (⟨dst, op, ty, pos, after, some (j, want)⟩ :: rest) n ds E := by cases b; exact k2 rfl; exact k1 rfl
theorem d_pick1 {K : Act → Prop} {c x y : Operand} {b : Bool} {v : Value} (hc : E.ev c = some (.bool b)) (hb : b = true) (hv : E.ev x = some v) (hd : Nat.blt d n = true) (k : WD P ops C K rest n ds ((d, v) :: E)) : WD P ops C K (⟨some d, .pick c x y, ty, pos, after, none⟩ :: rest) n ds E :=
  d_runs (fun a ha w => by simp [execOp, ha.ev hc, asBool, hb, ha.ev hv]) hd k
theorem d_pick2 {K : Act → Prop} {c x y : Operand} {b : Bool} {v : Value} (hc : E.ev c = some (.bool b)) (hb : b = false) (hv : E.ev y = some v) (hd : Nat.blt d n = true) (k : WD P ops C K rest n ds ((d, v) :: E)) : WD P ops C K (⟨some d, .pick c x y, ty, pos, after, none⟩ :: rest) n ds E :=
  d_runs (fun a ha w => by simp [execOp, ha.ev hc, asBool, hb, ha.ev hv]) hd k
end
end Go.Proofs.Ytejnpppejalhfab
/- THE STEP CALCULUS, part 9: the rules as the walk takes them. -/
namespace Go.Proofs.Ytejnpppejalhfab
open Go.RowKit Go.Sort

def celL : Value → Option (List Value)
  | .agg ⟨l⟩ => some l
  | .tuple _ => none
  | v => some [v]
theorem celL_eq {v : Value} {L : List Value} (h : celL v = some L) : v.cells.toList = L := by
  unfold celL at h
  split at h <;> cases h
  · rfl
  · rename_i n _; cases v <;> first | rfl | exact (n _ rfl).elim
section
variable {P : Program} {n : Nat} {ds : List Deferred} {E : Fr} {w : World} {Q : Exit → Act → World → Prop} {ops : Array Oper} {rest : List Oper} {d : Nat} {ty : TypeId} {pos : String} {after : Array Edge} {T : Tab}
theorem l_add {t yt : TypeId} {x y : Operand} {m k : Int} (hx : E.ev x = some (.int .i64 m)) (hy : E.ev y = some (.int .i64 k)) (h1 : -9223372036854775808 ≤ m + k) (h2 : m + k ≤ 9223372036854775807) (hd : Nat.blt d n = true) (k' : WL P ops Q rest n ds ((d, .int .i64 (m + k)) :: E) w) : WL P ops Q (⟨some d, .binOp .add t x y yt, ty, pos, after, none⟩ :: rest) n ds E w := l_runs (fun a ha => r_add hx hy h1 h2 a ha _) hd k'
theorem d_add {C : World → Prop} {K : Act → Prop} {t yt : TypeId} {x y : Operand} {m k : Int} (hx : E.ev x = some (.int .i64 m)) (hy : E.ev y = some (.int .i64 k)) (h1 : -9223372036854775808 ≤ m + k) (h2 : m + k ≤ 9223372036854775807) (hd : Nat.blt d n = true) (k' : WD P ops C K rest n ds ((d, .int .i64 (m + k)) :: E)) : WD P ops C K (⟨some d, .binOp .add t x y yt, ty, pos, after, none⟩ :: rest) n ds E := d_runs (fun a ha => r_add hx hy h1 h2 a ha _) hd k'
theorem l_sub {t yt : TypeId} {x y : Operand} {m k : Int} (hx : E.ev x = some (.int .i64 m)) (hy : E.ev y = some (.int .i64 k)) (h1 : -9223372036854775808 ≤ m - k) (h2 : m - k ≤ 9223372036854775807) (hd : Nat.blt d n = true) (k' : WL P ops Q rest n ds ((d, .int .i64 (m - k)) :: E) w) : WL P ops Q (⟨some d, .binOp .sub t x y yt, ty, pos, after, none⟩ :: rest) n ds E w := l_runs (fun a ha => r_sub hx hy h1 h2 a ha _) hd k'
theorem d_sub {C : World → Prop} {K : Act → Prop} {t yt : TypeId} {x y : Operand} {m k : Int} (hx : E.ev x = some (.int .i64 m)) (hy : E.ev y = some (.int .i64 k)) (h1 : -9223372036854775808 ≤ m - k) (h2 : m - k ≤ 9223372036854775807) (hd : Nat.blt d n = true) (k' : WD P ops C K rest n ds ((d, .int .i64 (m - k)) :: E)) : WD P ops C K (⟨some d, .binOp .sub t x y yt, ty, pos, after, none⟩ :: rest) n ds E := d_runs (fun a ha => r_sub hx hy h1 h2 a ha _) hd k'
theorem l_mul {t yt : TypeId} {x y : Operand} {m k : Int} (hx : E.ev x = some (.int .i64 m)) (hy : E.ev y = some (.int .i64 k)) (h1 : -9223372036854775808 ≤ m * k) (h2 : m * k ≤ 9223372036854775807) (hd : Nat.blt d n = true) (k' : WL P ops Q rest n ds ((d, .int .i64 (m * k)) :: E) w) : WL P ops Q (⟨some d, .binOp .mul t x y yt, ty, pos, after, none⟩ :: rest) n ds E w := l_runs (fun a ha => r_mul hx hy h1 h2 a ha _) hd k'
theorem d_mul {C : World → Prop} {K : Act → Prop} {t yt : TypeId} {x y : Operand} {m k : Int} (hx : E.ev x = some (.int .i64 m)) (hy : E.ev y = some (.int .i64 k)) (h1 : -9223372036854775808 ≤ m * k) (h2 : m * k ≤ 9223372036854775807) (hd : Nat.blt d n = true) (k' : WD P ops C K rest n ds ((d, .int .i64 (m * k)) :: E)) : WD P ops C K (⟨some d, .binOp .mul t x y yt, ty, pos, after, none⟩ :: rest) n ds E := d_runs (fun a ha => r_mul hx hy h1 h2 a ha _) hd k'
theorem l_ix (hT : TabOk P T) {t : TypeId} {x y : Operand} {el sz eb b off m c j : Nat} {ag : Bool} {z : List Value} {i : Int} (ht : T.get t = some (.sl el sz eb ag z)) (hx : E.ev x = some (.slice (some ⟨b, off, none⟩) m c)) (hy : E.ev y = some (.int .i64 i)) (hj : (j : Int) = i) (hm : j < m) (hd : Nat.blt d n = true) (k' : WL P ops Q rest n ds ((d, .pointer (some ⟨b, off + j * sz, none⟩)) :: E) w) : WL P ops Q (⟨some d, .indexAddr t x y, ty, pos, after, none⟩ :: rest) n ds E w := l_runs (fun a ha => r_ix hT ht hx hy hj hm a ha _) hd k'
theorem d_ix {C : World → Prop} {K : Act → Prop} (hT : TabOk P T) {t : TypeId} {x y : Operand} {el sz eb b off m c j : Nat} {ag : Bool} {z : List Value} {i : Int} (ht : T.get t = some (.sl el sz eb ag z)) (hx : E.ev x = some (.slice (some ⟨b, off, none⟩) m c)) (hy : E.ev y = some (.int .i64 i)) (hj : (j : Int) = i) (hm : j < m) (hd : Nat.blt d n = true) (k' : WD P ops C K rest n ds ((d, .pointer (some ⟨b, off + j * sz, none⟩)) :: E)) : WD P ops C K (⟨some d, .indexAddr t x y, ty, pos, after, none⟩ :: rest) n ds E := d_runs (fun a ha => r_ix hT ht hx hy hj hm a ha _) hd k'
theorem l_build (hT : TabOk P T) {t s : Nat} {fs : List (Nat × Nat × Bool)} {z L : List Value} {parts : Array (Nat × Operand)} {ps : List (Nat × Value)} (ht : T.get t = some (.st s fs z)) (hp : evP E parts.toList = some ps) (hL : fillL (fun i => (fs[i]?).map fun f => (f.1, f.2.1)) z ps = some L) (hd : Nat.blt d n = true) (k' : WL P ops Q rest n ds ((d, .agg L.toArray) :: E) w) : WL P ops Q (⟨some d, .build t parts, ty, pos, after, none⟩ :: rest) n ds E w := l_runs (fun a ha => r_build hT ht hp hL a ha) hd k'
/-! equality at other types -/
theorem eqbool (a b : Bool) : (a == b) = decide (a = b) := by cases a <;> cases b <;> rfl
theorem r_eqb (hT : TabOk P T) {t yt : TypeId} {x y : Operand} {a b : Bool} {s : Nat} {z : Value} (ht : T.get t = some (.sc .bool s z)) (hx : E.ev x = some (.bool a)) (hy : E.ev y = some (.bool b)) : ∀ c, Has n ds c E → ∀ dst, Runs P ⟨dst, .binOp .eql t x y yt, ty, pos, after, none⟩ c (.bool (decide (a = b))) := fun c hc _ w => by
  obtain ⟨i, hu, _⟩ := hT.sc ht
  have e : (Op.equal t (.bool a) (.bool b)).run P w = .ok (decide (a = b)) w := by rw [← eqbool]; exact run_equalIn_bool' (P := P) w 9999 t a b hu
  simp only [execOp, hc.ev hx, hc.ev hy, eqGuard, binOp, Sem.run_bind]
  simp [e, Result.andThen]
theorem l_eqb (hT : TabOk P T) {t yt : TypeId} {x y : Operand} {a b : Bool} {s : Nat} {z : Value} (ht : T.get t = some (.sc .bool s z)) (hx : E.ev x = some (.bool a)) (hy : E.ev y = some (.bool b)) (hd : Nat.blt d n = true) (k' : WL P ops Q rest n ds ((d, .bool (decide (a = b))) :: E) w) : WL P ops Q (⟨some d, .binOp .eql t x y yt, ty, pos, after, none⟩ :: rest) n ds E w := l_runs (fun a ha => r_eqb hT ht hx hy a ha _) hd k'
/-! tests -/
theorem c_ifd {c : Operand} {x y : Code} {p : Prop} {_i : Decidable p} (hc : E.ev c = some (.bool (decide p))) (ht : decide p = true → p → WC P x Q n ds E w) (hf : decide p = false → ¬ p → WC P y Q n ds E w) : WC P (.cond c x y) Q n ds E w :=
  c_if hc (fun h => ht h (of_decide_eq_true h)) (fun h => hf h (of_decide_eq_false h))
theorem c_ifn {c : Operand} {x y : Code} {p : Prop} {_i : Decidable p} (hc : E.ev c = some (.bool (!decide p))) (ht : (!decide p) = true → ¬ p → WC P x Q n ds E w) (hf : (!decide p) = false → p → WC P y Q n ds E w) : WC P (.cond c x y) Q n ds E w :=
  c_if hc (fun h => ht h (by simpa using h)) (fun h => hf h (by simpa using h))
theorem c_ifp {c : Operand} {x y : Code} {b : Bool} (hc : E.ev c = some (.bool b)) (ht : b = true → True → WC P x Q n ds E w) (hf : b = false → True → WC P y Q n ds E w) : WC P (.cond c x y) Q n ds E w :=
  c_if hc (fun h => ht h trivial) (fun h => hf h trivial)
section
variable {op : Op}
theorem l_partd {j : Nat} {want : Bool} {p : Prop} {_i : Decidable p} {oj : Oper} {dj : Nat} {dst : Option Nat} (_hj : ops[j]? = some oj) (_hdj : oj.dst = some dj) (_hb : E.get dj = some (.bool (decide p))) (k1 : decide p = true → p → WL P ops Q (⟨dst, op, ty, pos, after, some (j, want)⟩ :: rest) n ds E w) (k2 : decide p = false → ¬ p → WL P ops Q (⟨dst, op, ty, pos, after, some (j, want)⟩ :: rest) n ds E w) :
    WL P ops Q (⟨dst, op, ty, pos, after, some (j, want)⟩ :: rest) n ds E w := l_part _hj _hdj _hb (fun h => k1 h (of_decide_eq_true h)) (fun h => k2 h (of_decide_eq_false h))
theorem l_partp {j : Nat} {want b : Bool} {oj : Oper} {dj : Nat} {dst : Option Nat} (_hj : ops[j]? = some oj) (_hdj : oj.dst = some dj) (_hb : E.get dj = some (.bool b)) (k1 : b = true → True → WL P ops Q (⟨dst, op, ty, pos, after, some (j, want)⟩ :: rest) n ds E w) (k2 : b = false → True → WL P ops Q (⟨dst, op, ty, pos, after, some (j, want)⟩ :: rest) n ds E w) :
    WL P ops Q (⟨dst, op, ty, pos, after, some (j, want)⟩ :: rest) n ds E w := l_part _hj _hdj _hb (fun h => k1 h trivial) (fun h => k2 h trivial)
variable {C : World → Prop} {K : Act → Prop}
theorem d_partd {j : Nat} {want : Bool} {p : Prop} {_i : Decidable p} {oj : Oper} {dj : Nat} {dst : Option Nat} (_hj : ops[j]? = some oj) (_hdj : oj.dst = some dj) (_hb : E.get dj = some (.bool (decide p))) (k1 : decide p = true → p → WD P ops C K (⟨dst, op, ty, pos, after, some (j, want)⟩ :: rest) n ds E) (k2 : decide p = false → ¬ p → WD P ops C K (⟨dst, op, ty, pos, after, some (j, want)⟩ :: rest) n ds E) :
    WD P ops C K (⟨dst, op, ty, pos, after, some (j, want)⟩ :: rest) n ds E := d_part _hj _hdj _hb (fun h => k1 h (of_decide_eq_true h)) (fun h => k2 h (of_decide_eq_false h))
end
/-! the ways out -/
section
variable {fn : Func} {Φ : Value → World → Prop} {v v1 v2 v3 : Value}
theorem q_ret0 (hr : ResL P E w fn.results.toList []) (hΦ : Φ (.tuple #[]) w) : WQ (bodyPost P fn (fun e w' => ∃ v, e = .returned v ∧ Φ v w')) .ret n [] E w := q_ret rfl hr rfl hΦ
theorem q_ret1 (hr : ResL P E w fn.results.toList [v]) (hΦ : Φ v w) : WQ (bodyPost P fn (fun e w' => ∃ v, e = .returned v ∧ Φ v w')) .ret n [] E w := q_ret rfl hr rfl hΦ
theorem q_ret2 (hr : ResL P E w fn.results.toList [v1, v2]) (hΦ : Φ (.tuple #[v1, v2]) w) : WQ (bodyPost P fn (fun e w' => ∃ v, e = .returned v ∧ Φ v w')) .ret n [] E w := q_ret rfl hr rfl hΦ
end
/-! memory -/
variable {F : Nat → Prop} {w0 : World} {Γ : List Asr}
theorem l_box (hS : St F w0 w Γ) {t : TypeId} {x : Operand} {v : Value} {L : List Value} (hx : E.ev x = some v) (hc : celL v = some L) (hd : Nat.blt d n = true) (k : ∀ g w', St F w0 w' (.blk g L :: Γ) → WL P ops Q rest n ds ((d, .pointer (some ⟨g, 0, none⟩)) :: E) w') : WL P ops Q (⟨some d, .box t x, ty, pos, after, none⟩ :: rest) n ds E w :=
  l_gets hd (g_box hS hx) (by rintro _ w' ⟨g, rfl, h⟩; rw [celL_eq hc] at h; exact k g w' h)
theorem l_alloc (hS : St F w0 w Γ) (hT : TabOk P T) {t : TypeId} {i : TI} {L : List Value} (ht : T.get t = some i) (hL : some i.zeroCells = some L) (hd : Nat.blt d n = true) (k : ∀ g w', St F w0 w' (.blk g L :: Γ) → WL P ops Q rest n ds ((d, .pointer (some ⟨g, 0, none⟩)) :: E) w') : WL P ops Q (⟨some d, .alloc t, ty, pos, after, none⟩ :: rest) n ds E w :=
  l_gets hd (g_allocT hS hT ht hL) (by rintro _ w' ⟨g, rfl, h⟩; exact k g w' h)
theorem l_store (hS : St F w0 w Γ) (hT : TabOk P T) {t : TypeId} {ti : TI} {x y : Operand} {g j i : Nat} {v : Value} {L c L' : List Value} (ht : T.get t = some ti) (hx : E.ev x = some (.pointer (some ⟨g, j, none⟩))) (hy : E.ev y = some v) (hi : Γ[i]? = some (.blk g L)) (hc : celL v = some c)
    (hsz : Nat.beq c.length ti.size = true) (hk : Nat.ble (j + ti.size) L.length = true) (h1 : c.all (·.oneCell') = true) (hL : setL L j c = L') (k : ∀ w', St F w0 w' (Γ.set i (.blk g L')) → WL P ops Q rest n ds E w') : WL P ops Q (⟨none, .store t x y, ty, pos, after, none⟩ :: rest) n ds E w :=
  l_gets0 (g_store hS hT ht hx hy hi (by rw [celL_eq hc]; exact Nat.eq_of_beq_eq_true hsz) (Nat.le_of_ble_eq_true hk) (by rw [celL_eq hc]; exact fun u hu => List.all_eq_true.1 h1 u hu)) (by intro _ w' h; rw [celL_eq hc, hL] at h; exact k w' h)
theorem l_storeR (hS : St F w0 w Γ) (hT : TabOk P T) {t : TypeId} {ti : TI} {x y : Operand} {g kk j o i e sz m cap : Nat} {v : Value} {rows : List (List Value)} {r c r' : List Value} (ht : T.get t = some ti) (hx : E.ev x = some (.pointer (some ⟨g, o, none⟩))) (hy : E.ev y = some v) (hi : Γ[i]? = some (.row e sz (.slice (some ⟨g, 0, none⟩) m cap) rows))
    (ho : o = 0 + kk * sz + j) (hr : rows[kk]? = some r) (hc : celL v = some c) (hsz : Nat.beq c.length ti.size = true) (hk : Nat.ble (j + ti.size) sz = true) (h1 : c.all (·.oneCell') = true) (hL : setL r j c = r') (k : ∀ w', St F w0 w' (Γ.set i (.row e sz (.slice (some ⟨g, 0, none⟩) m cap) (rows.set kk r'))) → WL P ops Q rest n ds E w') : WL P ops Q (⟨none, .store t x y, ty, pos, after, none⟩ :: rest) n ds E w :=
  l_gets0 (g_storeR hS hT ht hx hy hi ho hr (celL_eq hc) (Nat.eq_of_beq_eq_true hsz) (Nat.le_of_ble_eq_true hk) h1) (by intro _ w' h; rw [hL] at h; exact k w' h)
theorem l_storeRj (hS : St F w0 w Γ) (hT : TabOk P T) {t : TypeId} {ti : TI} {x y : Operand} {g kk j i e sz m cap : Nat} {v : Value} {rows : List (List Value)} {r c r' : List Value} (ht : T.get t = some ti) (hx : E.ev x = some (.pointer (some ⟨g, 0 + kk * sz + j, none⟩))) (hy : E.ev y = some v) (hi : Γ[i]? = some (.row e sz (.slice (some ⟨g, 0, none⟩) m cap) rows))
    (hr : rows[kk]? = some r) (hc : celL v = some c) (hsz : Nat.beq c.length ti.size = true) (hk : Nat.ble (j + ti.size) sz = true) (h1 : c.all (·.oneCell') = true) (hL : setL r j c = r') (k : ∀ w', St F w0 w' (Γ.set i (.row e sz (.slice (some ⟨g, 0, none⟩) m cap) (rows.set kk r'))) → WL P ops Q rest n ds E w') : WL P ops Q (⟨none, .store t x y, ty, pos, after, none⟩ :: rest) n ds E w :=
  l_storeR hS hT ht hx hy hi rfl hr hc hsz hk h1 hL k
theorem l_bslice (hS : St F w0 w Γ) (hT : TabOk P T) {t e sz eb len : Nat} {ag : Bool} {ez : List Value} {parts : Array (Nat × Operand)} {ps : List (Nat × Value)} {rows : List (List Value)} (ht : T.get t = some (.sl e sz eb ag ez)) (hp : evP E parts.toList = some ps) (hr : seqV 0 sz ps = some rows) (hl : Nat.beq rows.length len = true)
    (hbig : Nat.ble (len * sz) 16777216 = true) (h1 : oneAll rows = true) (hd : Nat.blt d n = true) (k : ∀ g w', St F w0 w' (.row e sz (.slice (some ⟨g, 0, none⟩) len len) rows :: Γ) → WL P ops Q rest n ds ((d, .slice (some ⟨g, 0, none⟩) len len) :: E) w') : WL P ops Q (⟨some d, .buildSlice t len parts, ty, pos, after, none⟩ :: rest) n ds E w :=
  l_gets hd (g_bslice hS hT ht hp hr hl hbig h1) (by rintro _ w' ⟨g, rfl, h⟩; exact k g w' h)
theorem l_make (hS : St F w0 w Γ) (hT : TabOk P T) {t e sz eb m : Nat} {ag : Bool} {ez : List Value} {x y : Operand} {i j : Int} (ht : T.get t = some (.sl e sz eb ag ez)) (hx : E.ev x = some (.int .i64 i)) (hy : E.ev y = some (.int .i64 j)) (hi : (m : Int) = i) (hj : (m : Int) = j) (hm : m ≤ 140737488355327) (hb : (eb : Int) * m ≤ 281474976710656) (h1 : ez.all (·.oneCell') = true) (hd : Nat.blt d n = true) (k : ∀ g w', St F w0 w' (.row e sz (.slice (some ⟨g, 0, none⟩) m m) (List.replicate m ez) :: Γ) → WL P ops Q rest n ds ((d, .slice (some ⟨g, 0, none⟩) m m) :: E) w') : WL P ops Q (⟨some d, .makeSlice t x y, ty, pos, after, none⟩ :: rest) n ds E w :=
  l_gets hd (g_make hS hT ht hx hy hi hj hm hb h1) (by rintro _ w' ⟨g, rfl, h⟩; exact k g w' h)
theorem l_append (hS : St F w0 w Γ) (hT : TabOk P T) {t e sz eb m c b off : Nat} (i : Nat) {ag : Bool} {ez : List Value} {x y : Operand} {v : Value} {rows news : List (List Value)} (ht : T.get t = some (.sl e sz eb ag ez)) (hx : E.ev x = some v) (hi : Γ[i]? = some (.row e sz v rows)) (hy : E.ev y = some (.slice (some ⟨b, off, none⟩) m c))
    (hn : RoAt nF w b off sz news) (hm : news.length = m) (hbig : (rows.length + m) * (eb + 1) ≤ 140737488355328) (hd : Nat.blt d n = true) (k : ∀ p cap w', St F w0 w' (Γ.set i (.row e sz (.slice p (rows.length + m) cap) (rows ++ news))) → WL P ops Q rest n ds ((d, .slice p (rows.length + m) cap) :: E) w') : WL P ops Q (⟨some d, .call { callee := .builtin .append, args := #[x, y], argTypes := #[t, t] }, ty, pos, after, none⟩ :: rest) n ds E w :=
  l_gets hd (g_append hS hT ht hx hi hy hn hm hbig) (by rintro _ w' ⟨p, cap, rfl, h⟩; exact k p cap w' h)
theorem l_call {f : FuncId} {x : Operand} {args : Array Operand} {ats : Array TypeId} {vs : List Value} {first caps : List Value} {Φ : Value → World → Prop} (hx : E.ev x = some (.func (.func f) first.toArray caps.toArray)) (hv : E.evs args.toList = some vs) (h : Fn P f (first ++ vs ++ caps) w Φ) (hd : Nat.blt d n = true) (k : ∀ v w', Φ v w' → WL P ops Q rest n ds ((d, v) :: E) w') :
    WL P ops Q (⟨some d, .call { callee := .value x, args := args, argTypes := ats }, ty, pos, after, none⟩ :: rest) n ds E w := l_gets hd (g_call hx hv h) k
end
section
variable {F : Nat → Prop} {w0 w w' : World} {Γ : List Asr}
theorem St.addNil (h : St F w0 w Γ) (e sz : Nat) : St F w0 w (.row e sz (.slice none 0 0) [] :: Γ) :=
  h.new ⟨rfl, rfl, rfl, Nat.le_refl _, fun _ _ _ => rfl⟩ ⟨World.ownsRow_nil _ _ _ _, by simp, by simp⟩ (by simp [Asr.fp, Value.ownBlock])
theorem St.rowLen (h : St F w0 w Γ) (i : Nat) {e sz n cap : Nat} {p : Option Addr} {rows : List (List Value)} (hi : Γ[i]? = some (.row e sz (.slice p n cap) rows)) : n = rows.length := by
  rcases h.rowForm i hi with ⟨h1, h2⟩ | ⟨g, cap', h1, _⟩
  · cases h1; rw [h2]; rfl
  · cases h1; rfl
theorem St.rowSome (h : St F w0 w Γ) (i : Nat) {e sz n cap : Nat} {p : Option Addr} {rows : List (List Value)} (hi : Γ[i]? = some (.row e sz (.slice p n cap) rows)) (hn : 0 < n) : ∃ g, p = some ⟨g, 0, none⟩ := by
  rcases h.rowForm i hi with ⟨h1, h2⟩ | ⟨g, cap', h1, _⟩
  · cases h1; omega
  · cases h1; exact ⟨g, rfl⟩
theorem Sl.parts {sz n cap : Nat} {p : Option Addr} {rows : List (List Value)} (h : Sl F w0 sz (.slice p n cap) rows) : n = rows.length ∧ (rows = [] ∨ ∃ b off, p = some ⟨b, off, none⟩ ∧ n ≤ cap ∧ cap ≤ maxLen ∧ RoAt F w0 b off sz rows) := by
  rcases h with ⟨p1, c1, h1, h2⟩ | ⟨b, off, cap0, h1, h2, h3, h4⟩
  · cases h1; subst h2; exact ⟨rfl, Or.inl rfl⟩
  · cases h1; exact ⟨rfl, Or.inr ⟨b, off, rfl, h2, h3, h4⟩⟩
def appA : List Asr → List Asr → List Asr
  | [], Γ => Γ
  | A :: Δ, Γ => A :: appA Δ Γ
theorem appA_eq (Δ Γ : List Asr) : appA Δ Γ = Δ ++ Γ := by
  induction Δ with
  | nil => rfl
  | cons A Δ ih => simp [appA, ih]
theorem St.transA {Δ : List Asr} (h : St F w0 w Γ) (h2 : St nF w w' Δ) : St F w0 w' (appA Δ Γ) := by rw [appA_eq]; exact h.trans h2
theorem St.one {A : Asr} (h : St F w0 w (A :: Γ)) : St F w0 w [A] := h.sub (List.Sublist.cons_cons _ (List.nil_sublist _))
/-- a cell of the base -/
structure Bs (F : Nat → Prop) (w0 : World) (p : Addr) (v : Value) : Prop where
  cell : w0.cell? p = some v
  nf : ¬ F p.block
theorem St.bs (h : St F w0 w Γ) {p : Addr} {v : Value} (hb : Bs F w0 p v) : w.cell? p = some v := h.baseC hb.cell hb.nf
theorem Bs.of {p : Addr} {v : Value} (h : w.cell? p = some v) : Bs nF w p v := ⟨h, id⟩
end
end Go.Proofs.Ytejnpppejalhfab
/- THE STEP CALCULUS, part 10: guards over what was not run. -/
namespace Go.Proofs.Ytejnpppejalhfab
open Go.RowKit Go.Sort

section
variable {P : Program} {n : Nat} {ds : List Deferred} {E : Fr} {w : World} {Q : Exit → Act → World → Prop} {ops : Array Oper} {rest : List Oper} {C : World → Prop} {K : Act → Prop} {d : Nat} {op : Op} {ty : TypeId} {pos : String} {after : Array Edge}
theorem unwanted_of {o oj : Oper} {j : Nat} {want : Bool} {dj : Nat} (hg : o.guard = some (j, want)) (hj : ops[j]? = some oj) (hdj : oj.dst = some dj) (hb : E.get dj = some undef) {a : Act} (ha : Has n ds a E) (hlt : Nat.blt dj n = true) :
    Region.wanted o (yielded ops a.tmps) = false := by
  have hlt' : dj < a.tmps.size := by rw [ha.size]; simpa [Nat.blt_eq] using hlt
  have h1 : a.tmps[dj]? = some undef := by
    have := ha.at_ dj _ hb
    rw [Array.getD_eq_getD_getElem?] at this
    rw [Array.getElem?_eq_getElem hlt'] at this ⊢
    exact congrArg some this
  have hy : yielded ops a.tmps j = none := by simp [yielded, hj, hdj, h1, undef]
  simp only [Region.wanted, hg, hy]
  rfl
theorem l_undef {j : Nat} {want : Bool} {oj : Oper} {dj : Nat} (hj : ops[j]? = some oj) (hdj : oj.dst = some dj) (hlt : Nat.blt dj n = true) (hb : E.get dj = some undef) (hd : Nat.blt d n = true) (k : WL P ops Q rest n ds ((d, undef) :: E) w) :
    WL P ops Q (⟨some d, op, ty, pos, after, some (j, want)⟩ :: rest) n ds E w := fun a ha => by
  have hw := unwanted_of (o := ⟨some d, op, ty, pos, after, some (j, want)⟩) rfl hj hdj hb ha hlt
  unfold wpList
  rw [if_neg (by rw [hw]; simp)]
  exact k _ (ha.put d undef hd)
theorem d_undef {j : Nat} {want : Bool} {oj : Oper} {dj : Nat} (hj : ops[j]? = some oj) (hdj : oj.dst = some dj) (hlt : Nat.blt dj n = true) (hb : E.get dj = some undef) (hd : Nat.blt d n = true) (k : WD P ops C K rest n ds ((d, undef) :: E)) :
    WD P ops C K (⟨some d, op, ty, pos, after, some (j, want)⟩ :: rest) n ds E := fun a ha => by
  have hw := unwanted_of (o := ⟨some d, op, ty, pos, after, some (j, want)⟩) rfl hj hdj hb ha hlt
  unfold wpQuiet
  rw [if_neg (by rw [hw]; simp)]
  exact k _ (ha.put d undef hd)
theorem Gets.of_at {o : Oper} {v : Value} (h : ∀ a, Has n ds a E → (execOp a.eval o).run P w = .ok (.value v) w) : Gets P o n ds E w (fun v' w' => v' = v ∧ w' = w) := by
  intro a ha K Q k
  unfold Oper.wp
  rw [h a ha]
  exact k v w ⟨rfl, rfl⟩
/-- what is not wanted any more is forgotten -/
def Fr.only (E : Fr) : List Nat → Option Fr
  | [] => some []
  | k :: r => match Fr.get E k, Fr.only E r with
    | some v, some E' => some ((k, v) :: E')
    | _, _ => none
theorem Fr.only_sub {E : Fr} : ∀ {ks : List Nat} {E' : Fr}, Fr.only E ks = some E' → Fr.sub E' E := by
  intro ks
  induction ks with
  | nil => intro E' h; cases h; exact Fr.sub_nil _
  | cons k r ih =>
    intro E' h
    unfold Fr.only at h
    split at h
    · rename_i v E2 h1 h2
      cases h
      exact Fr.sub_cons h1 (ih h2)
    · cases h
/-! a stretch of code that leaves what is known as it was -/
variable {F : Nat → Prop} {w0 : World} {Γ : List Asr}
/-- A LOOP THAT COUNTS in slot d up to N: p tells of what the rounds up to i have shown; what is kept of the frame: the slots ks; the things Γ stay -/
def Cnt (n : Nat) (ds : List Deferred) (E : Fr) (F : Nat → Prop) (w0 : World) (Γ : List Asr) (d : Nat) (N : Nat) (p : Nat → Prop) (i : Nat) : Act → World → Prop := fun a' w' => ∃ i', Has n ds a' ((d, .int .i64 (i' : Nat)) :: E) ∧ ((i' ≤ N ∧ p i') ∧ St F w0 w' Γ) ∧ N - i' < N - i
theorem c_count {c : Code} (hS : St F w0 w Γ) (d : Nat) (ks : List Nat) {E' : Fr} (hE : Fr.only E ks = some E') (N : Nat) (p : Nat → Prop) (i0 : Nat) (hd : Fr.get E d = some (.int .i64 (i0 : Nat))) (hN : i0 ≤ N) (h0 : p i0)
    (round : ∀ i w', i ≤ N → p i → St F w0 w' Γ → WC P c (Exit.then (Cnt n ds E' F w0 Γ d N p i) Q) n ds ((d, .int .i64 (i : Nat)) :: E') w') : WC P (.loop c) Q n ds E w :=
  c_loop (X := Nat) i0 (fun i => (d, .int .i64 (i : Nat)) :: E') (fun i w' => (i ≤ N ∧ p i) ∧ St F w0 w' Γ) (fun i => N - i) (Fr.sub_cons hd (Fr.only_sub hE)) ⟨⟨hN, h0⟩, hS⟩ (fun i w' h => round i w' h.1.1 h.1.2 h.2)
theorem q_count {E' : Fr} {d N i : Nat} {p : Nat → Prop} (i' : Nat) (h0 : Fr.sub ((d, .int .i64 (i' : Nat)) :: E') E) (hN : i' ≤ N) (hp : p i') (hlt : i < i') (hS : St F w0 w Γ) : WQ (Exit.then (Cnt n ds E' F w0 Γ d N p i) Q) .normal n ds E w := fun _ ha => ⟨i', ha.sub h0, ⟨⟨hN, hp⟩, hS⟩, by omega⟩
/-- A LOOP: x runs over what changes: the slots of vf, the things of Γf, ahead of what stays -/
def Rnd {X : Type} (n : Nat) (ds : List Deferred) (E : Fr) (F : Nat → Prop) (w0 : World) (Γ : List Asr) (vf : X → Fr) (Γf : X → List Asr) (I : X → Prop) (m : X → Nat) (x : X) : Act → World → Prop := fun a' w' => ∃ x', Has n ds a' (vf x' ++ E) ∧ (I x' ∧ St F w0 w' (Γf x' ++ Γ)) ∧ m x' < m x
theorem Fr.sub_app {A B E : Fr} (h1 : Fr.sub A E) (h2 : Fr.sub B E) : Fr.sub (A ++ B) E := fun p hp => (List.mem_append.1 hp).elim (h1 p) (h2 p)
theorem c_loopK {X : Type} {c : Code} (vf : X → Fr) (ks : List Nat) {E' : Fr} (hE : Fr.only E ks = some E') (Γf : X → List Asr) (I : X → Prop) (m : X → Nat) (x0 : X) (h0 : Fr.sub (vf x0) E) (hI : I x0) (hS : St F w0 w (Γf x0 ++ Γ))
    (round : ∀ x w', I x → St F w0 w' (Γf x ++ Γ) → WC P c (Exit.then (Rnd n ds E' F w0 Γ vf Γf I m x) Q) n ds (vf x ++ E') w') : WC P (.loop c) Q n ds E w :=
  c_loop (X := X) x0 (fun x => vf x ++ E') (fun x w' => I x ∧ St F w0 w' (Γf x ++ Γ)) m (Fr.sub_app h0 (Fr.only_sub hE)) ⟨hI, hS⟩ (fun x w' h => round x w' h.1 h.2)
theorem q_loopK {X : Type} {E' : Fr} {vf : X → Fr} {Γf : X → List Asr} {I : X → Prop} {m : X → Nat} {x : X} (x' : X) (h0 : Fr.sub (vf x' ++ E') E) (hI : I x') (hS : St F w0 w (Γf x' ++ Γ)) (hm : m x' < m x) : WQ (Exit.then (Rnd n ds E' F w0 Γ vf Γf I m x) Q) .normal n ds E w := fun _ ha => ⟨x', ha.sub h0, ⟨hI, hS⟩, hm⟩
end
end Go.Proofs.Ytejnpppejalhfab
/- THE STEP CALCULUS, part 11: bytes and strings. -/
namespace Go.Proofs.Ytejnpppejalhfab
open Go.RowKit Go.Sort

theorem add_zero_at (g j : Nat) : (⟨g, 0, none⟩ : Addr).add j = ⟨g, j, none⟩ := by unfold Addr.add; split <;> simp_all
/-- a row of bytes -/
def bR (l : List UInt8) : List (List Value) := l.map fun b => [.int .u8 b.toNat]
theorem bR_len (l : List UInt8) : (bR l).length = l.length := by unfold bR; simp
theorem bR_flat (l : List UInt8) : (bR l).flatten = l.map fun b => Value.int .u8 b.toNat := by
  unfold bR
  induction l with
  | nil => rfl
  | cons b l ih => simp [ih]
section
variable {P : Program} {n : Nat} {ds : List Deferred} {E : Fr} {w : World} {Q : Exit → Act → World → Prop} {ops : Array Oper} {rest : List Oper} {d : Nat} {dst : Option Nat} {ty : TypeId} {pos : String} {after : Array Edge} {F : Nat → Prop} {w0 : World} {Γ : List Asr} {T : Tab}
/-- 'range s' -/
theorem g_range (hS : St F w0 w Γ) (hT : TabOk P T) {t sz : Nat} {z : Value} {x : Operand} {l : List UInt8} (ht : T.get t = some (.sc .string sz z)) (hx : E.ev x = some (.string ⟨l.toArray⟩)) :
    Gets P ⟨dst, .range t x, ty, pos, after, none⟩ n ds E w (fun v w' => ∃ r, v = .pointer (some ⟨r, 0, none⟩) ∧ St F w0 w' (.obj r (.stringIter ⟨l.toArray⟩ 0) :: Γ)) := by
  intro a ha K Q k
  obtain ⟨_, hu, _⟩ := hT.sc ht
  have hex : (execOp a.eval ⟨dst, .range t x, ty, pos, after, none⟩).run P w = .ok (.value (.pointer (some ⟨w.heap.size, 0, none⟩))) (w.iter ⟨l.toArray⟩ 0) := by
    simp [execOp, ha.ev hx, run_range_string w t _ hu, Result.andThen]
  unfold Oper.wp
  rw [hex]
  exact k _ _ ⟨_, rfl, hS.new (World.grownBy_alloc w _ none) ⟨World.iter_heap w _ 0, rfl⟩ (by simp [Asr.fp])⟩
theorem g_next (hS : St F w0 w Γ) {x : Operand} {l : List UInt8} {i r k : Nat} (hx : E.ev x = some (.pointer (some ⟨r, 0, none⟩))) (hi : Γ[i]? = some (.obj r (.stringIter ⟨l.toArray⟩ k))) :
    Gets P ⟨dst, .next x true, ty, pos, after, none⟩ n ds E w (fun v w' => (k < l.length ∧ v = .tuple #[.bool true, .int .i64 k, .int .i32 (Utf8.decode ⟨l.toArray⟩ k).1] ∧ St F w0 w' (Γ.set i (.obj r (.stringIter ⟨l.toArray⟩ (k + (Utf8.decode ⟨l.toArray⟩ k).2))))) ∨ (l.length ≤ k ∧ v = .tuple #[.bool false] ∧ w' = w)) := by
  intro a ha K Q kk
  obtain ⟨hr, _⟩ := hS.at_ hi
  by_cases hk : k < l.length
  · have hk' : k < (⟨l.toArray⟩ : ByteArray).size := hk
    have hex : (execOp a.eval ⟨dst, .next x true, ty, pos, after, none⟩).run P w = .ok (.value (.tuple #[.bool true, .int .i64 k, .int .i32 (Utf8.decode ⟨l.toArray⟩ k).1])) { w with heap := w.heap.setIfInBounds r (.stringIter ⟨l.toArray⟩ (k + (Utf8.decode ⟨l.toArray⟩ k).2)) } := by
      simp [execOp, ha.ev hx, Instr.next, getObj, setObj, Sem.run, hr, hk', Result.andThen, goInt]
    unfold Oper.wp
    rw [hex]
    have hrl := (Array.getElem?_eq_some_iff.1 hr).1
    refine kk _ _ (Or.inl ⟨hk, rfl, hS.upd hi ⟨rfl, rfl, rfl, by simp, fun q hq hne => ?_⟩ ⟨by simp [hrl], rfl⟩ (fun q hq => Or.inl hq)⟩)
    have : r ≠ q := fun e => hne (by simp [Asr.fp, e])
    simp [this]
  · have hk' : ¬ k < (⟨l.toArray⟩ : ByteArray).size := hk
    have hex : (execOp a.eval ⟨dst, .next x true, ty, pos, after, none⟩).run P w = .ok (.value (.tuple #[.bool false])) w := by
      simp [execOp, ha.ev hx, Instr.next, getObj, Sem.run, hr, hk', Result.andThen]
    unfold Oper.wp
    rw [hex]
    exact kk _ _ (Or.inr ⟨by omega, rfl, rfl⟩)
/-- 'string(b)', b a row of bytes of one's own, not empty -/
theorem g_convS (hS : St F w0 w Γ) (hT : TabOk P T) {t u e i sz2 : Nat} {z2 : Value} {x : Operand} {v : Value} {l : List UInt8} (ht : T.get t = some (.sl e 1 1 false [.int .u8 0])) (he : T.get e = some (.sc (.int .u8) 1 (.int .u8 0))) (hu2 : T.get u = some (.sc .string sz2 z2)) (hx : E.ev x = some v) (hi : Γ[i]? = some (.row e 1 v (bR l))) (hne : 0 < l.length) :
    Gets P ⟨dst, .convert t u x, ty, pos, after, none⟩ n ds E w (fun v' w' => v' = .string ⟨l.toArray⟩ ∧ w' = w) := by
  refine Gets.of_at fun a ha => ?_
  obtain ⟨ji, zv, hu, hinfo, _⟩ := hT.sl ht
  obtain ⟨_, hus, _⟩ := hT.sc hu2
  obtain ⟨_, hue, _⟩ := hT.sc he
  rcases hS.rowForm i hi with ⟨rfl, h0⟩ | ⟨g, cap, rfl, _⟩
  · have := congrArg List.length h0
    rw [bR_len, List.length_nil] at this
    omega
  · have hrun := run_convert_bytes_back (P := P) w t u e ⟨g, 0, none⟩ cap l hu hue hus (fun j hj => by
      rw [add_zero_at]
      have := hS.rowC i hi (k := j) (j := 0) (r := [.int .u8 l[j].toNat]) (u := .int .u8 l[j].toNat) (by unfold bR; simp [hj]) rfl
      simpa using this)
    rw [bR_len] at hx
    simp only [execOp, ha.ev hx, Sem.run_bind, hrun, Result.andThen_ok, Sem.run_pure]
/-- 's + t' -/
theorem r_cat {t yt : TypeId} {x y : Operand} {l m : List UInt8} (hx : E.ev x = some (.string ⟨l.toArray⟩)) (hy : E.ev y = some (.string ⟨m.toArray⟩)) (hb : l.length + m.length ≤ 9223372036854775807) : ∀ a, Has n ds a E → ∀ dst, Runs P ⟨dst, .binOp .add t x y yt, ty, pos, after, none⟩ a (.string ⟨(l ++ m).toArray⟩) := fun a ha _ w => by
  have h1 : ¬ (9223372036854775807 < (((⟨l.toArray⟩ : ByteArray).size : Int) + ((⟨m.toArray⟩ : ByteArray).size : Int))) := by
    show ¬ (9223372036854775807 < ((l.length : Int) + (m.length : Int)))
    omega
  simp [execOp, ha.ev hx, ha.ev hy, eqGuard, binOp, Op.stringOp, ba_append, h1]
theorem l_cat {t yt : TypeId} {x y : Operand} {l m : List UInt8} (hx : E.ev x = some (.string ⟨l.toArray⟩)) (hy : E.ev y = some (.string ⟨m.toArray⟩)) (hb : l.length + m.length ≤ 9223372036854775807) (hd : Nat.blt d n = true) (k' : WL P ops Q rest n ds ((d, .string ⟨(l ++ m).toArray⟩) :: E) w) : WL P ops Q (⟨some d, .binOp .add t x y yt, ty, pos, after, none⟩ :: rest) n ds E w := l_runs (fun a ha => r_cat hx hy hb a ha _) hd k'
/-! a loop, round by round -/
def WR (P : Program) (c : Code) (Q : Exit → Act → World → Prop) (m : Nat) (n : Nat) (ds : List Deferred) (E : Fr) (w : World) : Prop := ∀ a, Has n ds a E → Code.rounds P c Q m a w
theorem c_rounds {c : Code} (m : Nat) (h : WR P c Q m n ds E w) : WC P (.loop c) Q n ds E w := fun a ha => wp_loop_rounds m (h a ha)
theorem wr_succ {c : Code} {m : Nat} (h : WC P c (Exit.then (Code.rounds P c Q m) Q) n ds E w) : WR P c Q (m + 1) n ds E w := fun a ha => h a ha
theorem q_rounds {c : Code} {m : Nat} {Q' : Exit → Act → World → Prop} (h : WR P c Q m n ds E w) : WQ (Exit.then (Code.rounds P c Q m) Q') .normal n ds E w := h
/-! the rules as the walk takes them -/
theorem l_convS (hS : St F w0 w Γ) (hT : TabOk P T) {t u e sz2 : Nat} (i : Nat) {z2 : Value} {x : Operand} {v : Value} {l : List UInt8} (ht : T.get t = some (.sl e 1 1 false [.int .u8 0])) (he : T.get e = some (.sc (.int .u8) 1 (.int .u8 0))) (hu2 : T.get u = some (.sc .string sz2 z2)) (hx : E.ev x = some v) (hi : Γ[i]? = some (.row e 1 v (bR l))) (hne : 0 < l.length) (hd : Nat.blt d n = true)
    (k : WL P ops Q rest n ds ((d, .string ⟨l.toArray⟩) :: E) w) : WL P ops Q (⟨some d, .convert t u x, ty, pos, after, none⟩ :: rest) n ds E w := l_gets hd (g_convS hS hT ht he hu2 hx hi hne) (by rintro _ _ ⟨rfl, rfl⟩; exact k)
theorem l_range (hS : St F w0 w Γ) (hT : TabOk P T) {t sz : Nat} {z : Value} {x : Operand} {l : List UInt8} (ht : T.get t = some (.sc .string sz z)) (hx : E.ev x = some (.string ⟨l.toArray⟩)) (hd : Nat.blt d n = true) (k : ∀ r w', St F w0 w' (.obj r (.stringIter ⟨l.toArray⟩ 0) :: Γ) → WL P ops Q rest n ds ((d, .pointer (some ⟨r, 0, none⟩)) :: E) w') : WL P ops Q (⟨some d, .range t x, ty, pos, after, none⟩ :: rest) n ds E w :=
  l_gets hd (g_range hS hT ht hx) (by rintro _ w' ⟨r, rfl, h⟩; exact k r w' h)
theorem l_next (hS : St F w0 w Γ) {x : Operand} {l : List UInt8} {i r kk : Nat} (hx : E.ev x = some (.pointer (some ⟨r, 0, none⟩))) (hi : Γ[i]? = some (.obj r (.stringIter ⟨l.toArray⟩ kk))) (hd : Nat.blt d n = true)
    (k1 : ∀ w', kk < l.length → St F w0 w' (Γ.set i (.obj r (.stringIter ⟨l.toArray⟩ (kk + (Utf8.decode ⟨l.toArray⟩ kk).2)))) → WL P ops Q rest n ds ((d, .tuple #[.bool true, .int .i64 kk, .int .i32 (Utf8.decode ⟨l.toArray⟩ kk).1]) :: E) w')
    (k2 : l.length ≤ kk → WL P ops Q rest n ds ((d, .tuple #[.bool false]) :: E) w) : WL P ops Q (⟨some d, .next x true, ty, pos, after, none⟩ :: rest) n ds E w :=
  l_gets hd (g_next hS hx hi) (by
    rintro _ w' (⟨h1, rfl, h2⟩ | ⟨h1, rfl, rfl⟩)
    · exact k1 w' h1 h2
    · exact k2 h1)
end
section
variable {F : Nat → Prop} {w0 w w' : World} {Γ : List Asr}
end
/-- what is read of a string at a place: a byte below 128, or a rune that is no such byte -/
theorem decode_low {l : List UInt8} {k : Nat} {b : UInt8} (h : l[k]? = some b) (hb : b.toNat < 128) : Utf8.decode ⟨l.toArray⟩ k = (b.toNat, 1) := by
  obtain ⟨h1, rfl⟩ := List.getElem?_eq_some_iff.1 h
  have := decode_ascii ⟨l.toArray⟩ k h1 hb
  exact this
theorem decode_high {l : List UInt8} {k : Nat} {b : UInt8} (h : l[k]? = some b) (hb : ¬ b.toNat < 128) : 128 ≤ (Utf8.decode ⟨l.toArray⟩ k).1 := by
  obtain ⟨h1, rfl⟩ := List.getElem?_eq_some_iff.1 h
  have e : (⟨l.toArray⟩ : ByteArray).get! (k + 0) = l[k] := by
    show l.toArray[k]! = _
    simp [h1]
  unfold Utf8.decode
  simp only [e, hb, if_false]
  repeat' split
  all_goals (simp_all [Utf8.runeError] <;> omega)
section
variable {P : Program} {n : Nat} {ds : List Deferred} {E : Fr} {w : World} {Q : Exit → Act → World → Prop} {ops : Array Oper} {rest : List Oper} {d : Nat} {ty : TypeId} {pos : String} {after : Array Edge} {F : Nat → Prop} {w0 : World} {Γ : List Asr}
theorem l_nextb (hS : St F w0 w Γ) {x : Operand} {l : List UInt8} {i r kk : Nat} {b : UInt8} (hx : E.ev x = some (.pointer (some ⟨r, 0, none⟩))) (hi : Γ[i]? = some (.obj r (.stringIter ⟨l.toArray⟩ kk))) (hb : l[kk]? = some b) (hd : Nat.blt d n = true)
    (k1 : ∀ w' c wd, (b.toNat < 128 → c = b.toNat ∧ wd = 1) → (¬ b.toNat < 128 → 128 ≤ c) → St F w0 w' (Γ.set i (.obj r (.stringIter ⟨l.toArray⟩ (kk + wd)))) → WL P ops Q rest n ds ((d, .tuple #[.bool true, .int .i64 kk, .int .i32 (c : Nat)]) :: E) w') : WL P ops Q (⟨some d, .next x true, ty, pos, after, none⟩ :: rest) n ds E w :=
  l_next hS hx hi hd (fun w' _ h => k1 w' _ _ (fun hl => by rw [decode_low hb hl]; exact ⟨rfl, rfl⟩) (fun hl => decode_high hb hl) h) (fun h => by have := lt_of_getE hb; omega)
theorem l_nexte (hS : St F w0 w Γ) {x : Operand} {l : List UInt8} {i r kk : Nat} (hx : E.ev x = some (.pointer (some ⟨r, 0, none⟩))) (hi : Γ[i]? = some (.obj r (.stringIter ⟨l.toArray⟩ kk))) (hb : l.length ≤ kk) (hd : Nat.blt d n = true)
    (k2 : WL P ops Q rest n ds ((d, .tuple #[.bool false]) :: E) w) : WL P ops Q (⟨some d, .next x true, ty, pos, after, none⟩ :: rest) n ds E w :=
  l_next hS hx hi hd (fun _ h _ => by omega) (fun _ => k2)
end
end Go.Proofs.Ytejnpppejalhfab
/- Images, in plain Lean. -/
namespace Go.Proofs.Ytejnpppejalhfab
open Go.RowKit Go.Sort

structure Sg where
  pg : Int
  n : Int
  data : List UInt8
  wr : Bool
  ex : Bool
  deriving DecidableEq
structure Sy where
  name : List UInt8
  at_ : Int
  deriving DecidableEq
structure Rl where
  at_ : Int
  name : List UInt8
  add : Int
  deriving DecidableEq
structure Im where
  name : List UInt8
  needs : List (List UInt8)
  segs : List Sg
  syms : List Sy
  rels : List Rl
  entry : Int
  deriving DecidableEq
def stC (l : List UInt8) : List Value := [.string ⟨l.toArray⟩]
def sgC (s : Sg) : List Value := [.int .i64 s.pg, .int .i64 s.n, .string ⟨s.data.toArray⟩, .bool s.wr, .bool s.ex]
def syC (s : Sy) : List Value := [.string ⟨s.name.toArray⟩, .int .i64 s.at_]
def rlC (s : Rl) : List Value := [.int .i64 s.at_, .string ⟨s.name.toArray⟩, .int .i64 s.add]
/-- a byte of a name -/
def okB (b : UInt8) : Bool := decide ((97 ≤ (b.toNat : Int) ∧ (b.toNat : Int) ≤ 122) ∨ (48 ≤ (b.toNat : Int) ∧ (b.toNat : Int) ≤ 57) ∨ (b.toNat : Int) = 95)
def nmB (l : List UInt8) : Bool := decide (1 ≤ (l.length : Int) ∧ (l.length : Int) ≤ 12) && l.all okB
theorem all_take_succ {α : Type} {p : α → Bool} {l : List α} {k : Nat} {x : α} (h : (l.take k).all p = true) (hx : l[k]? = some x) (hp : p x = true) : (l.take (k + 1)).all p = true := by
  rw [List.take_add_one, hx]
  simp only [Option.toList_some, List.all_append, h, List.all_cons, hp, List.all_nil, Bool.and_self]
theorem all_take_all {α : Type} {p : α → Bool} {l : List α} {k : Nat} (h : (l.take k).all p = true) (hk : l.length ≤ k) : l.all p = true := by
  rwa [List.take_of_length_le hk] at h
theorem all_no {α : Type} {p : α → Bool} {l : List α} {k : Nat} {x : α} (hx : l[k]? = some x) (hp : p x = false) : l.all p = false := by
  cases h : l.all p with
  | false => rfl
  | true => rw [List.all_eq_true.1 h x (List.mem_of_getElem? hx)] at hp; cases hp
theorem nm_len {l : List UInt8} (h : ¬ (1 ≤ (l.length : Int) ∧ (l.length : Int) ≤ 12)) : nmB l = false := by unfold nmB; rw [decide_eq_false h]; rfl
theorem nm_all {l : List UInt8} (h : 1 ≤ (l.length : Int) ∧ (l.length : Int) ≤ 12) : nmB l = l.all okB := by unfold nmB; rw [decide_eq_true h]; rfl
/-- what is known of an image's slices in memory -/
structure ImV (w : World) (I : Im) (vn vs vy vr : Value) : Prop where
  needs : Sl nF w 1 vn (I.needs.map stC)
  segs : Sl nF w 5 vs (I.segs.map sgC)
  syms : Sl nF w 2 vy (I.syms.map syC)
  rels : Sl nF w 3 vr (I.rels.map rlC)
def imA (I : Im) (vn vs vy vr : Value) : Value := .agg [.string ⟨I.name.toArray⟩, vn, vs, vy, vr, .int .i64 I.entry].toArray
theorem Sl.len {w : World} {sz : Nat} {α : Type} {f : α → List Value} {l : List α} {v : Value} (h : Sl nF w sz v (l.map f)) : ∃ p c, v = .slice p l.length c := by
  obtain ⟨p, c, hv⟩ := h.form
  rw [List.length_map] at hv
  exact ⟨p, c, hv⟩
theorem ImV.now {w w' : World} {Γ : List Asr} {I : Im} {vn vs vy vr : Value} (h : ImV w I vn vs vy vr) (hS : St nF w w' Γ) : ImV w' I vn vs vy vr := ⟨h.needs.now hS, h.segs.now hS, h.syms.now hS, h.rels.now hS⟩
theorem Sl.bound {w : World} {sz : Nat} {α : Type} {f : α → List Value} {l : List α} {v : Value} (h : Sl nF w sz v (l.map f)) : (l.length : Int) ≤ 9223372036854775807 := by
  rcases h with ⟨p, c, h1, h2⟩ | ⟨b, off, cap, h1, h2, h3, _⟩
  · have := congrArg List.length h2
    rw [List.length_map, List.length_nil] at this
    omega
  · rw [List.length_map] at h2
    unfold maxLen at h3
    omega
theorem map_get {α β : Type} {f : α → β} {l : List α} {i : Nat} {x : α} (h : l[i]? = some x) : (l.map f)[i]? = some (f x) := by rw [List.getElem?_map, h]; rfl
theorem Sl.at_ {w : World} {sz : Nat} {α : Type} {f : α → List Value} {l : List α} {p : Option Addr} {n c i : Nat} (h : Sl nF w sz (.slice p n c) (l.map f)) (hi : i < l.length) : ∃ b off, p = some ⟨b, off, none⟩ ∧ RoAt nF w b off sz (l.map f) := by
  rcases h.parts.2 with h2 | ⟨b, off, rfl, _, _, hro⟩
  · have := congrArg List.length h2
    rw [List.length_map, List.length_nil] at this
    omega
  · exact ⟨b, off, rfl, hro⟩
/-! the check, step by step -/
def nmsB (I : Im) : Bool := nmB I.name && (I.needs.all nmB && (I.syms.all (fun s => nmB s.name) && I.rels.all (fun r => decide (r.name = []) || nmB r.name)))
def cntB (I : Im) : Bool := decide (1 ≤ (I.segs.length : Int) ∧ (I.segs.length : Int) ≤ 6 ∧ (I.needs.length : Int) ≤ 4 ∧ (I.syms.length : Int) ≤ 12 ∧ (I.rels.length : Int) ≤ 16)
def sgOk (s : Sg) : Bool := decide (0 ≤ s.pg ∧ s.pg ≤ 255 ∧ 1 ≤ s.n ∧ s.n ≤ 255 - s.pg ∧ (s.data.length : Int) ≤ s.n * 16)
def sgsB (I : Im) : Bool := I.segs.all sgOk
noncomputable def pB (p : Prop) : Bool := @decide p (Classical.propDecidable p)
theorem pB_true {p : Prop} (h : p) : pB p = true := @decide_eq_true p (Classical.propDecidable p) h
theorem pB_false {p : Prop} (h : ¬ p) : pB p = false := @decide_eq_false p (Classical.propDecidable p) h
theorem pB_iff {p : Prop} : pB p = true ↔ p := @decide_eq_true_iff p (Classical.propDecidable p)
/-- the segments lie one behind the other -/
def Ch (l : List Sg) : Prop := ∀ (j : Nat) (a b : Sg), l[j]? = some a → l[j + 1]? = some b → a.pg + a.n ≤ b.pg
def Dup (l : List (List UInt8)) : Prop := ∃ (i j : Nat) (x : List UInt8), j < i ∧ l[i]? = some x ∧ l[j]? = some x
def inSg (x : Int) (s : Sg) : Bool := decide (s.pg * 16 ≤ x ∧ x < (s.pg + s.n) * 16)
def own (l : List Sg) (x : Int) : Option Sg := l.find? (inSg x)
def zeroSg : Sg := ⟨0, 0, [], false, false⟩
structure Plc (I : Im) : Prop where
  syms : ∀ s ∈ I.syms, (own I.segs s.at_).isSome = true
  rels : ∀ (k : Nat) (r : Rl), I.rels[k]? = some r → (0 ≤ r.at_ ∧ r.at_ ≤ 4080) ∧ ∀ b : Int, 0 ≤ b → b < 8 → (own I.segs (r.at_ + b)).isSome = true
  step : ∀ (k : Nat) (q r : Rl), I.rels[k]? = some q → I.rels[k + 1]? = some r → q.at_ + 8 ≤ r.at_
  entry : ∃ s, own I.segs I.entry = some s ∧ s.ex = true
  by8 : I.entry.tmod 8 = 0
noncomputable def aptB (I : Im) : Bool := pB (Ch I.segs ∧ ¬ Dup (I.syms.map (·.name)) ∧ ¬ Dup I.needs)
noncomputable def plcB (I : Im) : Bool := pB (Plc I)
noncomputable def checkIm (I : Im) : Int := if nmsB I = false then 4 else if cntB I = false then 2 else if sgsB I = false then 3 else if aptB I = false then 5 else if plcB I = false then 6 else 0
theorem find_none {l : List Sg} {x : Int} {k : Nat} (h : (l.take k).all (fun s => !inSg x s) = true) (hk : l.length ≤ k) : own l x = none := by
  rw [List.take_of_length_le hk, List.all_eq_true] at h
  unfold own
  rw [List.find?_eq_none]
  intro s hs
  have := h s hs
  simpa using this
theorem find_at {l : List Sg} {x : Int} {k : Nat} {s : Sg} (h : (l.take k).all (fun s => !inSg x s) = true) (hs : l[k]? = some s) (hx : inSg x s = true) : own l x = some s := by
  unfold own
  have e : l = l.take k ++ s :: l.drop (k + 1) := by
    obtain ⟨h1, rfl⟩ := List.getElem?_eq_some_iff.1 hs
    rw [List.getElem_cons_drop, List.take_append_drop]
  rw [e, List.find?_append]
  have : (l.take k).find? (inSg x) = none := by
    rw [List.find?_eq_none]
    intro t ht
    have := List.all_eq_true.1 h t ht
    simpa using this
  rw [this, Option.none_or, List.find?_cons, hx]
theorem sg_ok {l : List Sg} (h : l.all sgOk = true) {k : Nat} {s : Sg} (hs : l[k]? = some s) : 0 ≤ s.pg ∧ s.pg ≤ 255 ∧ 1 ≤ s.n ∧ s.n ≤ 255 - s.pg ∧ (s.data.length : Int) ≤ s.n * 16 := by
  have := List.all_eq_true.1 h s (List.mem_of_getElem? hs)
  unfold sgOk at this
  simpa using this
end Go.Proofs.Ytejnpppejalhfab
/- Plain facts on bytes and numbers, with no program in sight. -/
namespace Go.Proofs.Ytejnpppejalhfab
open Go.RowKit

/-- the lowest k bytes of n, the lowest first -/
def leB (n : Int) : Nat → List UInt8
  | 0 => []
  | k + 1 => leB n k ++ [UInt8.ofNat ((n / 2 ^ (8 * k)) % 256).toNat]

@[go_sem] theorem leB_length (n : Int) (k : Nat) : (leB n k).length = k := by
  induction k with
  | zero => rfl
  | succ k ih => simp [leB, ih]

theorem pow256 (j : Nat) : (2 : Int) ^ (8 * (j + 1)) = 2 ^ (8 * j) * 256 := by
  rw [show 8 * (j + 1) = 8 * j + 8 from by omega, Int.pow_add]
  rfl

theorem div_step (n : Int) (j : Nat) : n / 2 ^ (8 * j) / 256 = n / 2 ^ (8 * (j + 1)) := by
  rw [pow256, Int.ediv_ediv_of_nonneg]
  exact Int.le_of_lt (Int.pow_pos (by decide))

/-- are n places from off on among so many? -/
def inB (off n all : Int) : Bool := decide (0 ≤ off ∧ 0 ≤ n ∧ off ≤ all ∧ n ≤ all - off)

/-- Put's row behind j rounds -/
def putRow (n : Int) (size j : Nat) : List UInt8 := leB n j ++ List.replicate (size - j) 0
theorem putRow_length (n : Int) (size j : Nat) (h : j ≤ size) : (putRow n size j).length = size := by
  unfold putRow; rw [List.length_append, leB_length, List.length_replicate]; omega
theorem putRow_end (n : Int) (size : Nat) : putRow n size size = leB n size := by unfold putRow; simp
def byteAt (n : Int) (j : Nat) : UInt8 := UInt8.ofNat ((n / 2 ^ (8 * j)) % 256).toNat
theorem putRow_step (n : Int) (size j : Nat) (h : j < size) : (putRow n size j).set j (byteAt n j) = putRow n size (j + 1) := by
  unfold putRow
  rw [List.set_append_right _ _ (by rw [leB_length]; exact Nat.le_refl _), leB_length, Nat.sub_self, show size - j = (size - (j + 1)) + 1 from by omega, List.replicate_succ, List.set_cons_zero]
  simp [leB, byteAt]

theorem put_num (n : Int) (j : Nat) (hj : j < 8) : IntKind.u64.wrap n / 2 ^ (8 * j) % 256 = ((byteAt n j).toNat : Int) := by
  have e : ((byteAt n j).toNat : Int) = n / 2 ^ (8 * j) % 256 := by
    unfold byteAt
    have h1 : 0 ≤ n / 2 ^ (8 * j) % 256 := Int.emod_nonneg _ (by decide)
    have h2 : n / 2 ^ (8 * j) % 256 < 256 := Int.emod_lt_of_pos _ (by decide)
    rw [UInt8.toNat_ofNat']
    omega
  rw [e]
  have h : j = 0 ∨ j = 1 ∨ j = 2 ∨ j = 3 ∨ j = 4 ∨ j = 5 ∨ j = 6 ∨ j = 7 := by omega
  rcases h with rfl | rfl | rfl | rfl | rfl | rfl | rfl | rfl <;> simp only [IntKind.wrap_u64] <;> simp at * <;> omega

end Go.Proofs.Ytejnpppejalhfab
/- Objects of a link, in plain Lean. -/
namespace Go.Proofs.Ytejnpppejalhfab
open Go.RowKit Go.Sort

/-- an image that is placed, and where its slices lie -/
structure Ob where
  im : Im
  vn : Value
  vs : Value
  vy : Value
  vr : Value
  at_ : Int
def imC (I : Im) (vn vs vy vr : Value) : List Value := [.string ⟨I.name.toArray⟩, vn, vs, vy, vr, .int .i64 I.entry]
def obC (o : Ob) : List Value := [.string ⟨o.im.name.toArray⟩, o.vn, o.vs, o.vy, o.vr, .int .i64 o.im.entry, .int .i64 o.at_]
abbrev ObV (w : World) (o : Ob) : Prop := ImV w o.im o.vn o.vs o.vy o.vr
def symAt (ys : List Sy) (nm : List UInt8) : Option Int := (ys.find? (fun s => decide (s.name = nm))).map (·.at_)
def adr : List (Im × Int) → List UInt8 → Option Int
  | [], _ => none
  | o :: r, nm => match symAt o.1.syms nm with
    | some a => some (o.2 + a)
    | none => adr r nm
def obP (os : List Ob) : List (Im × Int) := os.map fun o => (o.im, o.at_)
theorem obP_at {os : List Ob} {i : Nat} {o : Ob} (h : os[i]? = some o) : (obP os)[i]? = some (o.im, o.at_) := by unfold obP; rw [List.getElem?_map, h]; rfl
theorem obP_len (os : List Ob) : (obP os).length = os.length := by unfold obP; simp
theorem symAt_hit {ys : List Sy} {nm : List UInt8} {k : Nat} {s : Sy} (h : (ys.take k).all (fun s => !decide (s.name = nm)) = true) (hs : ys[k]? = some s) (hn : s.name = nm) : symAt ys nm = some s.at_ := by
  unfold symAt
  have e : ys = ys.take k ++ s :: ys.drop (k + 1) := by
    obtain ⟨h1, rfl⟩ := List.getElem?_eq_some_iff.1 hs
    rw [List.getElem_cons_drop, List.take_append_drop]
  rw [e, List.find?_append]
  have : (ys.take k).find? (fun s => decide (s.name = nm)) = none := by
    rw [List.find?_eq_none]
    intro t ht
    have := List.all_eq_true.1 h t ht
    simpa using this
  rw [this, Option.none_or, List.find?_cons, decide_eq_true hn]
  rfl
theorem symAt_miss {ys : List Sy} {nm : List UInt8} {k : Nat} (h : (ys.take k).all (fun s => !decide (s.name = nm)) = true) (hk : ys.length ≤ k) : symAt ys nm = none := by
  unfold symAt
  rw [List.take_of_length_le hk] at h
  have : ys.find? (fun s => decide (s.name = nm)) = none := by
    rw [List.find?_eq_none]
    intro t ht
    have := List.all_eq_true.1 h t ht
    simpa using this
  rw [this]; rfl
theorem adr_step {l : List (Im × Int)} {nm : List UInt8} {i : Nat} {o : Im × Int} (h : l[i]? = some o) : adr (l.drop i) nm = match symAt o.1.syms nm with
    | some a => some (o.2 + a)
    | none => adr (l.drop (i + 1)) nm := by
  have : l.drop i = o :: l.drop (i + 1) := by
    obtain ⟨h1, rfl⟩ := List.getElem?_eq_some_iff.1 h
    exact List.drop_eq_getElem_cons h1
  rw [this]; rfl
def AdrV (o : Option Int) : Value := .tuple #[.int .i64 (o.getD 0), .bool o.isSome]
end Go.Proofs.Ytejnpppejalhfab
/- THE STEP CALCULUS, part 12: append of a slice that is only read, empty or not. -/
namespace Go.Proofs.Ytejnpppejalhfab
open Go.RowKit Go.Sort

section
variable {P : Program} {n : Nat} {ds : List Deferred} {E : Fr} {w : World} {Q : Exit → Act → World → Prop} {ops : Array Oper} {rest : List Oper} {d : Nat} {dst : Option Nat} {ty : TypeId} {pos : String} {after : Array Edge} {F : Nat → Prop} {w0 : World} {Γ : List Asr} {T : Tab}
theorem g_appendSl (hS : St F w0 w Γ) (hT : TabOk P T) {t e sz eb i : Nat} {ag : Bool} {ez : List Value} {x y : Operand} {v u : Value} {rows news : List (List Value)} (ht : T.get t = some (.sl e sz eb ag ez)) (hx : E.ev x = some v) (hi : Γ[i]? = some (.row e sz v rows)) (hy : E.ev y = some u)
    (hn : Sl nF w sz u news) (hbig : (rows.length + news.length) * (eb + 1) ≤ 140737488355328) :
    Gets P ⟨dst, .call { callee := .builtin .append, args := #[x, y], argTypes := #[t, t] }, ty, pos, after, none⟩ n ds E w (fun v' w' => ∃ p cap, v' = .slice p (rows.length + news.length) cap ∧ St F w0 w' (Γ.set i (.row e sz (.slice p (rows.length + news.length) cap) (rows ++ news)))) := by
  rcases hn with ⟨p, c, rfl, rfl⟩ | ⟨b, off, cap, rfl, h2, h3, h4⟩
  · cases p with
    | none =>
      intro a ha K Q k
      obtain ⟨ji, zv, hu, hinfo, _⟩ := hT.sl ht
      obtain ⟨ho, hlen, hone⟩ := hS.at_ hi
      have e1 : Builtin.append_ #[t, t] ty #[v, .slice none 0 c] = Builtin.append_ #[t, t] ty #[v, .slice none 0 0] := rfl
      have hr := run_append_owned_none (P := P) w 0 t ty e ji sz hu hinfo v _ _ ho
      have hex : (execOp a.eval ⟨dst, .call { callee := .builtin .append, args := #[x, y], argTypes := #[t, t] }, ty, pos, after, none⟩).run P w = .ok (.value v) w := by
        simp [execOp, resolve, invoke, builtin, ha.ev hx, ha.ev hy, e1, hr, Result.andThen]
      unfold Oper.wp
      rw [hex]
      obtain ⟨p, cap, hv⟩ := hS.rowSlice i hi
      subst hv
      refine k _ _ ⟨p, cap, rfl, ?_⟩
      rw [List.append_nil]
      exact hS.upd hi (World.grownBy.refl _ _) ⟨ho, hlen, hone⟩ (fun q hq => Or.inl hq)
    | some a0 =>
      intro a ha K Q k
      obtain ⟨ji, zv, hu, hinfo, _, hs, hby, hz, hzl, _, hsz, hs0⟩ := hT.sl ht
      obtain ⟨ho, hlen, hone⟩ := hS.at_ hi
      have hb1 : rows.length * eb + rows.length ≤ 140737488355328 := by rw [List.length_nil, Nat.add_zero, Nat.mul_succ] at hbig; exact hbig
      obtain ⟨v', w', hrun, hown, hg, _, hat⟩ := run_append_own_at (P := P) w 0 t ty e ji zv sz eb hu hinfo hz hs hby (by rw [← Array.length_toList, hzl, hsz]) (Nat.pos_of_ne_zero hs0) v rows.length rows.flatten ho a0 0 c [] (by simp) (fun j u hu => by simp at hu) (by simp) (by unfold maxLen; omega) (by rw [Nat.add_zero]; omega) (Nat.zero_le _)
      have hex : (execOp a.eval ⟨dst, .call { callee := .builtin .append, args := #[x, y], argTypes := #[t, t] }, ty, pos, after, none⟩).run P w = .ok (.value v') w' := by
        simp [execOp, resolve, invoke, builtin, ha.ev hx, ha.ev hy, hrun, Result.andThen]
      unfold Oper.wp
      rw [hex]
      rw [Nat.add_zero, List.append_nil] at hown
      have hown' : (Asr.row e sz v' rows).holds w' := ⟨hown, hlen, hone⟩
      obtain ⟨p, cap, hv'⟩ : ∃ p cap, v' = .slice p rows.length cap := by
        rcases hown.2 with ⟨rfl, h0⟩ | ⟨g, cap, cur, rfl, _⟩
        · exact ⟨none, 0, by rw [h0]⟩
        · exact ⟨_, _, rfl⟩
      subst hv'
      refine k _ _ ⟨p, cap, rfl, ?_⟩
      rw [List.append_nil]
      refine hS.upd hi hg hown' fun q hq => ?_
      rcases hat with h | h
      · exact Or.inl (h.symm.trans hq)
      · have : some w.heap.size = some q := h.symm.trans hq
        cases this
        exact Or.inr (Nat.le_refl _)
  · exact g_append hS hT ht hx hi hy h4 rfl hbig
theorem l_appendSl (hS : St F w0 w Γ) (hT : TabOk P T) {t e sz eb : Nat} (i : Nat) {ag : Bool} {ez : List Value} {x y : Operand} {v u : Value} {rows news : List (List Value)} (ht : T.get t = some (.sl e sz eb ag ez)) (hx : E.ev x = some v) (hi : Γ[i]? = some (.row e sz v rows)) (hy : E.ev y = some u)
    (hn : Sl nF w sz u news) (hbig : (rows.length + news.length) * (eb + 1) ≤ 140737488355328) (hd : Nat.blt d n = true) (k : ∀ p cap w', St F w0 w' (Γ.set i (.row e sz (.slice p (rows.length + news.length) cap) (rows ++ news))) → WL P ops Q rest n ds ((d, .slice p (rows.length + news.length) cap) :: E) w') : WL P ops Q (⟨some d, .call { callee := .builtin .append, args := #[x, y], argTypes := #[t, t] }, ty, pos, after, none⟩ :: rest) n ds E w :=
  l_gets hd (g_appendSl hS hT ht hx hi hy hn hbig) (by rintro _ w' ⟨p, cap, rfl, h⟩; exact k p cap w' h)
theorem r_remT {t yt : TypeId} {x y : Operand} {m k : Int} (hx : E.ev x = some (.int .i64 m)) (hy : E.ev y = some (.int .i64 k)) (h3 : 0 < k) : ∀ a, Has n ds a E → ∀ dst, Runs P ⟨dst, .binOp .rem t x y yt, ty, pos, after, none⟩ a (.int .i64 (m.tmod k)) := fun a ha _ w => by
  have hk : ¬ k = 0 := by omega
  simp [execOp, ha.ev hx, ha.ev hy, eqGuard, binOp, Op.intDiv, hk]
theorem l_remT {t yt : TypeId} {x y : Operand} {m k : Int} (hx : E.ev x = some (.int .i64 m)) (hy : E.ev y = some (.int .i64 k)) (h3 : 0 < k) (hd : Nat.blt d n = true) (k' : WL P ops Q rest n ds ((d, .int .i64 (m.tmod k)) :: E) w) : WL P ops Q (⟨some d, .binOp .rem t x y yt, ty, pos, after, none⟩ :: rest) n ds E w := l_runs (fun a ha => r_remT hx hy h3 a ha _) hd k'
end
end Go.Proofs.Ytejnpppejalhfab
/- THE STEP CALCULUS, part 14: regions that draw their order, operation by operation: what is pure is taken first, the rest in whatever order is left. -/
namespace Go.Proofs.Ytejnpppejalhfab
open Go.RowKit Go.Sort

section
variable {P : Program} {n : Nat} {ds : List Deferred} {E : Fr} {w : World} {Q : Exit → Act → World → Prop} {ops : Array Oper} {S : World → Prop} {fuel : Nat} {li : Array Bool} {d : Nat} {op : Op} {ty : TypeId} {pos : String} {after : Array Edge} {F : Nat → Prop} {w0 : World} {Γ : List Asr} {T : Tab}
def WA (P : Program) (ops : Array Oper) (Q : Exit → Act → World → Prop) (S : World → Prop) (fuel : Nat) (li : Array Bool) (n : Nat) (ds : List Deferred) (E : Fr) (w : World) : Prop := ∀ a, Has n ds a E → wpAnyH P .any ops Q S fuel li a w
/-- the operation i comes up -/
def WO (P : Program) (ops : Array Oper) (Q : Exit → Act → World → Prop) (S : World → Prop) (fuel : Nat) (li : Array Bool) (n : Nat) (ds : List Deferred) (E : Fr) (w : World) (i : Nat) : Prop := ∀ a, Has n ds a E → wpOp P ops Q i (fun a' w' => S w' ∧ wpAnyH P .any ops Q S fuel (li.setIfInBounds i true) a' w') a w
theorem c_held (S : World → Prop) {id : Nat} {l : List Oper} (m : Nat) (hl : l.length = m) (hS : St F w0 w Γ) (hm : P.follows .mixedOrders = true) (h : ∀ w1, St F w0 w1 Γ → WA P l.toArray Q S m (Array.replicate m false) n ds E w1) : WC P (.region id l.toArray true) Q n ds E w := fun a ha => by
  subst hl
  exact wp_region_held (S := S) hm (h { w with drawn := w.drawn + 1 } (hS.grow ⟨rfl, rfl, rfl, Nat.le_refl _, fun _ _ _ => rfl⟩) a ha)
theorem a_done (hr : Region.ready .any ops li = []) (h : WQ Q .normal n ds E w) : WA P ops Q S fuel li n ds E w := fun a ha => wpAnyH_done hr (h a ha) fuel
theorem a_take (i : Nat) {v : Value} (hT : TabOk P T) (hi : ops[i]? = some ⟨some d, op, ty, pos, after, none⟩) (hs : Region.noSelect ops = true) (hf : Region.free .any ops li i = true) (hr : (Region.ready .any ops li).contains i = true)
    (hQ : ∀ c (a : Act) w, Q (.panic c) (a.put (some d) v) w → Q (.panic c) a w) (hS : S w) (hv : pureOp T E op = some v) (hd : Nat.blt d n = true) (k : WA P ops Q S fuel (li.setIfInBounds i true) n ds ((d, v) :: E) w) : WA P ops Q S (fuel + 1) li n ds E w := fun a ha =>
  wpAnyH_take hi hs hf hr hQ (Or.inl ⟨rfl, fun w _ => pureOp_runs hT ha hv w⟩) hS (k _ (ha.put d v hd))
theorem a_takeL (i : Nat) {t : TypeId} {x : Operand} {p : Addr} {v : Value} (hi : ops[i]? = some ⟨some d, .load t x, ty, pos, after, none⟩) (hs : Region.noSelect ops = true) (hf : Region.free .any ops li i = true) (hr : (Region.ready .any ops li).contains i = true)
    (hQ : ∀ c (a : Act) w, Q (.panic c) (a.put (some d) v) w → Q (.panic c) a w) (hS : S w) (hx : E.ev x = some (.pointer (some p))) (hl : ∀ w, S w → Loads P t p v w) (hd : Nat.blt d n = true) (k : WA P ops Q S fuel (li.setIfInBounds i true) n ds ((d, v) :: E) w) : WA P ops Q S (fuel + 1) li n ds E w := fun a ha =>
  wpAnyH_take hi hs hf hr hQ (Or.inl ⟨rfl, fun w hw => by
    have h := hl w hw
    unfold Loads at h
    simp only [execOp, ha.ev hx, Instr.loadAt, Instr.sureAddr, Sem.run_bind, Sem.run_pure, Result.andThen_ok, h]⟩) hS (k _ (ha.put d v hd))
theorem a_one {i : Nat} (hr : Region.ready .any ops li = [i]) (h : WO P ops Q S fuel li n ds E w i) : WA P ops Q S (fuel + 1) li n ds E w := fun a ha =>
  wpAnyH_all hr (by simp) (fun j hj => by
    have : j = i := by simpa using hj
    subst this
    exact h a ha)
theorem a_two {i j : Nat} (hr : Region.ready .any ops li = [i, j]) (h1 : WO P ops Q S fuel li n ds E w i) (h2 : WO P ops Q S fuel li n ds E w j) : WA P ops Q S (fuel + 1) li n ds E w := fun a ha =>
  wpAnyH_all hr (by simp) (fun k hk => by
    have : k = i ∨ k = j := by simpa using hk
    rcases this with rfl | rfl
    · exact h1 a ha
    · exact h2 a ha)
theorem o_gets {i : Nat} {Φ : Value → World → Prop} (hi : ops[i]? = some ⟨some d, op, ty, pos, after, none⟩) (h : Gets P ⟨some d, op, ty, pos, after, none⟩ n ds E w Φ) (hd : Nat.blt d n = true) (k : ∀ v w', Φ v w' → S w' ∧ WA P ops Q S fuel (li.setIfInBounds i true) n ds ((d, v) :: E) w') : WO P ops Q S fuel li n ds E w i := fun a ha => by
  unfold wpOp
  simp only [hi]
  rw [if_pos (show Region.wanted _ _ = true from rfl)]
  exact Or.inl (h a ha _ _ fun v w' hv => ⟨(k v w' hv).1, (k v w' hv).2 _ (ha.put d v hd)⟩)
theorem o_gets0 {i : Nat} {Φ : Value → World → Prop} (hi : ops[i]? = some ⟨none, op, ty, pos, after, none⟩) (h : Gets P ⟨none, op, ty, pos, after, none⟩ n ds E w Φ) (k : ∀ v w', Φ v w' → S w' ∧ WA P ops Q S fuel (li.setIfInBounds i true) n ds E w') : WO P ops Q S fuel li n ds E w i := fun a ha => by
  unfold wpOp
  simp only [hi]
  rw [if_pos (show Region.wanted _ _ = true from rfl)]
  exact Or.inl (h a ha _ _ fun v w' hv => ⟨(k v w' hv).1, (k v w' hv).2 _ ha⟩)
end
end Go.Proofs.Ytejnpppejalhfab
/- THE STEP CALCULUS, part 15: calls that may panic; panics of the text's own; slices of strings. -/
namespace Go.Proofs.Ytejnpppejalhfab
open Go.RowKit Go.Sort

/-- a call that returns, Φ, or panics with the chain c, Ψ -/
def RP (c : List PanicEntry) (Φ : Value → World → Prop) (Ψ : World → Prop) (e : Ending) (w' : World) : Prop := (∃ v, e = .returned v ∧ Φ v w') ∨ (e = .panicked c ∧ Ψ w')
structure FnP (P : Program) (f : FuncId) (args : List Value) (w : World) (c : List PanicEntry) (Φ : Value → World → Prop) (Ψ : World → Prop) : Prop where
  ok : ∃ fn, CallOk P f fn
  calls : Calls P f args.toArray w (RP c Φ Ψ)
section
variable {P : Program} {n : Nat} {ds : List Deferred} {E : Fr} {w : World} {Q : Exit → Act → World → Prop} {ops : Array Oper} {rest : List Oper} {d : Nat} {dst : Option Nat} {op : Op} {ty : TypeId} {pos : String} {after : Array Edge} {T : Tab} {c : List PanicEntry}
theorem FnP.mono {f : FuncId} {args : List Value} {Φ Φ' : Value → World → Prop} {Ψ Ψ' : World → Prop} (h : FnP P f args w c Φ Ψ) (h1 : ∀ v w', Φ v w' → Φ' v w') (h2 : ∀ w', Ψ w' → Ψ' w') : FnP P f args w c Φ' Ψ' :=
  ⟨h.ok, h.calls.mono fun _ _ h => by
    rcases h with ⟨v, e, hv⟩ | ⟨e, hw⟩
    · exact Or.inl ⟨v, e, h1 v _ hv⟩
    · exact Or.inr ⟨e, h2 _ hw⟩⟩
end
section
variable {P : Program} {n : Nat} {E : Fr} {w : World} {c : List PanicEntry} {fn : Func} {Φ : Value → World → Prop} {Ψ : World → Prop} {v v1 v2 : Value}
end
end Go.Proofs.Ytejnpppejalhfab
/- THE STEP CALCULUS, part 16: slices of strings; deferred closures; a panic that is caught. -/
namespace Go.Proofs.Ytejnpppejalhfab
open Go.RowKit Go.Sort

section
variable {P : Program} {n : Nat} {ds : List Deferred} {E : Fr} {w : World} {Q : Exit → Act → World → Prop} {ops : Array Oper} {rest : List Oper} {d : Nat} {dst : Option Nat} {op : Op} {ty : TypeId} {pos : String} {after : Array Edge} {T : Tab}
theorem str_extract (l : List UInt8) (a b : Nat) : (⟨l.toArray⟩ : ByteArray).extract a b = ⟨((l.drop a).take (b - a)).toArray⟩ := ByteArray.extract_mk l a b
theorem r_strFrom (hT : TabOk P T) {t sz : Nat} {z : Value} {x lo : Operand} {kk : IntKind} {l : List UInt8} {i : Int} (ht : T.get t = some (.sc .string sz z)) (hx : E.ev x = some (.string ⟨l.toArray⟩)) (hlo : E.ev lo = some (.int kk i)) (h0 : 0 ≤ i) (h1 : i ≤ l.length) : ∀ a, Has n ds a E → ∀ dst, Runs P ⟨dst, .slice t x (some lo) none none, ty, pos, after, none⟩ a (.string ⟨(l.drop i.toNat).toArray⟩) := fun a ha _ w => by
  obtain ⟨_, hu, _⟩ := hT.sc ht
  have hs : (⟨l.toArray⟩ : ByteArray).size = l.length := rfl
  simp only [execOp, ha.ev hx, Option.map_some, ha.ev hlo, Option.map_none]
  simp only [Sem.run_bind, run_sliceAt_string w t _ _ _ _ hu, run_slice_string_l w t ⟨l.toArray⟩ hu kk i h0 (by rw [hs]; exact h1), Result.andThen_ok, Sem.run_pure, str_extract, hs]
  rw [List.take_of_length_le (by simp)]
theorem r_strTo (hT : TabOk P T) {t sz : Nat} {z : Value} {x hi : Operand} {kk : IntKind} {l : List UInt8} {j : Int} (ht : T.get t = some (.sc .string sz z)) (hx : E.ev x = some (.string ⟨l.toArray⟩)) (hhi : E.ev hi = some (.int kk j)) (h0 : 0 ≤ j) (h1 : j ≤ l.length) : ∀ a, Has n ds a E → ∀ dst, Runs P ⟨dst, .slice t x none (some hi) none, ty, pos, after, none⟩ a (.string ⟨(l.take j.toNat).toArray⟩) := fun a ha _ w => by
  obtain ⟨_, hu, _⟩ := hT.sc ht
  have hs : (⟨l.toArray⟩ : ByteArray).size = l.length := rfl
  simp only [execOp, ha.ev hx, Option.map_some, ha.ev hhi, Option.map_none]
  simp only [Sem.run_bind, run_sliceAt_string w t _ _ _ _ hu, run_slice_string_h w t ⟨l.toArray⟩ hu kk j h0 (by rw [hs]; exact h1), Result.andThen_ok, Sem.run_pure, str_extract, List.drop_zero, Nat.sub_zero]
theorem l_strFrom (hT : TabOk P T) {t sz : Nat} {z : Value} {x lo : Operand} {kk : IntKind} {l : List UInt8} {i : Int} (ht : T.get t = some (.sc .string sz z)) (hx : E.ev x = some (.string ⟨l.toArray⟩)) (hlo : E.ev lo = some (.int kk i)) (h0 : 0 ≤ i) (h1 : i ≤ l.length) (hd : Nat.blt d n = true) (k : WL P ops Q rest n ds ((d, .string ⟨(l.drop i.toNat).toArray⟩) :: E) w) : WL P ops Q (⟨some d, .slice t x (some lo) none none, ty, pos, after, none⟩ :: rest) n ds E w := l_runs (fun a ha => r_strFrom hT ht hx hlo h0 h1 a ha _) hd k
end
/-! a function that defers one closure -/
section
variable {P : Program} {n : Nat} {E : Fr} {w : World} {fn : Func} {Φ : Value → World → Prop}
end
end Go.Proofs.Ytejnpppejalhfab
/- THE STEP CALCULUS, part 17: regions that draw their order: loads taken first, of cells that stay as they are till the operation q is carried out (which waits for them). -/
namespace Go.Proofs.Ytejnpppejalhfab
open Go.RowKit Go.Sort

section
variable {P : Program} {ops : Array Oper} {Q : Exit → Act → World → Prop} {S : World → Prop} {q : Nat}
/-- whatever order comes; S holds till q has come up -/
def wpTill (P : Program) (ops : Array Oper) (Q : Exit → Act → World → Prop) (S : World → Prop) (q : Nat) : Nat → Array Bool → Act → World → Prop
  | 0, li, a, w => Region.ready .any ops li = [] ∧ Q .normal a w
  | fuel + 1, li, a, w => (Region.ready .any ops li = [] → Q .normal a w) ∧ ∀ i ∈ Region.ready .any ops li, wpOp P ops Q i (fun a' w' => (i = q ∨ li.getD q false = true ∨ S w') ∧ wpTill P ops Q S q fuel (li.setIfInBounds i true) a' w') a w
theorem till_any : ∀ (fuel : Nat) (li : Array Bool) (a : Act) (w : World), wpTill P ops Q S q fuel li a w → wpAny P .any ops Q fuel li a w
  | 0, _, _, _, h => h
  | fuel + 1, _, _, _, h => ⟨h.1, fun i hi => wpOp_mono (fun a' w' h' => till_any fuel _ a' w' h'.2) (h.2 i hi)⟩
theorem till_first {i : Nat} {oi oq : Oper} {v : Value} (hi : ops[i]? = some oi) (hsel : ∀ (j : Nat) (o : Oper) cs b, ops[j]? = some o → o.op ≠ .select cs b)
    (hQ : ∀ c a w, Q (.panic c) (a.put oi.dst v) w → Q (.panic c) a w) (hoq : ops[q]? = some oq) (hq : ∃ e ∈ oq.after, Region.binds .any e = true ∧ e.on = i) (hqi : q ≠ i) :
    ∀ (fuel : Nat) (li : Array Bool) (a : Act) (w : World),
      (∀ j oj, ops[j]? = some oj → j ≠ i → li.getD j true = false → (∀ e ∈ oj.after, Region.binds .any e = true → e.on ≠ i) → oi.apart ops oj = true) →
      i ∈ Region.ready .any ops li → li.getD q false = false → YieldsIf P ops S oi v a → S w →
      wpTill P ops Q S q fuel (li.setIfInBounds i true) (a.put oi.dst v) w → wpTill P ops Q S q (fuel + 1) li a w := by
  intro fuel
  have step : ∀ (li : Array Bool) (j : Nat), i ∈ Region.ready .any ops li → j ∈ Region.ready .any ops li → ∀ oj, ops[j]? = some oj → ∀ e ∈ oj.after, Region.binds .any e = true → e.on ≠ i := by
    intro li j hr hj oj hoj e he hb heq
    obtain ⟨_, o, ho, hall⟩ := mem_ready.1 hj
    rw [hoj] at ho
    cases ho
    have h1 := hall e he hb
    have h0 := (mem_ready.1 hr).1
    rw [heq] at h1
    rcases Nat.lt_or_ge i li.size with h' | h'
    · simp [h'] at h0 h1; rw [h0] at h1; cases h1
    · simp [Array.getElem?_eq_none h'] at h1
  have notq : ∀ (li : Array Bool) (j : Nat), i ∈ Region.ready .any ops li → j ∈ Region.ready .any ops li → j ≠ q := by
    rintro li j hr hj rfl
    obtain ⟨e, he, hb, heq⟩ := hq
    exact step li _ hr hj oq hoq e he hb heq
  induction fuel with
  | zero =>
    intro li a w _ hr hnq hy hS H
    refine ⟨fun h => (by rw [h] at hr; cases hr), fun j hj => ?_⟩
    by_cases hji : j = i
    · subst hji; exact hy.wpOp hi hS ⟨Or.inr (Or.inr hS), H⟩
    · have := ready_mono hj hji
      rw [H.1] at this
      cases this
  | succ fuel ih =>
    intro li a w hfree hr hnq hy hS H
    refine ⟨fun h => (by rw [h] at hr; cases hr), fun j hj => ?_⟩
    by_cases hji : j = i
    · subst hji; exact hy.wpOp hi hS ⟨Or.inr (Or.inr hS), H⟩
    · have hjq := notq li j hr hj
      have h1 := H.2 j (ready_mono hj hji)
      obtain ⟨hjun, oj, hoj, _⟩ := mem_ready.1 hj
      have h2 := wpOp_putIf hoj (hfree j oj hoj hji hjun (step li j hr hj oj hoj)) (fun cs b => hsel i oi cs b hi) (fun cs b => hsel j oj cs b hoj) hQ hy h1
      have hfree' : ∀ k ok, ops[k]? = some ok → k ≠ i → (li.setIfInBounds j true).getD k true = false →
          (∀ e ∈ ok.after, Region.binds .any e = true → e.on ≠ i) → oi.apart ops ok = true := fun k ok hk hki hun hno => by
        refine hfree k ok hk hki ?_ hno
        by_cases hjk : j = k
        · subst hjk; exact hjun
        · rw [getD_set_ne true hjk] at hun; exact hun
      have hnq' : (li.setIfInBounds j true).getD q false = false := by rw [getD_set_ne false hjq]; exact hnq
      have hnq2 : (li.setIfInBounds i true).getD q false = false := by rw [getD_set_ne false (Ne.symm hqi)]; exact hnq
      refine wpOp_mono (fun a' w' h3 => ?_) h2
      have hS' : S w' := by
        rcases h3.2.1 with h | h | h
        · exact (hjq h).elim
        · rw [hnq2] at h; cases h
        · exact h
      refine ⟨Or.inr (Or.inr hS'), ih (li.setIfInBounds j true) a' w' hfree' (ready_mono hr (Ne.symm hji)) hnq' h3.1 hS' ?_⟩
      rw [Array.setIfInBounds_comm _ _ hji]
      exact h3.2.2
/-- .. that yields in whatever world: nothing need wait for it -/
theorem till_pure {i : Nat} {oi : Oper} {v : Value} (hi : ops[i]? = some oi) (hsel : ∀ (j : Nat) (o : Oper) cs b, ops[j]? = some o → o.op ≠ .select cs b)
    (hQ : ∀ c a w, Q (.panic c) (a.put oi.dst v) w → Q (.panic c) a w) (hqi : q ≠ i) :
    ∀ (fuel : Nat) (li : Array Bool) (a : Act) (w : World),
      (∀ j oj, ops[j]? = some oj → j ≠ i → li.getD j true = false → (∀ e ∈ oj.after, Region.binds .any e = true → e.on ≠ i) → oi.apart ops oj = true) →
      i ∈ Region.ready .any ops li → (li.getD q false = true ∨ S w) → YieldsIf P ops (fun _ => True) oi v a →
      wpTill P ops Q S q fuel (li.setIfInBounds i true) (a.put oi.dst v) w → wpTill P ops Q S q (fuel + 1) li a w := by
  intro fuel
  have step : ∀ (li : Array Bool) (j : Nat), i ∈ Region.ready .any ops li → j ∈ Region.ready .any ops li → ∀ oj, ops[j]? = some oj → ∀ e ∈ oj.after, Region.binds .any e = true → e.on ≠ i := by
    intro li j hr hj oj hoj e he hb heq
    obtain ⟨_, o, ho, hall⟩ := mem_ready.1 hj
    rw [hoj] at ho
    cases ho
    have h1 := hall e he hb
    have h0 := (mem_ready.1 hr).1
    rw [heq] at h1
    rcases Nat.lt_or_ge i li.size with h' | h'
    · simp [h'] at h0 h1; rw [h0] at h1; cases h1
    · simp [Array.getElem?_eq_none h'] at h1
  induction fuel with
  | zero =>
    intro li a w _ hr hS hy H
    refine ⟨fun h => (by rw [h] at hr; cases hr), fun j hj => ?_⟩
    by_cases hji : j = i
    · subst hji; exact hy.wpOp hi trivial ⟨Or.inr hS, H⟩
    · have := ready_mono hj hji
      rw [H.1] at this
      cases this
  | succ fuel ih =>
    intro li a w hfree hr hS hy H
    refine ⟨fun h => (by rw [h] at hr; cases hr), fun j hj => ?_⟩
    by_cases hji : j = i
    · subst hji; exact hy.wpOp hi trivial ⟨Or.inr hS, H⟩
    · have h1 := H.2 j (ready_mono hj hji)
      obtain ⟨hjun, oj, hoj, _⟩ := mem_ready.1 hj
      have h2 := wpOp_putIf hoj (hfree j oj hoj hji hjun (step li j hr hj oj hoj)) (fun cs b => hsel i oi cs b hi) (fun cs b => hsel j oj cs b hoj) hQ hy h1
      have hfree' : ∀ k ok, ops[k]? = some ok → k ≠ i → (li.setIfInBounds j true).getD k true = false →
          (∀ e ∈ ok.after, Region.binds .any e = true → e.on ≠ i) → oi.apart ops ok = true := fun k ok hk hki hun hno => by
        refine hfree k ok hk hki ?_ hno
        by_cases hjk : j = k
        · subst hjk; exact hjun
        · rw [getD_set_ne true hjk] at hun; exact hun
      refine wpOp_mono (fun a' w' h3 => ?_) h2
      have hS' : j = q ∨ li.getD q false = true ∨ S w' := by
        rcases h3.2.1 with h | h | h
        · exact Or.inl h
        · rw [getD_set_ne false (Ne.symm hqi)] at h; exact Or.inr (Or.inl h)
        · exact Or.inr (Or.inr h)
      have hS2 : (li.setIfInBounds j true).getD q false = true ∨ S w' := by
        rcases hS' with h | h | h
        · left
          subst h
          have hjl : j < li.size := by
            rcases Nat.lt_or_ge j li.size with h' | h'
            · exact h'
            · simp [Array.getElem?_eq_none h'] at hjun
          simp [hjl]
        · exact Or.inl (getD_set_true h)
        · exact Or.inr h
      refine ⟨hS', ih (li.setIfInBounds j true) a' w' hfree' (ready_mono hr (Ne.symm hji)) hS2 h3.1 ?_⟩
      rw [Array.setIfInBounds_comm _ _ hji]
      exact h3.2.2
end
section
variable {P : Program} {n : Nat} {ds : List Deferred} {E : Fr} {w : World} {Q : Exit → Act → World → Prop} {ops : Array Oper} {S : World → Prop} {q fuel : Nat} {li : Array Bool} {d : Nat} {op : Op} {ty : TypeId} {pos : String} {after : Array Edge} {F : Nat → Prop} {w0 : World} {Γ : List Asr} {T : Tab} {c : List PanicEntry}
def WT (P : Program) (ops : Array Oper) (Q : Exit → Act → World → Prop) (S : World → Prop) (q fuel : Nat) (li : Array Bool) (n : Nat) (ds : List Deferred) (E : Fr) (w : World) : Prop := ∀ a, Has n ds a E → wpTill P ops Q S q fuel li a w
def WP (P : Program) (ops : Array Oper) (Q : Exit → Act → World → Prop) (S : World → Prop) (q fuel : Nat) (li : Array Bool) (n : Nat) (ds : List Deferred) (E : Fr) (w : World) (i : Nat) : Prop := ∀ a, Has n ds a E → wpOp P ops Q i (fun a' w' => (i = q ∨ li.getD q false = true ∨ S w') ∧ wpTill P ops Q S q fuel (li.setIfInBounds i true) a' w') a w
theorem c_till (S : World → Prop) (q : Nat) {id : Nat} {l : List Oper} (m : Nat) (hl : l.length = m) (hS : St F w0 w Γ) (hm : P.follows .mixedOrders = true) (h : ∀ w1, St F w0 w1 Γ → WT P l.toArray Q S q m (Array.replicate m false) n ds E w1) : WC P (.region id l.toArray true) Q n ds E w := fun a ha => by
  subst hl
  exact wp_region_any hm (till_any _ _ _ _ (h { w with drawn := w.drawn + 1 } (hS.grow ⟨rfl, rfl, rfl, Nat.le_refl _, fun _ _ _ => rfl⟩) a ha))
/-- 'q waits for i', as the kernel reckons it -/
def waitsB (ops : Array Oper) (q i : Nat) : Bool := match ops[q]? with
  | some o => o.after.toList.any (fun e => Region.binds .any e && Nat.beq e.on i)
  | none => false
theorem waits_of {q i : Nat} (h : waitsB ops q i = true) : ∃ oq, ops[q]? = some oq ∧ ∃ e ∈ oq.after, Region.binds .any e = true ∧ e.on = i := by
  unfold waitsB at h
  split at h
  · rename_i o ho
    obtain ⟨e, he, h2⟩ := List.any_eq_true.1 h
    simp only [Bool.and_eq_true] at h2
    exact ⟨o, ho, e, by simpa using he, h2.1, Nat.eq_of_beq_eq_true h2.2⟩
  · cases h
theorem t_takeL (i : Nat) {t : TypeId} {x : Operand} {p : Addr} {v : Value} (hi : ops[i]? = some ⟨some d, .load t x, ty, pos, after, none⟩) (hs : Region.noSelect ops = true) (hf : Region.free .any ops li i = true) (hr : (Region.ready .any ops li).contains i = true) (hw : waitsB ops q i = true) (hqi : Nat.beq q i = false) (hnq : li.getD q false = false)
    (hQ : ∀ c (a : Act) w, Q (.panic c) (a.put (some d) v) w → Q (.panic c) a w) (hS : S w) (hx : E.ev x = some (.pointer (some p))) (hl : ∀ w, S w → Loads P t p v w) (hd : Nat.blt d n = true) (k : WT P ops Q S q fuel (li.setIfInBounds i true) n ds ((d, v) :: E) w) : WT P ops Q S q (fuel + 1) li n ds E w := fun a ha => by
  obtain ⟨oq, hoq, hq⟩ := waits_of hw
  refine till_first hi (Region.noSelect_spec hs) hQ hoq hq (fun e => by subst e; rw [Nat.beq_refl] at hqi; cases hqi) fuel li a w (Region.free_spec hi hf) (by simpa using hr) hnq (Or.inl ⟨rfl, fun w hw => ?_⟩) hS (k _ (ha.put d v hd))
  have h := hl w hw
  unfold Loads at h
  simp only [execOp, ha.ev hx, Instr.loadAt, Instr.sureAddr, Sem.run_bind, Sem.run_pure, Result.andThen_ok, h]
theorem t_pure (i : Nat) {v : Value} (hT : TabOk P T) (hi : ops[i]? = some ⟨some d, op, ty, pos, after, none⟩) (hs : Region.noSelect ops = true) (hf : Region.free .any ops li i = true) (hr : (Region.ready .any ops li).contains i = true) (hqi : Nat.beq q i = false)
    (hQ : ∀ c (a : Act) w, Q (.panic c) (a.put (some d) v) w → Q (.panic c) a w) (hS : li.getD q false = true ∨ S w) (hv : pureOp T E op = some v) (hd : Nat.blt d n = true) (k : WT P ops Q S q fuel (li.setIfInBounds i true) n ds ((d, v) :: E) w) : WT P ops Q S q (fuel + 1) li n ds E w := fun a ha =>
  till_pure hi (Region.noSelect_spec hs) hQ (fun e => by subst e; rw [Nat.beq_refl] at hqi; cases hqi) fuel li a w (Region.free_spec hi hf) (by simpa using hr) hS (Or.inl ⟨rfl, fun w _ => pureOp_runs hT ha hv w⟩) (k _ (ha.put d v hd))
theorem t_one {i : Nat} (hr : Region.ready .any ops li = [i]) (h : WP P ops Q S q fuel li n ds E w i) : WT P ops Q S q (fuel + 1) li n ds E w := fun a ha =>
  ⟨fun h0 => (by rw [hr] at h0; cases h0), fun j hj => by
    rw [hr] at hj
    have : j = i := by simpa using hj
    subst this
    exact h a ha⟩
theorem t_done (hr : Region.ready .any ops li = []) (h : WQ Q .normal n ds E w) : WT P ops Q S q fuel li n ds E w := fun a ha => by
  cases fuel with
  | zero => exact ⟨hr, h a ha⟩
  | succ f => exact ⟨fun _ => h a ha, by rw [hr]; simp⟩
theorem p_gets {i : Nat} {Φ : Value → World → Prop} (hi : ops[i]? = some ⟨some d, op, ty, pos, after, none⟩) (h : Gets P ⟨some d, op, ty, pos, after, none⟩ n ds E w Φ) (hd : Nat.blt d n = true) (k : ∀ v w', Φ v w' → (i = q ∨ li.getD q false = true ∨ S w') ∧ WT P ops Q S q fuel (li.setIfInBounds i true) n ds ((d, v) :: E) w') : WP P ops Q S q fuel li n ds E w i := fun a ha => by
  unfold wpOp
  simp only [hi]
  rw [if_pos (show Region.wanted _ _ = true from rfl)]
  exact Or.inl (h a ha _ _ fun v w' hv => ⟨(k v w' hv).1, (k v w' hv).2 _ (ha.put d v hd)⟩)
theorem p_gets0 {i : Nat} {Φ : Value → World → Prop} (hi : ops[i]? = some ⟨none, op, ty, pos, after, none⟩) (h : Gets P ⟨none, op, ty, pos, after, none⟩ n ds E w Φ) (k : ∀ v w', Φ v w' → (i = q ∨ li.getD q false = true ∨ S w') ∧ WT P ops Q S q fuel (li.setIfInBounds i true) n ds E w') : WP P ops Q S q fuel li n ds E w i := fun a ha => by
  unfold wpOp
  simp only [hi]
  rw [if_pos (show Region.wanted _ _ = true from rfl)]
  exact Or.inl (h a ha _ _ fun v w' hv => ⟨(k v w' hv).1, (k v w' hv).2 _ ha⟩)
end
end Go.Proofs.Ytejnpppejalhfab
/- THE STEP CALCULUS, part 18: interfaces' values; small rules. -/
namespace Go.Proofs.Ytejnpppejalhfab
open Go.RowKit Go.Sort

section
variable {P : Program} {n : Nat} {ds : List Deferred} {E : Fr} {w : World} {Q : Exit → Act → World → Prop} {ops : Array Oper} {rest : List Oper} {d : Nat} {dst : Option Nat} {op : Op} {ty : TypeId} {pos : String} {after : Array Edge} {T : Tab}
end
section
variable {P : Program} {n : Nat} {ds : List Deferred} {E : Fr} {w : World} {Q : Exit → Act → World → Prop} {ops : Array Oper} {S : World → Prop} {q fuel : Nat} {li : Array Bool} {d : Nat} {op : Op} {ty : TypeId} {pos : String} {after : Array Edge} {T : Tab}
theorem p_build {i : Nat} (hT : TabOk P T) {t s : Nat} {fs : List (Nat × Nat × Bool)} {z L : List Value} {parts : Array (Nat × Operand)} {ps : List (Nat × Value)} (hi : ops[i]? = some ⟨some d, .build t parts, ty, pos, after, none⟩) (ht : T.get t = some (.st s fs z)) (hp : evP E parts.toList = some ps) (hL : fillL (fun i => (fs[i]?).map fun f => (f.1, f.2.1)) z ps = some L) (hd : Nat.blt d n = true)
    (k : (i = q ∨ li.getD q false = true ∨ S w) ∧ WT P ops Q S q fuel (li.setIfInBounds i true) n ds ((d, .agg L.toArray) :: E) w) : WP P ops Q S q fuel li n ds E w i :=
  p_gets hi (Gets.of_runs (fun _ ha => r_build hT ht hp hL _ ha)) hd (by rintro _ _ ⟨rfl, rfl⟩; exact k)
theorem Gets.pure {dst : Option Nat} {op : Op} {v : Value} (hT : TabOk P T) (hv : pureOp T E op = some v) : Gets P ⟨dst, op, ty, pos, after, none⟩ n ds E w (fun v' w' => v' = v ∧ w' = w) := Gets.of_runs fun _ ha => pureOp_runs hT ha hv
theorem Gets.build {dst : Option Nat} (hT : TabOk P T) {t s : Nat} {fs : List (Nat × Nat × Bool)} {z L : List Value} {parts : Array (Nat × Operand)} {ps : List (Nat × Value)} (ht : T.get t = some (.st s fs z)) (hp : evP E parts.toList = some ps) (hL : fillL (fun i => (fs[i]?).map fun f => (f.1, f.2.1)) z ps = some L) : Gets P ⟨dst, .build t parts, ty, pos, after, none⟩ n ds E w (fun v' w' => v' = .agg L.toArray ∧ w' = w) := Gets.of_runs fun _ ha => r_build hT ht hp hL _ ha
end
theorem Sl.nil0 (w : World) (sz : Nat) : Sl nF w sz (.slice none 0 0) [] := Or.inl ⟨_, _, rfl, rfl⟩
theorem holdC {w : World} {g k : Nat} {L : List Value} {v : Value} (h : Asr.holds w (.blk g L)) (hk : L[k]? = some v) : w.cell? ⟨g, k, none⟩ = some v := by rw [HoldL.cell h]; exact hk
/-! what is one's own, in another order; some of it forgotten -/
section
variable {F : Nat → Prop} {w0 w w' : World} {Γ Δ : List Asr}
def pickL {α : Type} (l : List α) : List Nat → Option (List α)
  | [] => some []
  | i :: r => match l[i]?, pickL l r with
    | some x, some xs => some (x :: xs)
    | _, _ => none
theorem pickL_at {α : Type} {l : List α} : ∀ {is : List Nat} {xs : List α}, pickL l is = some xs → ∀ (k : Nat) (x : α), xs[k]? = some x → ∃ i, is[k]? = some i ∧ l[i]? = some x := by
  intro is
  induction is with
  | nil => intro xs h k x hx; cases h; simp at hx
  | cons i r ih =>
    intro xs h k x hx
    unfold pickL at h
    split at h
    · rename_i y ys h1 h2
      cases h
      cases k with
      | zero => simp at hx; subst hx; exact ⟨i, rfl, h1⟩
      | succ k => simpa using ih h2 k x (by simpa using hx)
    · cases h
theorem St.reorder (is : List Nat) (h : St F w0 w Γ) (hn : is.Nodup) (hp : pickL Γ is = some Δ) : St F w0 w Δ := by
  have hmem : ∀ A ∈ Δ, A ∈ Γ := fun A hA => by
    obtain ⟨k, hk⟩ := List.mem_iff_getElem?.1 hA
    obtain ⟨i, _, hi⟩ := pickL_at hp k A hk
    exact List.mem_of_getElem? hi
  refine ⟨h.os, h.tape, h.output, h.size, h.base, fun A hA => h.holds A (hmem A hA), fun A hA => h.own A (hmem A hA), ?_⟩
  rw [List.pairwise_iff_getElem]
  intro j k hj hk hlt
  obtain ⟨a, ha, ha2⟩ := pickL_at hp j _ (List.getElem?_eq_getElem hj)
  obtain ⟨b, hb, hb2⟩ := pickL_at hp k _ (List.getElem?_eq_getElem hk)
  refine apart_at h.apart ha2 hb2 (fun e => ?_)
  subst e
  obtain ⟨h1, h2⟩ := List.getElem?_eq_some_iff.1 ha
  obtain ⟨h3, h4⟩ := List.getElem?_eq_some_iff.1 hb
  have := List.pairwise_iff_getElem.1 hn j k h1 h3 hlt
  exact this (h2.trans h4.symm)
end
end Go.Proofs.Ytejnpppejalhfab
/- THE STEP CALCULUS, part 19: 'and' of numbers. -/
namespace Go.Proofs.Ytejnpppejalhfab
open Go.RowKit Go.Sort
section
variable {P : Program} {n : Nat} {ds : List Deferred} {E : Fr} {w : World} {Q : Exit → Act → World → Prop} {ops : Array Oper} {rest : List Oper} {d : Nat} {ty : TypeId} {pos : String} {after : Array Edge}
theorem c_heldS {F : Nat → Prop} {w0 : World} {Γ : List Asr} {id : Nat} {l : List Oper} (m : Nat) (hl : l.length = m) (hS : St F w0 w Γ) (hm : P.follows .mixedOrders = true) (h : ∀ w1, St F w0 w1 Γ → WA P l.toArray Q (fun w' => St F w0 w' Γ) m (Array.replicate m false) n ds E w1) : WC P (.region id l.toArray true) Q n ds E w := c_held _ m hl hS hm h
theorem a_takeR (i : Nat) {S : World → Prop} {fuel : Nat} {li : Array Bool} {op : Op} {v : Value} (hi : ops[i]? = some ⟨some d, op, ty, pos, after, none⟩) (hs : Region.noSelect ops = true) (hf : Region.free .any ops li i = true) (hr : (Region.ready .any ops li).contains i = true)
    (hQ : ∀ c (a : Act) w, Q (.panic c) (a.put (some d) v) w → Q (.panic c) a w) (hS : S w) (h : ∀ a, Has n ds a E → Runs P ⟨some d, op, ty, pos, after, none⟩ a v) (hd : Nat.blt d n = true) (k : WA P ops Q S fuel (li.setIfInBounds i true) n ds ((d, v) :: E) w) : WA P ops Q S (fuel + 1) li n ds E w := fun a ha =>
  wpAnyH_take hi hs hf hr hQ (Or.inl ⟨rfl, fun w _ => h a ha w⟩) hS (k _ (ha.put d v hd))
theorem a_ix (i : Nat) {T : Tab} {S : World → Prop} {fuel : Nat} {li : Array Bool} (hT : TabOk P T) {t : TypeId} {x y : Operand} {el sz eb b off m c j : Nat} {ag : Bool} {z : List Value} {ii : Int} (hi : ops[i]? = some ⟨some d, .indexAddr t x y, ty, pos, after, none⟩) (hs : Region.noSelect ops = true) (hf : Region.free .any ops li i = true) (hr : (Region.ready .any ops li).contains i = true)
    (hQ : ∀ c (a : Act) w v, Q (.panic c) (a.put (some d) v) w → Q (.panic c) a w) (hS : S w) (ht : T.get t = some (.sl el sz eb ag z)) (hx : E.ev x = some (.slice (some ⟨b, off, none⟩) m c)) (hy : E.ev y = some (.int .i64 ii)) (hj : (j : Int) = ii) (hm : j < m) (hd : Nat.blt d n = true) (k : WA P ops Q S fuel (li.setIfInBounds i true) n ds ((d, .pointer (some ⟨b, off + j * sz, none⟩)) :: E) w) : WA P ops Q S (fuel + 1) li n ds E w :=
  a_takeR i hi hs hf hr (fun c a w h => hQ c a w _ h) hS (fun a ha => r_ix hT ht hx hy hj hm a ha _) hd k
theorem r_and {t yt : TypeId} {x y : Operand} {m k : Int} (hx : E.ev x = some (.int .i64 m)) (hy : E.ev y = some (.int .i64 k)) : ∀ a, Has n ds a E → ∀ dst, Runs P ⟨dst, .binOp .and t x y yt, ty, pos, after, none⟩ a (.int .i64 (bits .and .i64 m k)) := fun a ha _ w => by
  simp only [execOp, ha.ev hx, ha.ev hy]
  simp [eqGuard, binOp, go_sem]
theorem l_and {t yt : TypeId} {x y : Operand} {m k r : Int} (hx : E.ev x = some (.int .i64 m)) (hy : E.ev y = some (.int .i64 k)) (hr : bits .and .i64 m k = r) (hd : Nat.blt d n = true) (k' : WL P ops Q rest n ds ((d, .int .i64 r) :: E) w) : WL P ops Q (⟨some d, .binOp .and t x y yt, ty, pos, after, none⟩ :: rest) n ds E w := l_runs (fun a ha => hr ▸ r_and hx hy a ha _) hd k'
theorem r_or {t yt : TypeId} {x y : Operand} {m k : Int} (hx : E.ev x = some (.int .i64 m)) (hy : E.ev y = some (.int .i64 k)) : ∀ a, Has n ds a E → ∀ dst, Runs P ⟨dst, .binOp .or t x y yt, ty, pos, after, none⟩ a (.int .i64 (bits .or .i64 m k)) := fun a ha _ w => by
  simp only [execOp, ha.ev hx, ha.ev hy]
  simp [eqGuard, binOp, go_sem]
theorem l_or {t yt : TypeId} {x y : Operand} {m k r : Int} (hx : E.ev x = some (.int .i64 m)) (hy : E.ev y = some (.int .i64 k)) (hr : bits .or .i64 m k = r) (hd : Nat.blt d n = true) (k' : WL P ops Q rest n ds ((d, .int .i64 r) :: E) w) : WL P ops Q (⟨some d, .binOp .or t x y yt, ty, pos, after, none⟩ :: rest) n ds E w := l_runs (fun a ha => hr ▸ r_or hx hy a ha _) hd k'
theorem tdiv_in {m k : Int} (h0 : -9223372036854775808 ≤ m) (h1 : m ≤ 9223372036854775807) (hk : 0 < k) : -9223372036854775808 ≤ m.tdiv k ∧ m.tdiv k ≤ 9223372036854775807 := by
  by_cases h : 0 ≤ m
  · rw [Int.tdiv_eq_ediv_of_nonneg h]
    have a1 := Int.ediv_nonneg h (by omega : 0 ≤ k)
    have a2 := Int.ediv_le_self k h
    omega
  · have e : m.tdiv k = -((-m).tdiv k) := by rw [Int.neg_tdiv, Int.neg_neg]
    rw [e, Int.tdiv_eq_ediv_of_nonneg (by omega)]
    have a1 := Int.ediv_nonneg (show 0 ≤ -m by omega) (by omega : 0 ≤ k)
    have a2 := Int.ediv_le_self k (show 0 ≤ -m by omega)
    omega
theorem r_quoT {t yt : TypeId} {x y : Operand} {m k : Int} (hx : E.ev x = some (.int .i64 m)) (hy : E.ev y = some (.int .i64 k)) (h0 : -9223372036854775808 ≤ m) (h1 : m ≤ 9223372036854775807) (h3 : 0 < k) : ∀ a, Has n ds a E → ∀ dst, Runs P ⟨dst, .binOp .quo t x y yt, ty, pos, after, none⟩ a (.int .i64 (m.tdiv k)) := fun a ha _ w => by
  have hk : ¬ k = 0 := by omega
  have := tdiv_in h0 h1 h3
  simp [execOp, ha.ev hx, ha.ev hy, eqGuard, binOp, Op.intDiv, hk, wrap_in this.1 this.2]
theorem l_quoT {t yt : TypeId} {x y : Operand} {m k : Int} (hx : E.ev x = some (.int .i64 m)) (hy : E.ev y = some (.int .i64 k)) (h0 : -9223372036854775808 ≤ m) (h1 : m ≤ 9223372036854775807) (h3 : 0 < k) (hd : Nat.blt d n = true) (k' : WL P ops Q rest n ds ((d, .int .i64 (m.tdiv k)) :: E) w) : WL P ops Q (⟨some d, .binOp .quo t x y yt, ty, pos, after, none⟩ :: rest) n ds E w := l_runs (fun a ha => r_quoT hx hy h0 h1 h3 a ha _) hd k'
theorem and2 {p : Int} (h0 : 0 ≤ p) (h1 : p ≤ 3) : bits .and .i64 p 2 = if 2 ≤ p then 2 else 0 := by
  have h : p = 0 ∨ p = 1 ∨ p = 2 ∨ p = 3 := by omega
  rcases h with rfl | rfl | rfl | rfl <;> decide
end
end Go.Proofs.Ytejnpppejalhfab
/- Maps that the call itself made: what they hold, as a list of keys and values; over whatever program. -/
namespace Go.Proofs.Ytejnpppejalhfab
open Go.RowKit Go.MapKept

/-- the map r holds just these, each key once -/
structure MapAt (d : TypeDesc) (w : World) (r : Nat) (L : List (Value × Value)) : Prop where
  held : ∃ es c, w.heap[r]? = some (.map es c) ∧ es.toList.map (fun e => (e.key, e.val)) = L
  keys : ∀ p ∈ L, IsKey d p.1
  once : (L.map (·.1)).Nodup

section
variable {P : Program} {d : TypeDesc} {w w' : World} {r : Nat} {L : List (Value × Value)} {T K E : TypeId} {k v : Value}

theorem MapAt.lt (h : MapAt d w r L) : r < w.heap.size := by
  obtain ⟨es, c, hb, _⟩ := h.held
  exact (Array.getElem?_eq_some_iff.1 hb).1

theorem MapAt.keep (h : MapAt d w r L) (hk : w'.heap[r]? = w.heap[r]?) : MapAt d w' r L := by
  obtain ⟨es, c, hb, hl⟩ := h.held
  exact ⟨⟨es, c, hk.trans hb, hl⟩, h.keys, h.once⟩
theorem MapAt.below {B : Nat} (h : MapAt d w r L) (hb : Below B w w') (hr : r < B) : MapAt d w' r L := h.keep (hb.block r hr)
theorem MapAt.grown (h : MapAt d w r L) (hb : Below w.heap.size w w') : MapAt d w' r L := h.below hb h.lt

theorem findNow_hit (hk : IsKey d k) : ∀ (l : List MapEntry) (i : Nat), (∀ e ∈ l, IsKey d e.key) → ((l.map (·.key)).Nodup) → (∃ e ∈ l, e.key = k ∧ e.val = v) → ∃ j, j < l.length ∧ Instr.findNow d k l i = some (some (i + j, v)) ∧ ((l[j]?).map (·.key)) = some k := by
  intro l i hl hn ⟨e, he, hek, hev⟩
  rcases findNow_spec hk l i hl with ⟨_, h2⟩ | ⟨j, e', h1, h2, h3⟩
  · exact (h2 e he hek).elim
  · have hj : j < l.length := (List.getElem?_eq_some_iff.1 h2).1
    have e' : e' = e := by
      obtain ⟨j2, hj2, hje⟩ := List.getElem_of_mem he
      have a1 : l[j] = e' := (List.getElem?_eq_some_iff.1 h2).2
      have : j = j2 := by
        have hnd := List.pairwise_iff_getElem.1 hn
        rcases Nat.lt_trichotomy j j2 with hlt | heq | hgt
        · exact (hnd j j2 (by simpa using hj) (by simpa using hj2) hlt (by simp [a1, hje, h3, hek])).elim
        · exact heq
        · exact (hnd j2 j (by simpa using hj2) (by simpa using hj) hgt (by simp [a1, hje, h3, hek])).elim
      subst this
      rw [← a1, hje]
    subst e'
    exact ⟨j, hj, by rw [h1, hev], by rw [h2]; simp [h3]⟩

theorem findNow_miss (hk : IsKey d k) (l : List MapEntry) (i : Nat) (hl : ∀ e ∈ l, IsKey d e.key) (hno : ∀ e ∈ l, e.key ≠ k) : Instr.findNow d k l i = some none := by
  rcases findNow_spec hk l i hl with ⟨h1, _⟩ | ⟨j, e, _, h2, h3⟩
  · exact h1
  · exact (hno e (List.mem_of_getElem? h2) h3).elim

theorem run_lookup_hit (ht : P.underlying T = some (.map K E)) (hd : P.underlying K = some d) (h : MapAt d w r L) (hk : IsKey d k) (hm : (k, v) ∈ L) (ok : Bool) :
    (Instr.lookup T (.map (some r)) k ok).run P w = .ok (if ok then .tuple #[v, .bool true] else v) w := by
  obtain ⟨es, c, hb, rfl⟩ := h.held
  obtain ⟨e, he, hee⟩ := List.mem_map.1 hm
  simp only [Prod.mk.injEq] at hee
  have hkeys : ∀ e ∈ es.toList, IsKey d e.key := fun e he => h.keys (e.key, e.val) (List.mem_map.2 ⟨e, he, rfl⟩)
  have hnd : (es.toList.map (·.key)).Nodup := by have := h.once; simpa [List.map_map, Function.comp_def] using this
  obtain ⟨j, _, hf, _⟩ := findNow_hit (v := v) hk es.toList 0 hkeys hnd ⟨e, he, hee.1, hee.2⟩
  have h1 := run_checkKey (P := P) (w := w) hd hk es.isEmpty 9999
  have h2 := run_findKey (P := P) (w := w) hd hf
  cases ok <;> simp [Instr.lookup, run_underlying ht, Go.MapKept.run_getObj_map hb, h1, h2, Result.andThen]

theorem run_lookup_miss (ht : P.underlying T = some (.map K E)) (hd : P.underlying K = some d) (h : MapAt d w r L) (hk : IsKey d k) (hm : ∀ v, (k, v) ∉ L) {z : Value} (hz : (zeroValue E).run P w = .ok z w) (ok : Bool) :
    (Instr.lookup T (.map (some r)) k ok).run P w = .ok (if ok then .tuple #[z, .bool false] else z) w := by
  obtain ⟨es, c, hb, rfl⟩ := h.held
  have hkeys : ∀ e ∈ es.toList, IsKey d e.key := fun e he => h.keys (e.key, e.val) (List.mem_map.2 ⟨e, he, rfl⟩)
  have hf := findNow_miss hk es.toList 0 hkeys (fun e he hek => hm e.val (List.mem_map.2 ⟨e, he, by rw [← hek]⟩))
  have h1 := run_checkKey (P := P) (w := w) hd hk es.isEmpty 9999
  have h2 := run_findKey (P := P) (w := w) hd hf
  cases ok <;> simp [Instr.lookup, run_underlying ht, Go.MapKept.run_getObj_map hb, h1, h2, hz, Result.andThen]

end
end Go.Proofs.Ytejnpppejalhfab
