/- Texts that the proof stands on, one behind the other: Sc15, Sc16, Sc17, Sc18, Sc19, Map, Sc20, Tab, Choose, Im1, Lk4. -/
import Derived.WalkLawsBesides
import Derived.Recover
import Derived.Laws.Strings2
import Derived.Laws.Strings3
import Derived.MapKept
import Derived.Test.YtejnpppejalhfabProg
import Derived.Lib.QuietBelow
import Derived.Test.YtejnpppejalhfabPLinkFills2
/- THE STEP CALCULUS, part 15: calls that may panic; panics of the text's own; slices of strings. -/
namespace Go.Proofs.Ytejnpppejalhfab
open Go.RowKit Go.Sort

/-- a call that returns, Φ, or panics with the chain c, Ψ -/
def RP (c : List PanicEntry) (Φ : Value → World → Prop) (Ψ : World → Prop) (e : Ending) (w' : World) : Prop := (∃ v, e = .returned v ∧ Φ v w') ∨ (e = .panicked c ∧ Ψ w')
structure FnP (P : Program) (f : FuncId) (args : List Value) (w : World) (c : List PanicEntry) (Φ : Value → World → Prop) (Ψ : World → Prop) : Prop where
  ok : ∃ fn, CallOk P f fn
  calls : Calls P f args.toArray w (RP c Φ Ψ)
section
variable {P : Program} {n : Nat} {ds : List Deferred} {E : Fr} {w : World} {Q : Exit → Act → World → Prop} {ops : Array Oper} {rest : List Oper} {d : Nat} {dst : Option Nat} {op : Op} {ty : TypeId} {pos : String} {after : Array Edge} {T : Tab} {c : List PanicEntry}
theorem FnP.mono {f : FuncId} {args : List Value} {Φ Φ' : Value → World → Prop} {Ψ Ψ' : World → Prop} (h : FnP P f args w c Φ Ψ) (h1 : ∀ v w', Φ v w' → Φ' v w') (h2 : ∀ w', Ψ w' → Ψ' w') : FnP P f args w c Φ' Ψ' :=
  ⟨h.ok, h.calls.mono fun _ _ h => by
    rcases h with ⟨v, e, hv⟩ | ⟨e, hw⟩
    · exact Or.inl ⟨v, e, h1 v _ hv⟩
    · exact Or.inr ⟨e, h2 _ hw⟩⟩
theorem Fn.orP {f : FuncId} {args : List Value} {Φ : Value → World → Prop} {Ψ : World → Prop} (h : Fn P f args w Φ) : FnP P f args w c Φ Ψ := ⟨h.ok, h.calls.mono fun _ _ ⟨v, e, hv⟩ => Or.inl ⟨v, e, hv⟩⟩
/-- the operation yields, or panics -/
def GetsP (P : Program) (o : Oper) (n : Nat) (ds : List Deferred) (E : Fr) (w : World) (c : List PanicEntry) (Φ : Value → World → Prop) (Ψ : World → Prop) : Prop :=
  ∀ a, Has n ds a E → ∀ (K : Act → World → Prop) (Q : Exit → Act → World → Prop), (∀ v w', Φ v w' → K (a.put o.dst v) w') → (∀ w', Ψ w' → Q (.panic c) a w') → o.wp P a w K Q
theorem l_getsP {Φ : Value → World → Prop} {Ψ : World → Prop} (hd : Nat.blt d n = true) (h : GetsP P ⟨some d, op, ty, pos, after, none⟩ n ds E w c Φ Ψ) (k : ∀ v w', Φ v w' → WL P ops Q rest n ds ((d, v) :: E) w') (kp : ∀ w', Ψ w' → WQ Q (.panic c) n ds E w') : WL P ops Q (⟨some d, op, ty, pos, after, none⟩ :: rest) n ds E w := fun a ha => by
  unfold wpList
  rw [if_pos (show Region.wanted _ _ = true from rfl)]
  exact Or.inl (h a ha _ _ (fun v w' hv => k v w' hv _ (ha.put d v hd)) (fun w' hw => kp w' hw a ha))
theorem g_callP {f : FuncId} {x : Operand} {args : Array Operand} {ats : Array TypeId} {vs : List Value} {first caps : List Value} {Φ : Value → World → Prop} {Ψ : World → Prop} (hx : E.ev x = some (.func (.func f) first.toArray caps.toArray)) (hv : E.evs args.toList = some vs) (h : FnP P f (first ++ vs ++ caps) w c Φ Ψ) :
    GetsP P ⟨dst, .call { callee := .value x, args := args, argTypes := ats }, ty, pos, after, none⟩ n ds E w c Φ Ψ := by
  intro a ha K Q k kp
  obtain ⟨⟨fn, hok⟩, hc⟩ := h
  have e1 : args.map a.eval = vs.toArray := by rw [← ha.evs hv, ← Array.toList_map, Array.toArray_toList]
  have hrun : (execOp a.eval ⟨dst, .call { callee := .value x, args := args, argTypes := ats }, ty, pos, after, none⟩).run P w = .ok (.enter f (first ++ vs ++ caps).toArray) w := by
    simp only [execOp, resolve, ha.ev hx, Deferred.ofValue, Sem.run_bind, Sem.run_pure, Result.andThen_ok, invoke, e1]
    rw [callFunc_run hok]
    simp
  unfold Oper.wp
  rw [hrun]
  refine hc.mono fun e w' h => ?_
  rcases h with ⟨v, he, hv⟩ | ⟨he, hw⟩
  · subst he; exact k v w' hv
  · subst he; exact kp w' hw
theorem l_callP {f : FuncId} {x : Operand} {args : Array Operand} {ats : Array TypeId} {vs : List Value} {first caps : List Value} {Φ : Value → World → Prop} {Ψ : World → Prop} (hx : E.ev x = some (.func (.func f) first.toArray caps.toArray)) (hv : E.evs args.toList = some vs) (h : FnP P f (first ++ vs ++ caps) w c Φ Ψ) (hd : Nat.blt d n = true) (k : ∀ v w', Φ v w' → WL P ops Q rest n ds ((d, v) :: E) w') (kp : ∀ w', Ψ w' → WQ Q (.panic c) n ds E w') :
    WL P ops Q (⟨some d, .call { callee := .value x, args := args, argTypes := ats }, ty, pos, after, none⟩ :: rest) n ds E w := l_getsP hd (g_callP hx hv h) k kp
/-- 'panic(x)', x an interface's value -/
theorem l_panic {x : Operand} {t : TypeId} {v : Value} (hx : E.ev x = some (.iface t v)) (h : WQ Q (.panic [{ v := .iface t v, recovered := false }]) n ds E w) : WL P ops Q (⟨none, .panic x, ty, pos, after, none⟩ :: rest) n ds E w := fun a ha => by
  unfold wpList
  rw [if_pos (show Region.wanted _ _ = true from rfl)]
  refine Or.inl ?_
  unfold Oper.wp
  have : (execOp a.eval ⟨none, .panic x, ty, pos, after, none⟩).run P w = .halt (.panic (.iface t v)) w := by
    simp [execOp, ha.ev hx, run_panic_iface, Result.andThen]
  rw [this]
  exact h a ha
theorem q_then_panic {N : Act → World → Prop} (h : WQ Q (.panic c) n ds E w) : WQ (Exit.then N Q) (.panic c) n ds E w := h
theorem q_block_panic {i : Nat} (h : WQ Q (.panic c) n ds E w) : WQ (Exit.inBlock i Q) (.panic c) n ds E w := h
end
section
variable {P : Program} {n : Nat} {E : Fr} {w : World} {c : List PanicEntry} {fn : Func} {Φ : Value → World → Prop} {Ψ : World → Prop} {v v1 v2 : Value}
theorem q_panicked (h : Ψ w) : WQ (bodyPost P fn (RP c Φ Ψ)) (.panic c) n [] E w := fun _ ha => ⟨ha.defers, Or.inr ⟨rfl, h⟩⟩
theorem q_rp {e : Exit} (he : e = .ret ∨ e = .normal) (h : WQ (bodyPost P fn (fun e w' => ∃ v, e = .returned v ∧ Φ v w')) e n [] E w) : WQ (bodyPost P fn (RP c Φ Ψ)) e n [] E w := fun a ha => by
  have h1 := h a ha
  rcases he with rfl | rfl
  · obtain ⟨h2, v, h3, h4⟩ := h1; exact ⟨h2, v, h3, Or.inl h4⟩
  · obtain ⟨h2, v, h3, h4⟩ := h1; exact ⟨h2, v, h3, Or.inl h4⟩
theorem q_pret0 (hr : ResL P E w fn.results.toList []) (hΦ : Φ (.tuple #[]) w) : WQ (bodyPost P fn (RP c Φ Ψ)) .ret n [] E w := q_rp (Or.inl rfl) (q_ret0 hr hΦ)
theorem q_pret1 (hr : ResL P E w fn.results.toList [v]) (hΦ : Φ v w) : WQ (bodyPost P fn (RP c Φ Ψ)) .ret n [] E w := q_rp (Or.inl rfl) (q_ret1 hr hΦ)
theorem q_pend0 (hr : ResL P E w fn.results.toList []) (hΦ : Φ (.tuple #[]) w) : WQ (bodyPost P fn (RP c Φ Ψ)) .normal n [] E w := q_rp (Or.inr rfl) (q_end0 hr hΦ)
theorem fnP_enter {f : FuncId} {c' : Code} {args : List Value} {m : Nat} (hok : CallOk P f fn) (hb : fn.body = some c') (hm : fn.ntmps = m) (hl : Nat.ble args.length m = true)
    (h : WC P c' (bodyPost P fn (RP c Φ Ψ)) m [] (argFr 0 args) w) : FnP P f args w c Φ Ψ := by
  refine ⟨⟨fn, hok⟩, calls_of_wp hok.at_ hb (h _ ⟨?_, rfl, fun t v ht => ?_⟩)⟩
  · have := Nat.le_of_ble_eq_true hl
    simp; omega
  · obtain ⟨_, h2⟩ := argFr_get ht
    have hlt := lt_of_getE h2
    rw [Nat.sub_zero] at h2 hlt
    rw [Array.getD_eq_getD_getElem?, Array.getElem?_append_left (by simpa using hlt)]
    simp [h2]
end
end Go.Proofs.Ytejnpppejalhfab
/- THE STEP CALCULUS, part 16: slices of strings; deferred closures; a panic that is caught. -/
namespace Go.Proofs.Ytejnpppejalhfab
open Go.RowKit Go.Sort

section
variable {P : Program} {n : Nat} {ds : List Deferred} {E : Fr} {w : World} {Q : Exit → Act → World → Prop} {ops : Array Oper} {rest : List Oper} {d : Nat} {dst : Option Nat} {op : Op} {ty : TypeId} {pos : String} {after : Array Edge} {T : Tab}
theorem str_extract (l : List UInt8) (a b : Nat) : (⟨l.toArray⟩ : ByteArray).extract a b = ⟨((l.drop a).take (b - a)).toArray⟩ := ByteArray.extract_mk l a b
theorem r_strFrom (hT : TabOk P T) {t sz : Nat} {z : Value} {x lo : Operand} {kk : IntKind} {l : List UInt8} {i : Int} (ht : T.get t = some (.sc .string sz z)) (hx : E.ev x = some (.string ⟨l.toArray⟩)) (hlo : E.ev lo = some (.int kk i)) (h0 : 0 ≤ i) (h1 : i ≤ l.length) : ∀ a, Has n ds a E → ∀ dst, Runs P ⟨dst, .slice t x (some lo) none none, ty, pos, after, none⟩ a (.string ⟨(l.drop i.toNat).toArray⟩) := fun a ha _ w => by
  obtain ⟨_, hu, _⟩ := hT.sc ht
  have hs : (⟨l.toArray⟩ : ByteArray).size = l.length := rfl
  simp only [execOp, ha.ev hx, Option.map_some, ha.ev hlo, Option.map_none]
  simp only [Sem.run_bind, run_sliceAt_string w t _ _ _ _ hu, run_slice_string_l w t ⟨l.toArray⟩ hu kk i h0 (by rw [hs]; exact h1), Result.andThen_ok, Sem.run_pure, str_extract, hs]
  rw [List.take_of_length_le (by simp)]
theorem r_strTo (hT : TabOk P T) {t sz : Nat} {z : Value} {x hi : Operand} {kk : IntKind} {l : List UInt8} {j : Int} (ht : T.get t = some (.sc .string sz z)) (hx : E.ev x = some (.string ⟨l.toArray⟩)) (hhi : E.ev hi = some (.int kk j)) (h0 : 0 ≤ j) (h1 : j ≤ l.length) : ∀ a, Has n ds a E → ∀ dst, Runs P ⟨dst, .slice t x none (some hi) none, ty, pos, after, none⟩ a (.string ⟨(l.take j.toNat).toArray⟩) := fun a ha _ w => by
  obtain ⟨_, hu, _⟩ := hT.sc ht
  have hs : (⟨l.toArray⟩ : ByteArray).size = l.length := rfl
  simp only [execOp, ha.ev hx, Option.map_some, ha.ev hhi, Option.map_none]
  simp only [Sem.run_bind, run_sliceAt_string w t _ _ _ _ hu, run_slice_string_h w t ⟨l.toArray⟩ hu kk j h0 (by rw [hs]; exact h1), Result.andThen_ok, Sem.run_pure, str_extract, List.drop_zero, Nat.sub_zero]
theorem r_strSub (hT : TabOk P T) {t sz : Nat} {z : Value} {x lo hi : Operand} {k1 k2 : IntKind} {l : List UInt8} {i j : Int} (ht : T.get t = some (.sc .string sz z)) (hx : E.ev x = some (.string ⟨l.toArray⟩)) (hlo : E.ev lo = some (.int k1 i)) (hhi : E.ev hi = some (.int k2 j)) (h0 : 0 ≤ i) (h1 : i ≤ j) (h2 : j ≤ l.length) : ∀ a, Has n ds a E → ∀ dst, Runs P ⟨dst, .slice t x (some lo) (some hi) none, ty, pos, after, none⟩ a (.string ⟨((l.drop i.toNat).take (j.toNat - i.toNat)).toArray⟩) := fun a ha _ w => by
  obtain ⟨_, hu, _⟩ := hT.sc ht
  have hs : (⟨l.toArray⟩ : ByteArray).size = l.length := rfl
  simp only [execOp, ha.ev hx, Option.map_some, ha.ev hlo, ha.ev hhi, Option.map_none]
  simp only [Sem.run_bind, run_sliceAt_string w t _ _ _ _ hu, run_slice_string w t ⟨l.toArray⟩ k1 k2 i j hu h0 h1 (by rw [hs]; exact h2), Result.andThen_ok, Sem.run_pure, str_extract]
theorem l_strFrom (hT : TabOk P T) {t sz : Nat} {z : Value} {x lo : Operand} {kk : IntKind} {l : List UInt8} {i : Int} (ht : T.get t = some (.sc .string sz z)) (hx : E.ev x = some (.string ⟨l.toArray⟩)) (hlo : E.ev lo = some (.int kk i)) (h0 : 0 ≤ i) (h1 : i ≤ l.length) (hd : Nat.blt d n = true) (k : WL P ops Q rest n ds ((d, .string ⟨(l.drop i.toNat).toArray⟩) :: E) w) : WL P ops Q (⟨some d, .slice t x (some lo) none none, ty, pos, after, none⟩ :: rest) n ds E w := l_runs (fun a ha => r_strFrom hT ht hx hlo h0 h1 a ha _) hd k
theorem l_strTo (hT : TabOk P T) {t sz : Nat} {z : Value} {x hi : Operand} {kk : IntKind} {l : List UInt8} {j : Int} (ht : T.get t = some (.sc .string sz z)) (hx : E.ev x = some (.string ⟨l.toArray⟩)) (hhi : E.ev hi = some (.int kk j)) (h0 : 0 ≤ j) (h1 : j ≤ l.length) (hd : Nat.blt d n = true) (k : WL P ops Q rest n ds ((d, .string ⟨(l.take j.toNat).toArray⟩) :: E) w) : WL P ops Q (⟨some d, .slice t x none (some hi) none, ty, pos, after, none⟩ :: rest) n ds E w := l_runs (fun a ha => r_strTo hT ht hx hhi h0 h1 a ha _) hd k
theorem l_strSub (hT : TabOk P T) {t sz : Nat} {z : Value} {x lo hi : Operand} {k1 k2 : IntKind} {l : List UInt8} {i j : Int} (ht : T.get t = some (.sc .string sz z)) (hx : E.ev x = some (.string ⟨l.toArray⟩)) (hlo : E.ev lo = some (.int k1 i)) (hhi : E.ev hi = some (.int k2 j)) (h0 : 0 ≤ i) (h1 : i ≤ j) (h2 : j ≤ l.length) (hd : Nat.blt d n = true) (k : WL P ops Q rest n ds ((d, .string ⟨((l.drop i.toNat).take (j.toNat - i.toNat)).toArray⟩) :: E) w) : WL P ops Q (⟨some d, .slice t x (some lo) (some hi) none, ty, pos, after, none⟩ :: rest) n ds E w := l_runs (fun a ha => r_strSub hT ht hx hlo hhi h0 h1 h2 a ha _) hd k
/-- 'defer f(..)', f a closure -/
theorem Has.defer {a : Act} (ha : Has n ds a E) (dd : Deferred) : Has n (dd :: ds) { a with defers := dd :: a.defers } E := ⟨ha.size, by rw [← ha.defers], ha.at_⟩
theorem l_defer {f : FuncId} {x : Operand} {args : Array Operand} {ats : Array TypeId} {vs : List Value} {first caps : List Value} (hx : E.ev x = some (.func (.func f) first.toArray caps.toArray)) (hv : E.evs args.toList = some vs)
    (k : WL P ops Q rest n ({ target := .fn (.func f) caps.toArray, args := (first ++ vs).toArray } :: ds) E w) : WL P ops Q (⟨none, .defer { callee := .value x, args := args, argTypes := ats }, ty, pos, after, none⟩ :: rest) n ds E w := fun a ha => by
  have e1 : args.map a.eval = vs.toArray := by rw [← ha.evs hv, ← Array.toList_map, Array.toArray_toList]
  unfold wpList
  rw [if_pos (show Region.wanted _ _ = true from rfl)]
  refine Or.inl ?_
  unfold Oper.wp
  have hr : (execOp a.eval ⟨none, .defer { callee := .value x, args := args, argTypes := ats }, ty, pos, after, none⟩).run P w = .ok (.defer { target := .fn (.func f) caps.toArray, args := (first ++ vs).toArray }) w := by
    simp only [execOp, resolve, ha.ev hx, Deferred.ofValue, Sem.run_bind, Sem.run_pure, Result.andThen_ok, e1]
    simp
  rw [hr]
  exact k _ (ha.defer _)
end
/-! a function that defers one closure -/
section
variable {P : Program} {n : Nat} {E : Fr} {w : World} {fn : Func} {Φ : Value → World → Prop}
def RV (Φ : Value → World → Prop) : Ending → World → Prop := fun e w' => ∃ v, e = .returned v ∧ Φ v w'
theorem fn_enterD {f : FuncId} {c : Code} {args : List Value} {m : Nat} (hok : CallOk P f fn) (hb : fn.body = some c) (hm : fn.ntmps = m) (hl : Nat.ble args.length m = true)
    (h : WC P c (bodyPostD P fn (RV Φ)) m [] (argFr 0 args) w) : Fn P f args w Φ := by
  refine ⟨⟨fn, hok⟩, calls_of_wp_defers hok.at_ hb (h _ ⟨?_, rfl, fun t v ht => ?_⟩)⟩
  · have := Nat.le_of_ble_eq_true hl
    simp; omega
  · obtain ⟨_, h2⟩ := argFr_get ht
    have hlt := lt_of_getE h2
    rw [Nat.sub_zero] at h2 hlt
    rw [Array.getD_eq_getD_getElem?, Array.getElem?_append_left (by simpa using hlt)]
    simp [h2]
theorem invoke_run {f : FuncId} {g : Func} (h : CallOk P f g) (caps args : Array Value) (w : World) : (invoke (.fn (.func f) caps) args).run P w = .ok (.enter f (args ++ caps)) w := by
  unfold invoke
  exact callFunc_run h _ w
/-- the closure's contract, called by a frame that returns -/
def DefR (P : Program) (f : FuncId) (args : List Value) (w : World) (Ψ : World → Prop) : Prop := (∃ g, CallOk P f g) ∧ CallsD P f args.toArray .returning w fun e u' w' => (∃ v, e = .returned v) ∧ u' = .returning ∧ Ψ w'
/-- .. by a frame that panics: the panic is caught -/
def DefP (P : Program) (f : FuncId) (args : List Value) (c : Value) (w : World) (Ψ : World → Prop) : Prop := (∃ g, CallOk P f g) ∧ CallsD P f args.toArray (.panicking [{ v := c, recovered := false }]) w fun e u' w' => (∃ v, e = .returned v) ∧ u' = .panicking [{ v := c, recovered := true }] ∧ Ψ w'
theorem results_of {rs : List ResultVar} {vs : List Value} {v : Value} {ds : List Deferred} (hrs : fn.results.toList = rs) (hr : ResL P E w rs vs) (hv : packL vs = v) {a : Act} (ha : Has n ds a E) : (results fn a.tmps).run P w = .ok v w := by
  have hb : Has n [] { a with defers := [] } E := ⟨ha.size, rfl, ha.at_⟩
  obtain ⟨_, v', h, u, e, e2⟩ := q_out (Φ := fun u _ => u = v) hrs hr hv rfl hb
  cases e
  subst e2
  exact h
theorem q_dret {f : FuncId} {args caps : Array Value} {Ψ : World → Prop} {e : Exit} (he : e = .ret ∨ e = .normal) (h : DefR P f (args ++ caps).toList w Ψ) (k : ∀ w', Ψ w' → ∃ vs v, ResL P E w' fn.results.toList vs ∧ packL vs = v ∧ Φ v w') : WQ (bodyPostD P fn (RV Φ)) e n [{ target := .fn (.func f) caps, args := args }] E w := fun a ha => by
  have key : Leaves P fn a.tmps (RV Φ) a.defers .returning w := by
    rw [ha.defers]
    obtain ⟨⟨g, hg⟩, hc⟩ := h
    refine leaves_cons (by simp) (invoke_run hg _ _ _) ?_
    rw [Array.toArray_toList] at hc
    refine hc.mono ?_
    rintro e u' w' ⟨⟨v, rfl⟩, rfl, hΨ⟩
    obtain ⟨vs, v, hr, hv, hΦ⟩ := k w' hΨ
    exact ⟨v, results_of rfl hr hv ha, v, rfl, hΦ⟩
  rcases he with rfl | rfl
  · exact key
  · exact key
theorem q_dpanic {f : FuncId} {args caps : Array Value} {c : Value} {Ψ : World → Prop} (h : DefP P f (args ++ caps).toList c w Ψ) (k : ∀ w', Ψ w' → ∃ vs v, ResL P E w' fn.results.toList vs ∧ packL vs = v ∧ Φ v w') : WQ (bodyPostD P fn (RV Φ)) (.panic [{ v := c, recovered := false }]) n [{ target := .fn (.func f) caps, args := args }] E w := fun a ha => by
  show Leaves P fn a.tmps (RV Φ) a.defers (.panicking [{ v := c, recovered := false }]) w
  rw [ha.defers]
  obtain ⟨⟨g, hg⟩, hc⟩ := h
  refine leaves_cons (by simp) (invoke_run hg _ _ _) ?_
  rw [Array.toArray_toList] at hc
  refine hc.mono ?_
  rintro e u' w' ⟨⟨v, rfl⟩, rfl, hΨ⟩
  obtain ⟨vs, v, hr, hv, hΦ⟩ := k w' hΨ
  exact ⟨v, results_of rfl hr hv ha, v, rfl, hΦ⟩
end
end Go.Proofs.Ytejnpppejalhfab
/- THE STEP CALCULUS, part 17: regions that draw their order: loads taken first, of cells that stay as they are till the operation q is carried out (which waits for them). -/
namespace Go.Proofs.Ytejnpppejalhfab
open Go.RowKit Go.Sort

section
variable {P : Program} {ops : Array Oper} {Q : Exit → Act → World → Prop} {S : World → Prop} {q : Nat}
/-- whatever order comes; S holds till q has come up -/
def wpTill (P : Program) (ops : Array Oper) (Q : Exit → Act → World → Prop) (S : World → Prop) (q : Nat) : Nat → Array Bool → Act → World → Prop
  | 0, li, a, w => Region.ready .any ops li = [] ∧ Q .normal a w
  | fuel + 1, li, a, w => (Region.ready .any ops li = [] → Q .normal a w) ∧ ∀ i ∈ Region.ready .any ops li, wpOp P ops Q i (fun a' w' => (i = q ∨ li.getD q false = true ∨ S w') ∧ wpTill P ops Q S q fuel (li.setIfInBounds i true) a' w') a w
theorem till_any : ∀ (fuel : Nat) (li : Array Bool) (a : Act) (w : World), wpTill P ops Q S q fuel li a w → wpAny P .any ops Q fuel li a w
  | 0, _, _, _, h => h
  | fuel + 1, _, _, _, h => ⟨h.1, fun i hi => wpOp_mono (fun a' w' h' => till_any fuel _ a' w' h'.2) (h.2 i hi)⟩
theorem till_first {i : Nat} {oi oq : Oper} {v : Value} (hi : ops[i]? = some oi) (hsel : ∀ (j : Nat) (o : Oper) cs b, ops[j]? = some o → o.op ≠ .select cs b)
    (hQ : ∀ c a w, Q (.panic c) (a.put oi.dst v) w → Q (.panic c) a w) (hoq : ops[q]? = some oq) (hq : ∃ e ∈ oq.after, Region.binds .any e = true ∧ e.on = i) (hqi : q ≠ i) :
    ∀ (fuel : Nat) (li : Array Bool) (a : Act) (w : World),
      (∀ j oj, ops[j]? = some oj → j ≠ i → li.getD j true = false → (∀ e ∈ oj.after, Region.binds .any e = true → e.on ≠ i) → oi.apart ops oj = true) →
      i ∈ Region.ready .any ops li → li.getD q false = false → YieldsIf P ops S oi v a → S w →
      wpTill P ops Q S q fuel (li.setIfInBounds i true) (a.put oi.dst v) w → wpTill P ops Q S q (fuel + 1) li a w := by
  intro fuel
  have step : ∀ (li : Array Bool) (j : Nat), i ∈ Region.ready .any ops li → j ∈ Region.ready .any ops li → ∀ oj, ops[j]? = some oj → ∀ e ∈ oj.after, Region.binds .any e = true → e.on ≠ i := by
    intro li j hr hj oj hoj e he hb heq
    obtain ⟨_, o, ho, hall⟩ := mem_ready.1 hj
    rw [hoj] at ho
    cases ho
    have h1 := hall e he hb
    have h0 := (mem_ready.1 hr).1
    rw [heq] at h1
    rcases Nat.lt_or_ge i li.size with h' | h'
    · simp [h'] at h0 h1; rw [h0] at h1; cases h1
    · simp [Array.getElem?_eq_none h'] at h1
  have notq : ∀ (li : Array Bool) (j : Nat), i ∈ Region.ready .any ops li → j ∈ Region.ready .any ops li → j ≠ q := by
    rintro li j hr hj rfl
    obtain ⟨e, he, hb, heq⟩ := hq
    exact step li _ hr hj oq hoq e he hb heq
  induction fuel with
  | zero =>
    intro li a w _ hr hnq hy hS H
    refine ⟨fun h => (by rw [h] at hr; cases hr), fun j hj => ?_⟩
    by_cases hji : j = i
    · subst hji; exact hy.wpOp hi hS ⟨Or.inr (Or.inr hS), H⟩
    · have := ready_mono hj hji
      rw [H.1] at this
      cases this
  | succ fuel ih =>
    intro li a w hfree hr hnq hy hS H
    refine ⟨fun h => (by rw [h] at hr; cases hr), fun j hj => ?_⟩
    by_cases hji : j = i
    · subst hji; exact hy.wpOp hi hS ⟨Or.inr (Or.inr hS), H⟩
    · have hjq := notq li j hr hj
      have h1 := H.2 j (ready_mono hj hji)
      obtain ⟨hjun, oj, hoj, _⟩ := mem_ready.1 hj
      have h2 := wpOp_putIf hoj (hfree j oj hoj hji hjun (step li j hr hj oj hoj)) (fun cs b => hsel i oi cs b hi) (fun cs b => hsel j oj cs b hoj) hQ hy h1
      have hfree' : ∀ k ok, ops[k]? = some ok → k ≠ i → (li.setIfInBounds j true).getD k true = false →
          (∀ e ∈ ok.after, Region.binds .any e = true → e.on ≠ i) → oi.apart ops ok = true := fun k ok hk hki hun hno => by
        refine hfree k ok hk hki ?_ hno
        by_cases hjk : j = k
        · subst hjk; exact hjun
        · rw [getD_set_ne true hjk] at hun; exact hun
      have hnq' : (li.setIfInBounds j true).getD q false = false := by rw [getD_set_ne false hjq]; exact hnq
      have hnq2 : (li.setIfInBounds i true).getD q false = false := by rw [getD_set_ne false (Ne.symm hqi)]; exact hnq
      refine wpOp_mono (fun a' w' h3 => ?_) h2
      have hS' : S w' := by
        rcases h3.2.1 with h | h | h
        · exact (hjq h).elim
        · rw [hnq2] at h; cases h
        · exact h
      refine ⟨Or.inr (Or.inr hS'), ih (li.setIfInBounds j true) a' w' hfree' (ready_mono hr (Ne.symm hji)) hnq' h3.1 hS' ?_⟩
      rw [Array.setIfInBounds_comm _ _ hji]
      exact h3.2.2
/-- .. that yields in whatever world: nothing need wait for it -/
theorem till_pure {i : Nat} {oi : Oper} {v : Value} (hi : ops[i]? = some oi) (hsel : ∀ (j : Nat) (o : Oper) cs b, ops[j]? = some o → o.op ≠ .select cs b)
    (hQ : ∀ c a w, Q (.panic c) (a.put oi.dst v) w → Q (.panic c) a w) (hqi : q ≠ i) :
    ∀ (fuel : Nat) (li : Array Bool) (a : Act) (w : World),
      (∀ j oj, ops[j]? = some oj → j ≠ i → li.getD j true = false → (∀ e ∈ oj.after, Region.binds .any e = true → e.on ≠ i) → oi.apart ops oj = true) →
      i ∈ Region.ready .any ops li → (li.getD q false = true ∨ S w) → YieldsIf P ops (fun _ => True) oi v a →
      wpTill P ops Q S q fuel (li.setIfInBounds i true) (a.put oi.dst v) w → wpTill P ops Q S q (fuel + 1) li a w := by
  intro fuel
  have step : ∀ (li : Array Bool) (j : Nat), i ∈ Region.ready .any ops li → j ∈ Region.ready .any ops li → ∀ oj, ops[j]? = some oj → ∀ e ∈ oj.after, Region.binds .any e = true → e.on ≠ i := by
    intro li j hr hj oj hoj e he hb heq
    obtain ⟨_, o, ho, hall⟩ := mem_ready.1 hj
    rw [hoj] at ho
    cases ho
    have h1 := hall e he hb
    have h0 := (mem_ready.1 hr).1
    rw [heq] at h1
    rcases Nat.lt_or_ge i li.size with h' | h'
    · simp [h'] at h0 h1; rw [h0] at h1; cases h1
    · simp [Array.getElem?_eq_none h'] at h1
  induction fuel with
  | zero =>
    intro li a w _ hr hS hy H
    refine ⟨fun h => (by rw [h] at hr; cases hr), fun j hj => ?_⟩
    by_cases hji : j = i
    · subst hji; exact hy.wpOp hi trivial ⟨Or.inr hS, H⟩
    · have := ready_mono hj hji
      rw [H.1] at this
      cases this
  | succ fuel ih =>
    intro li a w hfree hr hS hy H
    refine ⟨fun h => (by rw [h] at hr; cases hr), fun j hj => ?_⟩
    by_cases hji : j = i
    · subst hji; exact hy.wpOp hi trivial ⟨Or.inr hS, H⟩
    · have h1 := H.2 j (ready_mono hj hji)
      obtain ⟨hjun, oj, hoj, _⟩ := mem_ready.1 hj
      have h2 := wpOp_putIf hoj (hfree j oj hoj hji hjun (step li j hr hj oj hoj)) (fun cs b => hsel i oi cs b hi) (fun cs b => hsel j oj cs b hoj) hQ hy h1
      have hfree' : ∀ k ok, ops[k]? = some ok → k ≠ i → (li.setIfInBounds j true).getD k true = false →
          (∀ e ∈ ok.after, Region.binds .any e = true → e.on ≠ i) → oi.apart ops ok = true := fun k ok hk hki hun hno => by
        refine hfree k ok hk hki ?_ hno
        by_cases hjk : j = k
        · subst hjk; exact hjun
        · rw [getD_set_ne true hjk] at hun; exact hun
      refine wpOp_mono (fun a' w' h3 => ?_) h2
      have hS' : j = q ∨ li.getD q false = true ∨ S w' := by
        rcases h3.2.1 with h | h | h
        · exact Or.inl h
        · rw [getD_set_ne false (Ne.symm hqi)] at h; exact Or.inr (Or.inl h)
        · exact Or.inr (Or.inr h)
      have hS2 : (li.setIfInBounds j true).getD q false = true ∨ S w' := by
        rcases hS' with h | h | h
        · left
          subst h
          have hjl : j < li.size := by
            rcases Nat.lt_or_ge j li.size with h' | h'
            · exact h'
            · simp [Array.getElem?_eq_none h'] at hjun
          simp [hjl]
        · exact Or.inl (getD_set_true h)
        · exact Or.inr h
      refine ⟨hS', ih (li.setIfInBounds j true) a' w' hfree' (ready_mono hr (Ne.symm hji)) hS2 h3.1 ?_⟩
      rw [Array.setIfInBounds_comm _ _ hji]
      exact h3.2.2
end
section
variable {P : Program} {n : Nat} {ds : List Deferred} {E : Fr} {w : World} {Q : Exit → Act → World → Prop} {ops : Array Oper} {S : World → Prop} {q fuel : Nat} {li : Array Bool} {d : Nat} {op : Op} {ty : TypeId} {pos : String} {after : Array Edge} {F : Nat → Prop} {w0 : World} {Γ : List Asr} {T : Tab} {c : List PanicEntry}
def WT (P : Program) (ops : Array Oper) (Q : Exit → Act → World → Prop) (S : World → Prop) (q fuel : Nat) (li : Array Bool) (n : Nat) (ds : List Deferred) (E : Fr) (w : World) : Prop := ∀ a, Has n ds a E → wpTill P ops Q S q fuel li a w
def WP (P : Program) (ops : Array Oper) (Q : Exit → Act → World → Prop) (S : World → Prop) (q fuel : Nat) (li : Array Bool) (n : Nat) (ds : List Deferred) (E : Fr) (w : World) (i : Nat) : Prop := ∀ a, Has n ds a E → wpOp P ops Q i (fun a' w' => (i = q ∨ li.getD q false = true ∨ S w') ∧ wpTill P ops Q S q fuel (li.setIfInBounds i true) a' w') a w
theorem c_till (S : World → Prop) (q : Nat) {id : Nat} {l : List Oper} (m : Nat) (hl : l.length = m) (hS : St F w0 w Γ) (hm : P.follows .mixedOrders = true) (h : ∀ w1, St F w0 w1 Γ → WT P l.toArray Q S q m (Array.replicate m false) n ds E w1) : WC P (.region id l.toArray true) Q n ds E w := fun a ha => by
  subst hl
  exact wp_region_any hm (till_any _ _ _ _ (h { w with drawn := w.drawn + 1 } (hS.grow ⟨rfl, rfl, rfl, Nat.le_refl _, fun _ _ _ => rfl⟩) a ha))
/-- 'q waits for i', as the kernel reckons it -/
def waitsB (ops : Array Oper) (q i : Nat) : Bool := match ops[q]? with
  | some o => o.after.toList.any (fun e => Region.binds .any e && Nat.beq e.on i)
  | none => false
theorem waits_of {q i : Nat} (h : waitsB ops q i = true) : ∃ oq, ops[q]? = some oq ∧ ∃ e ∈ oq.after, Region.binds .any e = true ∧ e.on = i := by
  unfold waitsB at h
  split at h
  · rename_i o ho
    obtain ⟨e, he, h2⟩ := List.any_eq_true.1 h
    simp only [Bool.and_eq_true] at h2
    exact ⟨o, ho, e, by simpa using he, h2.1, Nat.eq_of_beq_eq_true h2.2⟩
  · cases h
theorem t_take (i : Nat) {v : Value} (hT : TabOk P T) (hi : ops[i]? = some ⟨some d, op, ty, pos, after, none⟩) (hs : Region.noSelect ops = true) (hf : Region.free .any ops li i = true) (hr : (Region.ready .any ops li).contains i = true) (hw : waitsB ops q i = true) (hqi : Nat.beq q i = false) (hnq : li.getD q false = false)
    (hQ : ∀ c (a : Act) w, Q (.panic c) (a.put (some d) v) w → Q (.panic c) a w) (hS : S w) (hv : pureOp T E op = some v) (hd : Nat.blt d n = true) (k : WT P ops Q S q fuel (li.setIfInBounds i true) n ds ((d, v) :: E) w) : WT P ops Q S q (fuel + 1) li n ds E w := fun a ha => by
  obtain ⟨oq, hoq, hq⟩ := waits_of hw
  exact till_first hi (Region.noSelect_spec hs) hQ hoq hq (fun e => by subst e; rw [Nat.beq_refl] at hqi; cases hqi) fuel li a w (Region.free_spec hi hf) (by simpa using hr) hnq (Or.inl ⟨rfl, fun w _ => pureOp_runs hT ha hv w⟩) hS (k _ (ha.put d v hd))
theorem t_takeL (i : Nat) {t : TypeId} {x : Operand} {p : Addr} {v : Value} (hi : ops[i]? = some ⟨some d, .load t x, ty, pos, after, none⟩) (hs : Region.noSelect ops = true) (hf : Region.free .any ops li i = true) (hr : (Region.ready .any ops li).contains i = true) (hw : waitsB ops q i = true) (hqi : Nat.beq q i = false) (hnq : li.getD q false = false)
    (hQ : ∀ c (a : Act) w, Q (.panic c) (a.put (some d) v) w → Q (.panic c) a w) (hS : S w) (hx : E.ev x = some (.pointer (some p))) (hl : ∀ w, S w → Loads P t p v w) (hd : Nat.blt d n = true) (k : WT P ops Q S q fuel (li.setIfInBounds i true) n ds ((d, v) :: E) w) : WT P ops Q S q (fuel + 1) li n ds E w := fun a ha => by
  obtain ⟨oq, hoq, hq⟩ := waits_of hw
  refine till_first hi (Region.noSelect_spec hs) hQ hoq hq (fun e => by subst e; rw [Nat.beq_refl] at hqi; cases hqi) fuel li a w (Region.free_spec hi hf) (by simpa using hr) hnq (Or.inl ⟨rfl, fun w hw => ?_⟩) hS (k _ (ha.put d v hd))
  have h := hl w hw
  unfold Loads at h
  simp only [execOp, ha.ev hx, Instr.loadAt, Instr.sureAddr, Sem.run_bind, Sem.run_pure, Result.andThen_ok, h]
theorem t_pure (i : Nat) {v : Value} (hT : TabOk P T) (hi : ops[i]? = some ⟨some d, op, ty, pos, after, none⟩) (hs : Region.noSelect ops = true) (hf : Region.free .any ops li i = true) (hr : (Region.ready .any ops li).contains i = true) (hqi : Nat.beq q i = false)
    (hQ : ∀ c (a : Act) w, Q (.panic c) (a.put (some d) v) w → Q (.panic c) a w) (hS : li.getD q false = true ∨ S w) (hv : pureOp T E op = some v) (hd : Nat.blt d n = true) (k : WT P ops Q S q fuel (li.setIfInBounds i true) n ds ((d, v) :: E) w) : WT P ops Q S q (fuel + 1) li n ds E w := fun a ha =>
  till_pure hi (Region.noSelect_spec hs) hQ (fun e => by subst e; rw [Nat.beq_refl] at hqi; cases hqi) fuel li a w (Region.free_spec hi hf) (by simpa using hr) hS (Or.inl ⟨rfl, fun w _ => pureOp_runs hT ha hv w⟩) (k _ (ha.put d v hd))
theorem t_one {i : Nat} (hr : Region.ready .any ops li = [i]) (h : WP P ops Q S q fuel li n ds E w i) : WT P ops Q S q (fuel + 1) li n ds E w := fun a ha =>
  ⟨fun h0 => (by rw [hr] at h0; cases h0), fun j hj => by
    rw [hr] at hj
    have : j = i := by simpa using hj
    subst this
    exact h a ha⟩
theorem t_two {i j : Nat} (hr : Region.ready .any ops li = [i, j]) (h1 : WP P ops Q S q fuel li n ds E w i) (h2 : WP P ops Q S q fuel li n ds E w j) : WT P ops Q S q (fuel + 1) li n ds E w := fun a ha =>
  ⟨fun h0 => (by rw [hr] at h0; cases h0), fun k hk => by
    rw [hr] at hk
    have : k = i ∨ k = j := by simpa using hk
    rcases this with rfl | rfl
    · exact h1 a ha
    · exact h2 a ha⟩
theorem t_done (hr : Region.ready .any ops li = []) (h : WQ Q .normal n ds E w) : WT P ops Q S q fuel li n ds E w := fun a ha => by
  cases fuel with
  | zero => exact ⟨hr, h a ha⟩
  | succ f => exact ⟨fun _ => h a ha, by rw [hr]; simp⟩
theorem p_gets {i : Nat} {Φ : Value → World → Prop} (hi : ops[i]? = some ⟨some d, op, ty, pos, after, none⟩) (h : Gets P ⟨some d, op, ty, pos, after, none⟩ n ds E w Φ) (hd : Nat.blt d n = true) (k : ∀ v w', Φ v w' → (i = q ∨ li.getD q false = true ∨ S w') ∧ WT P ops Q S q fuel (li.setIfInBounds i true) n ds ((d, v) :: E) w') : WP P ops Q S q fuel li n ds E w i := fun a ha => by
  unfold wpOp
  simp only [hi]
  rw [if_pos (show Region.wanted _ _ = true from rfl)]
  exact Or.inl (h a ha _ _ fun v w' hv => ⟨(k v w' hv).1, (k v w' hv).2 _ (ha.put d v hd)⟩)
theorem p_gets0 {i : Nat} {Φ : Value → World → Prop} (hi : ops[i]? = some ⟨none, op, ty, pos, after, none⟩) (h : Gets P ⟨none, op, ty, pos, after, none⟩ n ds E w Φ) (k : ∀ v w', Φ v w' → (i = q ∨ li.getD q false = true ∨ S w') ∧ WT P ops Q S q fuel (li.setIfInBounds i true) n ds E w') : WP P ops Q S q fuel li n ds E w i := fun a ha => by
  unfold wpOp
  simp only [hi]
  rw [if_pos (show Region.wanted _ _ = true from rfl)]
  exact Or.inl (h a ha _ _ fun v w' hv => ⟨(k v w' hv).1, (k v w' hv).2 _ ha⟩)
/-- .. that may panic -/
theorem p_getsP {i : Nat} {Φ : Value → World → Prop} {Ψ : World → Prop} (hi : ops[i]? = some ⟨some d, op, ty, pos, after, none⟩) (h : GetsP P ⟨some d, op, ty, pos, after, none⟩ n ds E w c Φ Ψ) (hd : Nat.blt d n = true) (k : ∀ v w', Φ v w' → (i = q ∨ li.getD q false = true ∨ S w') ∧ WT P ops Q S q fuel (li.setIfInBounds i true) n ds ((d, v) :: E) w') (kp : ∀ w', Ψ w' → WQ Q (.panic c) n ds E w') : WP P ops Q S q fuel li n ds E w i := fun a ha => by
  unfold wpOp
  simp only [hi]
  rw [if_pos (show Region.wanted _ _ = true from rfl)]
  exact Or.inl (h a ha _ _ (fun v w' hv => ⟨(k v w' hv).1, (k v w' hv).2 _ (ha.put d v hd)⟩) (fun w' hw => kp w' hw a ha))
end
end Go.Proofs.Ytejnpppejalhfab
/- THE STEP CALCULUS, part 18: interfaces' values; small rules. -/
namespace Go.Proofs.Ytejnpppejalhfab
open Go.RowKit Go.Sort

section
variable {P : Program} {n : Nat} {ds : List Deferred} {E : Fr} {w : World} {Q : Exit → Act → World → Prop} {ops : Array Oper} {rest : List Oper} {d : Nat} {dst : Option Nat} {op : Op} {ty : TypeId} {pos : String} {after : Array Edge} {T : Tab}
theorem l_iface {t : TypeId} {x : Operand} {v : Value} (hc : P.concrete t = true) (hx : E.ev x = some v) (hd : Nat.blt d n = true) (k : WL P ops Q rest n ds ((d, .iface t v) :: E) w) : WL P ops Q (⟨some d, .makeInterface t x, ty, pos, after, none⟩ :: rest) n ds E w :=
  l_runs (v := .iface t v) (fun a ha w => by
    simp only [execOp, ha.ev hx, Sem.run_bind, run_makeInterface w t v hc, Result.andThen_ok, Sem.run_pure]) hd k
/-- a call that may panic, of Φ and Ψ told in one -/
theorem FnP.of_enter {f : FuncId} {fn : Func} {c' : Code} {args : List Value} {m : Nat} {c : List PanicEntry} {Φ : Value → World → Prop} {Ψ : World → Prop} (hok : CallOk P f fn) (hb : fn.body = some c') (hm : fn.ntmps = m) (hl : Nat.ble args.length m = true)
    (h : WC P c' (bodyPost P fn (RP c Φ Ψ)) m [] (argFr 0 args) w) : FnP P f args w c Φ Ψ := fnP_enter hok hb hm hl h
/-- as l_callP, the panic first -/
theorem l_callQ {f : FuncId} {x : Operand} {args : Array Operand} {ats : Array TypeId} {vs : List Value} {first caps : List Value} {c : List PanicEntry} {Φ : Value → World → Prop} {Ψ : World → Prop} (hx : E.ev x = some (.func (.func f) first.toArray caps.toArray)) (hv : E.evs args.toList = some vs) (h : FnP P f (first ++ vs ++ caps) w c Φ Ψ) (hd : Nat.blt d n = true) (kp : ∀ w', Ψ w' → WQ Q (.panic c) n ds E w') (k : ∀ v w', Φ v w' → WL P ops Q rest n ds ((d, v) :: E) w') :
    WL P ops Q (⟨some d, .call { callee := .value x, args := args, argTypes := ats }, ty, pos, after, none⟩ :: rest) n ds E w := l_callP hx hv h hd k kp
end
section
variable {P : Program} {n : Nat} {ds : List Deferred} {E : Fr} {w : World} {Q : Exit → Act → World → Prop} {ops : Array Oper} {S : World → Prop} {q fuel : Nat} {li : Array Bool} {d : Nat} {op : Op} {ty : TypeId} {pos : String} {after : Array Edge} {T : Tab}
theorem p_build {i : Nat} (hT : TabOk P T) {t s : Nat} {fs : List (Nat × Nat × Bool)} {z L : List Value} {parts : Array (Nat × Operand)} {ps : List (Nat × Value)} (hi : ops[i]? = some ⟨some d, .build t parts, ty, pos, after, none⟩) (ht : T.get t = some (.st s fs z)) (hp : evP E parts.toList = some ps) (hL : fillL (fun i => (fs[i]?).map fun f => (f.1, f.2.1)) z ps = some L) (hd : Nat.blt d n = true)
    (k : (i = q ∨ li.getD q false = true ∨ S w) ∧ WT P ops Q S q fuel (li.setIfInBounds i true) n ds ((d, .agg L.toArray) :: E) w) : WP P ops Q S q fuel li n ds E w i :=
  p_gets hi (Gets.of_runs (fun _ ha => r_build hT ht hp hL _ ha)) hd (by rintro _ _ ⟨rfl, rfl⟩; exact k)
/-- .. behind a guard that is met -/
theorem p_getsG {i j dj : Nat} {want b : Bool} {oj : Oper} {op : Op} {Φ : Value → World → Prop} (hi : ops[i]? = some ⟨some d, op, ty, pos, after, some (j, want)⟩) (hj : ops[j]? = some oj) (hdj : oj.dst = some dj) (hlt : Nat.blt dj n = true) (hb : E.get dj = some (.bool b)) (he : b = want)
    (h : Gets P ⟨some d, op, ty, pos, after, none⟩ n ds E w Φ) (hd : Nat.blt d n = true) (k : ∀ v w', Φ v w' → (i = q ∨ li.getD q false = true ∨ S w') ∧ WT P ops Q S q fuel (li.setIfInBounds i true) n ds ((d, v) :: E) w') : WP P ops Q S q fuel li n ds E w i := fun a ha => by
  have hw := wanted_of (o := ⟨some d, op, ty, pos, after, some (j, want)⟩) rfl hj hdj hb ha hlt
  unfold wpOp
  simp only [hi]
  rw [if_pos (by rw [hw, he]; cases want <;> rfl)]
  have h' := h a ha (fun a' w' => (i = q ∨ li.getD q false = true ∨ S w') ∧ wpTill P ops Q S q fuel (li.setIfInBounds i true) a' w') Q (fun v w' hv => ⟨(k v w' hv).1, (k v w' hv).2 _ (ha.put d v hd)⟩)
  exact Or.inl h'
theorem Gets.pure {dst : Option Nat} {op : Op} {v : Value} (hT : TabOk P T) (hv : pureOp T E op = some v) : Gets P ⟨dst, op, ty, pos, after, none⟩ n ds E w (fun v' w' => v' = v ∧ w' = w) := Gets.of_runs fun _ ha => pureOp_runs hT ha hv
theorem Gets.pick1 {dst : Option Nat} {c x y : Operand} {b : Bool} {v : Value} (hc : E.ev c = some (.bool b)) (hb : b = true) (hv : E.ev x = some v) : Gets P ⟨dst, .pick c x y, ty, pos, after, none⟩ n ds E w (fun v' w' => v' = v ∧ w' = w) := Gets.of_runs fun a ha w => by simp [execOp, ha.ev hc, asBool, hb, ha.ev hv]
theorem Gets.pick2 {dst : Option Nat} {c x y : Operand} {b : Bool} {v : Value} (hc : E.ev c = some (.bool b)) (hb : b = false) (hv : E.ev y = some v) : Gets P ⟨dst, .pick c x y, ty, pos, after, none⟩ n ds E w (fun v' w' => v' = v ∧ w' = w) := Gets.of_runs fun a ha w => by simp [execOp, ha.ev hc, asBool, hb, ha.ev hv]
theorem Gets.build {dst : Option Nat} (hT : TabOk P T) {t s : Nat} {fs : List (Nat × Nat × Bool)} {z L : List Value} {parts : Array (Nat × Operand)} {ps : List (Nat × Value)} (ht : T.get t = some (.st s fs z)) (hp : evP E parts.toList = some ps) (hL : fillL (fun i => (fs[i]?).map fun f => (f.1, f.2.1)) z ps = some L) : Gets P ⟨dst, .build t parts, ty, pos, after, none⟩ n ds E w (fun v' w' => v' = .agg L.toArray ∧ w' = w) := Gets.of_runs fun _ ha => r_build hT ht hp hL _ ha
/-- what a region's operation yields, with or without a guard, where S is nothing -/
theorem w_one {i : Nat} {v : Value} (hr : Region.ready .any ops li = [i]) (hi : ops[i]? = some ⟨some d, op, ty, pos, after, none⟩) (h : Gets P ⟨some d, op, ty, pos, after, none⟩ n ds E w (fun v' w' => v' = v ∧ w' = w)) (hd : Nat.blt d n = true) (k : WT P ops Q (fun _ => True) q fuel (li.setIfInBounds i true) n ds ((d, v) :: E) w) : WT P ops Q (fun _ => True) q (fuel + 1) li n ds E w :=
  t_one hr (p_gets hi h hd (by rintro _ _ ⟨rfl, rfl⟩; exact ⟨Or.inr (Or.inr trivial), k⟩))
theorem w_oneG {i j dj : Nat} {v : Value} {want b : Bool} {oj : Oper} (hr : Region.ready .any ops li = [i]) (hi : ops[i]? = some ⟨some d, op, ty, pos, after, some (j, want)⟩) (hj : ops[j]? = some oj) (hdj : oj.dst = some dj) (hlt : Nat.blt dj n = true) (hb : E.get dj = some (.bool b)) (he : b = want) (h : Gets P ⟨some d, op, ty, pos, after, none⟩ n ds E w (fun v' w' => v' = v ∧ w' = w)) (hd : Nat.blt d n = true) (k : WT P ops Q (fun _ => True) q fuel (li.setIfInBounds i true) n ds ((d, v) :: E) w) : WT P ops Q (fun _ => True) q (fuel + 1) li n ds E w :=
  t_one hr (p_getsG hi hj hdj hlt hb he h hd (by rintro _ _ ⟨rfl, rfl⟩; exact ⟨Or.inr (Or.inr trivial), k⟩))
theorem w_call {i : Nat} {Φ : Value → World → Prop} {f : FuncId} {x : Operand} {args : Array Operand} {ats : Array TypeId} {vs : List Value} {first caps : List Value} (hr : Region.ready .any ops li = [i]) (hi : ops[i]? = some ⟨some d, .call { callee := .value x, args := args, argTypes := ats }, ty, pos, after, none⟩) (hx : E.ev x = some (.func (.func f) first.toArray caps.toArray)) (hv : E.evs args.toList = some vs) (h : Fn P f (first ++ vs ++ caps) w Φ) (hd : Nat.blt d n = true) (k : ∀ v w', Φ v w' → WT P ops Q (fun _ => True) q fuel (li.setIfInBounds i true) n ds ((d, v) :: E) w') : WT P ops Q (fun _ => True) q (fuel + 1) li n ds E w :=
  t_one hr (p_gets hi (g_call hx hv h) hd (fun v w' hv => ⟨Or.inr (Or.inr trivial), k v w' hv⟩))
theorem w_callG {i j dj : Nat} {want b : Bool} {oj : Oper} {Φ : Value → World → Prop} {f : FuncId} {x : Operand} {args : Array Operand} {ats : Array TypeId} {vs : List Value} {first caps : List Value} (hr : Region.ready .any ops li = [i]) (hi : ops[i]? = some ⟨some d, .call { callee := .value x, args := args, argTypes := ats }, ty, pos, after, some (j, want)⟩) (hj : ops[j]? = some oj) (hdj : oj.dst = some dj) (hlt : Nat.blt dj n = true) (hb : E.get dj = some (.bool b)) (he : b = want) (hx : E.ev x = some (.func (.func f) first.toArray caps.toArray)) (hv : E.evs args.toList = some vs) (h : Fn P f (first ++ vs ++ caps) w Φ) (hd : Nat.blt d n = true) (k : ∀ v w', Φ v w' → WT P ops Q (fun _ => True) q fuel (li.setIfInBounds i true) n ds ((d, v) :: E) w') : WT P ops Q (fun _ => True) q (fuel + 1) li n ds E w :=
  t_one hr (p_getsG hi hj hdj hlt hb he (g_call hx hv h) hd (fun v w' hv => ⟨Or.inr (Or.inr trivial), k v w' hv⟩))
/-- a load (i) and a call (j), in either order -/
theorem w_loadcall {i j gi di dj : Nat} {want b : Bool} {oj : Oper} {t : TypeId} {x : Operand} {p : Addr} {u : Value} {ty' : TypeId} {pos' : String} {after' : Array Edge} {Φ : Value → World → Prop} {f : FuncId} {y : Operand} {args : Array Operand} {ats : Array TypeId} {vs : List Value} {first caps : List Value} (hr : Region.ready .any ops li = [i, j])
    (hi : ops[i]? = some ⟨some d, .load t x, ty, pos, after, some (gi, want)⟩) (hj : ops[j]? = some ⟨some di, .call { callee := .value y, args := args, argTypes := ats }, ty', pos', after', some (gi, want)⟩) (hg : ops[gi]? = some oj) (hdj : oj.dst = some dj) (hlt : Nat.blt dj n = true) (hb : E.get dj = some (.bool b)) (he : b = want) (hx : E.ev x = some (.pointer (some p))) (hl : Loads P t p u w) (hl2 : ∀ v w', Φ v w' → Loads P t p u w')
    (hy : E.ev y = some (.func (.func f) first.toArray caps.toArray)) (hv : E.evs args.toList = some vs) (h : Fn P f (first ++ vs ++ caps) w Φ) (hd : Nat.blt d n = true) (hdi : Nat.blt di n = true) (hne : Nat.beq d di = false) (hned : Nat.beq d dj = false) (hnei : Nat.beq di dj = false)
    (hr1 : Region.ready .any ops (li.setIfInBounds i true) = [j]) (hr2 : Region.ready .any ops (li.setIfInBounds j true) = [i]) (hlli : (li.setIfInBounds j true).setIfInBounds i true = (li.setIfInBounds i true).setIfInBounds j true) (hxE : ∀ v, Fr.ev ((di, v) :: E) x = E.ev x) (hyE : ∀ v, Fr.ev ((d, v) :: E) y = E.ev y) (hvE : ∀ v, Fr.evs ((d, v) :: E) args.toList = E.evs args.toList)
    (k : ∀ v w', Φ v w' → WT P ops Q (fun _ => True) q fuel ((li.setIfInBounds i true).setIfInBounds j true) n ds ((di, v) :: (d, u) :: E) w') : WT P ops Q (fun _ => True) q (fuel + 2) li n ds E w := by
  refine t_two hr ?_ ?_
  · refine p_getsG hi hg hdj hlt hb he (g_load hx hl) hd ?_
    rintro _ _ ⟨rfl, rfl⟩
    refine ⟨Or.inr (Or.inr trivial), t_one hr1 (p_getsG hj hg hdj hlt (by simp only [Fr.get, hned, cond_false]; exact hb) he (g_call ((hyE _).trans hy) ((hvE _).trans hv) h) hdi fun v w' hv' => ⟨Or.inr (Or.inr trivial), k v w' hv'⟩)⟩
  · refine p_getsG hj hg hdj hlt hb he (g_call hy hv h) hdi fun v w' hv' => ⟨Or.inr (Or.inr trivial), t_one hr2 (p_getsG hi hg hdj hlt (by simp only [Fr.get, hnei, cond_false]; exact hb) he (g_load ((hxE _).trans hx) (hl2 v w' hv')) hd ?_)⟩
    intro v2 w2 ⟨e1, e2⟩
    rw [e1, e2]
    refine ⟨Or.inr (Or.inr trivial), ?_⟩
    rw [hlli]
    intro a ha
    refine k v w' hv' a ⟨ha.size, ha.defers, fun t v' ht => ha.at_ t v' ?_⟩
    simp only [Fr.get] at ht ⊢
    by_cases h1 : di = t
    · subst h1
      rw [hne]
      simpa using ht
    · rw [beqF h1] at ht ⊢
      simpa using ht
end
theorem Sl.nil0 (w : World) (sz : Nat) : Sl nF w sz (.slice none 0 0) [] := Or.inl ⟨_, _, rfl, rfl⟩
theorem holdC {w : World} {g k : Nat} {L : List Value} {v : Value} (h : Asr.holds w (.blk g L)) (hk : L[k]? = some v) : w.cell? ⟨g, k, none⟩ = some v := by rw [HoldL.cell h]; exact hk
/-! what is one's own, in another order; some of it forgotten -/
section
variable {F : Nat → Prop} {w0 w w' : World} {Γ Δ : List Asr}
def pickL {α : Type} (l : List α) : List Nat → Option (List α)
  | [] => some []
  | i :: r => match l[i]?, pickL l r with
    | some x, some xs => some (x :: xs)
    | _, _ => none
theorem pickL_at {α : Type} {l : List α} : ∀ {is : List Nat} {xs : List α}, pickL l is = some xs → ∀ (k : Nat) (x : α), xs[k]? = some x → ∃ i, is[k]? = some i ∧ l[i]? = some x := by
  intro is
  induction is with
  | nil => intro xs h k x hx; cases h; simp at hx
  | cons i r ih =>
    intro xs h k x hx
    unfold pickL at h
    split at h
    · rename_i y ys h1 h2
      cases h
      cases k with
      | zero => simp at hx; subst hx; exact ⟨i, rfl, h1⟩
      | succ k => simpa using ih h2 k x (by simpa using hx)
    · cases h
theorem St.reorder (is : List Nat) (h : St F w0 w Γ) (hn : is.Nodup) (hp : pickL Γ is = some Δ) : St F w0 w Δ := by
  have hmem : ∀ A ∈ Δ, A ∈ Γ := fun A hA => by
    obtain ⟨k, hk⟩ := List.mem_iff_getElem?.1 hA
    obtain ⟨i, _, hi⟩ := pickL_at hp k A hk
    exact List.mem_of_getElem? hi
  refine ⟨h.os, h.tape, h.output, h.size, h.base, fun A hA => h.holds A (hmem A hA), fun A hA => h.own A (hmem A hA), ?_⟩
  rw [List.pairwise_iff_getElem]
  intro j k hj hk hlt
  obtain ⟨a, ha, ha2⟩ := pickL_at hp j _ (List.getElem?_eq_getElem hj)
  obtain ⟨b, hb, hb2⟩ := pickL_at hp k _ (List.getElem?_eq_getElem hk)
  refine apart_at h.apart ha2 hb2 (fun e => ?_)
  subst e
  obtain ⟨h1, h2⟩ := List.getElem?_eq_some_iff.1 ha
  obtain ⟨h3, h4⟩ := List.getElem?_eq_some_iff.1 hb
  have := List.pairwise_iff_getElem.1 hn j k h1 h3 hlt
  exact this (h2.trans h4.symm)
end
end Go.Proofs.Ytejnpppejalhfab
/- THE STEP CALCULUS, part 19: 'and' of numbers. -/
namespace Go.Proofs.Ytejnpppejalhfab
open Go.RowKit Go.Sort
section
variable {P : Program} {n : Nat} {ds : List Deferred} {E : Fr} {w : World} {Q : Exit → Act → World → Prop} {ops : Array Oper} {rest : List Oper} {d : Nat} {ty : TypeId} {pos : String} {after : Array Edge}
theorem c_heldS {F : Nat → Prop} {w0 : World} {Γ : List Asr} {id : Nat} {l : List Oper} (m : Nat) (hl : l.length = m) (hS : St F w0 w Γ) (hm : P.follows .mixedOrders = true) (h : ∀ w1, St F w0 w1 Γ → WA P l.toArray Q (fun w' => St F w0 w' Γ) m (Array.replicate m false) n ds E w1) : WC P (.region id l.toArray true) Q n ds E w := c_held _ m hl hS hm h
theorem a_takeR (i : Nat) {S : World → Prop} {fuel : Nat} {li : Array Bool} {op : Op} {v : Value} (hi : ops[i]? = some ⟨some d, op, ty, pos, after, none⟩) (hs : Region.noSelect ops = true) (hf : Region.free .any ops li i = true) (hr : (Region.ready .any ops li).contains i = true)
    (hQ : ∀ c (a : Act) w, Q (.panic c) (a.put (some d) v) w → Q (.panic c) a w) (hS : S w) (h : ∀ a, Has n ds a E → Runs P ⟨some d, op, ty, pos, after, none⟩ a v) (hd : Nat.blt d n = true) (k : WA P ops Q S fuel (li.setIfInBounds i true) n ds ((d, v) :: E) w) : WA P ops Q S (fuel + 1) li n ds E w := fun a ha =>
  wpAnyH_take hi hs hf hr hQ (Or.inl ⟨rfl, fun w _ => h a ha w⟩) hS (k _ (ha.put d v hd))
theorem a_ix (i : Nat) {T : Tab} {S : World → Prop} {fuel : Nat} {li : Array Bool} (hT : TabOk P T) {t : TypeId} {x y : Operand} {el sz eb b off m c j : Nat} {ag : Bool} {z : List Value} {ii : Int} (hi : ops[i]? = some ⟨some d, .indexAddr t x y, ty, pos, after, none⟩) (hs : Region.noSelect ops = true) (hf : Region.free .any ops li i = true) (hr : (Region.ready .any ops li).contains i = true)
    (hQ : ∀ c (a : Act) w v, Q (.panic c) (a.put (some d) v) w → Q (.panic c) a w) (hS : S w) (ht : T.get t = some (.sl el sz eb ag z)) (hx : E.ev x = some (.slice (some ⟨b, off, none⟩) m c)) (hy : E.ev y = some (.int .i64 ii)) (hj : (j : Int) = ii) (hm : j < m) (hd : Nat.blt d n = true) (k : WA P ops Q S fuel (li.setIfInBounds i true) n ds ((d, .pointer (some ⟨b, off + j * sz, none⟩)) :: E) w) : WA P ops Q S (fuel + 1) li n ds E w :=
  a_takeR i hi hs hf hr (fun c a w h => hQ c a w _ h) hS (fun a ha => r_ix hT ht hx hy hj hm a ha _) hd k
theorem r_and {t yt : TypeId} {x y : Operand} {m k : Int} (hx : E.ev x = some (.int .i64 m)) (hy : E.ev y = some (.int .i64 k)) : ∀ a, Has n ds a E → ∀ dst, Runs P ⟨dst, .binOp .and t x y yt, ty, pos, after, none⟩ a (.int .i64 (bits .and .i64 m k)) := fun a ha _ w => by
  simp only [execOp, ha.ev hx, ha.ev hy]
  simp [eqGuard, binOp, go_sem]
theorem l_and {t yt : TypeId} {x y : Operand} {m k r : Int} (hx : E.ev x = some (.int .i64 m)) (hy : E.ev y = some (.int .i64 k)) (hr : bits .and .i64 m k = r) (hd : Nat.blt d n = true) (k' : WL P ops Q rest n ds ((d, .int .i64 r) :: E) w) : WL P ops Q (⟨some d, .binOp .and t x y yt, ty, pos, after, none⟩ :: rest) n ds E w := l_runs (fun a ha => hr ▸ r_and hx hy a ha _) hd k'
theorem r_or {t yt : TypeId} {x y : Operand} {m k : Int} (hx : E.ev x = some (.int .i64 m)) (hy : E.ev y = some (.int .i64 k)) : ∀ a, Has n ds a E → ∀ dst, Runs P ⟨dst, .binOp .or t x y yt, ty, pos, after, none⟩ a (.int .i64 (bits .or .i64 m k)) := fun a ha _ w => by
  simp only [execOp, ha.ev hx, ha.ev hy]
  simp [eqGuard, binOp, go_sem]
theorem l_or {t yt : TypeId} {x y : Operand} {m k r : Int} (hx : E.ev x = some (.int .i64 m)) (hy : E.ev y = some (.int .i64 k)) (hr : bits .or .i64 m k = r) (hd : Nat.blt d n = true) (k' : WL P ops Q rest n ds ((d, .int .i64 r) :: E) w) : WL P ops Q (⟨some d, .binOp .or t x y yt, ty, pos, after, none⟩ :: rest) n ds E w := l_runs (fun a ha => hr ▸ r_or hx hy a ha _) hd k'
theorem tdiv_in {m k : Int} (h0 : -9223372036854775808 ≤ m) (h1 : m ≤ 9223372036854775807) (hk : 0 < k) : -9223372036854775808 ≤ m.tdiv k ∧ m.tdiv k ≤ 9223372036854775807 := by
  by_cases h : 0 ≤ m
  · rw [Int.tdiv_eq_ediv_of_nonneg h]
    have a1 := Int.ediv_nonneg h (by omega : 0 ≤ k)
    have a2 := Int.ediv_le_self k h
    omega
  · have e : m.tdiv k = -((-m).tdiv k) := by rw [Int.neg_tdiv, Int.neg_neg]
    rw [e, Int.tdiv_eq_ediv_of_nonneg (by omega)]
    have a1 := Int.ediv_nonneg (show 0 ≤ -m by omega) (by omega : 0 ≤ k)
    have a2 := Int.ediv_le_self k (show 0 ≤ -m by omega)
    omega
theorem r_quoT {t yt : TypeId} {x y : Operand} {m k : Int} (hx : E.ev x = some (.int .i64 m)) (hy : E.ev y = some (.int .i64 k)) (h0 : -9223372036854775808 ≤ m) (h1 : m ≤ 9223372036854775807) (h3 : 0 < k) : ∀ a, Has n ds a E → ∀ dst, Runs P ⟨dst, .binOp .quo t x y yt, ty, pos, after, none⟩ a (.int .i64 (m.tdiv k)) := fun a ha _ w => by
  have hk : ¬ k = 0 := by omega
  have := tdiv_in h0 h1 h3
  simp [execOp, ha.ev hx, ha.ev hy, eqGuard, binOp, Op.intDiv, hk, wrap_in this.1 this.2]
theorem l_quoT {t yt : TypeId} {x y : Operand} {m k : Int} (hx : E.ev x = some (.int .i64 m)) (hy : E.ev y = some (.int .i64 k)) (h0 : -9223372036854775808 ≤ m) (h1 : m ≤ 9223372036854775807) (h3 : 0 < k) (hd : Nat.blt d n = true) (k' : WL P ops Q rest n ds ((d, .int .i64 (m.tdiv k)) :: E) w) : WL P ops Q (⟨some d, .binOp .quo t x y yt, ty, pos, after, none⟩ :: rest) n ds E w := l_runs (fun a ha => r_quoT hx hy h0 h1 h3 a ha _) hd k'
theorem and2 {p : Int} (h0 : 0 ≤ p) (h1 : p ≤ 3) : bits .and .i64 p 2 = if 2 ≤ p then 2 else 0 := by
  have h : p = 0 ∨ p = 1 ∨ p = 2 ∨ p = 3 := by omega
  rcases h with rfl | rfl | rfl | rfl <;> decide
theorem and1 {p : Int} (h0 : 0 ≤ p) (h1 : p ≤ 3) : bits .and .i64 p 1 = if p = 1 ∨ p = 3 then 1 else 0 := by
  have h : p = 0 ∨ p = 1 ∨ p = 2 ∨ p = 3 := by omega
  rcases h with rfl | rfl | rfl | rfl <;> decide
end
end Go.Proofs.Ytejnpppejalhfab
/- Maps that the call itself made: what they hold, as a list of keys and values; over whatever program. -/
namespace Go.Proofs.Ytejnpppejalhfab
open Go.RowKit Go.MapKept

/-- the map r holds just these, each key once -/
structure MapAt (d : TypeDesc) (w : World) (r : Nat) (L : List (Value × Value)) : Prop where
  held : ∃ es c, w.heap[r]? = some (.map es c) ∧ es.toList.map (fun e => (e.key, e.val)) = L
  keys : ∀ p ∈ L, IsKey d p.1
  once : (L.map (·.1)).Nodup

section
variable {P : Program} {d : TypeDesc} {w w' : World} {r : Nat} {L : List (Value × Value)} {T K E : TypeId} {k v : Value}

theorem MapAt.lt (h : MapAt d w r L) : r < w.heap.size := by
  obtain ⟨es, c, hb, _⟩ := h.held
  exact (Array.getElem?_eq_some_iff.1 hb).1

theorem MapAt.keep (h : MapAt d w r L) (hk : w'.heap[r]? = w.heap[r]?) : MapAt d w' r L := by
  obtain ⟨es, c, hb, hl⟩ := h.held
  exact ⟨⟨es, c, hk.trans hb, hl⟩, h.keys, h.once⟩
theorem MapAt.below {B : Nat} (h : MapAt d w r L) (hb : Below B w w') (hr : r < B) : MapAt d w' r L := h.keep (hb.block r hr)
theorem MapAt.grown (h : MapAt d w r L) (hb : Below w.heap.size w w') : MapAt d w' r L := h.below hb h.lt

theorem MapAt.made (d : TypeDesc) (w : World) : MapAt d (w.alloc (.map #[] 0)) w.heap.size [] :=
  ⟨⟨#[], 0, (heap_alloc w _).1, rfl⟩, by simp, by simp⟩

theorem findNow_hit (hk : IsKey d k) : ∀ (l : List MapEntry) (i : Nat), (∀ e ∈ l, IsKey d e.key) → ((l.map (·.key)).Nodup) → (∃ e ∈ l, e.key = k ∧ e.val = v) → ∃ j, j < l.length ∧ Instr.findNow d k l i = some (some (i + j, v)) ∧ ((l[j]?).map (·.key)) = some k := by
  intro l i hl hn ⟨e, he, hek, hev⟩
  rcases findNow_spec hk l i hl with ⟨_, h2⟩ | ⟨j, e', h1, h2, h3⟩
  · exact (h2 e he hek).elim
  · have hj : j < l.length := (List.getElem?_eq_some_iff.1 h2).1
    have e' : e' = e := by
      obtain ⟨j2, hj2, hje⟩ := List.getElem_of_mem he
      have a1 : l[j] = e' := (List.getElem?_eq_some_iff.1 h2).2
      have : j = j2 := by
        have hnd := List.pairwise_iff_getElem.1 hn
        rcases Nat.lt_trichotomy j j2 with hlt | heq | hgt
        · exact (hnd j j2 (by simpa using hj) (by simpa using hj2) hlt (by simp [a1, hje, h3, hek])).elim
        · exact heq
        · exact (hnd j2 j (by simpa using hj2) (by simpa using hj) hgt (by simp [a1, hje, h3, hek])).elim
      subst this
      rw [← a1, hje]
    subst e'
    exact ⟨j, hj, by rw [h1, hev], by rw [h2]; simp [h3]⟩

theorem findNow_miss (hk : IsKey d k) (l : List MapEntry) (i : Nat) (hl : ∀ e ∈ l, IsKey d e.key) (hno : ∀ e ∈ l, e.key ≠ k) : Instr.findNow d k l i = some none := by
  rcases findNow_spec hk l i hl with ⟨h1, _⟩ | ⟨j, e, _, h2, h3⟩
  · exact h1
  · exact (hno e (List.mem_of_getElem? h2) h3).elim

theorem run_lookup_hit (ht : P.underlying T = some (.map K E)) (hd : P.underlying K = some d) (h : MapAt d w r L) (hk : IsKey d k) (hm : (k, v) ∈ L) (ok : Bool) :
    (Instr.lookup T (.map (some r)) k ok).run P w = .ok (if ok then .tuple #[v, .bool true] else v) w := by
  obtain ⟨es, c, hb, rfl⟩ := h.held
  obtain ⟨e, he, hee⟩ := List.mem_map.1 hm
  simp only [Prod.mk.injEq] at hee
  have hkeys : ∀ e ∈ es.toList, IsKey d e.key := fun e he => h.keys (e.key, e.val) (List.mem_map.2 ⟨e, he, rfl⟩)
  have hnd : (es.toList.map (·.key)).Nodup := by have := h.once; simpa [List.map_map, Function.comp_def] using this
  obtain ⟨j, _, hf, _⟩ := findNow_hit (v := v) hk es.toList 0 hkeys hnd ⟨e, he, hee.1, hee.2⟩
  have h1 := run_checkKey (P := P) (w := w) hd hk es.isEmpty 9999
  have h2 := run_findKey (P := P) (w := w) hd hf
  cases ok <;> simp [Instr.lookup, run_underlying ht, Go.MapKept.run_getObj_map hb, h1, h2, Result.andThen]

theorem run_lookup_miss (ht : P.underlying T = some (.map K E)) (hd : P.underlying K = some d) (h : MapAt d w r L) (hk : IsKey d k) (hm : ∀ v, (k, v) ∉ L) {z : Value} (hz : (zeroValue E).run P w = .ok z w) (ok : Bool) :
    (Instr.lookup T (.map (some r)) k ok).run P w = .ok (if ok then .tuple #[z, .bool false] else z) w := by
  obtain ⟨es, c, hb, rfl⟩ := h.held
  have hkeys : ∀ e ∈ es.toList, IsKey d e.key := fun e he => h.keys (e.key, e.val) (List.mem_map.2 ⟨e, he, rfl⟩)
  have hf := findNow_miss hk es.toList 0 hkeys (fun e he hek => hm e.val (List.mem_map.2 ⟨e, he, by rw [← hek]⟩))
  have h1 := run_checkKey (P := P) (w := w) hd hk es.isEmpty 9999
  have h2 := run_findKey (P := P) (w := w) hd hf
  cases ok <;> simp [Instr.lookup, run_underlying ht, Go.MapKept.run_getObj_map hb, h1, h2, hz, Result.andThen]

theorem run_update_new (ht : P.underlying T = some (.map K E)) (hd : P.underlying K = some d) (h : MapAt d w r L) (hk : IsKey d k) (hm : ∀ v, (k, v) ∉ L) :
    ∃ w', (Instr.mapUpdate T (.map (some r)) k v).run P w = .ok () w' ∧ MapAt d w' r (L ++ [(k, v)]) ∧ (∀ B w0, Below B w0 w → B ≤ r → Below B w0 w') ∧ w'.heap.size = w.heap.size ∧ (∀ g, g ≠ r → w'.heap[g]? = w.heap[g]?) := by
  obtain ⟨es, c, hb, rfl⟩ := h.held
  have hkeys : ∀ e ∈ es.toList, IsKey d e.key := fun e he => h.keys (e.key, e.val) (List.mem_map.2 ⟨e, he, rfl⟩)
  have hno : ∀ e ∈ es.toList, e.key ≠ k := fun e he hek => hm e.val (List.mem_map.2 ⟨e, he, by rw [← hek]⟩)
  have hf := findNow_miss hk es.toList 0 hkeys hno
  have h1 := run_checkKey (P := P) (w := w) hd hk false 9999
  have h2 := run_findKey (P := P) (w := w) hd hf
  have hset := heap_set (o' := Obj.map (es.push { key := k, val := v, born := c }) (c + 1)) hb
  refine ⟨{ w with heap := w.heap.setIfInBounds r (.map (es.push { key := k, val := v, born := c }) (c + 1)) }, ?_, ⟨⟨_, _, hset.1, by simp⟩, ?_, ?_⟩, ?_, by simp, fun g hg => hset.2 g hg⟩
  · simp [Instr.mapUpdate, run_underlying ht, Go.MapKept.run_getObj_map hb, h1, h2, Result.andThen, run_setObj_map _ hb]
  · intro p hp
    rcases List.mem_append.1 hp with hp | hp
    · exact h.keys p hp
    · have : p = (k, v) := by simpa using hp
      subst this; exact hk
  · rw [List.map_append, List.nodup_append]
    refine ⟨h.once, by simp, fun a ha b hb' => ?_⟩
    have : b = k := by simpa using hb'
    subst this
    rintro rfl
    obtain ⟨p, hp, hpk⟩ := List.mem_map.1 ha
    exact hm p.2 (by rw [← hpk]; exact hp)
  · intro B w0 hB hBr
    exact hB.trans ⟨rfl, rfl, rfl, by simp, fun g hg => hset.2 g (by omega)⟩

theorem wpList_makeMap {ops : Array Oper} {Q : Exit → Act → World → Prop} {t : Tmp} {ty : TypeId} {pos : String} {after : Array Edge} {rest : List Oper} {a : Act} (d : TypeDesc) (B : Nat) (w0 : World) (hb : Below B w0 w) (hB : B ≤ w.heap.size)
    (next : ∀ w', MapAt d w' w.heap.size [] → Below B w0 w' → w'.heap.size = w.heap.size + 1 → (∀ g, g < w.heap.size → w'.heap[g]? = w.heap[g]?) → wpList P ops Q rest (a.put (some t) (.map (some w.heap.size))) w') : wpList P ops Q (⟨some t, .makeMap T none, ty, pos, after, none⟩ :: rest) a w := by
  refine wpList_plain rfl fun Kt hK => ?_
  unfold Oper.wp
  simp only [execOp, Option.map_none, run_makeMap, Sem.run_bind, Result.andThen_ok, Sem.run_pure, Oper.upon_value]
  exact hK _ _ (next _ (MapAt.made d w) (hb.alloc hB _) (by simp) (fun g hg => Below.heap_alloc w _ g hg))

/-- A GUARD: the next operation lays an entry of a map literal -/
theorem at_insert {ops : Array Oper} {Q : Exit → Act → World → Prop} {T : TypeId} {m k v : Operand} {ty : TypeId} {pos : String} {after : Array Edge} {g : Option (Nat × Bool)} {rest : List Oper} {a : Act} {w : World}
    (h : wpList P ops Q (⟨none, .insert T m k v, ty, pos, after, g⟩ :: rest) a w) : wpList P ops Q (⟨none, .insert T m k v, ty, pos, after, g⟩ :: rest) a w := h
theorem at_insert_int (n : Int) {ops : Array Oper} {Q : Exit → Act → World → Prop} {T : TypeId} {m v : Operand} {ty : TypeId} {pos : String} {after : Array Edge} {g : Option (Nat × Bool)} {rest : List Oper} {a : Act} {w : World}
    (h : wpList P ops Q (⟨none, .insert T m (.const (.int .i64 n)) v, ty, pos, after, g⟩ :: rest) a w) : wpList P ops Q (⟨none, .insert T m (.const (.int .i64 n)) v, ty, pos, after, g⟩ :: rest) a w := h
theorem at_update {ops : Array Oper} {Q : Exit → Act → World → Prop} {T : TypeId} {m k v : Operand} {ty : TypeId} {pos : String} {after : Array Edge} {g : Option (Nat × Bool)} {rest : List Oper} {a : Act} {w : World}
    (h : wpList P ops Q (⟨none, .mapUpdate T m k v, ty, pos, after, g⟩ :: rest) a w) : wpList P ops Q (⟨none, .mapUpdate T m k v, ty, pos, after, g⟩ :: rest) a w := h

theorem wpList_insert {ops : Array Oper} {Q : Exit → Act → World → Prop} {m kx vx : Operand} {ty : TypeId} {pos : String} {after : Array Edge} {rest : List Oper} {a : Act} (ht : P.underlying T = some (.map K E)) (hd : P.underlying K = some d)
    (r : Nat) (k v : Value) (L : List (Value × Value)) (hmv : a.eval m = .map (some r)) (hkv : a.eval kx = k) (hvv : a.eval vx = v) (h : MapAt d w r L) (hk : IsKey d k) (hm : ∀ v, (k, v) ∉ L) (B : Nat) (w0 : World) (hb : Below B w0 w) (hBr : B ≤ r)
    (next : ∀ w', MapAt d w' r (L ++ [(k, v)]) → Below B w0 w' → w'.heap.size = w.heap.size → (∀ g, g ≠ r → w'.heap[g]? = w.heap[g]?) → wpList P ops Q rest a w') : wpList P ops Q (⟨none, .insert T m kx vx, ty, pos, after, none⟩ :: rest) a w := by
  obtain ⟨w', hr, h1, h2, h3, h4⟩ := run_update_new (v := v) ht hd h hk hm
  refine wpList_plain rfl fun Kt hK => ?_
  unfold Oper.wp
  simp only [execOp, hmv, hkv, hvv, Sem.run_bind, hr, Result.andThen_ok, Sem.run_pure, Oper.upon_skip]
  exact hK _ _ (next w' h1 (h2 B w0 hb hBr) h3 h4)

theorem wpList_update_new {ops : Array Oper} {Q : Exit → Act → World → Prop} {m kx vx : Operand} {ty : TypeId} {pos : String} {after : Array Edge} {rest : List Oper} {a : Act} (ht : P.underlying T = some (.map K E)) (hd : P.underlying K = some d)
    (r : Nat) (k v : Value) (L : List (Value × Value)) (hmv : a.eval m = .map (some r)) (hkv : a.eval kx = k) (hvv : a.eval vx = v) (h : MapAt d w r L) (hk : IsKey d k) (hm : ∀ v, (k, v) ∉ L) (B : Nat) (w0 : World) (hb : Below B w0 w) (hBr : B ≤ r)
    (next : ∀ w', MapAt d w' r (L ++ [(k, v)]) → Below B w0 w' → w'.heap.size = w.heap.size → (∀ g, g ≠ r → w'.heap[g]? = w.heap[g]?) → wpList P ops Q rest a w') : wpList P ops Q (⟨none, .mapUpdate T m kx vx, ty, pos, after, none⟩ :: rest) a w := by
  obtain ⟨w', hr, h1, h2, h3, h4⟩ := run_update_new (v := v) ht hd h hk hm
  refine wpList_plain rfl fun Kt hK => ?_
  unfold Oper.wp
  simp only [execOp, hmv, hkv, hvv, Sem.run_bind, hr, Result.andThen_ok, Sem.run_pure, Oper.upon_skip]
  exact hK _ _ (next w' h1 (h2 B w0 hb hBr) h3 h4)
end
end Go.Proofs.Ytejnpppejalhfab
/- THE STEP CALCULUS, part 20: maps of one's own, whatever their keys and values. -/
namespace Go.Proofs.Ytejnpppejalhfab
open Go.RowKit Go.Sort Go.MapKept

structure MapG (D : TypeDesc) (es : Array MapEntry) (L : List (Value × Value)) : Prop where
  held : es.toList.map (fun e => (e.key, e.val)) = L
  keys : ∀ p ∈ L, IsKey D p.1
  once : (L.map (·.1)).Nodup
theorem MapG.nil (D : TypeDesc) : MapG D #[] [] := ⟨rfl, by simp, by simp⟩
theorem MapG.at_ {D : TypeDesc} {w : World} {r c : Nat} {es : Array MapEntry} {L : List (Value × Value)} (h : MapG D es L) (hr : w.heap[r]? = some (.map es c)) : MapAt D w r L := ⟨⟨es, c, hr, h.held⟩, h.keys, h.once⟩
theorem MapG.size {D : TypeDesc} {es : Array MapEntry} {L : List (Value × Value)} (h : MapG D es L) : es.size = L.length := by
  have := congrArg List.length h.held
  simpa using this
section
variable {P : Program} {n : Nat} {ds : List Deferred} {E : Fr} {w : World} {Q : Exit → Act → World → Prop} {ops : Array Oper} {rest : List Oper} {d : Nat} {dst : Option Nat} {ty : TypeId} {pos : String} {after : Array Edge} {F : Nat → Prop} {w0 : World} {Γ : List Asr} {T : Tab} {D : TypeDesc}
theorem g_look (hS : St F w0 w Γ) {t Kt Et : TypeId} {m x : Operand} {r c i : Nat} {es : Array MapEntry} {L : List (Value × Value)} {k v : Value} (ht : P.underlying t = some (.map Kt Et)) (hK : P.underlying Kt = some D) (hm : E.ev m = some (.map (some r))) (hx : E.ev x = some k) (hi : Γ[i]? = some (.obj r (.map es c))) (hL : MapG D es L) (hk : IsKey D k) (hv : (k, v) ∈ L) (ok : Bool) :
    Gets P ⟨dst, .lookup t m x ok, ty, pos, after, none⟩ n ds E w (fun v' w' => v' = (if ok then .tuple #[v, .bool true] else v) ∧ w' = w) := Gets.of_at fun a ha => by
  have hat := hL.at_ (hS.at_ hi).1
  have hrun := run_lookup_hit ht hK hat hk hv ok
  simp only [execOp, ha.ev hm, ha.ev hx, Sem.run_bind, hrun, Result.andThen_ok, Sem.run_pure]
theorem g_lookN (hS : St F w0 w Γ) {t Kt Et : TypeId} {m x : Operand} {r c i : Nat} {es : Array MapEntry} {L : List (Value × Value)} {k z : Value} (ht : P.underlying t = some (.map Kt Et)) (hK : P.underlying Kt = some D) (hz : (P.info? Et).bind (·.zero) = some z) (hm : E.ev m = some (.map (some r))) (hx : E.ev x = some k) (hi : Γ[i]? = some (.obj r (.map es c))) (hL : MapG D es L) (hk : IsKey D k) (hv : ∀ v, (k, v) ∉ L) (ok : Bool) :
    Gets P ⟨dst, .lookup t m x ok, ty, pos, after, none⟩ n ds E w (fun v' w' => v' = (if ok then .tuple #[z, .bool false] else z) ∧ w' = w) := Gets.of_at fun a ha => by
  have hat := hL.at_ (hS.at_ hi).1
  obtain ⟨zi, hzi, hz2⟩ := Option.bind_eq_some_iff.1 hz
  have hz' : (zeroValue Et).run P w = .ok z w := by simp [zeroValue, typeInfo, hzi, hz2]
  have hrun := run_lookup_miss ht hK hat hk hv hz' ok
  simp only [execOp, ha.ev hm, ha.ev hx, Sem.run_bind, hrun, Result.andThen_ok, Sem.run_pure]
/-- what an update leaves -/
def updL (L : List (Value × Value)) (j : Nat) (k v : Value) : List (Value × Value) := L.set j (k, v)
theorem updG_old {t Kt Et : TypeId} {r c : Nat} {es : Array MapEntry} {L : List (Value × Value)} {k u v : Value} (ht : P.underlying t = some (.map Kt Et)) (hK : P.underlying Kt = some D) (hr : w.heap[r]? = some (.map es c)) (hL : MapG D es L) (hk : IsKey D k) (hm : (k, u) ∈ L) :
    ∃ es' j, (Instr.mapUpdate t (.map (some r)) k v).run P w = .ok () { w with heap := w.heap.setIfInBounds r (.map es' c) } ∧ (∃ u', L[j]? = some (k, u')) ∧ MapG D es' (L.set j (k, v)) := by
  have hat := hL.at_ hr
  have hkeys : ∀ e ∈ es.toList, IsKey D e.key := fun e he => hat.keys (e.key, e.val) (by rw [← hL.held]; exact List.mem_map.2 ⟨e, he, rfl⟩)
  have hnd : (es.toList.map (·.key)).Nodup := by
    have := hat.once
    rw [← hL.held, List.map_map] at this
    exact this
  have hmem : ∃ e ∈ es.toList, e.key = k ∧ e.val = u := by
    have : ((k, u) : Value × Value) ∈ es.toList.map (fun e => (e.key, e.val)) := by rw [hL.held]; exact hm
    obtain ⟨e, he, h2⟩ := List.mem_map.1 this
    simp only [Prod.mk.injEq] at h2
    exact ⟨e, he, h2⟩
  obtain ⟨j, hj, hf, hkj⟩ := findNow_hit (v := u) hk es.toList 0 hkeys hnd hmem
  rw [Nat.zero_add] at hf
  have h1 := run_checkKey (P := P) (w := w) hK hk false 9999
  have h2 := run_findKey (P := P) (w := w) hK hf
  have hjs : j < es.size := by simpa using hj
  have hkj' : (es[j]?.map (·.key)).getD k = k := by
    rw [show es[j]? = es.toList[j]? by simp, hkj]; rfl
  have h3 := run_keyThatStays (P := P) (w := w) hk
  have hLj : ∃ u', L[j]? = some (k, u') := by
    have h4 := congrArg (fun l => l[j]?) hL.held
    simp only [List.getElem?_map] at h4
    have h5 : es.toList[j]? = some es[j] := by simp [hjs]
    rw [h5] at h4 hkj
    simp only [Option.map_some, Option.some.injEq] at h4 hkj
    exact ⟨es[j].val, by rw [← h4, hkj]⟩
  refine ⟨es.modify j fun e => { e with key := k, val := v }, j, ?_, hLj, ⟨?_, ?_, ?_⟩⟩
  · simp only [Instr.mapUpdate, run_underlying ht, Go.MapKept.run_getObj_map hr, h1, h2, Result.andThen_ok, Sem.run_bind, hkj', h3, run_setObj_map _ hr]
  · refine List.ext_getElem? fun m => ?_
    rw [← hL.held, Array.toList_modify, List.getElem?_map, List.getElem?_modify, List.getElem?_set, List.getElem?_map, List.length_map]
    by_cases e : j = m
    · subst e
      have : es.toList[j]? = some es[j] := by simp [hjs]
      rw [this, if_pos rfl, if_pos hj]
      simp
    · simp [e]
  · intro p hp
    rcases List.mem_or_eq_of_mem_set hp with h | h
    · exact hL.keys p h
    · rw [h]; exact hk
  · obtain ⟨u', hq⟩ := hLj
    rw [List.map_set]
    have : (L.map (·.1)).set j k = L.map (·.1) := by
      refine List.ext_getElem? fun m => ?_
      rw [List.getElem?_set]
      split
      · rename_i e
        subst e
        simp only [List.length_map, List.getElem?_map, hq, Option.map_some]
        rw [if_pos (lt_of_getE hq)]
      · rfl
    rw [show (k, v).1 = k from rfl, this]
    exact hL.once
theorem updG_new {t Kt Et : TypeId} {r c : Nat} {es : Array MapEntry} {L : List (Value × Value)} {k v : Value} (ht : P.underlying t = some (.map Kt Et)) (hK : P.underlying Kt = some D) (hr : w.heap[r]? = some (.map es c)) (hL : MapG D es L) (hk : IsKey D k) (hm : ∀ v, (k, v) ∉ L) :
    ∃ es' c', (Instr.mapUpdate t (.map (some r)) k v).run P w = .ok () { w with heap := w.heap.setIfInBounds r (.map es' c') } ∧ MapG D es' (L ++ [(k, v)]) := by
  have hat := hL.at_ hr
  have hkeys : ∀ e ∈ es.toList, IsKey D e.key := fun e he => hat.keys (e.key, e.val) (by rw [← hL.held]; exact List.mem_map.2 ⟨e, he, rfl⟩)
  have hno : ∀ e ∈ es.toList, e.key ≠ k := fun e he hek => by
    have : (e.key, e.val) ∈ L := by rw [← hL.held]; exact List.mem_map.2 ⟨e, he, rfl⟩
    exact hm e.val (by rw [← hek]; exact this)
  have hf := findNow_miss hk es.toList 0 hkeys hno
  have h1 := run_checkKey (P := P) (w := w) hK hk false 9999
  have h2 := run_findKey (P := P) (w := w) hK hf
  refine ⟨es.push { key := k, val := v, born := c }, c + 1, ?_, ⟨by simp [hL.held], fun p hp => ?_, ?_⟩⟩
  · simp only [Instr.mapUpdate, run_underlying ht, Go.MapKept.run_getObj_map hr, h1, h2, Result.andThen_ok, Sem.run_bind, run_setObj_map _ hr]
  · rcases List.mem_append.1 hp with h | h
    · exact hL.keys p h
    · have : p = (k, v) := by simpa using h
      rw [this]; exact hk
  · rw [List.map_append, List.nodup_append]
    refine ⟨hL.once, by simp, fun a ha b hb' => ?_⟩
    have : b = k := by simpa using hb'
    subst this
    rintro rfl
    obtain ⟨p, hp, hpk⟩ := List.mem_map.1 ha
    exact hm p.2 (by rw [← hpk]; exact hp)
theorem St.updMap (hS : St F w0 w Γ) {r c i : Nat} {es : Array MapEntry} (hi : Γ[i]? = some (.obj r (.map es c))) (es' : Array MapEntry) (c' : Nat) : St F w0 { w with heap := w.heap.setIfInBounds r (.map es' c') } (Γ.set i (.obj r (.map es' c'))) := by
  have hr := (hS.at_ hi).1
  have hset := heap_set (o' := Obj.map es' c') hr
  exact hS.upd hi ⟨rfl, rfl, rfl, by simp, fun g _ hg => hset.2 g (fun e => hg (by simp [Asr.fp, e]))⟩ ⟨hset.1, rfl⟩ (fun q hq => Or.inl hq)
theorem g_updN (hS : St F w0 w Γ) {t Kt Et : TypeId} {m x y : Operand} {r c i : Nat} {es : Array MapEntry} {L : List (Value × Value)} {k v : Value} (ht : P.underlying t = some (.map Kt Et)) (hK : P.underlying Kt = some D) (hm : E.ev m = some (.map (some r))) (hx : E.ev x = some k) (hy : E.ev y = some v) (hi : Γ[i]? = some (.obj r (.map es c))) (hL : MapG D es L) (hk : IsKey D k) (hn : ∀ v, (k, v) ∉ L) :
    Gets P ⟨dst, .mapUpdate t m x y, ty, pos, after, none⟩ n ds E w (fun _ w' => ∃ es' c', MapG D es' (L ++ [(k, v)]) ∧ St F w0 w' (Γ.set i (.obj r (.map es' c')))) := fun a ha K Q kk => by
  obtain ⟨es', c', hrun, h1⟩ := updG_new (v := v) ht hK (hS.at_ hi).1 hL hk hn
  have hex : (execOp a.eval ⟨dst, .mapUpdate t m x y, ty, pos, after, none⟩).run P w = .ok .skip { w with heap := w.heap.setIfInBounds r (.map es' c') } := by
    simp only [execOp, ha.ev hm, ha.ev hx, ha.ev hy, Sem.run_bind, hrun, Result.andThen_ok, Sem.run_pure]
  unfold Oper.wp
  rw [hex]
  exact kk undef _ ⟨es', c', h1, hS.updMap hi es' c'⟩
theorem g_updO (hS : St F w0 w Γ) {t Kt Et : TypeId} {m x y : Operand} {r c i : Nat} {es : Array MapEntry} {L : List (Value × Value)} {k u v : Value} (ht : P.underlying t = some (.map Kt Et)) (hK : P.underlying Kt = some D) (hm : E.ev m = some (.map (some r))) (hx : E.ev x = some k) (hy : E.ev y = some v) (hi : Γ[i]? = some (.obj r (.map es c))) (hL : MapG D es L) (hk : IsKey D k) (hu : (k, u) ∈ L) :
    Gets P ⟨dst, .mapUpdate t m x y, ty, pos, after, none⟩ n ds E w (fun _ w' => ∃ es' c' j u', L[j]? = some (k, u') ∧ MapG D es' (L.set j (k, v)) ∧ St F w0 w' (Γ.set i (.obj r (.map es' c')))) := fun a ha K Q kk => by
  obtain ⟨es', j, hrun, ⟨u', h1⟩, h2⟩ := updG_old (v := v) ht hK (hS.at_ hi).1 hL hk hu
  have hex : (execOp a.eval ⟨dst, .mapUpdate t m x y, ty, pos, after, none⟩).run P w = .ok .skip { w with heap := w.heap.setIfInBounds r (.map es' c) } := by
    simp only [execOp, ha.ev hm, ha.ev hx, ha.ev hy, Sem.run_bind, hrun, Result.andThen_ok, Sem.run_pure]
  unfold Oper.wp
  rw [hex]
  exact kk undef _ ⟨es', c, j, u', h1, h2, hS.updMap hi es' c⟩
theorem d_look {K : Act → Prop} {t : TypeId} {m x : Operand} {r : Nat} {k v : Value} {ok : Bool} (hm : E.ev m = some (.map (some r))) (hx : E.ev x = some k) (h : ∀ w, St F w0 w Γ → (Instr.lookup t (.map (some r)) k ok).run P w = .ok v w) (hd : Nat.blt d n = true) (kk : WD P ops (fun w' => St F w0 w' Γ) K rest n ds ((d, v) :: E)) : WD P ops (fun w' => St F w0 w' Γ) K (⟨some d, .lookup t m x ok, ty, pos, after, none⟩ :: rest) n ds E := fun a ha =>
  wq_plain (v := v) rfl (fun w hw => by
    unfold Oper.quietAt
    simp only [execOp, ha.ev hm, ha.ev hx, Sem.run_bind, h w hw, Result.andThen_ok, Sem.run_pure]
    exact ⟨rfl, rfl⟩) (kk _ (ha.put d v hd))
theorem look_hit {t Kt Et : TypeId} {r c : Nat} (i : Nat) {es : Array MapEntry} {L : List (Value × Value)} {k v : Value} (ht : P.underlying t = some (.map Kt Et)) (hK : P.underlying Kt = some D) (hi : Γ[i]? = some (.obj r (.map es c))) (hL : MapG D es L) (hk : IsKey D k) (hv : (k, v) ∈ L) (ok : Bool) : ∀ w, St F w0 w Γ → (Instr.lookup t (.map (some r)) k ok).run P w = .ok (if ok then .tuple #[v, .bool true] else v) w := fun w hS =>
  run_lookup_hit ht hK (hL.at_ (hS.at_ hi).1) hk hv ok
theorem look_miss {t Kt Et : TypeId} {r c : Nat} (i : Nat) {es : Array MapEntry} {L : List (Value × Value)} {k z : Value} (ht : P.underlying t = some (.map Kt Et)) (hK : P.underlying Kt = some D) (hz : (P.info? Et).bind (·.zero) = some z) (hi : Γ[i]? = some (.obj r (.map es c))) (hL : MapG D es L) (hk : IsKey D k) (hv : ∀ v, (k, v) ∉ L) (ok : Bool) : ∀ w, St F w0 w Γ → (Instr.lookup t (.map (some r)) k ok).run P w = .ok (if ok then .tuple #[z, .bool false] else z) w := fun w hS => by
  obtain ⟨zi, hzi, hz2⟩ := Option.bind_eq_some_iff.1 hz
  have hz' : (zeroValue Et).run P w = .ok z w := by simp [zeroValue, typeInfo, hzi, hz2]
  exact run_lookup_miss ht hK (hL.at_ (hS.at_ hi).1) hk hv hz' ok
/-- 'make(map..)' -/
theorem g_makeMap (hS : St F w0 w Γ) {t : TypeId} : Gets P ⟨dst, .makeMap t none, ty, pos, after, none⟩ n ds E w (fun v w' => ∃ r, v = .map (some r) ∧ St F w0 w' (.obj r (.map #[] 0) :: Γ)) := fun a ha K Q k => by
  have hex : (execOp a.eval ⟨dst, .makeMap t none, ty, pos, after, none⟩).run P w = .ok (.value (.map (some w.heap.size))) (w.alloc (.map #[] 0)) := by
    simp only [execOp]
    rfl
  unfold Oper.wp
  rw [hex]
  exact k _ _ ⟨_, rfl, hS.new (World.grownBy_alloc w _ none) ⟨(heap_alloc w _).1, rfl⟩ (by simp [Asr.fp])⟩
end
end Go.Proofs.Ytejnpppejalhfab
/- The types of this program that the step calculus meets (printed by tab.py). -/
namespace Go.Proofs.Ytejnpppejalhfab
open Go.RowKit Go.Sort

def tab : Tab := [
  (3, .sc (.int .i64) 1 (.int .i64 0)),
  (27, .st 6 [(0, 1, false), (1, 1, false), (2, 1, false), (3, 1, false), (4, 1, false), (5, 1, false)] [.string ⟨#[]⟩, .slice none 0 0, .slice none 0 0, .slice none 0 0, .slice none 0 0, .int .i64 0]),
  (9, .sc .string 1 (.string ⟨#[]⟩)),
  (61, .st 5 [(0, 1, false), (1, 1, false), (2, 1, false), (3, 1, false), (4, 1, false)] [.slice none 0 0, .slice none 0 0, .slice none 0 0, .slice none 0 0, .int .i64 0]),
  (131, .st 4 [(0, 1, false), (1, 1, false), (2, 1, false), (3, 1, false)] [.int .i64 0, .int .i64 0, .int .i64 0, .bool false]),
  (82, .st 5 [(0, 1, false), (1, 1, false), (2, 1, false), (3, 1, false), (4, 1, false)] [.int .i64 0, .int .i64 0, .string ⟨#[]⟩, .bool false, .bool false]),
  (37, .sl 131 4 32 true [.int .i64 0, .int .i64 0, .int .i64 0, .bool false]),
  (40, .st 3 [(0, 1, false), (1, 1, false), (2, 1, false)] [.slice none 0 0, .slice none 0 0, .int .i64 0]),
  (158, .sl 177 3 24 true [.int .i64 0, .int .i64 0, .int .i64 0]),
  (23, .sl 82 5 40 true [.int .i64 0, .int .i64 0, .string ⟨#[]⟩, .bool false, .bool false]),
  (49, .st 3 [(0, 1, false), (1, 1, false), (2, 1, false)] [.int .i64 0, .string ⟨#[]⟩, .slice none 0 0]),
  (38, .sl 49 3 48 true [.int .i64 0, .string ⟨#[]⟩, .slice none 0 0]),
  (177, .st 3 [(0, 1, false), (1, 1, false), (2, 1, false)] [.int .i64 0, .int .i64 0, .int .i64 0]),
  (63, .st 2 [(0, 1, false), (1, 1, false)] [.int .i64 0, .int .i64 0]),
  (22, .sl 9 1 16 false [.string ⟨#[]⟩]),
  (25, .sl 87 3 32 true [.int .i64 0, .string ⟨#[]⟩, .int .i64 0]),
  (24, .sl 85 2 24 true [.string ⟨#[]⟩, .int .i64 0]),
  (144, .sl 3 1 8 false [.int .i64 0]),
  (87, .st 3 [(0, 1, false), (1, 1, false), (2, 1, false)] [.int .i64 0, .string ⟨#[]⟩, .int .i64 0]),
  (57, .sl 142 4 32 true [.string ⟨#[]⟩, .int .i64 0, .bool false, .bool false]),
  (146, .st 7 [(0, 5, true), (5, 1, false), (6, 1, false)] [.slice none 0 0, .slice none 0 0, .slice none 0 0, .slice none 0 0, .int .i64 0, .int .i64 0, .slice none 0 0]),
  (36, .sl 27 6 120 true [.string ⟨#[]⟩, .slice none 0 0, .slice none 0 0, .slice none 0 0, .slice none 0 0, .int .i64 0]),
  (59, .sl 160 3 56 true [.bool false, .slice none 0 0, .slice none 0 0]),
  (88, .sc (.pointer 90) 1 (.pointer none)),
  (47, .sl 124 2 24 true [.int .i64 0, .string ⟨#[]⟩]),
  (142, .st 4 [(0, 1, false), (1, 1, false), (2, 1, false), (3, 1, false)] [.string ⟨#[]⟩, .int .i64 0, .bool false, .bool false]),
  (113, .st 7 [(0, 6, true), (6, 1, false)] [.string ⟨#[]⟩, .slice none 0 0, .slice none 0 0, .slice none 0 0, .slice none 0 0, .int .i64 0, .int .i64 0]),
  (160, .st 3 [(0, 1, false), (1, 1, false), (2, 1, false)] [.bool false, .slice none 0 0, .slice none 0 0]),
  (4, .sc .bool 1 (.bool false)),
  (85, .st 2 [(0, 1, false), (1, 1, false)] [.string ⟨#[]⟩, .int .i64 0]),
  (76, .sl 5 1 1 false [.int .u8 0]),
  (109, .sl 113 7 128 true [.string ⟨#[]⟩, .slice none 0 0, .slice none 0 0, .slice none 0 0, .slice none 0 0, .int .i64 0, .int .i64 0]),
  (58, .sl 165 2 24 true [.string ⟨#[]⟩, .int .i64 0]),
  (124, .st 2 [(0, 1, false), (1, 1, false)] [.int .i64 0, .string ⟨#[]⟩]),
  (163, .sl 209 7 56 true [.int .i64 0, .int .i64 0, .int .i64 0, .int .i64 0, .int .i64 0, .int .i64 0, .bool false]),
  (136, .sc (.pointer 146) 1 (.pointer none)),
  (105, .st 7 [(0, 6, true), (6, 1, false)] [.string ⟨#[]⟩, .slice none 0 0, .slice none 0 0, .slice none 0 0, .slice none 0 0, .int .i64 0, .int .i64 0]),
  (165, .st 2 [(0, 1, false), (1, 1, false)] [.string ⟨#[]⟩, .int .i64 0]),
  (117, .ar 256 256 1 false [.int .i64 0, .int .i64 0, .int .i64 0, .int .i64 0, .int .i64 0, .int .i64 0, .int .i64 0, .int .i64 0, .int .i64 0, .int .i64 0, .int .i64 0, .int .i64 0, .int .i64 0, .int .i64 0, .int .i64 0, .int .i64 0, .int .i64 0, .int .i64 0, .int .i64 0, .int .i64 0, .int .i64 0, .int .i64 0, .int .i64 0, .int .i64 0, .int .i64 0, .int .i64 0, .int .i64 0, .int .i64 0, .int .i64 0, .int .i64 0, .int .i64 0, .int .i64 0, .int .i64 0, .int .i64 0, .int .i64 0, .int .i64 0, .int .i64 0, .int .i64 0, .int .i64 0, .int .i64 0, .int .i64 0, .int .i64 0, .int .i64 0, .int .i64 0, .int .i64 0, .int .i64 0, .int .i64 0, .int .i64 0, .int .i64 0, .int .i64 0, .int .i64 0, .int .i64 0, .int .i64 0, .int .i64 0, .int .i64 0, .int .i64 0, .int .i64 0, .int .i64 0, .int .i64 0, .int .i64 0, .int .i64 0, .int .i64 0, .int .i64 0, .int .i64 0, .int .i64 0, .int .i64 0, .int .i64 0, .int .i64 0, .int .i64 0, .int .i64 0, .int .i64 0, .int .i64 0, .int .i64 0, .int .i64 0, .int .i64 0, .int .i64 0, .int .i64 0, .int .i64 0, .int .i64 0, .int .i64 0, .int .i64 0, .int .i64 0, .int .i64 0, .int .i64 0, .int .i64 0, .int .i64 0, .int .i64 0, .int .i64 0, .int .i64 0, .int .i64 0, .int .i64 0, .int .i64 0, .int .i64 0, .int .i64 0, .int .i64 0, .int .i64 0, .int .i64 0, .int .i64 0, .int .i64 0, .int .i64 0, .int .i64 0, .int .i64 0, .int .i64 0, .int .i64 0, .int .i64 0, .int .i64 0, .int .i64 0, .int .i64 0, .int .i64 0, .int .i64 0, .int .i64 0, .int .i64 0, .int .i64 0, .int .i64 0, .int .i64 0, .int .i64 0, .int .i64 0, .int .i64 0, .int .i64 0, .int .i64 0, .int .i64 0, .int .i64 0, .int .i64 0, .int .i64 0, .int .i64 0, .int .i64 0, .int .i64 0, .int .i64 0, .int .i64 0, .int .i64 0, .int .i64 0, .int .i64 0, .int .i64 0, .int .i64 0, .int .i64 0, .int .i64 0, .int .i64 0, .int .i64 0, .int .i64 0, .int .i64 0, .int .i64 0, .int .i64 0, .int .i64 0, .int .i64 0, .int .i64 0, .int .i64 0, .int .i64 0, .int .i64 0, .int .i64 0, .int .i64 0, .int .i64 0, .int .i64 0, .int .i64 0, .int .i64 0, .int .i64 0, .int .i64 0, .int .i64 0, .int .i64 0, .int .i64 0, .int .i64 0, .int .i64 0, .int .i64 0, .int .i64 0, .int .i64 0, .int .i64 0, .int .i64 0, .int .i64 0, .int .i64 0, .int .i64 0, .int .i64 0, .int .i64 0, .int .i64 0, .int .i64 0, .int .i64 0, .int .i64 0, .int .i64 0, .int .i64 0, .int .i64 0, .int .i64 0, .int .i64 0, .int .i64 0, .int .i64 0, .int .i64 0, .int .i64 0, .int .i64 0, .int .i64 0, .int .i64 0, .int .i64 0, .int .i64 0, .int .i64 0, .int .i64 0, .int .i64 0, .int .i64 0, .int .i64 0, .int .i64 0, .int .i64 0, .int .i64 0, .int .i64 0, .int .i64 0, .int .i64 0, .int .i64 0, .int .i64 0, .int .i64 0, .int .i64 0, .int .i64 0, .int .i64 0, .int .i64 0, .int .i64 0, .int .i64 0, .int .i64 0, .int .i64 0, .int .i64 0, .int .i64 0, .int .i64 0, .int .i64 0, .int .i64 0, .int .i64 0, .int .i64 0, .int .i64 0, .int .i64 0, .int .i64 0, .int .i64 0, .int .i64 0, .int .i64 0, .int .i64 0, .int .i64 0, .int .i64 0, .int .i64 0, .int .i64 0, .int .i64 0, .int .i64 0, .int .i64 0, .int .i64 0, .int .i64 0, .int .i64 0, .int .i64 0, .int .i64 0, .int .i64 0, .int .i64 0, .int .i64 0, .int .i64 0, .int .i64 0, .int .i64 0, .int .i64 0, .int .i64 0, .int .i64 0, .int .i64 0, .int .i64 0, .int .i64 0, .int .i64 0, .int .i64 0, .int .i64 0, .int .i64 0, .int .i64 0, .int .i64 0, .int .i64 0]),
  (102, .st 4 [(0, 1, false), (1, 1, false), (2, 1, false), (3, 1, false)] [.map none, .map none, .slice none 0 0, .int .i64 0]),
  (100, .sl 105 7 128 true [.string ⟨#[]⟩, .slice none 0 0, .slice none 0 0, .slice none 0 0, .slice none 0 0, .int .i64 0, .int .i64 0]),
  (75, .sc (.pointer 78) 1 (.pointer none)),
  (185, .st 5 [(0, 1, false), (1, 1, false), (2, 1, false), (3, 1, false), (4, 1, false)] [.int .i64 0, .int .i64 0, .int .i64 0, .int .i64 0, .int .i64 0]),
  (154, .sl 163 1 24 false [.slice none 0 0]),
  (156, .st 4 [(0, 1, false), (1, 1, false), (2, 1, false), (3, 1, false)] [.pointer none, .slice none 0 0, .slice none 0 0, .int .i64 0]),
  (209, .st 7 [(0, 3, true), (3, 4, true)] [.int .i64 0, .int .i64 0, .int .i64 0, .int .i64 0, .int .i64 0, .int .i64 0, .bool false]),
  (99, .sc (.map 9 3) 1 (.map none)),
  (152, .sc (.pointer 156) 1 (.pointer none)),
  (95, .st 0 [] []),
  (78, .st 1 [(0, 1, false)] [.slice none 0 0]),
  (90, .st 1 [(0, 1, false)] [.string ⟨#[]⟩]),
  (98, .sc (.map 9 27) 1 (.map none)),
  (186, .sl 36 1 24 false [.slice none 0 0]),
  (153, .sc (.pointer 61) 1 (.pointer none)),
  (203, .sc (.int .u64) 1 (.int .u64 0)),
  (189, .sc (.map 3 194) 1 (.map none)),
  (5, .sc (.int .u8) 1 (.int .u8 0)),
  (97, .sc (.pointer 102) 1 (.pointer none)),
  (219, .sc (.int .u64) 1 (.int .u64 0)),
  (1, .sc (.func #[] #[] false) 1 (.nilFunc)),
  (28, .sc (.int .i64) 1 (.int .i64 0)),
  (178, .sl 74 1 8 false [.nilFunc]),
  (229, .sc (.func #[21] #[4] false) 1 (.nilFunc)),
  (143, .sc (.func #[140, 3, 3] #[] false) 1 (.nilFunc)),
  (161, .sc (.func #[160] #[4] false) 1 (.nilFunc)),
  (211, .sc (.func #[209] #[4] false) 1 (.nilFunc)),
  (213, .sc (.func #[177, 3] #[3] false) 1 (.nilFunc)),
  (244, .sc (.func #[177] #[4] false) 1 (.nilFunc)),
  (74, .sc (.func #[27] #[28] false) 1 (.nilFunc)),
  (107, .sc (.pointer 40) 1 (.pointer none)),
  (200, .sc (.func #[131, 3] #[3] false) 1 (.nilFunc)),
  (140, .sc (.pointer 142) 1 (.pointer none)),
  (215, .sc (.func #[49, 3] #[3] false) 1 (.nilFunc)),
  (233, .sc (.func #[142] #[4] false) 1 (.nilFunc)),
  (242, .sc (.func #[165] #[4] false) 1 (.nilFunc)),
  (21, .sc (.int .i32) 1 (.int .i32 0))]
set_option maxRecDepth 100000 in
theorem tabOk : TabOk Try.prog tab := by
  unfold tab
  repeat (first | exact TabOk.nil _ | refine TabOk.cons (by kernel_rfl) (by rfl) ?_)
end Go.Proofs.Ytejnpppejalhfab
/- foliantlaw.choose: a number out of n, whatever it is handed. -/
namespace Go.Proofs.Ytejnpppejalhfab
open Go.RowKit Go.Sort

set_option maxRecDepth 100000 in
set_option maxHeartbeats 1000000 in
theorem choose_one (c n : Int) (w : World) (h : 0 < n) (hn : n ≤ 9223372036854775807) (hc : -9223372036854775808 ≤ c) (hc2 : c ≤ 9223372036854775807) : Calls Try.prog 29 #[.int .i64 c, .int .i64 n] w fun e w' => ∃ k : Nat, e = .returned (.int .i64 k) ∧ k < n ∧ w = w' := by
  by_cases hlt : c < 0
  · go_enter Try.func29, Try.ntmps29
    go_wp2_with (fail)
    go_ret
    have h1 := Int.emod_nonneg (-(c + 1)) (show n ≠ 0 by omega)
    have h2 := Int.emod_lt_of_pos (-(c + 1)) h
    exact ⟨((-(c + 1)) % n).toNat, ret_int (by show -(Int.tmod (c + 1) n) = _; rw [← Int.neg_tmod, Int.tmod_eq_emod_of_nonneg (by omega)]; omega), by omega, rfl⟩
  · go_enter Try.func29, Try.ntmps29
    go_wp2_with (fail)
    go_ret
    have h1 := Int.emod_nonneg c (show n ≠ 0 by omega)
    have h2 := Int.emod_lt_of_pos c h
    exact ⟨(c % n).toNat, ret_int (by omega), by omega, rfl⟩
theorem choose_fn (c n : Int) (w : World) (h : 0 < n) (hn : n ≤ 9223372036854775807) (hc : -9223372036854775808 ≤ c) (hc2 : c ≤ 9223372036854775807) : Fn Try.prog 29 [.int .i64 c, .int .i64 n] w (fun v w' => ∃ k : Nat, v = .int .i64 k ∧ (k : Int) < n ∧ w' = w) :=
  ⟨⟨_, Try.func29, by kernel_rfl, by kernel_rfl⟩, (choose_one c n w h hn hc hc2).mono fun _ _ ⟨k, h1, h2, h3⟩ => ⟨_, h1, k, rfl, h2, h3.symm⟩⟩
end Go.Proofs.Ytejnpppejalhfab
/- Names. -/
namespace Go.Proofs.Ytejnpppejalhfab
open Go.RowKit Go.Sort

theorem within_fn (x a b : Int) (w : World) : Fn Try.prog 60 [.int .i64 x, .int .i64 a, .int .i64 b] w (RBf (.bool (decide (a ≤ x ∧ x ≤ b))) w) := by
  refine fn_enter (fn := Try.f60) ⟨Try.func60, by kernel_rfl, by kernel_rfl⟩ (by exact rfl) Try.ntmps60 (by exact rfl) ?_
  have hS := St.start w
  repeat' (first | (first | ((with_reducible apply l_pure tabOk); exact rfl; exact rfl) | (first | ((with_reducible apply l_yes); exact rfl; exact rfl; exact rfl; exact rfl; (assumption)) | ((with_reducible apply l_no); exact rfl; exact rfl; exact rfl; exact rfl; ((assumption)); exact rfl) | ((with_reducible apply l_partd); exact rfl; exact rfl; exact rfl; all_goals (intro hb hp; try (exfalso; omega))) | ((with_reducible apply l_pick1); exact rfl; ((assumption)); exact rfl; exact rfl) | ((with_reducible apply l_pick2); exact rfl; ((assumption)); exact rfl; exact rfl))) | (first | (with_reducible apply c_seq) | (with_reducible apply c_region) | (with_reducible apply l_nil) | (with_reducible apply q_then) | (with_reducible apply c_ret)))
  · (apply q_ret1); (repeat (first | exact ResL.nil | (apply ResL.tmp; exact rfl)))
    exact ⟨by simp [hp], hS⟩
  · (apply q_ret1); (repeat (first | exact ResL.nil | (apply ResL.tmp; exact rfl)))
    exact ⟨by simp; omega, hS⟩
theorem lt_get {α : Type} {l : List α} {i : Nat} (h : (i : Int) < l.length) : ∃ x, l[i]? = some x := ⟨l[i]'(by omega), by simp⟩
theorem named_fn (l : List UInt8) (w : World) : Fn Try.prog 126 [.string ⟨l.toArray⟩] w (RBf (.bool (nmB l)) w) := by
  refine fn_enter (fn := Try.f126) ⟨Try.func126, by kernel_rfl, by kernel_rfl⟩ (by exact rfl) Try.ntmps126 (by exact rfl) ?_
  have hS := St.start w
  by_cases h1 : 1 ≤ (l.length : Int) ∧ (l.length : Int) ≤ 12
  · have h2 : (!decide (1 ≤ (l.length : Int) ∧ (l.length : Int) ≤ 12)) = false := by simpa using h1
    rw [nm_all h1]
    repeat' (first | (((with_reducible apply l_pure tabOk); exact rfl; exact rfl)) | (first | (with_reducible apply c_seq) | (with_reducible apply c_region) | (with_reducible apply l_nil) | (with_reducible apply q_then) | (with_reducible apply c_skip) | (with_reducible apply c_block)) | (((with_reducible apply c_iff); exact rfl; (assumption))) | ((with_reducible apply l_call); exact rfl; exact rfl; exact within_fn _ _ _ _; exact rfl; rintro _ w' ⟨rfl, hS'⟩; replace hS := hS.transA hS'; simp only [appA] at hS; clear hS'))
    refine c_loop (X := Nat) 0 (fun i => [(0, .string ⟨l.toArray⟩), (3, .int .i64 i)]) (fun i w' => i ≤ l.length ∧ (l.take i).all okB = true ∧ St nF w w' []) (fun i => l.length - i) ?_ ⟨by omega, rfl, hS⟩ ?_
    · repeat (first | exact Fr.sub_nil _ | (apply Fr.sub_cons; exact rfl))
    rintro i w1 ⟨hi, hall, hS'⟩
    clear hS
    have hS := hS'
    clear hS'
    repeat' (first | (((with_reducible apply l_pure tabOk); exact rfl; exact rfl)) | (first | (with_reducible apply c_seq) | (with_reducible apply c_region) | (with_reducible apply l_nil) | (with_reducible apply q_then) | (with_reducible apply c_skip) | (with_reducible apply c_block) | (with_reducible apply c_exit) | (with_reducible apply c_ret) | (with_reducible apply q_then_exit) | (with_reducible apply q_block_exit)) | (((with_reducible apply c_ifd); exact rfl; all_goals (intro hb hp; try (exfalso; omega)))))
    · obtain ⟨b, hb'⟩ := lt_get (l := l) (i := i) (by omega)
      repeat' (first | (first | ((with_reducible apply l_add); exact rfl; exact rfl; omega; omega; exact rfl) | ((with_reducible apply l_pure tabOk); exact rfl; exact rfl) | (first | ((with_reducible apply l_yes); exact rfl; exact rfl; exact rfl; exact rfl; first | exact rfl | assumption) | ((with_reducible apply l_no); exact rfl; exact rfl; exact rfl; exact rfl; (first | exact rfl | assumption); exact rfl) | ((with_reducible apply l_undef); exact rfl; exact rfl; exact rfl; exact rfl; exact rfl) | ((with_reducible apply l_partd); exact rfl; exact rfl; exact rfl; all_goals (intro hb hp; try (exfalso; omega))) | ((with_reducible apply l_pick1); exact rfl; (first | exact rfl | assumption); exact rfl; exact rfl) | ((with_reducible apply l_pick2); exact rfl; (first | exact rfl | assumption); exact rfl; exact rfl))) | (first | (with_reducible apply c_seq) | (with_reducible apply c_region) | (with_reducible apply l_nil) | (with_reducible apply q_then) | (with_reducible apply c_skip) | (with_reducible apply c_ret) | (with_reducible apply q_then_ret) | (with_reducible apply q_block) | (with_reducible apply q_block_ret)) | (first | ((with_reducible apply c_iff); exact rfl; (exact rfl)) | ((with_reducible apply c_ifn); exact rfl; all_goals (intro hb hp; try (exfalso; omega)))) | ((with_reducible apply l_ixs tabOk); exact rfl; exact rfl; exact rfl; exact rfl; exact hb'; exact rfl))
      all_goals first
        | (refine q_round (i + 1) (by repeat (first | exact Fr.sub_nil _ | (apply Fr.sub_cons; exact rfl))) ⟨by omega, all_take_succ hall hb' (by unfold okB; simp only [decide_eq_true_eq]; omega), hS⟩ (by omega))
        | (((apply q_ret1); (repeat (first | exact ResL.nil | (apply ResL.tmp; exact rfl)))); exact ⟨by rw [all_no hb' (by unfold okB; simp only [decide_eq_false_iff_not]; omega)], hS⟩)
    · (apply q_ret1); (repeat (first | exact ResL.nil | (apply ResL.tmp; exact rfl)))
      exact ⟨by rw [all_take_all hall (by omega)], hS⟩
  · rw [nm_len h1]
    have h2 : (!decide (1 ≤ (l.length : Int) ∧ (l.length : Int) ≤ 12)) = true := by rw [decide_eq_false h1]; rfl
    repeat' (first | (((with_reducible apply l_pure tabOk); exact rfl; exact rfl)) | (first | (with_reducible apply c_seq) | (with_reducible apply c_region) | (with_reducible apply l_nil) | (with_reducible apply q_then) | (with_reducible apply c_ret) | (with_reducible apply q_then_ret)) | (((with_reducible apply c_ift); exact rfl; (assumption))) | ((with_reducible apply l_call); exact rfl; exact rfl; exact within_fn _ _ _ _; exact rfl; rintro _ w' ⟨rfl, hS'⟩; replace hS := hS.transA hS'; simp only [appA] at hS; clear hS'))
    (apply q_ret1); (repeat (first | exact ResL.nil | (apply ResL.tmp; exact rfl)))
    exact ⟨rfl, hS⟩
/-! the program's -/
theorem name1_fn (r : Int) (w : World) : Fn Try.prog 137 [.int .i32 r] w (RBf (.bool (!decide ((97 ≤ r ∧ r ≤ 122) ∨ (48 ≤ r ∧ r ≤ 57) ∨ r = 95))) w) := by
  refine fn_enter (fn := Try.f137) ⟨Try.func137, by kernel_rfl, by kernel_rfl⟩ (by exact rfl) Try.ntmps137 (by exact rfl) ?_
  have hS := St.start w
  repeat' (first | (first | ((with_reducible apply l_pure tabOk); exact rfl; exact rfl) | (first | ((with_reducible apply l_yes); exact rfl; exact rfl; exact rfl; exact rfl; first | exact rfl | assumption) | ((with_reducible apply l_no); exact rfl; exact rfl; exact rfl; exact rfl; (first | exact rfl | assumption); exact rfl) | ((with_reducible apply l_undef); exact rfl; exact rfl; exact rfl; exact rfl; exact rfl) | ((with_reducible apply l_partd); exact rfl; exact rfl; exact rfl; all_goals (intro hb hp; try (exfalso; omega))) | ((with_reducible apply l_pick1); exact rfl; (first | exact rfl | assumption); exact rfl; exact rfl) | ((with_reducible apply l_pick2); exact rfl; (first | exact rfl | assumption); exact rfl; exact rfl))) | (first | (with_reducible apply c_seq) | (with_reducible apply c_region) | (with_reducible apply l_nil) | (with_reducible apply q_then) | (with_reducible apply c_ret)))
  all_goals
    (apply q_ret1); (repeat (first | exact ResL.nil | (apply ResL.tmp; exact rfl)))
    refine ⟨?_, hS⟩
    simp only [Value.bool.injEq]
    first | (congr 1; rw [decide_eq_decide]; omega) | (simp only [Bool.false_eq, Bool.not_eq_false', decide_eq_true_eq]; omega)
theorem okB_low {b : UInt8} : okB b = decide ((97 ≤ (b.toNat : Int) ∧ (b.toNat : Int) ≤ 122) ∨ (48 ≤ (b.toNat : Int) ∧ (b.toNat : Int) ≤ 57) ∨ (b.toNat : Int) = 95) := rfl
def NmF : Value := .func (.func 137) #[] #[]
theorem indexFunc_fn (l : List UInt8) (w : World) : Fn Try.prog 152 [.string ⟨l.toArray⟩, NmF, .bool true] w (fun v w' => ∃ k : Int, v = .int .i64 k ∧ (0 ≤ k ↔ l.all okB = false) ∧ St nF w w' []) := by
  refine fn_enter (fn := Try.f152) ⟨Try.func152, by kernel_rfl, by kernel_rfl⟩ (by exact rfl) Try.ntmps152 (by exact rfl) ?_
  have hS := St.start w
  repeat' (first | (((with_reducible apply l_pure tabOk); exact rfl; exact rfl)) | (first | (with_reducible apply c_seq) | (with_reducible apply c_region) | (with_reducible apply l_nil) | (with_reducible apply q_then) | (with_reducible apply c_block)) | ((with_reducible apply l_range hS tabOk); exact rfl; exact rfl; exact rfl; intro r w' hS'; clear hS; have hS := hS'; clear hS'))
  refine c_loop (X := Nat) 0 (fun k => [(0, .string ⟨l.toArray⟩), (1, NmF), (2, .bool true), (10, .pointer (some ⟨r, 0, none⟩))]) (fun k w' => k ≤ l.length ∧ (l.take k).all okB = true ∧ St nF w w' [.obj r (.stringIter ⟨l.toArray⟩ k)]) (fun k => l.length - k) ?_ ⟨by omega, rfl, hS⟩ ?_
  · repeat (first | exact Fr.sub_nil _ | (apply Fr.sub_cons; exact rfl))
  rintro k w1 ⟨hi, hall, hS'⟩
  clear hS
  have hS := hS'
  clear hS'
  by_cases hk : k < l.length
  · obtain ⟨b, hb'⟩ := lt_get (l := l) (i := k) (by omega)
    repeat' (first | (first | ((with_reducible apply l_pure tabOk); exact rfl; exact rfl) | ((with_reducible apply l_eqb tabOk); exact rfl; exact rfl; exact rfl; exact rfl)) | (first | (with_reducible apply c_seq) | (with_reducible apply c_region) | (with_reducible apply l_nil) | (with_reducible apply q_then) | (with_reducible apply c_skip) | (with_reducible apply c_block) | (with_reducible apply c_ret) | (with_reducible apply q_then_ret) | (with_reducible apply q_block) | (with_reducible apply q_block_ret)) | (first | ((with_reducible apply c_ift); exact rfl; (exact rfl)) | ((with_reducible apply c_ifd); exact rfl; all_goals (intro hb hp; try (exfalso; omega)))) | ((with_reducible apply l_nextb hS (i := 0) (hb := hb')); exact rfl; exact rfl; exact rfl; intro w' c wd hlow hhigh hS'; simp only [List.set] at hS'; clear hS; have hS := hS'; clear hS') | ((with_reducible apply l_call); exact rfl; exact rfl; exact name1_fn _ _; exact rfl; rintro _ w' ⟨rfl, hS'⟩; replace hS := hS.transA hS'; simp only [appA] at hS; clear hS'))
    · (apply q_ret1); (repeat (first | exact ResL.nil | (apply ResL.tmp; exact rfl)))
      refine ⟨_, rfl, ⟨fun _ => all_no hb' ?_, fun _ => by omega⟩, hS.sub (List.nil_sublist _)⟩
      simp only [Bool.not_eq_true', decide_eq_false_iff_not] at hp
      unfold okB
      rw [decide_eq_false_iff_not]
      by_cases hlt : b.toNat < 128
      · have := (hlow hlt).1
        omega
      · omega
    · simp only [Bool.not_eq_true', decide_eq_false_iff_not, Decidable.not_not] at hp
      have hlt : b.toNat < 128 := by
        by_cases hlt : b.toNat < 128
        · exact hlt
        · have := hhigh hlt; omega
      obtain ⟨rfl, rfl⟩ := hlow hlt
      refine q_round (k + 1) (by repeat (first | exact Fr.sub_nil _ | (apply Fr.sub_cons; exact rfl))) ⟨by omega, all_take_succ hall hb' (by unfold okB; simp only [decide_eq_true_eq]; omega), hS⟩ (by omega)
  · have hge : l.length ≤ k := by omega
    repeat' (first | (((with_reducible apply l_pure tabOk); exact rfl; exact rfl)) | (first | (with_reducible apply c_seq) | (with_reducible apply c_region) | (with_reducible apply l_nil) | (with_reducible apply q_then) | (with_reducible apply c_exit) | (with_reducible apply c_ret) | (with_reducible apply q_then_exit) | (with_reducible apply q_block_exit)) | (((with_reducible apply c_iff); exact rfl; (exact rfl))) | ((with_reducible apply l_nexte hS (i := 0) (hb := hge)); exact rfl; exact rfl; exact rfl))
    (apply q_ret1); (repeat (first | exact ResL.nil | (apply ResL.tmp; exact rfl)))
    refine ⟨_, rfl, ⟨fun h => absurd h (by decide), fun h => ?_⟩, hS.sub (List.nil_sublist _)⟩
    rw [all_take_all hall (by omega)] at h
    cases h
theorem IndexFunc_fn (l : List UInt8) (w : World) : Fn Try.prog 144 [.string ⟨l.toArray⟩, NmF] w (fun v w' => ∃ k : Int, v = .int .i64 k ∧ (0 ≤ k ↔ l.all okB = false) ∧ St nF w w' []) := by
  refine fn_enter (fn := Try.f144) ⟨Try.func144, by kernel_rfl, by kernel_rfl⟩ (by exact rfl) Try.ntmps144 (by exact rfl) ?_
  have hS := St.start w
  repeat' (first | (((with_reducible apply l_pure tabOk); exact rfl; exact rfl)) | (first | (with_reducible apply c_seq) | (with_reducible apply c_region) | (with_reducible apply l_nil) | (with_reducible apply q_then) | (with_reducible apply c_ret)) | ((with_reducible apply l_call); exact rfl; exact rfl; exact indexFunc_fn l _; exact rfl; rintro _ w' ⟨k, rfl, hk, hS'⟩; replace hS := hS.transA hS'; simp only [appA] at hS; clear hS'))
  (apply q_ret1); (repeat (first | exact ResL.nil | (apply ResL.tmp; exact rfl)))
  exact ⟨k, rfl, hk, hS⟩
theorem ContainsFunc_fn (l : List UInt8) (w : World) : Fn Try.prog 136 [.string ⟨l.toArray⟩, NmF] w (RBf (.bool (!l.all okB)) w) := by
  refine fn_enter (fn := Try.f136) ⟨Try.func136, by kernel_rfl, by kernel_rfl⟩ (by exact rfl) Try.ntmps136 (by exact rfl) ?_
  have hS := St.start w
  repeat' (first | (((with_reducible apply l_pure tabOk); exact rfl; exact rfl)) | (first | (with_reducible apply c_seq) | (with_reducible apply c_region) | (with_reducible apply l_nil) | (with_reducible apply q_then) | (with_reducible apply c_ret)) | ((with_reducible apply l_call); exact rfl; exact rfl; exact IndexFunc_fn l _; exact rfl; rintro _ w' ⟨k, rfl, hk, hS'⟩; replace hS := hS.transA hS'; simp only [appA] at hS; clear hS'))
  (apply q_ret1); (repeat (first | exact ResL.nil | (apply ResL.tmp; exact rfl)))
  refine ⟨?_, hS⟩
  congr 1
  cases h : l.all okB with
  | true => rw [h] at hk; simp at hk ⊢; omega
  | false => rw [h] at hk; simp at hk ⊢; omega
theorem name_fn (l : List UInt8) (w : World) : Fn Try.prog 123 [.string ⟨l.toArray⟩] w (RBf (.bool (nmB l)) w) := by
  refine fn_enter (fn := Try.f123) ⟨Try.func123, by kernel_rfl, by kernel_rfl⟩ (by exact rfl) Try.ntmps123 (by exact rfl) ?_
  have hS := St.start w
  repeat' (first | (first | ((with_reducible apply l_pure tabOk); exact rfl; exact rfl) | (first | ((with_reducible apply l_yes); exact rfl; exact rfl; exact rfl; exact rfl; (assumption)) | ((with_reducible apply l_no); exact rfl; exact rfl; exact rfl; exact rfl; ((assumption)); exact rfl) | ((with_reducible apply l_partd); exact rfl; exact rfl; exact rfl; all_goals (intro hb hp; try (exfalso; omega))) | ((with_reducible apply l_pick1); exact rfl; ((assumption)); exact rfl; exact rfl) | ((with_reducible apply l_pick2); exact rfl; ((assumption)); exact rfl; exact rfl))) | (first | (with_reducible apply c_seq) | (with_reducible apply c_region) | (with_reducible apply l_nil) | (with_reducible apply q_then) | (with_reducible apply c_skip) | (with_reducible apply c_ret) | (with_reducible apply q_then_ret)) | (first | ((with_reducible apply c_ift); exact rfl; (exact rfl)) | ((with_reducible apply c_ifd); exact rfl; all_goals (intro hb hp; try (exfalso; omega)))) | ((with_reducible apply l_call); exact rfl; exact rfl; exact ContainsFunc_fn l _; exact rfl; rintro _ w' ⟨rfl, hS'⟩; replace hS := hS.transA hS'; simp only [appA] at hS; clear hS'))
  all_goals (apply q_ret1); (repeat (first | exact ResL.nil | (apply ResL.tmp; exact rfl)))
  all_goals refine ⟨?_, hS⟩
  · rw [nm_len (by omega)]
  · rw [nm_len (by omega)]
  · rw [nm_all (by omega), Bool.not_not]
end Go.Proofs.Ytejnpppejalhfab
/- The linker's rights and address. -/
namespace Go.Proofs.Ytejnpppejalhfab
open Go.RowKit Go.Sort
def rgt (s : Sg) : Int := (if s.wr then 1 else 0) + (if s.ex then 2 else 0)
theorem rights_fn (s : Sg) (w : World) : Fn Try.prog 102 [.agg (sgC s).toArray] w (RBf (.int .i64 (rgt s)) w) := by
  have o1 : ∀ a b : Int, bits .or .i64 0 1 = 1 := fun _ _ => by decide
  have o2 : bits .or .i64 0 2 = 2 := by decide
  have o3 : bits .or .i64 1 2 = 3 := by decide
  obtain ⟨pg, n, d, wr, ex⟩ := s
  refine fn_enter (fn := Try.f102) ⟨Try.func102, by kernel_rfl, by kernel_rfl⟩ (by exact rfl) Try.ntmps102 (by exact rfl) ?_
  have hS := St.start w
  unfold sgC
  cases wr <;> cases ex
  all_goals (repeat' (first | (first | ((with_reducible apply l_pure tabOk); exact rfl; exact rfl) | ((with_reducible apply l_load); exact rfl; (((with_reducible apply Loads.sc tabOk); exact rfl; ((exact hS.blkC 0 rfl rfl)))); exact rfl) | ((with_reducible apply l_box hS); exact rfl; exact rfl; exact rfl; intro g w' hS'; clear hS; have hS := hS'; clear hS')) | (first | (with_reducible apply c_seq) | (with_reducible apply c_region) | (with_reducible apply l_nil) | (with_reducible apply q_then) | (with_reducible apply c_skip) | (with_reducible apply c_ret)) | (first | ((with_reducible apply c_ift); exact rfl; (exact rfl)) | ((with_reducible apply c_iff); exact rfl; (exact rfl))) | ((with_reducible apply l_or); exact rfl; exact rfl; (first | exact o1 0 0 | exact o2 | exact o3); exact rfl)))
  all_goals ((apply q_ret1); (repeat (first | exact ResL.nil | (apply ResL.tmp; exact rfl))))
  all_goals exact ⟨rfl, hS.sub (List.nil_sublist _)⟩
set_option maxRecDepth 100000 in
set_option maxHeartbeats 8000000 in
theorem address_fn {os : List Ob} {w : World} {gw : Nat} {lv : Value} (nm : List UInt8) (hc : Bs nF w ⟨gw, 2, none⟩ lv) (hl : Sl nF w 7 lv (os.map obC)) (hO : ∀ o ∈ os, ObV w o) (hr : ∀ o ∈ os, ∀ s ∈ o.im.syms, -9223372036854775808 ≤ o.at_ + s.at_ ∧ o.at_ + s.at_ ≤ 9223372036854775807) : Fn Try.prog 100 [.pointer (some ⟨gw, 0, none⟩), .string ⟨nm.toArray⟩] w (RBf (AdrV (adr (obP os) nm)) w) := by
  have bnd := hl.bound
  obtain ⟨p, c, rfl⟩ := hl.len
  refine fn_enter (fn := Try.f100) ⟨Try.func100, by kernel_rfl, by kernel_rfl⟩ (by exact rfl) Try.ntmps100 (by exact rfl) ?_
  have hS := St.start w
  have hc0 : Bs nF w ⟨gw, 0 + 2, none⟩ _ := hc
  repeat' (first | (first | ((with_reducible apply l_pure tabOk); exact rfl; exact rfl) | ((with_reducible apply l_load); exact rfl; (((with_reducible apply Loads.sl tabOk); exact rfl; ((exact hS.bs (by assumption))))); exact rfl)) | (first | (with_reducible apply c_seq) | (with_reducible apply c_region) | (with_reducible apply l_nil) | (with_reducible apply q_then) | (with_reducible apply c_block)))
  refine c_loopK (X := Nat) (fun x => [(15, .int .i64 (x : Nat))]) [0, 1, 13, 14] rfl (fun _ => []) (fun x => x ≤ os.length ∧ adr (obP os) nm = adr ((obP os).drop x) nm) (fun x => os.length - x) 0 (by repeat (first | exact Fr.sub_nil _ | (apply Fr.sub_cons; exact rfl))) (by simp) hS ?_
  clear hS
  intro i w1 hI hS
  obtain ⟨hi, had⟩ := hI
  dsimp only [List.cons_append, List.nil_append] at hi had hS ⊢
  by_cases hlt : i < os.length
  rotate_left
  · rw [List.drop_of_length_le (by rw [obP_len]; omega)] at had
    repeat' (first | (((with_reducible apply l_pure tabOk); exact rfl; exact rfl)) | (first | (with_reducible apply c_seq) | (with_reducible apply c_region) | (with_reducible apply l_nil) | (with_reducible apply q_then) | (with_reducible apply c_exit) | (with_reducible apply c_ret) | (with_reducible apply q_then_exit) | (with_reducible apply q_block_exit)) | (((with_reducible apply c_ifd); exact rfl; all_goals (intro hb hp; try (exfalso; omega)))))
    (apply q_ret2); (repeat (first | exact ResL.nil | (apply ResL.tmp; exact rfl)))
    exact ⟨by rw [had]; rfl, hS.sub (List.nil_sublist _)⟩
  obtain ⟨o, ho⟩ := lt_get (l := os) (i := i) (by omega)
  have hrow := map_get (f := obC) ho
  obtain ⟨b, off, rfl, hro⟩ := hl.at_ (i := i) hlt
  have hst := adr_step (nm := nm) (obP_at ho)
  have hov := hO o (List.mem_of_getElem? ho)
  have hor := hr o (List.mem_of_getElem? ho)
  rw [hst] at had
  obtain ⟨I, vn, vs, vy, vr, at_⟩ := o
  dsimp only at had hor
  replace hov : ImV w I vn vs vy vr := hov
  have by_ := hov.syms.bound
  have hsy := hov.syms
  obtain ⟨pn, cn, rfl⟩ := hov.needs.len
  obtain ⟨ps, cs, rfl⟩ := hov.segs.len
  obtain ⟨py, cy, rfl⟩ := hov.syms.len
  obtain ⟨pr, cr, rfl⟩ := hov.rels.len
  unfold obC at hrow
  repeat' (first | (first | ((with_reducible apply l_pure tabOk); exact rfl; exact rfl) | ((with_reducible apply l_load); exact rfl; (first | ((with_reducible apply Loads.sl tabOk); exact rfl; ((exact hS.blkC 0 rfl rfl))) | ((with_reducible apply Loads.st tabOk); exact rfl; ((exact hS.roR (by assumption) (by assumption))); exact rfl)); exact rfl) | ((with_reducible apply l_ix tabOk); exact rfl; exact rfl; exact rfl; ((exact rfl)); ((omega)); exact rfl) | ((with_reducible apply l_alloc hS tabOk); exact rfl; exact rfl; exact rfl; intro g w' hS'; clear hS; have hS := hS'; clear hS') | (((with_reducible apply l_store hS tabOk (i := 0)); exact rfl; exact rfl; exact rfl; exact rfl; exact rfl; exact rfl; exact rfl; exact rfl; ((exact rfl)); intro w' hS'; simp only [List.set] at hS'; clear hS; have hS := hS'; clear hS'))) | (first | (with_reducible apply c_seq) | (with_reducible apply c_region) | (with_reducible apply l_nil) | (with_reducible apply q_then) | (with_reducible apply c_skip) | (with_reducible apply c_block)) | (((with_reducible apply c_ifd); exact rfl; all_goals (intro hb hp; try (exfalso; omega)))))
  rename Nat => g7
  refine c_loopK (X := Nat) (fun x => [(23, .int .i64 (x : Nat))]) [0, 1, 13, 14, 15, 7, 21, 22] rfl (fun _ => []) (fun x => x ≤ I.syms.length ∧ (I.syms.take x).all (fun s => !decide (s.name = nm)) = true) (fun x => I.syms.length - x) 0 (by repeat (first | exact Fr.sub_nil _ | (apply Fr.sub_cons; exact rfl))) (by simp) hS ?_
  clear hS
  intro k w2 hK hS
  obtain ⟨hk, hall⟩ := hK
  dsimp only [List.cons_append, List.nil_append] at hk hall hS ⊢
  by_cases hkt : k < I.syms.length
  · obtain ⟨y, hy⟩ := lt_get (l := I.syms) (i := k) (by omega)
    have hrow2 := map_get (f := syC) hy
    obtain ⟨b2, off2, rfl, hro2⟩ := hsy.at_ (i := k) hkt
    have hyr := hor y (List.mem_of_getElem? hy)
    by_cases hn : y.name = nm
    · have hd : decide (y.name = nm) = true := decide_eq_true hn
      rw [symAt_hit hall hy hn] at had
      repeat' (first | (first | ((with_reducible apply l_add); exact rfl; exact rfl; omega; omega; exact rfl) | ((with_reducible apply l_pure tabOk); exact rfl; exact rfl) | ((with_reducible apply l_load); exact rfl; (first | ((with_reducible apply Loads.sc tabOk); exact rfl; (first | exact hS.blkC 0 rfl rfl | exact hS.blkC 1 rfl rfl)) | ((with_reducible apply Loads.st tabOk); exact rfl; ((exact hS.roR (by assumption) (by assumption))); exact rfl)); exact rfl) | ((with_reducible apply l_ix tabOk); exact rfl; exact rfl; exact rfl; ((exact rfl)); ((omega)); exact rfl) | ((with_reducible apply l_alloc hS tabOk); exact rfl; exact rfl; exact rfl; intro g w' hS'; clear hS; have hS := hS'; clear hS') | (((with_reducible apply l_store hS tabOk (i := 0)); exact rfl; exact rfl; exact rfl; exact rfl; exact rfl; exact rfl; exact rfl; exact rfl; ((exact (rfl : _ = [_, _]))); intro w' hS'; simp only [List.set] at hS'; clear hS; have hS := hS'; clear hS'))) | (first | (with_reducible apply c_seq) | (with_reducible apply c_region) | (with_reducible apply l_nil) | (with_reducible apply q_then) | (with_reducible apply c_skip) | (with_reducible apply c_block) | (with_reducible apply c_ret) | (with_reducible apply q_then_ret) | (with_reducible apply q_block_ret)) | (first | ((with_reducible apply c_ift); exact rfl; (assumption)) | ((with_reducible apply c_ifd); exact rfl; all_goals (intro hb hp; try (exfalso; omega)))))
      (apply q_ret2); (repeat (first | exact ResL.nil | (apply ResL.tmp; exact rfl)))
      exact ⟨by rw [had]; rfl, hS.sub (List.nil_sublist _)⟩
    · have hd : decide (y.name = nm) = false := decide_eq_false hn
      repeat' (first | (first | ((with_reducible apply l_add); exact rfl; exact rfl; omega; omega; exact rfl) | ((with_reducible apply l_pure tabOk); exact rfl; exact rfl) | ((with_reducible apply l_load); exact rfl; (first | ((with_reducible apply Loads.sc tabOk); exact rfl; ((exact hS.blkC 0 rfl rfl))) | ((with_reducible apply Loads.st tabOk); exact rfl; ((exact hS.roR (by assumption) (by assumption))); exact rfl)); exact rfl) | ((with_reducible apply l_ix tabOk); exact rfl; exact rfl; exact rfl; ((exact rfl)); ((omega)); exact rfl) | ((with_reducible apply l_alloc hS tabOk); exact rfl; exact rfl; exact rfl; intro g w' hS'; clear hS; have hS := hS'; clear hS') | (((with_reducible apply l_store hS tabOk (i := 0)); exact rfl; exact rfl; exact rfl; exact rfl; exact rfl; exact rfl; exact rfl; exact rfl; ((exact (rfl : _ = [_, _]))); intro w' hS'; simp only [List.set] at hS'; clear hS; have hS := hS'; clear hS'))) | (first | (with_reducible apply c_seq) | (with_reducible apply c_region) | (with_reducible apply l_nil) | (with_reducible apply q_then) | (with_reducible apply c_skip) | (with_reducible apply c_block) | (with_reducible apply q_block)) | (first | ((with_reducible apply c_iff); exact rfl; (assumption)) | ((with_reducible apply c_ifd); exact rfl; all_goals (intro hb hp; try (exfalso; omega)))))
      exact q_loopK (k + 1) (by repeat (first | exact Fr.sub_nil _ | (apply Fr.sub_cons; exact rfl))) ⟨by show k + 1 ≤ I.syms.length; omega, all_take_succ hall hy (by simp [hn])⟩ hS.drop (by show I.syms.length - (k + 1) < I.syms.length - k; omega)
  · rw [symAt_miss hall (by omega)] at had
    repeat' (first | (first | ((with_reducible apply l_add); exact rfl; exact rfl; omega; omega; exact rfl) | ((with_reducible apply l_pure tabOk); exact rfl; exact rfl)) | (first | (with_reducible apply c_seq) | (with_reducible apply c_region) | (with_reducible apply l_nil) | (with_reducible apply q_then) | (with_reducible apply c_exit) | (with_reducible apply q_then_exit) | (with_reducible apply q_block) | (with_reducible apply q_block_exit)) | (((with_reducible apply c_ifd); exact rfl; all_goals (intro hb hp; try (exfalso; omega)))))
    exact q_loopK (i + 1) (by repeat (first | exact Fr.sub_nil _ | (apply Fr.sub_cons; exact rfl))) ⟨by show i + 1 ≤ os.length; omega, had⟩ hS.drop (by show os.length - (i + 1) < os.length - i; omega)
end Go.Proofs.Ytejnpppejalhfab
