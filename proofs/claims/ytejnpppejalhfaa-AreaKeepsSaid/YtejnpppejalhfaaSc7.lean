/- THE STEP CALCULUS, part 7: rows made and grown; calls; the way in and the way out. -/
import Derived.Test.YtejnpppejalhfaaSc6
import Derived.Maps.AppendAt
namespace Go.Proofs.Ytejnpppejalhfaa
open Go.RowKit Go.Sort

theorem alloc_row {w : World} {e size : Nat} {rows : List (List Value)} (hm : rows.length ≤ maxLen) (hs : ∀ r ∈ rows, r.length = size) (h1 : ∀ r ∈ rows, r.all (·.oneCell') = true) :
    (Asr.row e size (.slice (some ⟨w.heap.size, 0, none⟩) rows.length rows.length) rows).holds (w.alloc (.cells rows.flatten.toArray e)) :=
  ⟨⟨rows_len hs, .inr ⟨w.heap.size, rows.length, rows.flatten.toArray, rfl, Nat.zero_le _, heap_alloc_new w _, Nat.le_refl _, hm, by simp [← rows_len hs], by rw [← rows_len hs, List.toList_toArray, List.take_length]⟩⟩, hs, h1⟩
def seqV : Nat → Nat → List (Nat × Value) → Option (List (List Value))
  | _, _, [] => some []
  | k, s, (i, v) :: r => match v, seqV (k + 1) s r with
    | .agg ⟨l⟩, some rs => bif Nat.beq i k && Nat.beq l.length s then some (l :: rs) else none
    | .tuple _, _ => none
    | u, some rs => bif Nat.beq i k && Nat.beq s 1 then some ([u] :: rs) else none
    | _, none => none
theorem seqV_cons {k s i : Nat} {v : Value} {r : List (Nat × Value)} {rows : List (List Value)} (h : seqV k s ((i, v) :: r) = some rows) : ∃ rs, rows = v.cells.toList :: rs ∧ seqV (k + 1) s r = some rs ∧ i = k ∧ v.cells.toList.length = s := by
  simp only [seqV] at h
  split at h
  · rename_i l rs h2
    by_cases hc : (Nat.beq i k && Nat.beq l.length s) = true
    · rw [hc] at h
      cases h
      simp only [Bool.and_eq_true] at hc
      exact ⟨rs, rfl, h2, Nat.eq_of_beq_eq_true hc.1, Nat.eq_of_beq_eq_true hc.2⟩
    · rw [Bool.not_eq_true] at hc; rw [hc] at h; cases h
  · cases h
  · rename_i u _ _ rs n1 n2 h2
    by_cases hc : (Nat.beq i k && Nat.beq s 1) = true
    · rw [hc] at h
      cases h
      simp only [Bool.and_eq_true] at hc
      have e : u.cells = #[u] := by cases u <;> first | rfl | exact (n1 _ rfl).elim
      exact ⟨rs, by rw [e], h2, Nat.eq_of_beq_eq_true hc.1, by rw [e, Nat.eq_of_beq_eq_true hc.2]; rfl⟩
    · rw [Bool.not_eq_true] at hc; rw [hc] at h; cases h
  · cases h
theorem seqV_fill {s : Nat} : ∀ {ps : List (Nat × Value)} {k : Nat} {rows : List (List Value)} (A Z : List Value), seqV k s ps = some rows → A.length = k * s → Z.length = rows.length * s → fillL (fun i => some (i * s, s)) (A ++ Z) ps = some (A ++ rows.flatten) ∧ ∀ r ∈ rows, r.length = s := by
  intro ps
  induction ps with
  | nil => intro k rows A Z h hA hZ; simp only [seqV, Option.some.injEq] at h; subst h; simp at hZ; subst hZ; exact ⟨by simp [fillL], by simp⟩
  | cons x r ih =>
    obtain ⟨i, v⟩ := x
    intro k rows A Z h hA hZ
    obtain ⟨rs, rfl, h2, rfl, hl⟩ := seqV_cons h
    simp only [List.length_cons, Nat.succ_mul] at hZ
    obtain ⟨Z1, Z2, rfl, hZ1⟩ : ∃ Z1 Z2, Z = Z1 ++ Z2 ∧ Z1.length = s := ⟨Z.take s, Z.drop s, by simp, by rw [List.length_take]; omega⟩
    have e : setL (A ++ (Z1 ++ Z2)) (i * s) v.cells.toList = (A ++ v.cells.toList) ++ Z2 := by
      have := setL_app A (Z1 ++ Z2) 0 v.cells.toList
      rw [Nat.add_zero, hA] at this
      rw [this, setL_front _ _ _ _ (by omega), setL_all _ _ (by omega)]
      simp
    have := ih (A ++ v.cells.toList) Z2 h2 (by rw [List.length_append, hA, hl, Nat.succ_mul]) (by simp at hZ; omega)
    refine ⟨?_, fun r hr => ?_⟩
    · simp only [fillL, hl]
      rw [show (Nat.beq s s && Nat.ble (i * s + s) (A ++ (Z1 ++ Z2)).length) = true from by simp [hA]; omega]
      rw [e]
      simpa using this.1
    · rcases List.mem_cons.1 hr with rfl | hr
      · exact hl
      · exact this.2 r hr
def oneAll (rows : List (List Value)) : Bool := rows.all fun r => r.all (·.oneCell')
theorem oneAll_spec {rows : List (List Value)} (h : oneAll rows = true) : ∀ r ∈ rows, r.all (·.oneCell') = true := fun r hr => List.all_eq_true.1 h r hr

section
variable {P : Program} {n : Nat} {ds : List Deferred} {E : Fr} {w : World} {dst : Option Nat} {ty : TypeId} {pos : String} {after : Array Edge} {F : Nat → Prop} {w0 : World} {Γ : List Asr} {T : Tab}
/-- '[]T{..}' -/
theorem g_bslice (hS : St F w0 w Γ) (hT : TabOk P T) {t e sz eb len : Nat} {ag : Bool} {ez : List Value} {parts : Array (Nat × Operand)} {ps : List (Nat × Value)} {rows : List (List Value)} (ht : T.get t = some (.sl e sz eb ag ez)) (hp : evP E parts.toList = some ps) (hr : seqV 0 sz ps = some rows) (hl : Nat.beq rows.length len = true)
    (hbig : Nat.ble (len * sz) 16777216 = true) (h1 : oneAll rows = true) :
    Gets P ⟨dst, .buildSlice t len parts, ty, pos, after, none⟩ n ds E w (fun v w' => ∃ g, v = .slice (some ⟨g, 0, none⟩) len len ∧ St F w0 w' (.row e sz (.slice (some ⟨g, 0, none⟩) len len) rows :: Γ)) := by
  intro a ha K Q k
  obtain ⟨j, zv, hu, hi, _, hs, _, hz, hzl, _, hsz, hs0⟩ := hT.sl ht
  have hlen := Nat.eq_of_beq_eq_true hl
  have hb := Nat.le_of_ble_eq_true hbig
  subst hlen
  have e1 : (parts.map fun p => (p.1, a.eval p.2)) = ps.toArray := by rw [← ha.evP hp, ← Array.toList_map, Array.toArray_toList]
  have e2 : (parts.map fun (x : Nat × Operand) => match x with | (i, x) => (i, a.eval x)) = ps.toArray := e1
  have hfil : ∀ Z : List Value, Z.length = rows.length * sz → Instr.fill (fun i => some (i * sz, sz)) Z.toArray ps = some rows.flatten.toArray := fun Z hZ => by
    have := fill_run ((seqV_fill [] Z hr (by simp) hZ).1)
    simpa using this
  have hrows := (seqV_fill [] (List.replicate (rows.length * sz) undef) hr (by simp) (by simp)).2
  have hrun : (execOp a.eval ⟨dst, .buildSlice t rows.length parts, ty, pos, after, none⟩).run P w = .ok (.value (.slice (some ⟨w.heap.size, 0, none⟩) rows.length rows.length)) (w.alloc (.cells rows.flatten.toArray e)) := by
    have hfil2 : ∀ (zero : Array Value), Instr.fill (fun i => some (i * sz, sz)) ((Array.range (rows.length * sz)).map (zero[· % zero.size]!)) ps = some rows.flatten.toArray := fun zero => by
      have := hfil ((Array.range (rows.length * sz)).map (zero[· % zero.size]!)).toList (by simp)
      rwa [Array.toArray_toList] at this
    simp only [execOp, e2, Instr.buildSlice, underlying, Sem.run_bind, run_program, Result.andThen_ok, hu, Sem.run_pure, sizeOf, typeInfo, hi, hs]
    rw [if_neg (by omega)]
    by_cases h0 : rows.length * sz = 0
    · simp only [h0, if_true]
      have := hfil2 #[]
      rw [h0] at this
      simp only [Sem.run_bind, Sem.run_pure, Result.andThen_ok, this]
      rfl
    · rw [if_neg h0]
      simp only [zeroValue, typeInfo, Sem.run_bind, run_program, Result.andThen_ok, hi, Sem.run_pure, hz, hfil2]
      rfl
  unfold Oper.wp
  rw [hrun]
  have hml : rows.length ≤ maxLen := by
    have : 1 ≤ sz := Nat.pos_of_ne_zero hs0
    have := Nat.mul_le_mul_left rows.length this
    unfold maxLen; omega
  exact k _ _ ⟨w.heap.size, rfl, hS.new (World.grownBy_alloc w _ none) (alloc_row hml hrows (oneAll_spec h1)) (by simp [Asr.fp, Value.ownBlock])⟩
/-- 'make([]T, m)' -/
theorem g_make (hS : St F w0 w Γ) (hT : TabOk P T) {t e sz eb m : Nat} {ag : Bool} {ez : List Value} {x y : Operand} {i j : Int} (ht : T.get t = some (.sl e sz eb ag ez)) (hx : E.ev x = some (.int .i64 i)) (hy : E.ev y = some (.int .i64 j)) (hi : (m : Int) = i) (hj : (m : Int) = j) (hm : m ≤ 140737488355327) (hb : (eb : Int) * m ≤ 281474976710656) (h1 : ez.all (·.oneCell') = true) :
    Gets P ⟨dst, .makeSlice t x y, ty, pos, after, none⟩ n ds E w (fun v w' => ∃ g, v = .slice (some ⟨g, 0, none⟩) m m ∧ St F w0 w' (.row e sz (.slice (some ⟨g, 0, none⟩) m m) (List.replicate m ez) :: Γ)) := by
  intro a ha K Q k
  obtain ⟨ji, zv, hu, hinfo, _, hs, hby, hz, hzl, _, hsz, hs0⟩ := hT.sl ht
  subst hi
  subst hj
  have hr := run_make (P := P) w t e ji zv hu hinfo hz .i64 .i64 m m (by omega) (by omega) (by rw [hby]; exact hb) (by omega)
  have hrows : ∀ r ∈ List.replicate m ez, r.length = sz := fun r hr => by rw [(List.mem_replicate.1 hr).2, hsz]
  have hone : ∀ r ∈ List.replicate m ez, r.all (·.oneCell') = true := fun r hr => by rw [(List.mem_replicate.1 hr).2]; exact h1
  have hcells : madeCells zv.cells (m * ji.size) = (List.replicate m ez).flatten.toArray := by
    have hsize : zv.cells.size = sz := by rw [← Array.length_toList, hzl, hsz]
    have hzc : zv.cells = ez.toArray := by rw [← hzl]
    apply Array.ext'
    apply List.ext_getElem?
    intro q
    rw [hs]
    by_cases hq : q < m * sz
    · have hdiv : q / sz < m := Nat.div_lt_of_lt_mul (by rw [Nat.mul_comm]; exact hq)
      have hmod := Nat.mod_lt q (Nat.pos_of_ne_zero hs0)
      have h3 := rows_at hrows (i := q / sz) (j := q % sz) (r := ez) (by simp [hdiv]) hmod
      rw [show q / sz * sz + q % sz = q from by rw [Nat.mul_comm]; exact Nat.div_add_mod q sz] at h3
      simp only [madeCells, Array.toList_map, Array.toList_range, List.getElem?_map, List.getElem?_range hq, Option.map_some]
      rw [h3, hsize, hzc]
      have hmz : q % sz < ez.length := by rw [← hsz]; exact hmod
      simp [hmz]
    · rw [List.getElem?_eq_none (by simp [madeCells]; omega), List.getElem?_eq_none (by rw [List.toList_toArray, rows_len hrows]; simp; omega)]
  have hrun : (execOp a.eval ⟨dst, .makeSlice t x y, ty, pos, after, none⟩).run P w = .ok (.value (.slice (some ⟨w.heap.size, 0, none⟩) m m)) (w.alloc (.cells (List.replicate m ez).flatten.toArray e)) := by
    simp only [execOp, ha.ev hx, ha.ev hy, Sem.run_bind, hr, Result.andThen_ok, Sem.run_pure, Int.toNat_natCast, hcells]
  unfold Oper.wp
  rw [hrun]
  have hal := alloc_row (w := w) (e := e) (rows := List.replicate m ez) (by simp; unfold maxLen; omega) hrows hone
  simp only [List.length_replicate] at hal
  exact k _ _ ⟨w.heap.size, rfl, hS.new (World.grownBy_alloc w _ none) hal (by simp [Asr.fp, Value.ownBlock])⟩
/-- 'append(v, s...)', v a row of one's own -/
theorem g_append (hS : St F w0 w Γ) (hT : TabOk P T) {t e sz eb m c b off i : Nat} {ag : Bool} {ez : List Value} {x y : Operand} {v : Value} {rows news : List (List Value)} (ht : T.get t = some (.sl e sz eb ag ez)) (hx : E.ev x = some v) (hi : Γ[i]? = some (.row e sz v rows)) (hy : E.ev y = some (.slice (some ⟨b, off, none⟩) m c))
    (hn : RoAt nF w b off sz news) (hm : news.length = m) (hbig : (rows.length + m) * (eb + 1) ≤ 140737488355328) :
    Gets P ⟨dst, .call { callee := .builtin .append, args := #[x, y], argTypes := #[t, t] }, ty, pos, after, none⟩ n ds E w (fun v' w' => ∃ p cap, v' = .slice p (rows.length + m) cap ∧ St F w0 w' (Γ.set i (.row e sz (.slice p (rows.length + m) cap) (rows ++ news)))) := by
  intro a ha K Q k
  obtain ⟨ji, zv, hu, hinfo, _, hs, hby, hz, hzl, _, hsz, hs0⟩ := hT.sl ht
  obtain ⟨ho, hlen, hone⟩ := hS.at_ hi
  have hb1 : (rows.length + m) * eb + (rows.length + m) ≤ 140737488355328 := by rw [Nat.mul_succ] at hbig; exact hbig
  have hr := run_append_own_at (P := P) w 0 t ty e ji zv sz eb hu hinfo hz hs hby (by rw [← Array.length_toList, hzl, hsz]) (Nat.pos_of_ne_zero hs0) v rows.length rows.flatten ho ⟨b, off, none⟩ m c news.flatten
    (by rw [rows_len hn.len, hm])
    (fun j u hj => by
      have hjl : j < news.length * sz := by rw [← rows_len hn.len]; exact lt_of_getE hj
      have hdiv : j / sz < news.length := Nat.div_lt_of_lt_mul (by rw [Nat.mul_comm]; exact hjl)
      have hmod := Nat.mod_lt j (Nat.pos_of_ne_zero hs0)
      have h3 := rows_at hn.len (i := j / sz) (j := j % sz) (List.getElem?_eq_getElem hdiv) hmod
      rw [show j / sz * sz + j % sz = j from by rw [Nat.mul_comm]; exact Nat.div_add_mod j sz] at h3
      rw [h3] at hj
      have := hn.cells (j / sz) _ (List.getElem?_eq_getElem hdiv) (j % sz) u hj
      rw [Addr.add_mid]
      rwa [Nat.add_assoc, show j / sz * sz + j % sz = j from by rw [Nat.mul_comm]; exact Nat.div_add_mod j sz] at this)
    (fun u hu => by
      obtain ⟨r, hr, hur⟩ := List.mem_flatten.1 hu
      exact List.all_eq_true.1 (hn.one r hr) u hur)
    (by unfold maxLen; omega) (by omega) (Nat.zero_le _)
  obtain ⟨v', w', hrun, hown, hg, _, hat⟩ := hr
  have hex : (execOp a.eval ⟨dst, .call { callee := .builtin .append, args := #[x, y], argTypes := #[t, t] }, ty, pos, after, none⟩).run P w = .ok (.value v') w' := by
    simp [execOp, resolve, invoke, builtin, ha.ev hx, ha.ev hy, hrun, Result.andThen]
  unfold Oper.wp
  rw [hex]
  have hown' : (Asr.row e sz v' (rows ++ news)).holds w' := ⟨by rw [List.length_append, List.flatten_append, hm]; exact hown, fun r hr => by
      rcases List.mem_append.1 hr with hr | hr
      · exact hlen r hr
      · exact hn.len r hr, fun r hr => by
      rcases List.mem_append.1 hr with hr | hr
      · exact hone r hr
      · exact hn.one r hr⟩
  have hfp : ∀ k, v'.ownBlock = some k → v.ownBlock = some k ∨ w.heap.size ≤ k := fun q hq => by
    rcases hat with h | h
    · exact Or.inl (h ▸ hq)
    · rw [h] at hq; cases hq; exact Or.inr (Nat.le_refl _)
  obtain ⟨p, cap, hv'⟩ : ∃ p cap, v' = .slice p (rows.length + m) cap := by
    rcases hown.2 with ⟨rfl, h0⟩ | ⟨g, cap, cur, rfl, _⟩
    · exact ⟨none, 0, by rw [h0]⟩
    · exact ⟨_, _, rfl⟩
  subst hv'
  exact k _ _ ⟨p, cap, rfl, hS.upd hi hg hown' hfp⟩
end
end Go.Proofs.Ytejnpppejalhfaa
