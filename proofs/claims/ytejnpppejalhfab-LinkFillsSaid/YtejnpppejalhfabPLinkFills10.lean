/- Texts that the proof stands on, one behind the other: Lk12, PlRd, Im14, Im15, Im16, Im9. -/
import Derived.Test.YtejnpppejalhfabPLinkFills9
/- link.Link. -/
namespace Go.Proofs.Ytejnpppejalhfab
open Go.RowKit Go.Sort
def LinkF (M : Ob) (Lb : List Ob) (v : Value) (w w' : World) : Prop :=
  (linkC M Lb ≠ 0 ∧ v = .tuple #[lkA (.slice none 0 0) (.slice none 0 0) 0, .int .i64 (linkC M Lb)] ∧ St nF w w' []) ∨
  (linkC M Lb = 0 ∧ ∃ (s : List Ob × Int) (va vs : Value) (N : List (Sh × Value)), allP (M :: Lb) 8 0 (plStep ([], 1) M) = some s ∧ N.map (·.1) = linkSh (obP s.1) s.1 ∧ v = .tuple #[lkA va vs (16 + M.im.entry), .int .i64 0] ∧ St nF w w' (.row 131 4 va ((linkAr s.1).map arC) :: .row 49 3 vs (N.map fun p => shC p.1 p.2) :: N.map fxRow))
def kvI (o : Ob) : Value × Value := (stK o.im.name, imgV o)
/-- the map by names, while it is filled -/
def MapB (B : List Ob) (i : Nat) (L : List (Value × Value)) : Prop := (((B.take i).map fun o => o.im.name).Nodup → L = (B.take i).map kvI) ∧ (¬ ((B.take i).map fun o => o.im.name).Nodup → L.length < i) ∧ L.length ≤ i
theorem MapB.start (B : List Ob) : MapB B 0 [] := ⟨fun _ => rfl, fun h => absurd (by simp) h, Nat.le_refl _⟩
theorem MapB.mem {B : List Ob} {i : Nat} {L : List (Value × Value)} (h : L = (B.take i).map kvI) (nm : List UInt8) : (∃ v, (stK nm, v) ∈ L) ↔ nm ∈ (B.take i).map fun o => o.im.name := by
  rw [h]
  constructor
  · rintro ⟨v, hv⟩
    obtain ⟨o, ho, e⟩ := List.mem_map.1 hv
    have e1 := congrArg Prod.fst e
    unfold kvI stK at e1
    exact List.mem_map.2 ⟨o, ho, by simpa using e1⟩
  · intro hn
    obtain ⟨o, ho, rfl⟩ := List.mem_map.1 hn
    exact ⟨imgV o, List.mem_map.2 ⟨o, ho, rfl⟩⟩
theorem nd_snoc {α : Type} {l : List α} {x : α} : (l ++ [x]).Nodup ↔ l.Nodup ∧ x ∉ l := by
  rw [List.nodup_append]
  constructor
  · rintro ⟨h1, -, h3⟩
    exact ⟨h1, fun h => h3 x h x (by simp) rfl⟩
  · rintro ⟨h1, h2⟩
    refine ⟨h1, by simp, fun a ha b hb => ?_⟩
    have : b = x := by simpa using hb
    subst this
    rintro rfl
    exact h2 ha
theorem MapB.new {B : List Ob} {i : Nat} {L : List (Value × Value)} {o : Ob} (h : MapB B i L) (ho : B[i]? = some o) (hn : ∀ v, (stK o.im.name, v) ∉ L) : MapB B (i + 1) (L ++ [kvI o]) := by
  unfold MapB
  rw [List.take_add_one, ho]
  simp only [Option.toList_some, List.map_append, List.map_cons, List.map_nil, List.length_append, List.length_cons, List.length_nil]
  rw [nd_snoc]
  refine ⟨fun ⟨h1, h2⟩ => by rw [h.1 h1], fun hno => ?_, by have := h.2.2; omega⟩
  by_cases h1 : ((B.take i).map fun o => o.im.name).Nodup
  · exfalso
    have hin : o.im.name ∈ (B.take i).map fun o => o.im.name := Classical.byContradiction fun hc => hno ⟨h1, hc⟩
    obtain ⟨v, hv⟩ := (MapB.mem (h.1 h1) o.im.name).2 hin
    exact hn v hv
  · have := h.2.1 h1
    omega
theorem MapB.old {B : List Ob} {i j : Nat} {L : List (Value × Value)} {o : Ob} {u : Value} {x : Value × Value} (h : MapB B i L) (ho : B[i]? = some o) (hu : (stK o.im.name, u) ∈ L) : MapB B (i + 1) (L.set j x) := by
  unfold MapB
  rw [List.take_add_one, ho]
  simp only [Option.toList_some, List.map_append, List.map_cons, List.map_nil, List.length_set]
  rw [nd_snoc]
  refine ⟨fun ⟨h1, h2⟩ => absurd ((MapB.mem (h.1 h1) o.im.name).1 ⟨u, hu⟩) h2, fun hno => ?_, by have := h.2.2; omega⟩
  have := h.2.2
  omega
theorem ends_le : ∀ {l : List Ob}, (∀ o ∈ l, ImOk o.im) → 0 ≤ endsN l ∧ endsN l ≤ 255 * l.length
  | [], _ => by simp [endsN]
  | o :: l, h => by
    have h1 := lastEnd_le (h o (by simp))
    have h2 := ends_le (l := l) fun x hx => h x (List.mem_cons_of_mem _ hx)
    simp only [endsN, List.length_cons]
    omega
theorem perm3 {α : Type} (A B C : List α) (x y z : α) : ((A ++ B) ++ (x :: y :: z :: C)).Perm (x :: y :: z :: (A ++ (C ++ B))) := by
  refine List.perm_append_comm.trans ?_
  simp only [List.cons_append]
  exact (((List.perm_append_comm_assoc C A B).cons _).cons _).cons _
theorem find_first {B : List Ob} {i : Nat} {o : Ob} {p : Ob → Bool} (h : ∀ x ∈ B.take i, p x = false) (ho : B[i]? = some o) (hp : p o = true) : B.find? p = some o := by
  have e : B = B.take i ++ o :: B.drop (i + 1) := by
    conv => lhs; rw [← List.take_append_drop i B, drop_at ho]
  rw [e, List.find?_append]
  have : (B.take i).find? p = none := by
    rw [List.find?_eq_none]
    intro t ht
    rw [h t ht]
    simp
  rw [this, Option.none_or, List.find?_cons, hp]
set_option maxRecDepth 100000 in
set_option maxHeartbeats 8000000 in
theorem Link_fn {w : World} {M : Ob} {Lb : List Ob} {vl : Value} (hM : ObV w M) (hL : Sl nF w 6 vl (Lb.map imR)) (hLo : ∀ o ∈ Lb, ObV w o) (hB : ∀ o ∈ M :: Lb, ImB o.im ∧ ImD o.im) : Fn Try.prog 13 [imgV M, vl] w (fun v w' => LinkF M Lb v w w') := by
  have hbl := hL.bound
  obtain ⟨pl, cl, rfl⟩ := hL.len
  have hall : ∀ o ∈ M :: Lb, ObV w o := fun o ho => by
    rcases List.mem_cons.1 ho with rfl | h
    · exact hM
    · exact hLo o h
  have hM1 := hM
  obtain ⟨I, vn, vs, vy, vr, a0⟩ := M
  replace hM1 : ImV w I vn vs vy vr := hM1
  obtain ⟨pn, cn, rfl⟩ := hM1.needs.len
  obtain ⟨ps, cs, rfl⟩ := hM1.segs.len
  obtain ⟨py, cy, rfl⟩ := hM1.syms.len
  obtain ⟨pr, cr, rfl⟩ := hM1.rels.len
  refine fn_enter (fn := Try.f13) ⟨Try.func13, by kernel_rfl, by kernel_rfl⟩ (by exact rfl) Try.ntmps13 (by exact rfl) ?_
  have hS := St.start w
  show WC _ _ _ _ _ [(0, .agg [.string ⟨I.name.toArray⟩, .slice pn I.needs.length cn, .slice ps I.segs.length cs, .slice py I.syms.length cy, .slice pr I.rels.length cr, .int .i64 I.entry].toArray), (1, .slice pl Lb.length cl)] _
  by_cases h6 : 6 < Lb.length
  · repeat' (first | (first | ((with_reducible apply l_pure tabOk); exact rfl; exact rfl) | ((with_reducible apply l_build tabOk); exact rfl; exact rfl; ((exact (rfl : _ = some [_, _, _]))); exact rfl) | ((with_reducible apply l_box hS); exact rfl; exact rfl; exact rfl; intro g w' hS'; clear hS; have hS := hS'; clear hS') | ((with_reducible apply l_alloc hS tabOk); exact rfl; exact rfl; exact rfl; intro g w' hS'; clear hS; have hS := hS'; clear hS') | (((with_reducible apply l_store hS tabOk (i := 0)); exact rfl; exact rfl; exact rfl; exact rfl; exact rfl; exact rfl; exact rfl; exact rfl; ((exact (rfl : _ = [_, _, _]))); intro w' hS'; simp only [List.set] at hS'; clear hS; have hS := hS'; clear hS'))) | (first | (with_reducible apply c_seq) | (with_reducible apply c_region) | (with_reducible apply l_nil) | (with_reducible apply q_then) | (with_reducible apply c_ret) | (with_reducible apply q_then_ret)) | (((with_reducible apply c_ifd); exact rfl; all_goals (intro hb hp; try (exfalso; omega)))))
    (apply q_ret2); (repeat (first | exact ResL.nil | (apply ResL.tmp; exact rfl) | (apply ResL.cell; exact rfl; (((with_reducible apply Loads.st tabOk); exact rfl; ((exact hS.blkR 0 rfl)); exact rfl)))))
    refine Or.inl ⟨?_, ?_, hS.sub (List.nil_sublist _)⟩
    · unfold linkC
      rw [if_pos h6]
      decide
    · unfold linkC
      rw [if_pos h6]
      rfl
  repeat' (first | (first | ((with_reducible apply l_pure tabOk); exact rfl; exact rfl) | ((with_reducible apply l_load); exact rfl; (((with_reducible apply Loads.st tabOk); exact rfl; ((exact hS.blkR 4 rfl)); exact rfl)); exact rfl) | ((with_reducible apply l_build tabOk); exact rfl; exact rfl; ((exact (rfl : _ = some [_, _, _, _]))); exact rfl) | ((with_reducible apply l_box hS); exact rfl; exact rfl; exact rfl; intro g w' hS'; clear hS; have hS := hS'; clear hS') | ((with_reducible apply l_alloc hS tabOk); exact rfl; exact rfl; exact rfl; intro g w' hS'; clear hS; have hS := hS'; clear hS') | ((with_reducible apply l_bslice hS tabOk); exact rfl; exact rfl; exact rfl; exact rfl; exact rfl; exact rfl; exact rfl; intro g w' hS'; clear hS; have hS := hS'; clear hS')) | (first | (with_reducible apply c_seq) | (with_reducible apply c_region) | (with_reducible apply l_nil) | (with_reducible apply q_then) | (with_reducible apply c_skip)) | (((with_reducible apply c_ifd); exact rfl; all_goals (intro hb hp; try (exfalso; omega)))) | ((with_reducible apply l_gets); exact rfl; exact g_makeMap hS; rintro _ w' ⟨r, rfl, hS'⟩; clear hS; have hS := hS'; clear hS'))
  rename_i g2 w1 g4 w2 w3 rb w4 gw w5 g1 w6
  obtain ⟨B, hBe⟩ : ∃ B, B = (⟨I, .slice pn I.needs.length cn, .slice ps I.segs.length cs, .slice py I.syms.length cy, .slice pr I.rels.length cr, a0⟩ : Ob) :: Lb := ⟨_, rfl⟩
  have hBl : B.length = Lb.length + 1 := by rw [hBe]; rfl
  ((with_reducible apply l_call); exact rfl; exact rfl; exact concatI (hS.rowRo 0 rfl) (hS.rowSl 1 rfl) (hL.now hS) (by simp) (by rw [List.length_map]; omega); exact rfl; rintro u w' hS'; replace hS := hS.transA hS'; simp only [appA] at hS; clear hS')
  replace hS := St.reorder [5, 0, 3, 4, 6, 7] hS (by decide) rfl
  replace hS : St nF w w' (.obj rb (.map #[] 0) :: [.row 27 6 u (B.map imR), .blk gw [.map (some rb), .map (some r), .slice none 0 0, .int .i64 1], .obj r (.map #[] 0), .blk g4 [.slice none 0 0, .slice none 0 0, .int .i64 0], .blk g2 [.string ⟨I.name.toArray⟩, .slice pn I.needs.length cn, .slice ps I.segs.length cs, .slice py I.syms.length cy, .slice pr I.rels.length cr, .int .i64 I.entry]]) := by rw [hBe]; exact hS
  obtain ⟨pu, cu, rfl⟩ := hS.rowSlice 1 rfl
  rw [List.length_map] at hS ⊢
  have hallB : ∀ o ∈ B, ObV w o := by rw [hBe]; exact hall
  have hBB : ∀ o ∈ B, ImB o.im ∧ ImD o.im := by rw [hBe]; exact hB
  have hcode : linkC ⟨I, .slice pn I.needs.length cn, .slice ps I.segs.length cs, .slice py I.syms.length cy, .slice pr I.rels.length cr, a0⟩ Lb = match B.find? (fun o => !decide (checkIm o.im = 0)) with
    | some o => checkIm o.im
    | none => if (B.map fun o => o.im.name).Nodup then
        match allP B 8 0 (plStep ([], 1) ⟨I, .slice pn I.needs.length cn, .slice ps I.segs.length cs, .slice py I.syms.length cy, .slice pr I.rels.length cr, a0⟩) with
        | none => 6
        | some s => if s.2 > 256 then 3 else if symsAll (obP s.1) s.1 = true then 0 else 7
      else 5 := by
    unfold linkC
    rw [if_neg h6, hBe]
    rfl
  unfold LinkF
  rw [hcode, ← hBe]
  have hB7 : B.length ≤ 7 := by omega
  have hMB0 : (⟨I, .slice pn I.needs.length cn, .slice ps I.segs.length cs, .slice py I.syms.length cy, .slice pr I.rels.length cr, a0⟩ : Ob) ∈ B := by rw [hBe]; exact List.mem_cons_self
  clear hcode hall hLo hL hM hM1 hB h6
  repeat' (first | (((with_reducible apply l_pure tabOk); exact rfl; exact rfl)) | (first | (with_reducible apply c_seq) | (with_reducible apply c_region) | (with_reducible apply l_nil) | (with_reducible apply q_then) | (with_reducible apply c_block)))
  refine c_loopK (X := Nat × Array MapEntry × Nat × List (Value × Value)) (fun x => [(31, .int .i64 (x.1 : Nat))]) [2, 4, 6, 7, 29, 30] rfl (fun x => [.obj rb (.map x.2.1 x.2.2.1)]) (fun x => x.1 ≤ B.length ∧ MapG .string x.2.1 x.2.2.2 ∧ MapB B x.1 x.2.2.2 ∧ ∀ o ∈ B.take x.1, (!decide (checkIm o.im = 0)) = false) (fun x => B.length - x.1) (0, #[], 0, []) (by repeat (first | exact Fr.sub_nil _ | (apply Fr.sub_cons; exact rfl))) ⟨Nat.zero_le _, MapG.nil _, MapB.start B, by simp⟩ hS ?_
  clear hS
  rintro ⟨i, es, c, L⟩ w7 ⟨hi, hG, hMB, hck⟩ hS
  dsimp only [List.cons_append, List.nil_append] at hi hG hMB hck hS ⊢
  by_cases hlt : i < B.length
  rotate_left
  · obtain rfl : i = B.length := by omega
    rw [List.take_of_length_le (Nat.le_refl _)] at hck
    unfold MapB at hMB
    rw [List.take_of_length_le (Nat.le_refl _)] at hMB
    have hfn : B.find? (fun o => !decide (checkIm o.im = 0)) = none := by
      rw [List.find?_eq_none]
      intro x hx
      rw [hck x hx]
      simp
    have hsz := hG.size
    rw [hfn]
    dsimp only
    by_cases hnd : (B.map fun o => o.im.name).Nodup
    rotate_left
    · have hlt2 := hMB.2.1 hnd
      rw [if_neg hnd]
      repeat' (first | (first | ((with_reducible apply l_pure tabOk); exact rfl; exact rfl) | ((with_reducible apply l_load); exact rfl; (((with_reducible apply Loads.sc tabOk); exact rfl; ((exact hS.blkC 2 rfl rfl)))); exact rfl) | ((with_reducible apply l_build tabOk); exact rfl; exact rfl; ((exact (rfl : _ = some [_, _, _]))); exact rfl) | (((with_reducible apply l_store hS tabOk (i := 4)); exact rfl; exact rfl; exact rfl; exact rfl; exact rfl; exact rfl; exact rfl; exact rfl; ((exact (rfl : _ = [_, _, _]))); intro w' hS'; simp only [List.set] at hS'; clear hS; have hS := hS'; clear hS'))) | (first | (with_reducible apply c_seq) | (with_reducible apply c_region) | (with_reducible apply l_nil) | (with_reducible apply q_then) | (with_reducible apply c_exit) | (with_reducible apply c_ret) | (with_reducible apply q_then_exit) | (with_reducible apply q_then_ret) | (with_reducible apply q_block_exit)) | (((with_reducible apply c_ifd); exact rfl; all_goals (intro hb hp; try (exfalso; omega)))) | ((with_reducible apply l_gets); exact rfl; exact g_lenMap hS (i := 0) mt_byName rfl rfl; rintro _ _ ⟨rfl, rfl⟩))
      (apply q_ret2); (repeat (first | exact ResL.nil | (apply ResL.tmp; exact rfl) | (apply ResL.cell; exact rfl; (((with_reducible apply Loads.st tabOk); exact rfl; ((exact hS.blkR 4 rfl)); exact rfl)))))
      exact Or.inl ⟨by decide, rfl, hS.sub (List.nil_sublist _)⟩
    rw [if_pos hnd]
    obtain rfl := hMB.1 hnd
    rw [List.length_map] at hsz
    repeat' (first | (first | ((with_reducible apply l_pure tabOk); exact rfl; exact rfl) | ((with_reducible apply l_load); exact rfl; (first | ((with_reducible apply Loads.sc tabOk); exact rfl; ((exact hS.blkC 2 rfl rfl))) | ((with_reducible apply Loads.st tabOk); exact rfl; ((exact hS.blkR 5 rfl)); exact rfl)); exact rfl)) | (first | (with_reducible apply c_seq) | (with_reducible apply c_region) | (with_reducible apply l_nil) | (with_reducible apply q_then) | (with_reducible apply c_skip) | (with_reducible apply c_exit) | (with_reducible apply q_then_exit) | (with_reducible apply q_block_exit)) | (((with_reducible apply c_ifd); exact rfl; all_goals (intro hb hp; try (exfalso; omega)))) | ((with_reducible apply l_gets); exact rfl; exact g_lenMap hS (i := 0) mt_byName rfl rfl; rintro _ _ ⟨rfl, rfl⟩))
    replace hS := hS.addNil 105 7
    replace hS := St.reorder [3, 4, 0, 1, 5, 6] hS (by decide) rfl
    have hckB : ∀ o ∈ B, checkIm o.im = 0 := fun o ho => by
      have := hck o ho
      exact Classical.byContradiction fun hc => by rw [decide_eq_false hc] at this; cases this
    have hcall := all_fn (p := none) (c := 0) (es := #[]) (cc := 0) (rb := rb) (rp := r) (gw := gw) (B := B) (Γ := [_, _]) hS ⟨[], MapG.nil _, rfl⟩ hG (fun o ho => ⟨(hallB o ho).needs.nowM (Γ := [_, _]) hS, (hallB o ho).segs.nowM (Γ := [_, _]) hS, (hallB o ho).syms.nowM (Γ := [_, _]) hS, (hallB o ho).rels.nowM (Γ := [_, _]) hS⟩) (fun o ho => (check_zeroL (hckB o ho)).1) hMB0 hB7
    have hPk : ∀ s, allP B 8 0 (plStep ([], 1) ⟨I, .slice pn I.needs.length cn, .slice ps I.segs.length cs, .slice py I.syms.length cy, .slice pr I.rels.length cr, a0⟩) = some s → PkI s ∧ Fst ⟨I, .slice pn I.needs.length cn, .slice ps I.segs.length cs, .slice py I.syms.length cy, .slice pr I.rels.length cr, a0⟩ s := fun s hs => ⟨allP_inv (Inv := PkI) (fun s o h _ => h.step o) hs (PkI.start.step _), allP_inv (Inv := Fst _) (fun s o h _ => fst_step o h) hs (fst_start _)⟩
    generalize hR : allP B 8 0 (plStep ([], 1) ⟨I, .slice pn I.needs.length cn, .slice ps I.segs.length cs, .slice py I.syms.length cy, .slice pr I.rels.length cr, a0⟩) = R at hcall hPk ⊢
    clear hR hG hck hsz hMB hMB0 hlt
    ((with_reducible apply l_call); exact rfl; exact rfl; exact hcall; exact rfl; rintro _ w' ⟨rfl, p', c', es', cc', s, hP, hA, hs, hS'⟩)
    replace hS := St.transM (Θ := LkM gw rb r none 0 #[] 0 ([], 1) ++ [.obj rb (.map es c)]) (Γ := [_, _]) hS hS'
    clear hS' hcall
    simp only [LkM, LkS, List.cons_append, List.nil_append] at hS
    cases R with
    | none =>
      simp only [allV]
      repeat' (first | (first | ((with_reducible apply l_pure tabOk); exact rfl; exact rfl) | ((with_reducible apply l_build tabOk); exact rfl; exact rfl; ((exact (rfl : _ = some [_, _, _]))); exact rfl) | (((with_reducible apply l_store hS tabOk (i := 4)); exact rfl; exact rfl; exact rfl; exact rfl; exact rfl; exact rfl; exact rfl; exact rfl; ((exact (rfl : _ = [_, _, _]))); intro w' hS'; simp only [List.set] at hS'; clear hS; have hS := hS'; clear hS'))) | (first | (with_reducible apply c_seq) | (with_reducible apply c_region) | (with_reducible apply l_nil) | (with_reducible apply q_then) | (with_reducible apply c_ret) | (with_reducible apply q_then_ret)) | (((with_reducible apply c_ift); exact rfl; (exact rfl))))
      (apply q_ret2); (repeat (first | exact ResL.nil | (apply ResL.tmp; exact rfl) | (apply ResL.cell; exact rfl; (((with_reducible apply Loads.st tabOk); exact rfl; ((exact hS.blkR 4 rfl)); exact rfl)))))
      exact Or.inl ⟨by decide, rfl, hS.sub (List.nil_sublist _)⟩
    | some s' =>
      obtain rfl := hs s' rfl
      obtain ⟨hPk, hFs⟩ := hPk s rfl
      simp only [allV]
      by_cases h256 : s.2 > 256
      · rw [if_pos h256, if_pos h256]
        repeat' (first | (first | ((with_reducible apply l_pure tabOk); exact rfl; exact rfl) | ((with_reducible apply l_build tabOk); exact rfl; exact rfl; ((exact (rfl : _ = some [_, _, _]))); exact rfl) | (((with_reducible apply l_store hS tabOk (i := 4)); exact rfl; exact rfl; exact rfl; exact rfl; exact rfl; exact rfl; exact rfl; exact rfl; ((exact (rfl : _ = [_, _, _]))); intro w' hS'; simp only [List.set] at hS'; clear hS; have hS := hS'; clear hS'))) | (first | (with_reducible apply c_seq) | (with_reducible apply c_region) | (with_reducible apply l_nil) | (with_reducible apply q_then) | (with_reducible apply c_ret) | (with_reducible apply q_then_ret)) | (((with_reducible apply c_ift); exact rfl; (exact rfl))))
        (apply q_ret2); (repeat (first | exact ResL.nil | (apply ResL.tmp; exact rfl) | (apply ResL.cell; exact rfl; (((with_reducible apply Loads.st tabOk); exact rfl; ((exact hS.blkR 4 rfl)); exact rfl)))))
        exact Or.inl ⟨by decide, rfl, hS.sub (List.nil_sublist _)⟩
      rw [if_neg h256, if_neg h256]
      repeat' (first | (((with_reducible apply l_pure tabOk); exact rfl; exact rfl)) | (first | (with_reducible apply c_seq) | (with_reducible apply c_region) | (with_reducible apply l_nil) | (with_reducible apply q_then) | (with_reducible apply c_skip)) | (((with_reducible apply c_iff); exact rfl; (exact rfl))))
      obtain ⟨os, nx⟩ := s
      dsimp only at hP hA hPk hFs h256 hS ⊢
      obtain ⟨rs, hrs⟩ := hFs
      dsimp only at hrs
      have hAs := hA.sub
      have hAl := hA.len
      dsimp only at hAs hAl
      have hosB : ∀ o ∈ os, ImF nF w o ∧ checkIm o.im = 0 := fun o ho => by
        obtain ⟨a, ha⟩ := hAs o ho
        have h1 := hallB { o with at_ := a } ha
        have h2 : checkIm o.im = 0 := hckB { o with at_ := a } ha
        exact ⟨⟨h1.needs, h1.segs, h1.syms, h1.rels⟩, h2⟩
      have hpos : 0 < os.length := by rw [hrs]; simp
      obtain ⟨gos, rfl⟩ := hS.rowSome 2 rfl hpos
      have hrow : (os.map obC)[0]? = some [.string ⟨I.name.toArray⟩, .slice pn I.needs.length cn, .slice ps I.segs.length cs, .slice py I.syms.length cy, .slice pr I.rels.length cr, .int .i64 I.entry, .int .i64 16] := by rw [hrs]; rfl
      have hent : 0 ≤ I.entry ∧ I.entry < 4096 := by
        have h1 := check_zeroL (hosB _ (by rw [hrs]; exact List.mem_cons_self)).2
        obtain ⟨se, hse, -⟩ := h1.2.2.2.entry
        exact own_small h1.1.s2 hse
      refine c_heldS 13 rfl hS (by kernel_rfl) ?_
      intro wh hh
      clear hS
      have hS := hh
      clear hh
      ((with_reducible apply a_take 0 tabOk); exact rfl; kernel_rfl; kernel_rfl; kernel_rfl; exact (fun _ _ _ h => h); exact hS; exact rfl; exact rfl)
      ((with_reducible apply a_take 1 tabOk); exact rfl; kernel_rfl; kernel_rfl; kernel_rfl; exact (fun _ _ _ h => h); exact hS; exact rfl; exact rfl)
      ((with_reducible apply a_take 2 tabOk); exact rfl; kernel_rfl; kernel_rfl; kernel_rfl; exact (fun _ _ _ h => h); exact hS; exact rfl; exact rfl)
      ((with_reducible apply a_takeL 3); exact rfl; kernel_rfl; kernel_rfl; kernel_rfl; exact (fun _ _ _ h => h); exact hS; exact rfl; (intro wd hd; replace hd : St _ _ wd _ := hd; (((with_reducible apply Loads.sl tabOk); exact rfl; ((exact hd.blkC 0 rfl rfl))))); exact rfl)
      ((with_reducible apply a_ix 4 tabOk); exact rfl; kernel_rfl; kernel_rfl; kernel_rfl; exact (fun _ _ _ _ h => h); exact hS; exact rfl; exact rfl; exact rfl; ((exact rfl)); ((omega)); exact rfl)
      ((with_reducible apply a_take 5 tabOk); exact rfl; kernel_rfl; kernel_rfl; kernel_rfl; exact (fun _ _ _ h => h); exact hS; exact rfl; exact rfl)
      ((with_reducible apply a_takeL 6); exact rfl; kernel_rfl; kernel_rfl; kernel_rfl; exact (fun _ _ _ h => h); exact hS; exact rfl; (intro wd hd; replace hd : St _ _ wd _ := hd; (((with_reducible apply Loads.sc tabOk); exact rfl; ((exact hd.rowCj 2 rfl (by assumption) rfl))))); exact rfl)
      ((with_reducible apply a_take 7 tabOk); exact rfl; kernel_rfl; kernel_rfl; kernel_rfl; exact (fun _ _ _ h => h); exact hS; exact rfl; exact rfl)
      ((with_reducible apply a_takeL 8); exact rfl; kernel_rfl; kernel_rfl; kernel_rfl; exact (fun _ _ _ h => h); exact hS; exact rfl; (intro wd hd; replace hd : St _ _ wd _ := hd; (((with_reducible apply Loads.sc tabOk); exact rfl; ((exact hd.blkC 5 rfl rfl))))); exact rfl)
      refine a_takeR 9 rfl (by kernel_rfl) (by kernel_rfl) (by kernel_rfl) (fun _ _ _ h => h) hS (fun a ha => r_add rfl rfl (by omega) (by omega) a ha _) rfl ?_
      ((with_reducible apply a_build 10 tabOk); exact rfl; kernel_rfl; kernel_rfl; kernel_rfl; exact (fun _ _ _ _ h => h); exact hS; exact rfl; exact rfl; ((exact (rfl : _ = some [_, _, _]))); exact rfl)
      refine a_one (i := 11) (by kernel_rfl) ?_
      refine o_gets rfl (g_allocT hS tabOk rfl rfl) rfl ?_
      rintro _ w' ⟨g, rfl, hS'⟩
      clear hS; have hS := hS'; clear hS'
      refine ⟨hS.drop, ?_⟩
      refine a_one (i := 12) (by kernel_rfl) ?_
      refine o_gets0 (Φ := fun _ w' => St _ _ w' _) rfl (g_store hS tabOk (i := 0) rfl rfl rfl rfl rfl (Nat.le_of_ble_eq_true rfl) (List.all_eq_true.1 rfl)) ?_
      intro _ w' hS'
      simp only [List.set] at hS'
      clear hS; have hS := hS'; clear hS'
      refine ⟨hS.drop, ?_⟩
      refine a_done (by kernel_rfl) ?_
      repeat' (first | (first | ((with_reducible apply l_pure tabOk); exact rfl; exact rfl) | ((with_reducible apply l_load); exact rfl; (((with_reducible apply Loads.sl tabOk); exact rfl; ((exact hS.blkC 1 rfl rfl)))); exact rfl)) | (first | (with_reducible apply c_seq) | (with_reducible apply c_region) | (with_reducible apply l_nil) | (with_reducible apply q_then) | (with_reducible apply c_block)))
      obtain ⟨g12, hg12⟩ : ∃ g12, g12 = g := ⟨_, rfl⟩
      rw [← hg12] at hS ⊢
      clear hg12
      replace hS := (hS.addNil 49 3).addNil 131 4
      replace hS := St.reorder [5, 3, 7, 2, 0, 1] hS (by decide) rfl
      clear hrow
      refine c_loopK (Γ := []) (X := Nat × (Option Addr × Nat) × (Option Addr × Nat) × List Ar × List (Sh × Value)) (fun x => [(81, .int .i64 (x.1 : Nat))]) [4, 6, 12, 79, 80] rfl (fun x => .row 105 7 (.slice (some ⟨gos, 0, none⟩) os.length c') (os.map obC) :: .blk gw [.map (some rb), .map (some r), .slice (some ⟨gos, 0, none⟩) os.length c', .int .i64 nx] :: .blk g4 [.slice none 0 0, .slice none 0 0, .int .i64 0] :: (LyS g12 x.2.1.1 x.2.1.2 x.2.2.1.1 x.2.2.1.2 (16 + I.entry) x.2.2.2.1 x.2.2.2.2 ++ x.2.2.2.2.map fxRow)) (fun x => x.1 ≤ os.length ∧ x.2.2.2.1 = linkAr (os.take x.1) ∧ x.2.2.2.2.map (·.1) = linkSh (obP os) (os.take x.1) ∧ AOk x.2.2.2.1 ∧ x.2.2.2.1.length ≤ 6 * x.1 ∧ x.2.2.2.2.length ≤ 1530 * x.1 ∧ symsAll (obP os) (os.take x.1) = true) (fun x => os.length - x.1) (0, (none, 0), (none, 0), [], []) (by repeat (first | exact Fr.sub_nil _ | (apply Fr.sub_cons; exact rfl))) ⟨Nat.zero_le _, rfl, rfl, (fun _ h => nomatch h), Nat.le_refl _, Nat.le_refl _, rfl⟩ hS ?_
      clear hS
      rintro ⟨j, ⟨qa, da⟩, ⟨qs, dq⟩, A, Lp⟩ w8 ⟨hj, hA1, hL1, hAo, hAn, hLn, hsy⟩ hS
      dsimp only [] at hj hA1 hL1 hAo hAn hLn hsy hS ⊢
      simp only [LyS, List.cons_append, List.nil_append, List.append_nil] at hS
      by_cases hjt : j < os.length
      rotate_left
      · rw [List.take_of_length_le (by omega)] at hA1 hL1 hsy
        rw [if_pos hsy]
        repeat' (first | (first | ((with_reducible apply l_pure tabOk); exact rfl; exact rfl) | ((with_reducible apply l_load); exact rfl; (((with_reducible apply Loads.st tabOk); exact rfl; ((exact hS.blkR 3 rfl)); exact rfl)); exact rfl) | (((with_reducible apply l_store hS tabOk (i := 2)); exact rfl; exact rfl; exact rfl; exact rfl; exact rfl; exact rfl; exact rfl; exact rfl; ((exact (rfl : _ = [_, _, _]))); intro w' hS'; simp only [List.set] at hS'; clear hS; have hS := hS'; clear hS'))) | (first | (with_reducible apply c_seq) | (with_reducible apply c_region) | (with_reducible apply l_nil) | (with_reducible apply q_then) | (with_reducible apply c_exit) | (with_reducible apply c_ret) | (with_reducible apply q_then_exit) | (with_reducible apply q_block_exit)) | (((with_reducible apply c_ifd); exact rfl; all_goals (intro hb hp; try (exfalso; omega)))))
        (apply q_ret2); (repeat (first | exact ResL.nil | (apply ResL.tmp; exact rfl) | (apply ResL.cell; exact rfl; (((with_reducible apply Loads.st tabOk); exact rfl; ((exact hS.blkR 2 rfl)); exact rfl)))))
        refine Or.inr ⟨rfl, (os, nx), .slice qa A.length da, .slice qs Lp.length dq, Lp, rfl, hL1, rfl, ?_⟩
        rw [← hA1]
        exact hS.drop.drop.drop.drop
      obtain ⟨o, ho⟩ := lt_get (l := os) (i := j) (by omega)
      have hom := List.mem_of_getElem? ho
      have hrow : (os.map obC)[j]? = some [.string ⟨o.im.name.toArray⟩, o.vn, o.vs, o.vy, o.vr, .int .i64 o.im.entry, .int .i64 o.at_] := map_get (f := obC) ho
      obtain ⟨hof, hoc⟩ := hosB o hom
      obtain ⟨z1, z2, z3, z4⟩ := check_zeroL hoc
      have hos0 : ∀ x ∈ os, ImOk x.im := fun x hx => (check_zeroL (hosB x hx).2).1
      have hat : o.at_ = (1 + endsN (os.take j)) * 16 := hPk.at_ j o ho
      have hen := ends_le (l := os.take j) fun x hx => hos0 x (List.mem_of_mem_take hx)
      rw [List.length_take] at hen
      obtain ⟨b0, hb0⟩ : ∃ b0, b0 = 1 + endsN (os.take j) := ⟨_, rfl⟩
      rw [← hb0] at hat
      have hb1 : 1 ≤ b0 ∧ b0 ≤ 3000 := by omega
      have hdiv : o.at_ / 16 = b0 := by omega
      have hsyr : ∀ x ∈ os, ∀ s ∈ x.im.syms, -9223372036854775808 ≤ x.at_ + s.at_ ∧ x.at_ + s.at_ ≤ 9223372036854775807 := fun x hx s hs => by
        obtain ⟨q, hq⟩ := List.mem_iff_getElem?.1 hx
        have q1 : x.at_ = (1 + endsN (os.take q)) * 16 := hPk.at_ q x hq
        have q2 := ends_le (l := os.take q) fun x hx => hos0 x (List.mem_of_mem_take hx)
        rw [List.length_take] at q2
        obtain ⟨y, hy⟩ := Option.isSome_iff_exists.1 ((check_zeroL (hosB x hx).2).2.2.2.syms s hs)
        have q3 := own_small (hos0 x hx).s2 hy
        omega
      have hshl : (shO (obP os) o.im b0).length ≤ 1530 := by
        have h1 := pgs_len_le (b0 := b0) z1.s2
        have h2 := z1.s3
        unfold shO
        rw [List.length_map]
        omega
      have hov : ObV w o := ⟨hof.needs, hof.segs, hof.syms, hof.rels⟩
      obtain ⟨A', hA'⟩ : ∃ A', A' = arsO A b0 o.im.segs := ⟨_, rfl⟩
      have hA2 : A' = linkAr (os.take (j + 1)) := by rw [hA', linkAr_step ho, hdiv, hA1]
      have hA3 := arsO_ok hAo hb1.1 (by omega) z1.s2
      rw [← hA'] at hA3
      have z5 := z1.s3
      obtain ⟨J, un, us, uy, ur, at_⟩ := o
      dsimp only at hrow hat hdiv hshl z1 z2 z3 z4 z5 hA'
      replace hA3 : AOk A' ∧ A'.length ≤ A.length + J.segs.length := hA3
      replace hov : ImV w J un us uy ur := hov
      obtain ⟨qn, en, rfl⟩ := hov.needs.len
      obtain ⟨qs', es_, rfl⟩ := hov.segs.len
      obtain ⟨qy, ey, rfl⟩ := hov.syms.len
      obtain ⟨qr, er, rfl⟩ := hov.rels.len
      repeat' (first | (first | ((with_reducible apply l_pure tabOk); exact rfl; exact rfl) | ((with_reducible apply l_load); exact rfl; (((with_reducible apply Loads.st tabOk); exact rfl; (first | exact hS.blkR 0 rfl | exact hS.rowR 0 rfl (by assumption)); exact rfl)); exact rfl) | ((with_reducible apply l_ix tabOk); exact rfl; exact rfl; exact rfl; ((exact rfl)); ((omega)); exact rfl) | ((with_reducible apply l_alloc hS tabOk); exact rfl; exact rfl; exact rfl; intro g w' hS'; clear hS; have hS := hS'; clear hS') | (((with_reducible apply l_store hS tabOk (i := 0)); exact rfl; exact rfl; exact rfl; exact rfl; exact rfl; exact rfl; exact rfl; exact rfl; ((exact rfl)); intro w' hS'; simp only [List.set] at hS'; clear hS; have hS := hS'; clear hS'))) | (first | (with_reducible apply c_seq) | (with_reducible apply c_region) | (with_reducible apply l_nil) | (with_reducible apply q_then) | (with_reducible apply c_skip) | (with_reducible apply c_block)) | (((with_reducible apply c_ifd); exact rfl; all_goals (intro hb hp; try (exfalso; omega)))))
      replace hS := St.reorderT 7 [4, 5, 6, 1, 2, 3] hS (by decide) rfl
      simp only [appA, List.drop_succ_cons, List.drop_zero] at hS
      have hcall := lay_fn (go := g12) (gw := gw) (qa := qa) (da := da) (qs := qs) (dq := dq) (en := 16 + I.entry) (A := A) (Lp := Lp) (os := os) (b0 := b0) (Γ := _ :: _ :: _ :: Lp.map fxRow) hS (St.ownBs (Θ := LyS g12 qa da qs dq (16 + I.entry) A Lp) (Γ := _ :: _ :: _ :: Lp.map fxRow) hS 1 rfl rfl) (St.ownSl (Θ := LyS g12 qa da qs dq (16 + I.entry) A Lp) (Γ := _ :: _ :: _ :: Lp.map fxRow) hS 0 rfl) (fun x hx => ⟨(hosB x hx).1.needs.nowM (Γ := _ :: _ :: _ :: Lp.map fxRow) hS, (hosB x hx).1.segs.nowM (Γ := _ :: _ :: _ :: Lp.map fxRow) hS, (hosB x hx).1.syms.nowM (Γ := _ :: _ :: _ :: Lp.map fxRow) hS, (hosB x hx).1.rels.nowM (Γ := _ :: _ :: _ :: Lp.map fxRow) hS⟩) hsyr hom hat hb1.1 (by omega) z1.s2 z3 z4 z2 z1.s3 hAo (by omega) (by omega)
      ((with_reducible apply l_call); exact rfl; exact rfl; exact hcall; exact rfl; rintro v w' hv)
      clear hcall
      rcases hv with ⟨hsf, rfl, hS'⟩ | ⟨hst, rfl, qa', da', qs', dq', N, hN, hS'⟩
      · replace hS := St.transM (Θ := LyS g12 qa da qs dq (16 + I.entry) A Lp) (Γ := _ :: _ :: _ :: Lp.map fxRow) hS hS'
        clear hS'
        simp only [List.nil_append] at hS
        have hsn : symsAll (obP os) os = false := all_no ho hsf
        rw [if_neg (by rw [hsn]; simp)]
        repeat' (first | (first | ((with_reducible apply l_pure tabOk); exact rfl; exact rfl) | ((with_reducible apply l_build tabOk); exact rfl; exact rfl; ((exact (rfl : _ = some [_, _, _]))); exact rfl) | (((with_reducible apply l_store hS tabOk (i := 2)); exact rfl; exact rfl; exact rfl; exact rfl; exact rfl; exact rfl; exact rfl; exact rfl; ((exact (rfl : _ = [_, _, _]))); intro w' hS'; simp only [List.set] at hS'; clear hS; have hS := hS'; clear hS'))) | (first | (with_reducible apply c_seq) | (with_reducible apply c_region) | (with_reducible apply l_nil) | (with_reducible apply q_then) | (with_reducible apply c_ret) | (with_reducible apply q_then_ret) | (with_reducible apply q_block_ret)) | (((with_reducible apply c_ift); exact rfl; (exact rfl))))
        (apply q_ret2); (repeat (first | exact ResL.nil | (apply ResL.tmp; exact rfl) | (apply ResL.cell; exact rfl; (((with_reducible apply Loads.st tabOk); exact rfl; ((exact hS.blkR 2 rfl)); exact rfl)))))
        exact Or.inl ⟨by decide, rfl, hS.sub (List.nil_sublist _)⟩
      · replace hS := (St.transM (Θ := LyS g12 qa da qs dq (16 + I.entry) A Lp) (Γ := _ :: _ :: _ :: Lp.map fxRow) hS hS').perm (perm3 _ _ _ _ _ _)
        clear hS'
        rw [← hA', ← List.map_append] at hS
        replace hN : N.map (·.1) = shO (obP os) J b0 := hN
        have hNl : N.length ≤ 1530 := by
          have := congrArg List.length hN
          rw [List.length_map] at this
          omega
        simp only [LyS, List.cons_append, List.nil_append] at hS
        repeat' (first | (first | ((with_reducible apply l_add); exact rfl; exact rfl; omega; omega; exact rfl) | ((with_reducible apply l_pure tabOk); exact rfl; exact rfl)) | (first | (with_reducible apply c_seq) | (with_reducible apply c_region) | (with_reducible apply l_nil) | (with_reducible apply q_then) | (with_reducible apply c_skip) | (with_reducible apply q_block)) | (((with_reducible apply c_iff); exact rfl; (exact rfl))))
        refine q_loopK (j + 1, (qa', da'), (qs', dq'), A', Lp ++ N) (by repeat (first | exact Fr.sub_nil _ | (apply Fr.sub_cons; exact rfl))) ⟨by show j + 1 ≤ _; omega, hA2, ?_, hA3.1, by show A'.length ≤ 6 * (j + 1); omega, by show (Lp ++ N).length ≤ 1530 * (j + 1); rw [List.length_append]; omega, all_take_succ hsy ho hst⟩ (by simpa only [LyS, List.cons_append, List.nil_append, List.append_nil] using hS) (by show _ - (j + 1) < _ - j; omega)
        show (Lp ++ N).map (·.1) = linkSh (obP os) (os.take (j + 1))
        rw [List.map_append, hL1, hN, linkSh_step ho, hdiv]
  obtain ⟨o, ho⟩ := lt_get (l := B) (i := i) (by omega)
  have hrow : (B.map imR)[i]? = some [.string ⟨o.im.name.toArray⟩, o.vn, o.vs, o.vy, o.vr, .int .i64 o.im.entry] := map_get (f := imR) ho
  have hov := hallB o (List.mem_of_getElem? ho)
  have hob := hBB o (List.mem_of_getElem? ho)
  obtain ⟨gu, rfl⟩ := hS.rowSome 1 rfl (by omega)
  obtain ⟨J, un, us, uy, ur, a1⟩ := o
  replace hov : ImV w J un us uy ur := hov
  replace hob : ImB J ∧ ImD J := hob
  dsimp only at hrow
  obtain ⟨qn, en, rfl⟩ := hov.needs.len
  obtain ⟨qs, es_, rfl⟩ := hov.segs.len
  obtain ⟨qy, ey, rfl⟩ := hov.syms.len
  obtain ⟨qr, er, rfl⟩ := hov.rels.len
  by_cases hc0 : checkIm J = 0
  rotate_left
  · have hd : (!decide (checkIm J = 0)) = true := by rw [decide_eq_false hc0]; rfl
    have hfind := find_first (p := fun o => !decide (checkIm o.im = 0)) hck ho hd
    repeat' (first | (first | ((with_reducible apply l_pure tabOk); exact rfl; exact rfl) | ((with_reducible apply l_load); exact rfl; (((with_reducible apply Loads.st tabOk); exact rfl; (first | exact hS.blkR 0 rfl | exact hS.rowR 1 rfl (by assumption)); exact rfl)); exact rfl) | ((with_reducible apply l_ix tabOk); exact rfl; exact rfl; exact rfl; ((exact rfl)); ((omega)); exact rfl) | ((with_reducible apply l_build tabOk); exact rfl; exact rfl; ((exact (rfl : _ = some [_, _, _]))); exact rfl) | ((with_reducible apply l_alloc hS tabOk); exact rfl; exact rfl; exact rfl; intro g w' hS'; clear hS; have hS := hS'; clear hS') | (((with_reducible apply l_store hS tabOk (i := 0)); exact rfl; exact rfl; exact rfl; exact rfl; exact rfl; exact rfl; exact rfl; exact rfl; ((exact (rfl : _ = [_, _, _, _, _, _]))); intro w' hS'; simp only [List.set] at hS'; clear hS; have hS := hS'; clear hS'))) | (first | (with_reducible apply c_seq) | (with_reducible apply c_region) | (with_reducible apply l_nil) | (with_reducible apply q_then) | (with_reducible apply c_skip) | (with_reducible apply c_block) | (with_reducible apply c_ret) | (with_reducible apply q_then_ret) | (with_reducible apply q_block_ret)) | (first | ((with_reducible apply c_ift); exact rfl; (assumption)) | ((with_reducible apply c_ifd); exact rfl; all_goals (intro hb hp; try (exfalso; omega)))) | ((with_reducible apply l_call); exact rfl; exact rfl; exact Check_fn (hov.now hS) hob.1 hob.2; exact rfl; rintro _ w' ⟨rfl, hS'⟩; replace hS := hS.transA hS'; simp only [appA] at hS; clear hS') | ((with_reducible apply l_store hS tabOk (i := 5)); exact rfl; exact rfl; exact rfl; exact rfl; exact rfl; exact rfl; exact rfl; exact rfl; ((exact (rfl : _ = [_, _, _]))); intro w' hS'; simp only [List.set] at hS'; clear hS; have hS := hS'; clear hS'))
    (apply q_ret2); (repeat (first | exact ResL.nil | (apply ResL.tmp; exact rfl) | (apply ResL.cell; exact rfl; (((with_reducible apply Loads.st tabOk); exact rfl; ((exact hS.blkR 5 rfl)); exact rfl)))))
    refine Or.inl ⟨?_, ?_, hS.sub (List.nil_sublist _)⟩
    · rw [hfind]; exact hc0
    · rw [hfind]; rfl
  have hd : (!decide (checkIm J = 0)) = false := by rw [decide_eq_true hc0]; rfl
  repeat' (first | (first | ((with_reducible apply l_pure tabOk); exact rfl; exact rfl) | ((with_reducible apply l_load); exact rfl; (((with_reducible apply Loads.st tabOk); exact rfl; (first | exact hS.blkR 0 rfl | exact hS.rowR 1 rfl (by assumption)); exact rfl)); exact rfl) | ((with_reducible apply l_ix tabOk); exact rfl; exact rfl; exact rfl; ((exact rfl)); ((omega)); exact rfl) | ((with_reducible apply l_alloc hS tabOk); exact rfl; exact rfl; exact rfl; intro g w' hS'; clear hS; have hS := hS'; clear hS') | (((with_reducible apply l_store hS tabOk (i := 0)); exact rfl; exact rfl; exact rfl; exact rfl; exact rfl; exact rfl; exact rfl; exact rfl; ((exact (rfl : _ = [_, _, _, _, _, _]))); intro w' hS'; simp only [List.set] at hS'; clear hS; have hS := hS'; clear hS'))) | (first | (with_reducible apply c_seq) | (with_reducible apply c_region) | (with_reducible apply l_nil) | (with_reducible apply q_then) | (with_reducible apply c_skip) | (with_reducible apply c_block)) | (first | ((with_reducible apply c_iff); exact rfl; (assumption)) | ((with_reducible apply c_ifd); exact rfl; all_goals (intro hb hp; try (exfalso; omega)))) | ((with_reducible apply l_call); exact rfl; exact rfl; exact Check_fn (hov.now hS) hob.1 hob.2; exact rfl; rintro _ w' ⟨rfl, hS'⟩; replace hS := hS.transA hS'; simp only [appA] at hS; clear hS'))
  (focus ((with_reducible apply c_draw _ _ _ 7 (by kernel_rfl) (by kernel_rfl) hS); (simp only [List.take_succ_cons, List.take_zero, List.drop_succ_cons, List.drop_zero]); (repeat' ((first | ((with_reducible apply d_pure tabOk); exact rfl; exact rfl) | ((with_reducible apply d_load); exact rfl; (intro wd hd; replace hd : St _ _ wd _ := hd; (first | ((with_reducible apply Loads.sc tabOk); exact rfl; (first | exact hd.blkC 0 rfl rfl | exact hd.blkC 3 rfl rfl)) | ((with_reducible apply Loads.st tabOk); exact rfl; ((exact hd.blkR 0 rfl)); exact rfl))); exact rfl)))); all_goals ((with_reducible apply d_nil); intro w' hS'; clear hS; have hS := hS'; clear hS')))
  have hck2 : ∀ x ∈ B.take (i + 1), (!decide (checkIm x.im = 0)) = false := by
    rw [List.take_add_one, ho]
    intro x hx
    rcases List.mem_append.1 hx with h | h
    · exact hck x h
    · have : x = ⟨J, .slice qn J.needs.length en, .slice qs J.segs.length es_, .slice qy J.syms.length ey, .slice qr J.rels.length er, a1⟩ := by simpa using h
      rw [this]
      exact hd
  by_cases hin : ∃ v, (stK J.name, v) ∈ L
  · obtain ⟨v0, hv0⟩ := hin
    refine l_gets0 (g_updO hS (i := 1) mt_byName ut_string rfl rfl rfl rfl hG (k := stK J.name) trivial hv0) ?_
    rintro - w9 ⟨es', c', j, u', -, hG', hS'⟩
    simp only [List.set] at hS'
    clear hS; have hS := hS'; clear hS'
    repeat' (first | (first | ((with_reducible apply l_add); exact rfl; exact rfl; omega; omega; exact rfl) | ((with_reducible apply l_pure tabOk); exact rfl; exact rfl)) | (first | (with_reducible apply c_region) | (with_reducible apply l_nil) | (with_reducible apply q_then) | (with_reducible apply q_block)))
    replace hS := St.reorder [1, 2, 3, 4, 5, 6] hS (by decide) rfl
    exact q_loopK (i + 1, es', c', _) (by repeat (first | exact Fr.sub_nil _ | (apply Fr.sub_cons; exact rfl))) ⟨by show i + 1 ≤ _; omega, hG', hMB.old ho hv0, hck2⟩ hS (by show _ - (i + 1) < _ - i; omega)
  · have hno : ∀ v, (stK J.name, v) ∉ L := fun v hv => hin ⟨v, hv⟩
    refine l_gets0 (g_updN hS (i := 1) mt_byName ut_string rfl rfl rfl rfl hG (k := stK J.name) trivial hno) ?_
    rintro - w9 ⟨es', c', hG', hS'⟩
    simp only [List.set] at hS'
    clear hS; have hS := hS'; clear hS'
    repeat' (first | (first | ((with_reducible apply l_add); exact rfl; exact rfl; omega; omega; exact rfl) | ((with_reducible apply l_pure tabOk); exact rfl; exact rfl)) | (first | (with_reducible apply c_region) | (with_reducible apply l_nil) | (with_reducible apply q_then) | (with_reducible apply q_block)))
    replace hS := St.reorder [1, 2, 3, 4, 5, 6] hS (by decide) rfl
    exact q_loopK (i + 1, es', c', _) (by repeat (first | exact Fr.sub_nil _ | (apply Fr.sub_cons; exact rfl))) ⟨by show i + 1 ≤ _; omega, hG', hMB.new ho hno, hck2⟩ hS (by show _ - (i + 1) < _ - i; omega)
end Go.Proofs.Ytejnpppejalhfab
/- Reading an image's bytes, in plain Lean. -/
namespace Go.Proofs.Ytejnpppejalhfab
open Go.RowKit Go.Sort

abbrev Bs8 := List UInt8
def rdNum (l : Bs8) : Option (Int × Bs8) := if 8 ≤ l.length then some (wrap64 (numB (l.take 8)), l.drop 8) else none
def rdTake (n : Int) (l : Bs8) : Option (Bs8 × Bs8) := if 0 ≤ n ∧ n ≤ l.length then some (l.take n.toNat, l.drop n.toNat) else none
def rdText (l : Bs8) : Option (Bs8 × Bs8) := (rdNum l).bind fun p => rdTake p.1 p.2
def rdTruth (l : Bs8) : Option (Bool × Bs8) := (rdNum l).bind fun p => if p.1 = 0 ∨ p.1 = 1 then some (decide (p.1 = 1), p.2) else none
def rdMany {α : Type} (one : Bs8 → Option (α × Bs8)) : Nat → Bs8 → Option (List α × Bs8)
  | 0, l => some ([], l)
  | n + 1, l => (one l).bind fun p => (rdMany one n p.2).bind fun q => some (p.1 :: q.1, q.2)
def rdCnt (l : Bs8) : Option (Int × Bs8) := (rdNum l).bind fun p => if 0 ≤ p.1 ∧ p.1 ≤ p.2.length then some p else none
def rdList {α : Type} (one : Bs8 → Option (α × Bs8)) (l : Bs8) : Option (List α × Bs8) := (rdCnt l).bind fun p => rdMany one p.1.toNat p.2
def rdSg (l : Bs8) : Option (Sg × Bs8) := (rdNum l).bind fun a => (rdNum a.2).bind fun b => (rdText b.2).bind fun c => (rdTruth c.2).bind fun d => (rdTruth d.2).bind fun e => some (⟨a.1, b.1, c.1, d.1, e.1⟩, e.2)
def rdSy (l : Bs8) : Option (Sy × Bs8) := (rdText l).bind fun a => (rdNum a.2).bind fun b => some (⟨a.1, b.1⟩, b.2)
def rdRl (l : Bs8) : Option (Rl × Bs8) := (rdNum l).bind fun a => (rdText a.2).bind fun b => (rdNum b.2).bind fun c => some (⟨a.1, b.1, c.1⟩, c.2)
def rdIm (l : Bs8) : Option (Im × Bs8) := (rdText l).bind fun a => (rdList rdText a.2).bind fun b => (rdList rdSg b.2).bind fun c => (rdList rdSy c.2).bind fun d => (rdList rdRl d.2).bind fun e => (rdNum e.2).bind fun f => some (⟨a.1, b.1, c.1, d.1, e.1, f.1⟩, f.2)
noncomputable def imFrom (l : Bs8) : Option Im := match rdIm l with
  | some (I, []) => if checkIm I = 0 then some I else none
  | _ => none

theorem rdNum_some {l r : Bs8} {n : Int} (h : rdNum l = some (n, r)) : 8 ≤ l.length ∧ n = wrap64 (numB (l.take 8)) ∧ r = l.drop 8 := by
  unfold rdNum at h
  split at h
  · cases h; exact ⟨by assumption, rfl, rfl⟩
  · cases h
theorem rdTake_some {l r s : Bs8} {n : Int} (h : rdTake n l = some (s, r)) : (0 ≤ n ∧ n ≤ l.length) ∧ s = l.take n.toNat ∧ r = l.drop n.toNat := by
  unfold rdTake at h
  split at h
  · cases h; exact ⟨by assumption, rfl, rfl⟩
  · cases h
/-- what is read is at least this much -/
theorem rdNum_len {l r : Bs8} {n : Int} (h : rdNum l = some (n, r)) : r.length + 8 = l.length := by
  obtain ⟨h1, _, rfl⟩ := rdNum_some h
  rw [List.length_drop]; omega
theorem rdTake_len {l r s : Bs8} {n : Int} (h : rdTake n l = some (s, r)) : r.length + s.length = l.length := by
  obtain ⟨h1, rfl, rfl⟩ := rdTake_some h
  rw [List.length_drop, List.length_take]; omega
theorem rdText_some {l r s : Bs8} (h : rdText l = some (s, r)) : ∃ n r1, rdNum l = some (n, r1) ∧ rdTake n r1 = some (s, r) := by
  unfold rdText at h
  obtain ⟨p, h1, h2⟩ := Option.bind_eq_some_iff.1 h
  exact ⟨p.1, p.2, h1, h2⟩
theorem rdText_len {l r s : Bs8} (h : rdText l = some (s, r)) : r.length + s.length + 8 = l.length := by
  obtain ⟨n, r1, h1, h2⟩ := rdText_some h
  have := rdNum_len h1
  have := rdTake_len h2
  omega
theorem rdTruth_some {l r : Bs8} {b : Bool} (h : rdTruth l = some (b, r)) : ∃ n, rdNum l = some (n, r) ∧ (n = 0 ∨ n = 1) ∧ b = decide (n = 1) := by
  unfold rdTruth at h
  obtain ⟨p, h1, h2⟩ := Option.bind_eq_some_iff.1 h
  split at h2
  · cases h2; exact ⟨p.1, h1, by assumption, rfl⟩
  · cases h2
theorem rdTruth_len {l r : Bs8} {b : Bool} (h : rdTruth l = some (b, r)) : r.length + 8 = l.length := by
  obtain ⟨n, h1, _⟩ := rdTruth_some h
  exact rdNum_len h1
/-- each thing takes eight bytes at least -/
def Eats {α : Type} (one : Bs8 → Option (α × Bs8)) : Prop := ∀ l x r, one l = some (x, r) → r.length + 8 ≤ l.length
theorem eats_text : Eats rdText := fun l x r h => by have := rdText_len h; omega
theorem eats_sg : Eats rdSg := fun l x r h => by
  unfold rdSg at h
  obtain ⟨a, h1, h⟩ := Option.bind_eq_some_iff.1 h
  obtain ⟨b, h2, h⟩ := Option.bind_eq_some_iff.1 h
  obtain ⟨c, h3, h⟩ := Option.bind_eq_some_iff.1 h
  obtain ⟨d, h4, h⟩ := Option.bind_eq_some_iff.1 h
  obtain ⟨e, h5, h⟩ := Option.bind_eq_some_iff.1 h
  cases h
  have := rdNum_len h1
  have := rdNum_len h2
  have := rdText_len h3
  have := rdTruth_len h4
  have := rdTruth_len h5
  omega
theorem eats_sy : Eats rdSy := fun l x r h => by
  unfold rdSy at h
  obtain ⟨a, h1, h⟩ := Option.bind_eq_some_iff.1 h
  obtain ⟨b, h2, h⟩ := Option.bind_eq_some_iff.1 h
  cases h
  have := rdText_len h1
  have := rdNum_len h2
  omega
theorem eats_rl : Eats rdRl := fun l x r h => by
  unfold rdRl at h
  obtain ⟨a, h1, h⟩ := Option.bind_eq_some_iff.1 h
  obtain ⟨b, h2, h⟩ := Option.bind_eq_some_iff.1 h
  obtain ⟨c, h3, h⟩ := Option.bind_eq_some_iff.1 h
  cases h
  have := rdNum_len h1
  have := rdText_len h2
  have := rdNum_len h3
  omega
section
variable {α : Type} {one : Bs8 → Option (α × Bs8)}
theorem rdMany_len (he : Eats one) : ∀ {n : Nat} {l r : Bs8} {xs : List α}, rdMany one n l = some (xs, r) → r.length + 8 * n ≤ l.length ∧ xs.length = n := by
  intro n
  induction n with
  | zero => intro l r xs h; simp only [rdMany, Option.some.injEq, Prod.mk.injEq] at h; obtain ⟨rfl, rfl⟩ := h; simp
  | succ n ih =>
    intro l r xs h
    simp only [rdMany] at h
    obtain ⟨p, h1, h⟩ := Option.bind_eq_some_iff.1 h
    obtain ⟨q, h2, h⟩ := Option.bind_eq_some_iff.1 h
    cases h
    have := he _ _ _ h1
    have := ih h2
    simp only [List.length_cons]
    omega
/-- one thing more behind those that were read -/
theorem rdMany_snoc : ∀ {n : Nat} {l r r' : Bs8} {xs : List α} {x : α}, rdMany one n l = some (xs, r) → one r = some (x, r') → rdMany one (n + 1) l = some (xs ++ [x], r') := by
  intro n
  induction n with
  | zero => intro l r r' xs x h hx; simp only [rdMany, Option.some.injEq, Prod.mk.injEq] at h; obtain ⟨rfl, rfl⟩ := h; simp [rdMany, hx]
  | succ n ih =>
    intro l r r' xs x h hx
    rw [rdMany] at h
    obtain ⟨p, h1, h⟩ := Option.bind_eq_some_iff.1 h
    obtain ⟨q, h2, h⟩ := Option.bind_eq_some_iff.1 h
    cases h
    rw [rdMany, h1, Option.bind_some, ih h2 hx]
    rfl
theorem rdMany_none : ∀ {k n : Nat} {l r : Bs8} {xs : List α}, rdMany one k l = some (xs, r) → one r = none → k < n → rdMany one n l = none := by
  intro k
  induction k with
  | zero =>
    intro n l r xs h hx hlt
    simp only [rdMany, Option.some.injEq, Prod.mk.injEq] at h
    obtain ⟨rfl, rfl⟩ := h
    obtain ⟨m, rfl⟩ : ∃ m, n = m + 1 := ⟨n - 1, by omega⟩
    rw [rdMany, hx]; rfl
  | succ k ih =>
    intro n l r xs h hx hlt
    obtain ⟨m, rfl⟩ : ∃ m, n = m + 1 := ⟨n - 1, by omega⟩
    rw [rdMany] at h ⊢
    obtain ⟨p, h1, h⟩ := Option.bind_eq_some_iff.1 h
    obtain ⟨q, h2, h⟩ := Option.bind_eq_some_iff.1 h
    cases h
    rw [h1, Option.bind_some, ih h2 hx (by omega)]
    rfl
/-- more things to come than there are bytes -/
theorem rdMany_over (he : Eats one) {k n : Nat} {l r : Bs8} {xs : List α} (h : rdMany one k l = some (xs, r)) (hlt : k ≤ n) (ho : r.length < n - k) : rdMany one n l = none := by
  cases hn : rdMany one n l with
  | none => rfl
  | some q =>
    exfalso
    have key : ∀ {k n : Nat} {l r : Bs8} {xs ys : List α} {r2 : Bs8}, rdMany one k l = some (xs, r) → k ≤ n → rdMany one n l = some (ys, r2) → rdMany one (n - k) r = some (ys.drop k, r2) := by
      intro k
      induction k with
      | zero => intro n l r xs ys r2 h1 _ h2; simp only [rdMany, Option.some.injEq, Prod.mk.injEq] at h1; obtain ⟨rfl, rfl⟩ := h1; simpa using h2
      | succ k ih =>
        intro n l r xs ys r2 h1 hle h2
        obtain ⟨m, rfl⟩ : ∃ m, n = m + 1 := ⟨n - 1, by omega⟩
        rw [rdMany] at h1 h2
        obtain ⟨p, a1, h1⟩ := Option.bind_eq_some_iff.1 h1
        obtain ⟨q, a2, h1⟩ := Option.bind_eq_some_iff.1 h1
        cases h1
        rw [a1, Option.bind_some] at h2
        obtain ⟨q2, a3, h2⟩ := Option.bind_eq_some_iff.1 h2
        cases h2
        have := ih a2 (by omega) a3
        rw [show m + 1 - (k + 1) = m - k by omega]
        simpa using this
    have h2 := key h hlt (show _ = some (q.1, q.2) from hn)
    have := (rdMany_len he h2).1
    omega
end
/-! what is written is read as it was -/
theorem wrap64_in {m : Int} (h1 : -9223372036854775808 ≤ m) (h2 : m ≤ 9223372036854775807) : wrap64 m = m := by unfold wrap64; omega
end Go.Proofs.Ytejnpppejalhfab
/- The reader's glass. -/
namespace Go.Proofs.Ytejnpppejalhfab
open Go.RowKit Go.Sort

def brV : Value := .iface 95 (.agg #[])
def brk : List PanicEntry := [{ v := brV, recovered := false }]
abbrev gPt (g : Nat) : Value := .pointer (some ⟨g, 0, none⟩)
abbrev GlA (g : Nat) (l : Bs8) : Asr := .blk g [.string ⟨l.toArray⟩]
def GlOk (w : World) (g : Nat) (l : Bs8) (p : Value → Bs8 → Prop) : Value → World → Prop := fun v w' => ∃ r, p v r ∧ St (fps [GlA g l]) w w' [GlA g r]
def GlNo (w : World) (g : Nat) (l : Bs8) (q : Prop) : World → Prop := fun w' => q ∧ ∃ r, St (fps [GlA g l]) w w' [GlA g r]
theorem take_fn {F : Nat → Prop} {w0 w : World} {Γ : List Asr} {g : Nat} {l : Bs8} {n : Int} (hS0 : St F w0 w (GlA g l :: Γ)) (hl : l.length ≤ 1048576) : FnP Try.prog 94 [gPt g, .int .i64 n] w brk (GlOk w g l (fun v r => ∃ s, rdTake n l = some (s, r) ∧ v = .string ⟨s.toArray⟩)) (GlNo w g l (rdTake n l = none)) := by
  have hm : l.length ≤ maxLen := by unfold maxLen; omega
  refine fnP_enter (fn := Try.f94) ⟨Try.func94, by kernel_rfl, by kernel_rfl⟩ (by exact rfl) Try.ntmps94 (by exact rfl) ?_
  have hS := hS0.startM1
  by_cases h : 0 ≤ n ∧ n ≤ (l.length : Int)
  · have hin : inB 0 n l.length = true := by unfold inB; rw [decide_eq_true_eq]; omega
    have e0 : (!decide ((0 : Int) = 0)) = false := rfl
    have hp := fun w => Part_fn l 0 n w hm
    simp only [hin, if_true, Int.toNat_zero, List.drop_zero] at hp
    repeat' (first | (first | ((with_reducible apply l_pure tabOk); exact rfl; exact rfl) | ((with_reducible apply l_load); exact rfl; (((with_reducible apply Loads.sc tabOk); exact rfl; ((exact hS.blkC 0 rfl rfl)))); exact rfl) | (((with_reducible apply l_store hS tabOk (i := 0)); exact rfl; exact rfl; exact rfl; exact rfl; exact rfl; exact rfl; exact rfl; exact rfl; ((exact (rfl : _ = [_]))); intro w' hS'; simp only [List.set] at hS'; clear hS; have hS := hS'; clear hS'))) | (first | (with_reducible apply c_seq) | (with_reducible apply c_region) | (with_reducible apply l_nil) | (with_reducible apply q_then) | (with_reducible apply c_skip) | (with_reducible apply c_ret)) | (((with_reducible apply c_iff); exact rfl; (exact rfl))) | ((with_reducible apply l_call); exact rfl; exact rfl; exact hp _; exact rfl; rintro _ w' ⟨rfl, hS'⟩; replace hS := hS.transA hS'; simp only [appA] at hS; clear hS') | ((with_reducible apply l_strFrom tabOk); exact rfl; exact rfl; exact rfl; exact h.1; exact h.2; exact rfl))
    refine q_rp (Or.inl rfl) ?_
    (apply q_ret1); (repeat (first | exact ResL.nil | (apply ResL.tmp; exact rfl)))
    exact ⟨_, ⟨_, by unfold rdTake; rw [if_pos h], rfl⟩, hS⟩
  · have hin : inB 0 n l.length = false := by unfold inB; rw [decide_eq_false_iff_not]; omega
    have e0 : (!decide ((3 : Int) = 0)) = true := rfl
    have hp := fun w => Part_fn l 0 n w hm
    simp only [hin, Bool.false_eq_true, if_false] at hp
    repeat' (first | (first | ((with_reducible apply l_pure tabOk); exact rfl; exact rfl) | ((with_reducible apply l_load); exact rfl; (((with_reducible apply Loads.sc tabOk); exact rfl; ((exact hS.blkC 0 rfl rfl)))); exact rfl) | ((with_reducible apply l_build tabOk); exact rfl; exact rfl; ((exact rfl)); exact rfl)) | (first | (with_reducible apply c_seq) | (with_reducible apply c_region) | (with_reducible apply l_nil) | (with_reducible apply q_then)) | (((with_reducible apply c_ift); exact rfl; (exact rfl))) | ((with_reducible apply l_call); exact rfl; exact rfl; exact hp _; exact rfl; rintro _ w' ⟨rfl, hS'⟩; replace hS := hS.transA hS'; simp only [appA] at hS; clear hS') | ((with_reducible apply l_iface (by kernel_rfl)); exact rfl; exact rfl) | ((with_reducible apply l_panic); exact rfl) | (with_reducible apply q_then_panic))
    exact q_panicked ⟨by unfold rdTake; rw [if_neg h], _, hS⟩
theorem number_fn {F : Nat → Prop} {w0 w : World} {Γ : List Asr} {g : Nat} {l : Bs8} (hS0 : St F w0 w (GlA g l :: Γ)) (hl : l.length ≤ 1048576) : FnP Try.prog 41 [gPt g] w brk (GlOk w g l (fun v r => ∃ n, rdNum l = some (n, r) ∧ v = .int .i64 n)) (GlNo w g l (rdNum l = none)) := by
  refine fnP_enter (fn := Try.f41) ⟨Try.func41, by kernel_rfl, by kernel_rfl⟩ (by exact rfl) Try.ntmps41 (by exact rfl) ?_
  have hS := hS0.startM1
  have k0 : rdTake 8 l = none → rdNum l = none := fun h => by
    unfold rdTake at h
    split at h
    · cases h
    · unfold rdNum; rw [if_neg (by omega)]
  have k1 : ∀ s r, rdTake 8 l = some (s, r) → 8 ≤ l.length ∧ s = l.take 8 ∧ r = l.drop 8 := fun s r h => by
    obtain ⟨h1, rfl, rfl⟩ := rdTake_some h
    exact ⟨by omega, rfl, rfl⟩
  have hg : 8 ≤ l.length → ∀ w, Fn Try.prog 95 [.string ⟨(l.take 8).toArray⟩] w (RBf (.tuple #[.int .i64 (wrap64 (numB (l.take 8))), .int .i64 0]) w) := fun h8 w => by
    have := Get_fn (l.take 8) w (by rw [List.length_take]; unfold maxLen; omega)
    rw [List.length_take, Nat.min_eq_left h8] at this
    simpa using this
  repeat' (first | (((with_reducible apply l_pure tabOk); exact rfl; exact rfl)) | (first | (with_reducible apply c_seq) | (with_reducible apply c_region) | (with_reducible apply l_nil) | (with_reducible apply q_then) | (with_reducible apply c_ret)) | ((with_reducible apply l_callQ); exact rfl; exact rfl; exact take_fn hS hl; exact rfl; (rintro w' ⟨hno, r, hS'⟩; (repeat' ((with_reducible apply q_then_panic))); exact q_panicked ⟨k0 hno, _, hS.transM1 hS'⟩); rintro _ w' ⟨r, ⟨s, hs, rfl⟩, hS'⟩; replace hS := hS.transM1 hS'; simp only [appA] at hS; clear hS') | (obtain ⟨h8, rfl, rfl⟩ := k1 _ _ hs; ((with_reducible apply l_call); exact rfl; exact rfl; exact hg h8 _; exact rfl; rintro _ w' ⟨rfl, hS'⟩; replace hS := hS.transA hS'; simp only [appA] at hS; clear hS')))
  refine q_rp (Or.inl rfl) ?_
  (apply q_ret1); (repeat (first | exact ResL.nil | (apply ResL.tmp; exact rfl)))
  exact ⟨_, ⟨_, by unfold rdNum; rw [if_pos h8], rfl⟩, hS⟩
theorem text_fn {F : Nat → Prop} {w0 w : World} {Γ : List Asr} {g : Nat} {l : Bs8} (hS0 : St F w0 w (GlA g l :: Γ)) (hl : l.length ≤ 1048576) : FnP Try.prog 37 [gPt g] w brk (GlOk w g l (fun v r => ∃ s, rdText l = some (s, r) ∧ v = .string ⟨s.toArray⟩)) (GlNo w g l (rdText l = none)) := by
  refine fnP_enter (fn := Try.f37) ⟨Try.func37, by kernel_rfl, by kernel_rfl⟩ (by exact rfl) Try.ntmps37 (by exact rfl) ?_
  have hS := hS0.startM1
  repeat' (first | (((with_reducible apply l_pure tabOk); exact rfl; exact rfl)) | (first | (with_reducible apply c_seq) | (with_reducible apply c_region) | (with_reducible apply l_nil) | (with_reducible apply q_then)) | ((with_reducible apply l_callQ); exact rfl; exact rfl; exact number_fn hS hl; exact rfl; (rintro w' ⟨hno, r, hS'⟩; (repeat' ((with_reducible apply q_then_panic))); exact q_panicked ⟨(by unfold rdText; rw [hno]; rfl), _, hS.transM1 hS'⟩); rintro _ w' ⟨r, ⟨n, hn, rfl⟩, hS'⟩; replace hS := hS.transM1 hS'; simp only [appA] at hS; clear hS'))
  have hl2 : r.length ≤ 1048576 := by have := rdNum_len hn; omega
  repeat' (first | (((with_reducible apply l_pure tabOk); exact rfl; exact rfl)) | (first | (with_reducible apply l_nil) | (with_reducible apply q_then) | (with_reducible apply c_ret)) | ((with_reducible apply l_callQ); exact rfl; exact rfl; exact take_fn hS hl2; exact rfl; (rintro w' ⟨hno, r, hS'⟩; (repeat' ((with_reducible apply q_then_panic))); exact q_panicked ⟨(by unfold rdText; rw [hn, Option.bind_some]; exact hno), _, hS.transM1 hS'⟩); rintro _ w' ⟨r, ⟨s, hs, rfl⟩, hS'⟩; replace hS := hS.transM1 hS'; simp only [appA] at hS; clear hS'))
  refine q_rp (Or.inl rfl) ?_
  (apply q_ret1); (repeat (first | exact ResL.nil | (apply ResL.tmp; exact rfl)))
  exact ⟨_, ⟨_, by unfold rdText; rw [hn, Option.bind_some]; exact hs, rfl⟩, hS⟩
theorem truth_fn {F : Nat → Prop} {w0 w : World} {Γ : List Asr} {g : Nat} {l : Bs8} (hS0 : St F w0 w (GlA g l :: Γ)) (hl : l.length ≤ 1048576) : FnP Try.prog 42 [gPt g] w brk (GlOk w g l (fun v r => ∃ b, rdTruth l = some (b, r) ∧ v = .bool b)) (GlNo w g l (rdTruth l = none)) := by
  refine fnP_enter (fn := Try.f42) ⟨Try.func42, by kernel_rfl, by kernel_rfl⟩ (by exact rfl) Try.ntmps42 (by exact rfl) ?_
  have hS := hS0.startM1
  repeat' (first | (first | ((with_reducible apply l_pure tabOk); exact rfl; exact rfl) | ((with_reducible apply l_build tabOk); exact rfl; exact rfl; ((exact rfl)); exact rfl) | (first | ((with_reducible apply l_yes); exact rfl; exact rfl; exact rfl; exact rfl; (assumption)) | ((with_reducible apply l_no); exact rfl; exact rfl; exact rfl; exact rfl; ((assumption)); exact rfl) | ((with_reducible apply l_partn); exact rfl; exact rfl; exact rfl; all_goals (intro hb hp; try (exfalso; omega))) | ((with_reducible apply l_pick1); exact rfl; ((assumption)); exact rfl; exact rfl) | ((with_reducible apply l_pick2); exact rfl; ((assumption)); exact rfl; exact rfl))) | (first | (with_reducible apply c_seq) | (with_reducible apply c_region) | (with_reducible apply l_nil) | (with_reducible apply q_then) | (with_reducible apply c_skip) | (with_reducible apply c_ret)) | (first | ((with_reducible apply c_iff); exact rfl; (exact rfl)) | ((with_reducible apply c_ifn); exact rfl; all_goals (intro hb hp; try (exfalso; omega)))) | ((with_reducible apply l_callQ); exact rfl; exact rfl; exact number_fn hS hl; exact rfl; (rintro w' ⟨hno, r, hS'⟩; (repeat' ((with_reducible apply q_then_panic))); exact q_panicked ⟨(by unfold rdTruth; rw [hno]; rfl), _, hS.transM1 hS'⟩); rintro _ w' ⟨r, ⟨n, hn, rfl⟩, hS'⟩; replace hS := hS.transM1 hS'; simp only [appA] at hS; clear hS'))
  repeat' (first | ((with_reducible apply l_iface (by kernel_rfl)); exact rfl; exact rfl) | ((with_reducible apply l_panic); exact rfl) | (with_reducible apply q_then_panic))
  all_goals first
    | exact q_panicked ⟨by unfold rdTruth; rw [hn, Option.bind_some, if_neg (by simp at *; omega)], _, hS⟩
    | skip
  all_goals (refine q_rp (Or.inl rfl) ?_)
  all_goals ((apply q_ret1); (repeat (first | exact ResL.nil | (apply ResL.tmp; exact rfl))))
  all_goals exact ⟨_, ⟨_, by unfold rdTruth; rw [hn, Option.bind_some, if_pos (by simp at *; omega)], rfl⟩, hS⟩
end Go.Proofs.Ytejnpppejalhfab
/- image.Read: 'each', and the closures. -/
namespace Go.Proofs.Ytejnpppejalhfab
open Go.RowKit Go.Sort

/-- what a reading of some things holds: the glass, the image at work, the things that were read, the variable r -/
abbrev RdD {α : Type} (g gi gr e sz : Nat) (Lf : Value → List Value) (fC : α → List Value) (l : Bs8) (xs : List α) (p : Option Addr) (c : Nat) : List Asr :=
  [.blk g [.string ⟨l.toArray⟩], .blk gi (Lf (.slice p xs.length c)), .row e sz (.slice p xs.length c) (xs.map fC), .blk gr [gPt g]]
def OneOk {α : Type} (f : FuncId) (caps : List Value) (g gi gr e sz : Nat) (Lf : Value → List Value) (fC : α → List Value) (one : Bs8 → Option (α × Bs8)) : Prop :=
  ∀ (F : Nat → Prop) (w0 w1 : World) (Γ : List Asr) (l : Bs8) (xs : List α) (p : Option Addr) (c : Nat), l.length ≤ 1048576 → xs.length ≤ 1048576 → St F w0 w1 (RdD g gi gr e sz Lf fC l xs p c ++ Γ) →
    FnP Try.prog f caps w1 brk (fun _ w2 => ∃ x r p' c', one l = some (x, r) ∧ St (fps (RdD g gi gr e sz Lf fC l xs p c)) w1 w2 (RdD g gi gr e sz Lf fC r (xs ++ [x]) p' c')) (fun w2 => one l = none ∧ ∃ r, St (fps (RdD g gi gr e sz Lf fC l xs p c)) w1 w2 (RdD g gi gr e sz Lf fC r xs p c))
theorem rdList_of {α : Type} {one : Bs8 → Option (α × Bs8)} {l l1 : Bs8} {N : Int} (h : rdNum l = some (N, l1)) : rdList one l = if 0 ≤ N ∧ N ≤ l1.length then rdMany one N.toNat l1 else none := by
  unfold rdList rdCnt
  rw [h, Option.bind_some]
  by_cases hN : 0 ≤ N ∧ N ≤ (l1.length : Int)
  · rw [if_pos hN, if_pos hN]; rfl
  · rw [if_neg hN, if_neg hN]; rfl
theorem St.transAll {F : Nat → Prop} {w0 w w' : World} {Θ Δ : List Asr} (h : St F w0 w Θ) (h2 : St (fps Θ) w w' Δ) : St F w0 w' Δ := by
  have := St.transM (Γ := []) (by rw [List.append_nil]; exact h) h2
  rwa [List.append_nil] at this
theorem rdNum_in {l r : Bs8} {n : Int} (h : rdNum l = some (n, r)) : -9223372036854775808 ≤ n ∧ n ≤ 9223372036854775807 := by
  obtain ⟨_, rfl, _⟩ := rdNum_some h
  unfold wrap64; omega
set_option maxRecDepth 100000 in
set_option maxHeartbeats 2000000 in
theorem each_fn {α : Type} {F : Nat → Prop} {w0 w : World} {Γ : List Asr} {f : FuncId} {caps : List Value} {g gi gr e sz : Nat} {Lf : Value → List Value} {fC : α → List Value} {one : Bs8 → Option (α × Bs8)} {l : Bs8} (he : Eats one) (h1 : OneOk f caps g gi gr e sz Lf fC one)
    (hl : l.length ≤ 1048576) (hS0 : St F w0 w (RdD g gi gr e sz Lf fC l [] none 0 ++ Γ)) :
    FnP Try.prog 38 [gPt g, .func (.func f) #[] caps.toArray] w brk (fun _ w2 => ∃ xs r p c, rdList one l = some (xs, r) ∧ St (fps (RdD g gi gr e sz Lf fC l [] none 0)) w w2 (RdD g gi gr e sz Lf fC r xs p c)) (fun w2 => rdList one l = none ∧ ∃ r xs p c, St (fps (RdD g gi gr e sz Lf fC l [] none 0)) w w2 (RdD g gi gr e sz Lf fC r xs p c)) := by
  refine fnP_enter (fn := Try.f38) ⟨Try.func38, by kernel_rfl, by kernel_rfl⟩ (by exact rfl) Try.ntmps38 (by exact rfl) ?_
  have hS := St.startM (Δ := RdD g gi gr e sz Lf fC l [] none 0) hS0
  repeat' (first | (((with_reducible apply l_pure tabOk); exact rfl; exact rfl)) | (first | (with_reducible apply c_seq) | (with_reducible apply c_region) | (with_reducible apply l_nil) | (with_reducible apply q_then) | (with_reducible apply c_block)) | ((with_reducible apply l_callQ); exact rfl; exact rfl; exact number_fn hS hl; exact rfl; (rintro w' ⟨hno, r, hS'⟩; (repeat' ((with_reducible apply q_then_panic))); exact q_panicked ⟨by unfold rdList rdCnt; rw [hno]; rfl, r, [], none, 0, hS.transM1 hS'⟩); rintro _ w' ⟨l1, ⟨N, hN, rfl⟩, hS'⟩; replace hS := hS.transM1 hS'; simp only [appA] at hS; clear hS'))
  have hN1 := rdNum_in hN
  have hN2 := rdNum_len hN
  refine c_loop (X := List α × Bs8 × Option Addr × Nat) ([], l1, none, 0) (fun x => [(0, gPt g), (1, .func (.func f) #[] caps.toArray), (4, .int .i64 (N - x.1.length))]) (fun x w' => (rdMany one x.1.length l1 = some (x.1, x.2.1) ∧ (0 ≤ N → (x.1.length : Int) ≤ N) ∧ (N < 0 → x.1 = [])) ∧ St (fps (RdD g gi gr e sz Lf fC l [] none 0)) w w' (RdD g gi gr e sz Lf fC x.2.1 x.1 x.2.2.1 x.2.2.2)) (fun x => N.toNat - x.1.length) ?_ ⟨⟨rfl, fun h => by simpa using h, fun _ => rfl⟩, hS⟩ ?_
  · simp only [List.length_nil, Int.natCast_zero, Int.sub_zero]
    repeat (first | exact Fr.sub_nil _ | (apply Fr.sub_cons; exact rfl))
  rintro ⟨xs, l2, p, c⟩ w1 ⟨⟨hx, hle, hneg⟩, hS'⟩
  clear hS
  have hS := hS'
  clear hS'
  dsimp only at hx hle hneg hS ⊢
  have hlen := rdMany_len he hx
  have hxs : N < 0 → xs.length = 0 := fun h => by rw [hneg h]; rfl
  repeat' (first | (first | ((with_reducible apply l_sub); exact rfl; exact rfl; omega; omega; exact rfl) | ((with_reducible apply l_pure tabOk); exact rfl; exact rfl) | ((with_reducible apply l_load); exact rfl; (((with_reducible apply Loads.sc tabOk); exact rfl; ((exact hS.blkC 0 rfl rfl)))); exact rfl) | ((with_reducible apply l_build tabOk); exact rfl; exact rfl; ((exact rfl)); exact rfl) | (first | ((with_reducible apply l_yes); exact rfl; exact rfl; exact rfl; exact rfl; (assumption)) | ((with_reducible apply l_no); exact rfl; exact rfl; exact rfl; exact rfl; ((assumption)); exact rfl) | ((with_reducible apply l_partd); exact rfl; exact rfl; exact rfl; all_goals (intro hb hp; try (exfalso; omega))) | ((with_reducible apply l_pick1); exact rfl; ((assumption)); exact rfl; exact rfl) | ((with_reducible apply l_pick2); exact rfl; ((assumption)); exact rfl; exact rfl))) | (first | (with_reducible apply c_seq) | (with_reducible apply c_region) | (with_reducible apply l_nil) | (with_reducible apply q_then) | (with_reducible apply c_skip) | (with_reducible apply c_block) | (with_reducible apply c_exit) | (with_reducible apply q_then_exit) | (with_reducible apply q_block) | (with_reducible apply q_block_exit)) | (first | ((with_reducible apply c_ift); exact rfl; (exact rfl)) | ((with_reducible apply c_ifd); exact rfl; all_goals (intro hb hp; try (exfalso; omega))) | ((with_reducible apply c_ifn); exact rfl; all_goals (intro hb hp; try (exfalso; omega)))) | ((with_reducible apply l_iface (by kernel_rfl)); exact rfl; exact rfl) | ((with_reducible apply l_panic); exact rfl) | first | (with_reducible apply q_then_panic) | (with_reducible apply q_block_panic) | ((with_reducible apply l_callQ); exact rfl; exact rfl; exact h1 _ _ _ [] l2 xs p c (by omega) (by omega) (by rw [List.append_nil]; exact hS); exact rfl; (rintro w' ⟨hno, r, hS'⟩; (repeat' (first | (with_reducible apply q_then_panic) | (with_reducible apply q_block_panic))); exact q_panicked ⟨by rw [rdList_of hN, if_pos (by omega)]; exact rdMany_none hx hno (by omega), r, xs, p, c, hS.transAll hS'⟩); rintro _ w' ⟨x, r, p', c', hone, hS'⟩; replace hS := hS.transAll hS'; clear hS'))
  · exact q_panicked ⟨by rw [rdList_of hN, if_neg (by omega)], l2, xs, p, c, hS⟩
  · refine q_panicked ⟨?_, l2, xs, p, c, hS⟩
    rw [rdList_of hN]
    split
    · exact rdMany_over he hx (by omega) (by omega)
    · rfl
  · refine q_round (xs ++ [x], r, p', c') ?_ ⟨⟨?_, ?_, ?_⟩, hS⟩ ?_
    all_goals dsimp only
    · rw [show N - ((xs ++ [x]).length : Int) = N - xs.length - 1 by rw [List.length_append]; simp; omega]
      repeat (first | exact Fr.sub_nil _ | (apply Fr.sub_cons; exact rfl))
    · rw [List.length_append]; exact rdMany_snoc hx hone
    · intro _; rw [List.length_append]; simp; omega
    · intro h; omega
    · simp only [List.length_append, List.length_cons, List.length_nil]; omega
  · refine q_rp (Or.inr rfl) ?_
    (apply q_end0); (repeat ((exact ResL.nil)))
    refine ⟨xs, l2, p, c, ?_, hS⟩
    rw [rdList_of hN, if_pos (by omega), show N.toNat = xs.length by omega]
    exact hx
end Go.Proofs.Ytejnpppejalhfab
/- image.Read: the closures that read one thing. -/
namespace Go.Proofs.Ytejnpppejalhfab
open Go.RowKit Go.Sort
def LfN (nm : Value) (a b c : Value) (e : Value) (v : Value) : List Value := [nm, v, a, b, c, e]
def LfS (nm : Value) (a b c : Value) (e : Value) (v : Value) : List Value := [nm, a, v, b, c, e]
def LfY (nm : Value) (a b c : Value) (e : Value) (v : Value) : List Value := [nm, a, b, v, c, e]
def LfR (nm : Value) (a b c : Value) (e : Value) (v : Value) : List Value := [nm, a, b, c, v, e]
set_option maxRecDepth 100000 in
set_option maxHeartbeats 2000000 in
theorem read2_ok {g gi gr : Nat} {nm a b d en : Value} : OneOk 39 [gPt gi, gPt gr] g gi gr 9 1 (LfN nm a b d en) stC rdText := by
  intro F w0 w Γ l xs p c hl hx hS0
  refine fnP_enter (fn := Try.f39) ⟨Try.func39, by kernel_rfl, by kernel_rfl⟩ (by exact rfl) Try.ntmps39 (by exact rfl) ?_
  have hS := St.startM hS0
  simp only [RdD, LfN] at hS ⊢
  refine c_till (fun w' => (Asr.blk gi [nm, .slice p xs.length c, a, b, d, en]).holds w') 5 8 rfl hS (by kernel_rfl) ?_
  clear hS
  intro w1 hS
  ((with_reducible apply t_pure 0 tabOk); exact rfl; kernel_rfl; kernel_rfl; kernel_rfl; exact rfl; exact (fun _ _ _ h => h); exact Or.inr (hS.at_ (i := 1) rfl); exact rfl; exact rfl)
  ((with_reducible apply t_takeL 1); exact rfl; kernel_rfl; kernel_rfl; kernel_rfl; kernel_rfl; exact rfl; exact rfl; exact (fun _ _ _ h => h); exact hS.at_ (i := 1) rfl; exact rfl; (intro w2 hw2; (with_reducible apply Loads.sl tabOk); exact rfl; exact holdC hw2 rfl); exact rfl)
  refine t_one (i := 2) (by kernel_rfl) ?_
  refine p_gets rfl (g_load rfl (by ((with_reducible apply Loads.sc tabOk); exact rfl; ((exact hS.blkC 3 rfl rfl))))) rfl ?_
  rintro _ w2 ⟨rfl, rfl⟩
  refine ⟨Or.inr (Or.inr (hS.at_ (i := 1) rfl)), ?_⟩
  refine t_one (i := 3) (by kernel_rfl) ?_
  refine p_getsP rfl (g_callP (first := []) (caps := []) rfl rfl (text_fn hS hl)) rfl ?_ (by rintro w' ⟨hno, r, hS'⟩; exact q_panicked ⟨hno, _, hS.transM1 hS'⟩)
  rintro _ w2 ⟨r, ⟨s, hs, rfl⟩, hS'⟩
  replace hS := hS.transM1 hS'
  simp only [appA] at hS
  clear hS'
  refine ⟨Or.inr (Or.inr (hS.at_ (i := 1) rfl)), ?_⟩
  refine t_one (i := 4) (by kernel_rfl) ?_
  refine p_gets rfl (g_bslice hS tabOk rfl rfl rfl rfl rfl rfl) rfl ?_
  rintro _ w' ⟨g9, rfl, hS'⟩
  clear hS; have hS := hS'; clear hS'
  refine ⟨Or.inr (Or.inr (hS.at_ (i := 2) rfl)), ?_⟩
  refine t_one (i := 5) (by kernel_rfl) ?_
  refine p_gets rfl (g_append hS tabOk (i := 3) rfl rfl rfl rfl (hS.rowRo 0 rfl) rfl (by simp only [List.length_map]; omega)) rfl ?_
  rintro _ w' ⟨p', c', rfl, hS'⟩
  simp only [List.set] at hS'
  clear hS; have hS := hS'; clear hS'
  refine ⟨Or.inl rfl, ?_⟩
  ((with_reducible apply t_pure 6 tabOk); exact rfl; kernel_rfl; kernel_rfl; kernel_rfl; exact rfl; exact (fun _ _ _ h => h); exact Or.inl rfl; exact rfl; exact rfl)
  refine t_one (i := 7) (by kernel_rfl) ?_
  refine p_gets0 (Φ := fun _ w' => St _ _ w' _) rfl (g_store hS tabOk (i := 2) rfl rfl rfl rfl rfl (Nat.le_of_ble_eq_true rfl) (by intro u hu; simp [Value.cells] at hu; subst hu; rfl)) ?_
  intro _ w' hS'
  simp only [List.set] at hS'
  clear hS; have hS := hS'; clear hS'
  refine ⟨Or.inr (Or.inl rfl), ?_⟩
  refine t_done (by kernel_rfl) ?_
  refine q_rp (Or.inr rfl) ?_
  (apply q_end0); (repeat ((exact ResL.nil)))
  refine ⟨s, r, p', c', hs, ?_⟩
  simp only [List.length_append, List.length_cons, List.length_nil, List.map_append, List.map_cons, List.map_nil]
  rw [List.length_map] at hS
  exact hS.sub (List.sublist_cons_self _ _)
set_option maxRecDepth 100000 in
set_option maxHeartbeats 4000000 in
theorem read3_ok {g gi gr : Nat} {nm a b d en : Value} : OneOk 40 [gPt gr, gPt gi] g gi gr 82 5 (LfS nm a b d en) sgC rdSg := by
  intro F w0 w Γ l xs p c hl hx hS0
  refine fnP_enter (fn := Try.f40) ⟨Try.func40, by kernel_rfl, by kernel_rfl⟩ (by exact rfl) Try.ntmps40 (by exact rfl) ?_
  have hS := St.startM hS0
  simp only [RdD, LfS] at hS ⊢
  clear hS0
  repeat' (first | (first | ((with_reducible apply l_load); exact rfl; (((with_reducible apply Loads.sc tabOk); exact rfl; (first | exact hS.blkC 3 rfl rfl | exact hS.blkC 4 rfl rfl))); exact rfl) | ((with_reducible apply l_build tabOk); exact rfl; exact rfl; ((exact (rfl : _ = some [_, _, _, _, _]))); exact rfl) | ((with_reducible apply l_alloc hS tabOk); exact rfl; exact rfl; exact rfl; intro g w' hS'; clear hS; have hS := hS'; clear hS') | (((with_reducible apply l_store hS tabOk (i := 0)); exact rfl; exact rfl; exact rfl; exact rfl; exact rfl; exact rfl; exact rfl; exact rfl; ((exact (rfl : _ = [_, _, _, _, _]))); intro w' hS'; simp only [List.set] at hS'; clear hS; have hS := hS'; clear hS'))) | (first | (with_reducible apply c_seq) | (with_reducible apply c_region) | (with_reducible apply l_nil) | (with_reducible apply q_then)) | ((with_reducible apply l_callQ); exact rfl; exact rfl; exact number_fn (l := l) hS hl; exact rfl; (rintro w' ⟨hno, r, hS'⟩; (repeat' ((with_reducible apply q_then_panic))); exact q_panicked ⟨(by unfold rdSg; simp only [Option.bind_some, Option.bind_none, *]), _, St.reorder [0, 1, 2, 3] (hS.transM1 hS') (by decide) rfl⟩); rintro _ w' ⟨r1, ⟨n1, hn1, rfl⟩, hS'⟩; replace hS := hS.transM1 hS'; simp only [appA] at hS; clear hS'))
  have l1 := rdNum_len hn1
  replace hS := St.reorder [1, 0, 2, 3, 4] hS (by decide) rfl
  repeat' (first | (first | ((with_reducible apply l_pure tabOk); exact rfl; exact rfl) | ((with_reducible apply l_load); exact rfl; (((with_reducible apply Loads.sc tabOk); exact rfl; ((exact hS.blkC 4 rfl rfl)))); exact rfl) | (((with_reducible apply l_store hS tabOk (i := 1)); exact rfl; exact rfl; exact rfl; exact rfl; exact rfl; exact rfl; exact rfl; exact rfl; ((exact (rfl : _ = [_, _, _, _, _]))); intro w' hS'; simp only [List.set] at hS'; clear hS; have hS := hS'; clear hS'))) | (first | (with_reducible apply c_seq) | (with_reducible apply c_region) | (with_reducible apply l_nil) | (with_reducible apply q_then)) | ((with_reducible apply l_callQ); exact rfl; exact rfl; exact number_fn (l := r1) hS (by omega); exact rfl; (rintro w' ⟨hno, r, hS'⟩; (repeat' ((with_reducible apply q_then_panic))); exact q_panicked ⟨(by unfold rdSg; simp only [Option.bind_some, Option.bind_none, *]), _, St.reorder [0, 2, 3, 4] (hS.transM1 hS') (by decide) rfl⟩); rintro _ w' ⟨r2, ⟨n2, hn2, rfl⟩, hS'⟩; replace hS := hS.transM1 hS'; simp only [appA] at hS; clear hS'))
  have l2 := rdNum_len hn2
  repeat' (first | (first | ((with_reducible apply l_pure tabOk); exact rfl; exact rfl) | ((with_reducible apply l_load); exact rfl; (((with_reducible apply Loads.sc tabOk); exact rfl; ((exact hS.blkC 4 rfl rfl)))); exact rfl) | (((with_reducible apply l_store hS tabOk (i := 1)); exact rfl; exact rfl; exact rfl; exact rfl; exact rfl; exact rfl; exact rfl; exact rfl; ((exact (rfl : _ = [_, _, _, _, _]))); intro w' hS'; simp only [List.set] at hS'; clear hS; have hS := hS'; clear hS'))) | (first | (with_reducible apply c_seq) | (with_reducible apply c_region) | (with_reducible apply l_nil) | (with_reducible apply q_then)) | ((with_reducible apply l_callQ); exact rfl; exact rfl; exact text_fn (l := r2) hS (by omega); exact rfl; (rintro w' ⟨hno, r, hS'⟩; (repeat' ((with_reducible apply q_then_panic))); exact q_panicked ⟨(by unfold rdSg; simp only [Option.bind_some, Option.bind_none, *]), _, St.reorder [0, 2, 3, 4] (hS.transM1 hS') (by decide) rfl⟩); rintro _ w' ⟨r3, ⟨n3, hn3, rfl⟩, hS'⟩; replace hS := hS.transM1 hS'; simp only [appA] at hS; clear hS'))
  have l3 := rdText_len hn3
  repeat' (first | (first | ((with_reducible apply l_pure tabOk); exact rfl; exact rfl) | ((with_reducible apply l_load); exact rfl; (((with_reducible apply Loads.sc tabOk); exact rfl; ((exact hS.blkC 4 rfl rfl)))); exact rfl) | (((with_reducible apply l_store hS tabOk (i := 1)); exact rfl; exact rfl; exact rfl; exact rfl; exact rfl; exact rfl; exact rfl; exact rfl; ((exact (rfl : _ = [_, _, _, _, _]))); intro w' hS'; simp only [List.set] at hS'; clear hS; have hS := hS'; clear hS'))) | (first | (with_reducible apply c_seq) | (with_reducible apply c_region) | (with_reducible apply l_nil) | (with_reducible apply q_then)) | ((with_reducible apply l_callQ); exact rfl; exact rfl; exact truth_fn (l := r3) hS (by omega); exact rfl; (rintro w' ⟨hno, r, hS'⟩; (repeat' ((with_reducible apply q_then_panic))); exact q_panicked ⟨(by unfold rdSg; simp only [Option.bind_some, Option.bind_none, *]), _, St.reorder [0, 2, 3, 4] (hS.transM1 hS') (by decide) rfl⟩); rintro _ w' ⟨r4, ⟨n4, hn4, rfl⟩, hS'⟩; replace hS := hS.transM1 hS'; simp only [appA] at hS; clear hS'))
  have l4 := rdTruth_len hn4
  repeat' (first | (first | ((with_reducible apply l_pure tabOk); exact rfl; exact rfl) | ((with_reducible apply l_load); exact rfl; (first | ((with_reducible apply Loads.sl tabOk); exact rfl; ((exact hS.blkC 2 rfl rfl))) | ((with_reducible apply Loads.st tabOk); exact rfl; ((exact hS.blkR 1 rfl)); exact rfl)); exact rfl) | (((with_reducible apply l_store hS tabOk (i := 1)); exact rfl; exact rfl; exact rfl; exact rfl; exact rfl; exact rfl; exact rfl; exact rfl; ((exact (rfl : _ = [_, _, _, _, _]))); intro w' hS'; simp only [List.set] at hS'; clear hS; have hS := hS'; clear hS')) | ((with_reducible apply l_bslice hS tabOk); exact rfl; exact rfl; exact rfl; exact rfl; exact rfl; exact rfl; exact rfl; intro g w' hS'; clear hS; have hS := hS'; clear hS')) | (first | (with_reducible apply c_region) | (with_reducible apply l_nil) | (with_reducible apply q_then)) | ((with_reducible apply l_callQ); exact rfl; exact rfl; exact truth_fn (l := r4) hS (by omega); exact rfl; (rintro w' ⟨hno, r, hS'⟩; (repeat' ((with_reducible apply q_then_panic))); exact q_panicked ⟨(by unfold rdSg; simp only [Option.bind_some, Option.bind_none, *]), _, St.reorder [0, 2, 3, 4] (hS.transM1 hS') (by decide) rfl⟩); rintro _ w' ⟨r5, ⟨n5, hn5, rfl⟩, hS'⟩; replace hS := hS.transM1 hS'; simp only [appA] at hS; clear hS'))
  have l5 := rdTruth_len hn5
  repeat' (first | (first | ((with_reducible apply l_pure tabOk); exact rfl; exact rfl) | (((with_reducible apply l_store hS tabOk (i := 3)); exact rfl; exact rfl; exact rfl; exact rfl; exact rfl; exact rfl; exact rfl; exact rfl; ((exact (rfl : _ = [_, _, _, _, _, _]))); intro w' hS'; simp only [List.set] at hS'; clear hS; have hS := hS'; clear hS'))) | ((with_reducible apply l_nil)) | ((with_reducible apply l_append hS tabOk 4); exact rfl; exact rfl; exact rfl; exact rfl; exact hS.rowRo 0 rfl; exact rfl; (simp only [List.length_map]; omega); exact rfl; intro p' cap' w' hS'; simp only [List.set] at hS'; clear hS; have hS := hS'; clear hS'))
  refine q_rp (Or.inr rfl) ?_
  (apply q_end0); (repeat ((exact ResL.nil)))
  refine ⟨⟨n1, n2, n3, n4, n5⟩, r5, p', cap', (by unfold rdSg; simp only [Option.bind_some, *]), ?_⟩
  simp only [List.length_append, List.length_cons, List.length_nil, List.map_append, List.map_cons, List.map_nil]
  rw [List.length_map] at hS
  exact hS.reorder [1, 3, 4, 5] (by decide) rfl
set_option maxRecDepth 100000 in
set_option maxHeartbeats 4000000 in
theorem read4_ok {g gi gr : Nat} {nm a b d en : Value} : OneOk 43 [gPt gr, gPt gi] g gi gr 85 2 (LfY nm a b d en) syC rdSy := by
  intro F w0 w Γ l xs p c hl hx hS0
  refine fnP_enter (fn := Try.f43) ⟨Try.func43, by kernel_rfl, by kernel_rfl⟩ (by exact rfl) Try.ntmps43 (by exact rfl) ?_
  have hS := St.startM hS0
  simp only [RdD, LfY] at hS ⊢
  clear hS0
  repeat' (first | (first | ((with_reducible apply l_load); exact rfl; (((with_reducible apply Loads.sc tabOk); exact rfl; (first | exact hS.blkC 3 rfl rfl | exact hS.blkC 4 rfl rfl))); exact rfl) | ((with_reducible apply l_build tabOk); exact rfl; exact rfl; ((exact (rfl : _ = some [_, _]))); exact rfl) | ((with_reducible apply l_alloc hS tabOk); exact rfl; exact rfl; exact rfl; intro g w' hS'; clear hS; have hS := hS'; clear hS') | (((with_reducible apply l_store hS tabOk (i := 0)); exact rfl; exact rfl; exact rfl; exact rfl; exact rfl; exact rfl; exact rfl; exact rfl; ((exact (rfl : _ = [_, _]))); intro w' hS'; simp only [List.set] at hS'; clear hS; have hS := hS'; clear hS'))) | (first | (with_reducible apply c_seq) | (with_reducible apply c_region) | (with_reducible apply l_nil) | (with_reducible apply q_then)) | ((with_reducible apply l_callQ); exact rfl; exact rfl; exact text_fn (l := l) hS hl; exact rfl; (rintro w' ⟨hno, r, hS'⟩; (repeat' ((with_reducible apply q_then_panic))); exact q_panicked ⟨(by unfold rdSy; simp only [Option.bind_some, Option.bind_none, *]), _, St.reorder [0, 1, 2, 3] (hS.transM1 hS') (by decide) rfl⟩); rintro _ w' ⟨r1, ⟨n1, hn1, rfl⟩, hS'⟩; replace hS := hS.transM1 hS'; simp only [appA] at hS; clear hS'))
  have l1 := rdText_len hn1
  replace hS := St.reorder [1, 0, 2, 3, 4] hS (by decide) rfl
  repeat' (first | (first | ((with_reducible apply l_pure tabOk); exact rfl; exact rfl) | ((with_reducible apply l_load); exact rfl; (first | ((with_reducible apply Loads.sl tabOk); exact rfl; ((exact hS.blkC 2 rfl rfl))) | ((with_reducible apply Loads.st tabOk); exact rfl; ((exact hS.blkR 1 rfl)); exact rfl)); exact rfl) | (((with_reducible apply l_store hS tabOk (i := 1)); exact rfl; exact rfl; exact rfl; exact rfl; exact rfl; exact rfl; exact rfl; exact rfl; ((exact (rfl : _ = [_, _]))); intro w' hS'; simp only [List.set] at hS'; clear hS; have hS := hS'; clear hS')) | ((with_reducible apply l_bslice hS tabOk); exact rfl; exact rfl; exact rfl; exact rfl; exact rfl; exact rfl; exact rfl; intro g w' hS'; clear hS; have hS := hS'; clear hS')) | (first | (with_reducible apply c_region) | (with_reducible apply l_nil) | (with_reducible apply q_then)) | ((with_reducible apply l_callQ); exact rfl; exact rfl; exact number_fn (l := r1) hS (by omega); exact rfl; (rintro w' ⟨hno, r, hS'⟩; (repeat' ((with_reducible apply q_then_panic))); exact q_panicked ⟨(by unfold rdSy; simp only [Option.bind_some, Option.bind_none, *]), _, St.reorder [0, 2, 3, 4] (hS.transM1 hS') (by decide) rfl⟩); rintro _ w' ⟨r2, ⟨n2, hn2, rfl⟩, hS'⟩; replace hS := hS.transM1 hS'; simp only [appA] at hS; clear hS'))
  have l2 := rdNum_len hn2
  repeat' (first | (first | ((with_reducible apply l_pure tabOk); exact rfl; exact rfl) | (((with_reducible apply l_store hS tabOk (i := 3)); exact rfl; exact rfl; exact rfl; exact rfl; exact rfl; exact rfl; exact rfl; exact rfl; ((exact (rfl : _ = [_, _, _, _, _, _]))); intro w' hS'; simp only [List.set] at hS'; clear hS; have hS := hS'; clear hS'))) | ((with_reducible apply l_nil)) | ((with_reducible apply l_append hS tabOk 4); exact rfl; exact rfl; exact rfl; exact rfl; exact hS.rowRo 0 rfl; exact rfl; (simp only [List.length_map]; omega); exact rfl; intro p' cap' w' hS'; simp only [List.set] at hS'; clear hS; have hS := hS'; clear hS'))
  refine q_rp (Or.inr rfl) ?_
  (apply q_end0); (repeat ((exact ResL.nil)))
  refine ⟨⟨n1, n2⟩, r2, p', cap', (by unfold rdSy; simp only [Option.bind_some, *]), ?_⟩
  simp only [List.length_append, List.length_cons, List.length_nil, List.map_append, List.map_cons, List.map_nil]
  rw [List.length_map] at hS
  exact hS.reorder [1, 3, 4, 5] (by decide) rfl
set_option maxRecDepth 100000 in
set_option maxHeartbeats 4000000 in
theorem read5_ok {g gi gr : Nat} {nm a b d en : Value} : OneOk 44 [gPt gr, gPt gi] g gi gr 87 3 (LfR nm a b d en) rlC rdRl := by
  intro F w0 w Γ l xs p c hl hx hS0
  refine fnP_enter (fn := Try.f44) ⟨Try.func44, by kernel_rfl, by kernel_rfl⟩ (by exact rfl) Try.ntmps44 (by exact rfl) ?_
  have hS := St.startM hS0
  simp only [RdD, LfR] at hS ⊢
  clear hS0
  repeat' (first | (first | ((with_reducible apply l_load); exact rfl; (((with_reducible apply Loads.sc tabOk); exact rfl; (first | exact hS.blkC 3 rfl rfl | exact hS.blkC 4 rfl rfl))); exact rfl) | ((with_reducible apply l_build tabOk); exact rfl; exact rfl; ((exact (rfl : _ = some [_, _, _]))); exact rfl) | ((with_reducible apply l_alloc hS tabOk); exact rfl; exact rfl; exact rfl; intro g w' hS'; clear hS; have hS := hS'; clear hS') | (((with_reducible apply l_store hS tabOk (i := 0)); exact rfl; exact rfl; exact rfl; exact rfl; exact rfl; exact rfl; exact rfl; exact rfl; ((exact (rfl : _ = [_, _, _]))); intro w' hS'; simp only [List.set] at hS'; clear hS; have hS := hS'; clear hS'))) | (first | (with_reducible apply c_seq) | (with_reducible apply c_region) | (with_reducible apply l_nil) | (with_reducible apply q_then)) | ((with_reducible apply l_callQ); exact rfl; exact rfl; exact number_fn (l := l) hS hl; exact rfl; (rintro w' ⟨hno, r, hS'⟩; (repeat' ((with_reducible apply q_then_panic))); exact q_panicked ⟨(by unfold rdRl; simp only [Option.bind_some, Option.bind_none, *]), _, St.reorder [0, 1, 2, 3] (hS.transM1 hS') (by decide) rfl⟩); rintro _ w' ⟨r1, ⟨n1, hn1, rfl⟩, hS'⟩; replace hS := hS.transM1 hS'; simp only [appA] at hS; clear hS'))
  have l1 := rdNum_len hn1
  replace hS := St.reorder [1, 0, 2, 3, 4] hS (by decide) rfl
  repeat' (first | (first | ((with_reducible apply l_pure tabOk); exact rfl; exact rfl) | ((with_reducible apply l_load); exact rfl; (((with_reducible apply Loads.sc tabOk); exact rfl; ((exact hS.blkC 4 rfl rfl)))); exact rfl) | (((with_reducible apply l_store hS tabOk (i := 1)); exact rfl; exact rfl; exact rfl; exact rfl; exact rfl; exact rfl; exact rfl; exact rfl; ((exact (rfl : _ = [_, _, _]))); intro w' hS'; simp only [List.set] at hS'; clear hS; have hS := hS'; clear hS'))) | (first | (with_reducible apply c_seq) | (with_reducible apply c_region) | (with_reducible apply l_nil) | (with_reducible apply q_then)) | ((with_reducible apply l_callQ); exact rfl; exact rfl; exact text_fn (l := r1) hS (by omega); exact rfl; (rintro w' ⟨hno, r, hS'⟩; (repeat' ((with_reducible apply q_then_panic))); exact q_panicked ⟨(by unfold rdRl; simp only [Option.bind_some, Option.bind_none, *]), _, St.reorder [0, 2, 3, 4] (hS.transM1 hS') (by decide) rfl⟩); rintro _ w' ⟨r2, ⟨n2, hn2, rfl⟩, hS'⟩; replace hS := hS.transM1 hS'; simp only [appA] at hS; clear hS'))
  have l2 := rdText_len hn2
  repeat' (first | (first | ((with_reducible apply l_pure tabOk); exact rfl; exact rfl) | ((with_reducible apply l_load); exact rfl; (first | ((with_reducible apply Loads.sl tabOk); exact rfl; ((exact hS.blkC 2 rfl rfl))) | ((with_reducible apply Loads.st tabOk); exact rfl; ((exact hS.blkR 1 rfl)); exact rfl)); exact rfl) | (((with_reducible apply l_store hS tabOk (i := 1)); exact rfl; exact rfl; exact rfl; exact rfl; exact rfl; exact rfl; exact rfl; exact rfl; ((exact (rfl : _ = [_, _, _]))); intro w' hS'; simp only [List.set] at hS'; clear hS; have hS := hS'; clear hS')) | ((with_reducible apply l_bslice hS tabOk); exact rfl; exact rfl; exact rfl; exact rfl; exact rfl; exact rfl; exact rfl; intro g w' hS'; clear hS; have hS := hS'; clear hS')) | (first | (with_reducible apply c_region) | (with_reducible apply l_nil) | (with_reducible apply q_then)) | ((with_reducible apply l_callQ); exact rfl; exact rfl; exact number_fn (l := r2) hS (by omega); exact rfl; (rintro w' ⟨hno, r, hS'⟩; (repeat' ((with_reducible apply q_then_panic))); exact q_panicked ⟨(by unfold rdRl; simp only [Option.bind_some, Option.bind_none, *]), _, St.reorder [0, 2, 3, 4] (hS.transM1 hS') (by decide) rfl⟩); rintro _ w' ⟨r3, ⟨n3, hn3, rfl⟩, hS'⟩; replace hS := hS.transM1 hS'; simp only [appA] at hS; clear hS'))
  have l3 := rdNum_len hn3
  repeat' (first | (first | ((with_reducible apply l_pure tabOk); exact rfl; exact rfl) | (((with_reducible apply l_store hS tabOk (i := 3)); exact rfl; exact rfl; exact rfl; exact rfl; exact rfl; exact rfl; exact rfl; exact rfl; ((exact (rfl : _ = [_, _, _, _, _, _]))); intro w' hS'; simp only [List.set] at hS'; clear hS; have hS := hS'; clear hS'))) | ((with_reducible apply l_nil)) | ((with_reducible apply l_append hS tabOk 4); exact rfl; exact rfl; exact rfl; exact rfl; exact hS.rowRo 0 rfl; exact rfl; (simp only [List.length_map]; omega); exact rfl; intro p' cap' w' hS'; simp only [List.set] at hS'; clear hS; have hS := hS'; clear hS'))
  refine q_rp (Or.inr rfl) ?_
  (apply q_end0); (repeat ((exact ResL.nil)))
  refine ⟨⟨n1, n2, n3⟩, r3, p', cap', (by unfold rdRl; simp only [Option.bind_some, *]), ?_⟩
  simp only [List.length_append, List.length_cons, List.length_nil, List.map_append, List.map_cons, List.map_nil]
  rw [List.length_map] at hS
  exact hS.reorder [1, 3, 4, 5] (by decide) rfl
end Go.Proofs.Ytejnpppejalhfab
/- An image: the reference's places, and its check. -/
namespace Go.Proofs.Ytejnpppejalhfab
open Go.RowKit Go.Sort

theorem own_neg {l : List Sg} {x : Int} (h : ownI l x < 0) : own l x = none := by
  rcases ownI_own l x with ⟨_, h2⟩ | ⟨i, s, h1, _⟩
  · exact h2
  · omega
theorem own_ge {l : List Sg} {x : Int} (h : ¬ ownI l x < 0) : (own l x).isSome = true := by
  rcases ownI_own l x with ⟨h1, _⟩ | ⟨i, s, _, _, h2⟩
  · exact (h h1).elim
  · rw [h2]; rfl
set_option maxRecDepth 100000 in
set_option maxHeartbeats 4000000 in
theorem placesFine_fn {I : Im} {w : World} {vn vs vy vr : Value} (hI : ImV w I vn vs vy vr) (hok : sgsB I = true) : Fn Try.prog 104 [imA I vn vs vy vr] w (RBf (.bool (plcB I)) w) := by
  have bn := hI.needs.bound; have bs := hI.segs.bound; have by_ := hI.syms.bound; have br := hI.rels.bound; obtain ⟨pn, cn, rfl⟩ := hI.needs.len; obtain ⟨ps, cs, rfl⟩ := hI.segs.len; obtain ⟨py, cy, rfl⟩ := hI.syms.len; obtain ⟨pr, cr, rfl⟩ := hI.rels.len
  refine fn_enter (fn := Try.f104) ⟨Try.func104, by kernel_rfl, by kernel_rfl⟩ (by exact rfl) Try.ntmps104 (by exact rfl) ?_
  have hS := St.start w
  have no : ¬ Plc I → plcB I = false := fun h => pB_false h
  repeat' (first | (first | ((with_reducible apply l_pure tabOk); exact rfl; exact rfl) | ((with_reducible apply l_box hS); exact rfl; exact rfl; exact rfl; intro g w' hS'; clear hS; have hS := hS'; clear hS')) | (first | (with_reducible apply c_seq) | (with_reducible apply c_region) | (with_reducible apply l_nil) | (with_reducible apply q_then) | (with_reducible apply c_block)))
  refine c_count hS 3 [1] rfl (I.syms.length) (fun i => (I.syms.take i).all (fun s => (own I.segs s.at_).isSome) = true) 0 rfl (Nat.zero_le _) (by (rfl)) ?_
  rintro i w1 hi hall hS'
  clear hS; have hS := hS'; clear hS'
  by_cases hlt : i < I.syms.length
  · obtain ⟨x, hx⟩ := lt_get (l := I.syms) (i := i) (by omega)
    have hrow := map_get (f := syC) hx
    obtain ⟨b, off, rfl, hro⟩ := (hI.syms).at_ hlt
    repeat' (first | (first | ((with_reducible apply l_add); exact rfl; exact rfl; omega; omega; exact rfl) | ((with_reducible apply l_pure tabOk); exact rfl; exact rfl) | ((with_reducible apply l_load); exact rfl; (((with_reducible apply Loads.sl tabOk); exact rfl; ((exact hS.blkC 0 rfl rfl)))); exact rfl)) | (first | (with_reducible apply c_seq) | (with_reducible apply c_region) | (with_reducible apply l_nil) | (with_reducible apply q_then) | (with_reducible apply c_skip) | (with_reducible apply c_block) | (with_reducible apply c_ret) | (with_reducible apply q_then_ret) | (with_reducible apply q_block) | (with_reducible apply q_block_ret)) | (((with_reducible apply c_ifd); exact rfl; all_goals (intro hb hp; try (exfalso; omega)))) | (focus ((with_reducible apply c_drawAll nF _ _ (by kernel_rfl) (by kernel_rfl) hS); (repeat' (first | (first | ((with_reducible apply d_pure tabOk); exact rfl; exact rfl) | ((with_reducible apply d_load); exact rfl; (intro wd hd; replace hd : St _ _ wd _ := hd; (first | ((with_reducible apply Loads.sc tabOk); exact rfl; ((exact hd.roC (by assumption) (by assumption) rfl))) | ((with_reducible apply Loads.sl tabOk); exact rfl; ((exact hd.blkC 0 rfl rfl))) | ((with_reducible apply Loads.st tabOk); exact rfl; ((exact hd.blkR 0 rfl)); exact rfl))); exact rfl) | ((with_reducible apply d_ix tabOk); exact rfl; exact rfl; exact rfl; ((exact rfl)); ((omega)); exact rfl)) | ((with_reducible apply d_call); exact rfl; exact rfl; (intro wd hd; replace hd : St _ _ wd _ := hd; exact owner_fn _ (hI.now hd) hok); exact rfl))); all_goals ((with_reducible apply d_nil); intro w' hS'; clear hS; have hS := hS'; clear hS'))))
    · (apply q_ret1); (repeat (first | exact ResL.nil | (apply ResL.tmp; exact rfl)))
      refine ⟨?_, hS.sub (List.nil_sublist _)⟩
      rw [no fun h => by have := h.syms x (List.mem_of_getElem? hx); rw [own_neg hp] at this; cases this]
    · exact q_count (i + 1) (by repeat (first | exact Fr.sub_nil _ | (apply Fr.sub_cons; exact rfl))) (by omega) (all_take_succ hall hx (own_ge hp)) (by omega) hS
  have hsy := all_take_all hall (by omega)
  repeat' (first | (first | ((with_reducible apply l_pure tabOk); exact rfl; exact rfl) | ((with_reducible apply l_load); exact rfl; (((with_reducible apply Loads.sl tabOk); exact rfl; ((exact hS.blkC 0 rfl rfl)))); exact rfl)) | (first | (with_reducible apply c_seq) | (with_reducible apply c_region) | (with_reducible apply l_nil) | (with_reducible apply q_then) | (with_reducible apply c_block) | (with_reducible apply c_exit) | (with_reducible apply q_then_exit) | (with_reducible apply q_block_exit)) | (((with_reducible apply c_ifd); exact rfl; all_goals (intro hb hp; try (exfalso; omega)))))
  clear hall hi hlt hb hp
  refine c_count hS 4 [1] rfl I.rels.length (fun i => PlR I i) 0 rfl (Nat.zero_le _) (PlR.zero I) ?_
  rintro i w1 hi hall hS'
  clear hS; have hS := hS'; clear hS'
  by_cases hlt : i < I.rels.length
  · obtain ⟨x, hx⟩ := lt_get (l := I.rels) (i := i) (by omega)
    have hrow := map_get (f := rlC) hx
    obtain ⟨b, off, rfl, hro⟩ := (hI.rels).at_ hlt
    by_cases hin : 0 ≤ x.at_ ∧ x.at_ ≤ 4080
    · have hin' : (!decide (0 ≤ x.at_ ∧ x.at_ ≤ 4080)) = false := by rw [decide_eq_true hin]; rfl
      obtain ⟨in1, in2⟩ := hin
      by_cases hk0 : i = 0
      · repeat' (first | (first | ((with_reducible apply l_pure tabOk); exact rfl; exact rfl) | ((with_reducible apply l_load); exact rfl; (first | ((with_reducible apply Loads.sc tabOk); exact rfl; ((exact hS.roC0 (by assumption) (by assumption) rfl))) | ((with_reducible apply Loads.sl tabOk); exact rfl; ((exact hS.blkC 0 rfl rfl)))); exact rfl) | ((with_reducible apply l_ix tabOk); exact rfl; exact rfl; exact rfl; ((exact rfl)); ((omega)); exact rfl) | (first | ((with_reducible apply l_yes); exact rfl; exact rfl; exact rfl; exact rfl; (assumption)) | ((with_reducible apply l_no); exact rfl; exact rfl; exact rfl; exact rfl; ((assumption)); exact rfl) | ((with_reducible apply l_partd); exact rfl; exact rfl; exact rfl; all_goals (intro hb hp; try (exfalso; omega))) | ((with_reducible apply l_pick2); exact rfl; ((assumption)); exact rfl; exact rfl))) | (first | (with_reducible apply c_seq) | (with_reducible apply c_region) | (with_reducible apply l_nil) | (with_reducible apply q_then) | (with_reducible apply c_skip) | (with_reducible apply c_block)) | (first | ((with_reducible apply c_iff); exact rfl; (exact rfl)) | ((with_reducible apply c_ifd); exact rfl; all_goals (intro hb hp; try (exfalso; omega)))) | ((with_reducible apply l_call); exact rfl; exact rfl; exact within_fn _ _ _ _; exact rfl; rintro _ w' ⟨rfl, hS'⟩; replace hS := hS.transA hS'; simp only [appA] at hS; clear hS'))
        have hst : ∀ q, 0 < i → I.rels[i - 1]? = some q → q.at_ + 8 ≤ x.at_ := fun q h => by omega
        refine c_count hS 6 [1, 4, 5] rfl 8 (fun b => ∀ c : Int, 0 ≤ c → c < b → (own I.segs (x.at_ + c)).isSome = true) 0 rfl (by omega) (by intros; omega) ?_
        rintro b2 w1 hi2 hall2 hS'
        clear hS; have hS := hS'; clear hS'
        by_cases hlt2 : b2 < 8
        · repeat' (first | (first | ((with_reducible apply l_add); exact rfl; exact rfl; omega; omega; exact rfl) | ((with_reducible apply l_pure tabOk); exact rfl; exact rfl) | ((with_reducible apply l_load); exact rfl; (((with_reducible apply Loads.st tabOk); exact rfl; ((exact hS.blkR 0 rfl)); exact rfl)); exact rfl)) | (first | (with_reducible apply c_seq) | (with_reducible apply c_region) | (with_reducible apply l_nil) | (with_reducible apply q_then) | (with_reducible apply c_skip) | (with_reducible apply c_block) | (with_reducible apply c_ret) | (with_reducible apply q_then_ret) | (with_reducible apply q_block) | (with_reducible apply q_block_ret)) | (((with_reducible apply c_ifd); exact rfl; all_goals (intro hb hp; try (exfalso; omega)))) | ((with_reducible apply l_call); exact rfl; exact rfl; exact owner_fn (x.at_ + b2) (hI.now hS) hok; exact rfl; rintro _ w' ⟨rfl, hS'⟩; replace hS := hS.transA hS'; simp only [appA] at hS; clear hS'))
          · (apply q_ret1); (repeat (first | exact ResL.nil | (apply ResL.tmp; exact rfl)))
            refine ⟨?_, hS.sub (List.nil_sublist _)⟩
            rw [no fun h => by have := (h.rels i x hx).2 b2 (by omega) (by omega); rw [own_neg hp] at this; cases this]
          · refine q_count (b2 + 1) (by repeat (first | exact Fr.sub_nil _ | (apply Fr.sub_cons; exact rfl))) (by omega) (fun c h1 h2 => ?_) (by omega) hS
            by_cases e : c = b2
            · subst e; exact own_ge hp
            · exact hall2 c h1 (by omega)
        · repeat' (first | (first | ((with_reducible apply l_add); exact rfl; exact rfl; omega; omega; exact rfl) | ((with_reducible apply l_pure tabOk); exact rfl; exact rfl)) | (first | (with_reducible apply c_seq) | (with_reducible apply c_region) | (with_reducible apply l_nil) | (with_reducible apply q_then) | (with_reducible apply c_exit) | (with_reducible apply q_then_exit) | (with_reducible apply q_block) | (with_reducible apply q_block_exit)) | (((with_reducible apply c_ifd); exact rfl; all_goals (intro hb hp; try (exfalso; omega)))))
          exact q_count (i + 1) (by repeat (first | exact Fr.sub_nil _ | (apply Fr.sub_cons; exact rfl))) (by omega) (hall.succ hx (by omega) (fun c h1 h2 => hall2 c h1 (by omega)) hst) (by omega) hS
      · obtain ⟨y, hy⟩ := lt_get (l := I.rels) (i := i - 1) (by omega)
        have hrow2 := map_get (f := rlC) hy
        have hix : ((i - 1 : Nat) : Int) = (i : Int) - 1 := by omega
        repeat' (first | (first | ((with_reducible apply l_sub); exact rfl; exact rfl; omega; omega; exact rfl) | ((with_reducible apply l_pure tabOk); exact rfl; exact rfl) | ((with_reducible apply l_load); exact rfl; (first | ((with_reducible apply Loads.sc tabOk); exact rfl; ((exact hS.roC0 (by assumption) (by assumption) rfl))) | ((with_reducible apply Loads.sl tabOk); exact rfl; ((exact hS.blkC 0 rfl rfl)))); exact rfl) | ((with_reducible apply l_ix tabOk); exact rfl; exact rfl; exact rfl; (first | exact rfl | assumption); ((omega)); exact rfl) | (first | ((with_reducible apply l_yes); exact rfl; exact rfl; exact rfl; exact rfl; (assumption)) | ((with_reducible apply l_partd); exact rfl; exact rfl; exact rfl; all_goals (intro hb hp; try (exfalso; omega))) | ((with_reducible apply l_pick1); exact rfl; ((assumption)); exact rfl; exact rfl) | ((with_reducible apply l_pick2); exact rfl; ((assumption)); exact rfl; exact rfl))) | (first | (with_reducible apply c_seq) | (with_reducible apply c_region) | (with_reducible apply l_nil) | (with_reducible apply q_then) | (with_reducible apply c_skip) | (with_reducible apply c_block) | (with_reducible apply c_ret) | (with_reducible apply q_then_ret) | (with_reducible apply q_block_ret)) | (((with_reducible apply c_ifd); exact rfl; all_goals (intro hb hp; try (exfalso; omega)))) | ((with_reducible apply l_call); exact rfl; exact rfl; exact within_fn _ _ _ _; exact rfl; rintro _ w' ⟨rfl, hS'⟩; replace hS := hS.transA hS'; simp only [appA] at hS; clear hS'))
        · (apply q_ret1); (repeat (first | exact ResL.nil | (apply ResL.tmp; exact rfl)))
          refine ⟨?_, hS.sub (List.nil_sublist _)⟩
          rw [no fun h => by have := h.step (i - 1) y x hy (by rw [show i - 1 + 1 = i by omega]; exact hx); omega]
        · have hst : ∀ q, 0 < i → I.rels[i - 1]? = some q → q.at_ + 8 ≤ x.at_ := fun q _ h => by rw [hy] at h; cases h; omega
          refine c_count hS 6 [1, 4, 5] rfl 8 (fun b => ∀ c : Int, 0 ≤ c → c < b → (own I.segs (x.at_ + c)).isSome = true) 0 rfl (by omega) (by intros; omega) ?_
          rintro b2 w1 hi2 hall2 hS'
          clear hS; have hS := hS'; clear hS'
          by_cases hlt2 : b2 < 8
          · repeat' (first | (first | ((with_reducible apply l_add); exact rfl; exact rfl; omega; omega; exact rfl) | ((with_reducible apply l_pure tabOk); exact rfl; exact rfl) | ((with_reducible apply l_load); exact rfl; (((with_reducible apply Loads.st tabOk); exact rfl; ((exact hS.blkR 0 rfl)); exact rfl)); exact rfl)) | (first | (with_reducible apply c_seq) | (with_reducible apply c_region) | (with_reducible apply l_nil) | (with_reducible apply q_then) | (with_reducible apply c_skip) | (with_reducible apply c_block) | (with_reducible apply c_ret) | (with_reducible apply q_then_ret) | (with_reducible apply q_block) | (with_reducible apply q_block_ret)) | (((with_reducible apply c_ifd); exact rfl; all_goals (intro hb hp; try (exfalso; omega)))) | ((with_reducible apply l_call); exact rfl; exact rfl; exact owner_fn (x.at_ + b2) (hI.now hS) hok; exact rfl; rintro _ w' ⟨rfl, hS'⟩; replace hS := hS.transA hS'; simp only [appA] at hS; clear hS'))
            · (apply q_ret1); (repeat (first | exact ResL.nil | (apply ResL.tmp; exact rfl)))
              refine ⟨?_, hS.sub (List.nil_sublist _)⟩
              rw [no fun h => by have := (h.rels i x hx).2 b2 (by omega) (by omega); rw [own_neg hp] at this; cases this]
            · refine q_count (b2 + 1) (by repeat (first | exact Fr.sub_nil _ | (apply Fr.sub_cons; exact rfl))) (by omega) (fun c h1 h2 => ?_) (by omega) hS
              by_cases e : c = b2
              · subst e; exact own_ge hp
              · exact hall2 c h1 (by omega)
          · repeat' (first | (first | ((with_reducible apply l_add); exact rfl; exact rfl; omega; omega; exact rfl) | ((with_reducible apply l_pure tabOk); exact rfl; exact rfl)) | (first | (with_reducible apply c_seq) | (with_reducible apply c_region) | (with_reducible apply l_nil) | (with_reducible apply q_then) | (with_reducible apply c_exit) | (with_reducible apply q_then_exit) | (with_reducible apply q_block) | (with_reducible apply q_block_exit)) | (((with_reducible apply c_ifd); exact rfl; all_goals (intro hb hp; try (exfalso; omega)))))
            exact q_count (i + 1) (by repeat (first | exact Fr.sub_nil _ | (apply Fr.sub_cons; exact rfl))) (by omega) (hall.succ hx (by omega) (fun c h1 h2 => hall2 c h1 (by omega)) hst) (by omega) hS
    · have hin' : (!decide (0 ≤ x.at_ ∧ x.at_ ≤ 4080)) = true := by rw [decide_eq_false hin]; rfl
      repeat' (first | (first | ((with_reducible apply l_pure tabOk); exact rfl; exact rfl) | ((with_reducible apply l_load); exact rfl; (first | ((with_reducible apply Loads.sc tabOk); exact rfl; ((exact hS.roC0 (by assumption) (by assumption) rfl))) | ((with_reducible apply Loads.sl tabOk); exact rfl; ((exact hS.blkC 0 rfl rfl)))); exact rfl) | ((with_reducible apply l_ix tabOk); exact rfl; exact rfl; exact rfl; ((exact rfl)); ((omega)); exact rfl) | (first | ((with_reducible apply l_no); exact rfl; exact rfl; exact rfl; exact rfl; ((assumption)); exact rfl) | ((with_reducible apply l_undef); exact rfl; exact rfl; exact rfl; exact rfl; exact rfl) | ((with_reducible apply l_pick1); exact rfl; ((assumption)); exact rfl; exact rfl))) | (first | (with_reducible apply c_seq) | (with_reducible apply c_region) | (with_reducible apply l_nil) | (with_reducible apply q_then) | (with_reducible apply c_skip) | (with_reducible apply c_block) | (with_reducible apply c_ret) | (with_reducible apply q_then_ret) | (with_reducible apply q_block_ret)) | (first | ((with_reducible apply c_ift); exact rfl; (exact rfl)) | ((with_reducible apply c_ifd); exact rfl; all_goals (intro hb hp; try (exfalso; omega)))) | ((with_reducible apply l_call); exact rfl; exact rfl; exact within_fn _ _ _ _; exact rfl; rintro _ w' ⟨rfl, hS'⟩; replace hS := hS.transA hS'; simp only [appA] at hS; clear hS'))
      (apply q_ret1); (repeat (first | exact ResL.nil | (apply ResL.tmp; exact rfl)))
      refine ⟨?_, hS.sub (List.nil_sublist _)⟩
      rw [no fun h => hin (h.rels i x hx).1]
  · have hall' : PlR I I.rels.length := by rw [show I.rels.length = i by omega]; exact hall
    rcases ownI_own I.segs I.entry with ⟨ho, hn⟩ | ⟨k, s, ho, hs, hf⟩
    · have nope : plcB I = false := no fun h => by obtain ⟨s, hs, _⟩ := h.entry; rw [hn] at hs; cases hs
      rw [nope]
      repeat' (first | (first | ((with_reducible apply l_pure tabOk); exact rfl; exact rfl) | ((with_reducible apply l_load); exact rfl; (first | ((with_reducible apply Loads.sc tabOk); exact rfl; ((exact hS.blkC 0 rfl rfl))) | ((with_reducible apply Loads.sl tabOk); exact rfl; ((exact hS.blkC 0 rfl rfl))) | ((with_reducible apply Loads.st tabOk); exact rfl; ((exact hS.blkR 0 rfl)); exact rfl)); exact rfl) | (first | ((with_reducible apply l_yes); exact rfl; exact rfl; exact rfl; exact rfl; (assumption)) | ((with_reducible apply l_no); exact rfl; exact rfl; exact rfl; exact rfl; (first | exact rfl | assumption); exact rfl) | ((with_reducible apply l_partd); exact rfl; exact rfl; exact rfl; all_goals (intro hb hp; try (exfalso; omega))) | ((with_reducible apply l_pick1); exact rfl; ((assumption)); exact rfl; exact rfl) | ((with_reducible apply l_pick2); exact rfl; (first | exact rfl | assumption); exact rfl; exact rfl))) | (first | (with_reducible apply c_seq) | (with_reducible apply c_region) | (with_reducible apply l_nil) | (with_reducible apply q_then) | (with_reducible apply c_exit) | (with_reducible apply c_ret) | (with_reducible apply q_then_exit) | (with_reducible apply q_block_exit)) | (((with_reducible apply c_ifd); exact rfl; all_goals (intro hb hp; try (exfalso; omega)))) | ((with_reducible apply l_call); exact rfl; exact rfl; exact owner_fn I.entry (hI.now hS) hok; exact rfl; rintro _ w' ⟨rfl, hS'⟩; replace hS := hS.transA hS'; simp only [appA] at hS; clear hS') | ((with_reducible apply l_remT); exact rfl; exact rfl; omega; exact rfl))
      all_goals (apply q_ret1); (repeat (first | exact ResL.nil | (apply ResL.tmp; exact rfl)))
      all_goals exact ⟨rfl, hS.sub (List.nil_sublist _)⟩
    · have hrow := map_get (f := sgC) hs
      have hlt3 := lt_of_getE hs
      obtain ⟨b, off, rfl, hro⟩ := hI.segs.at_ hlt3
      repeat' (first | (first | ((with_reducible apply l_pure tabOk); exact rfl; exact rfl) | ((with_reducible apply l_load); exact rfl; (first | ((with_reducible apply Loads.sc tabOk); exact rfl; (first | exact hS.blkC 0 rfl rfl | exact hS.roC (by assumption) (by assumption) rfl)) | ((with_reducible apply Loads.sl tabOk); exact rfl; ((exact hS.blkC 0 rfl rfl))) | ((with_reducible apply Loads.st tabOk); exact rfl; ((exact hS.blkR 0 rfl)); exact rfl)); exact rfl) | ((with_reducible apply l_ix tabOk); exact rfl; exact rfl; exact rfl; ((exact rfl)); ((omega)); exact rfl) | (first | ((with_reducible apply l_yes); exact rfl; exact rfl; exact rfl; exact rfl; first | exact rfl | assumption) | ((with_reducible apply l_no); exact rfl; exact rfl; exact rfl; exact rfl; (first | exact rfl | assumption); exact rfl) | ((with_reducible apply l_partd); exact rfl; exact rfl; exact rfl; all_goals (intro hb hp; try (exfalso; omega))) | ((with_reducible apply l_pick1); exact rfl; (first | exact rfl | assumption); exact rfl; exact rfl) | ((with_reducible apply l_pick2); exact rfl; (first | exact rfl | assumption); exact rfl; exact rfl))) | (first | (with_reducible apply c_seq) | (with_reducible apply c_region) | (with_reducible apply l_nil) | (with_reducible apply q_then) | (with_reducible apply c_exit) | (with_reducible apply c_ret) | (with_reducible apply q_then_exit) | (with_reducible apply q_block_exit)) | (((with_reducible apply c_ifd); exact rfl; all_goals (intro hb hp; try (exfalso; omega)))) | ((with_reducible apply l_call); exact rfl; exact rfl; exact Fn.eqv (congrArg (Value.int .i64) ho) (owner_fn I.entry (hI.now hS) hok); exact rfl; rintro _ w' ⟨rfl, hS'⟩; replace hS := hS.transA hS'; simp only [appA] at hS; clear hS') | ((with_reducible apply l_remT); exact rfl; exact rfl; omega; exact rfl))
      · (apply q_ret1); (repeat (first | exact ResL.nil | (apply ResL.tmp; exact rfl)))
        refine ⟨?_, hS.sub (List.nil_sublist _)⟩
        cases he : s.ex with
        | false => rw [no fun h => by obtain ⟨s', hs', he'⟩ := h.entry; rw [hf] at hs'; cases hs'; rw [he] at he'; cases he']
        | true => rw [show plcB I = true from pB_true ⟨fun s hs => List.all_eq_true.1 hsy s hs, fun k r hr => hall'.rels k r (lt_of_getE hr) hr, fun k q r hq hr => hall'.step k q r (lt_of_getE hr) hq hr, ⟨s, hf, he⟩, hp⟩]
      · (apply q_ret1); (repeat (first | exact ResL.nil | (apply ResL.tmp; exact rfl)))
        refine ⟨?_, hS.sub (List.nil_sublist _)⟩
        rw [no fun h => hp h.by8]
end Go.Proofs.Ytejnpppejalhfab
