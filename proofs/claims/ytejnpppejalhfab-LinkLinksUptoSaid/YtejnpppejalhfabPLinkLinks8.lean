/- Texts that the proof stands on, one behind the other: Lk12, PlRd, Im14, Im15, Im16, Im9, Im10, Im11, Im12, Im13, Im17, Im20, Im21, Lk13. -/
import Derived.Test.YtejnpppejalhfabPLinkLinks7
/- link.Link. -/
namespace Go.Proofs.Ytejnpppejalhfab
open Go.RowKit Go.Sort
def LinkF (M : Ob) (Lb : List Ob) (v : Value) (w w' : World) : Prop :=
  (linkC M Lb ≠ 0 ∧ v = .tuple #[lkA (.slice none 0 0) (.slice none 0 0) 0, .int .i64 (linkC M Lb)] ∧ St nF w w' []) ∨
  (linkC M Lb = 0 ∧ ∃ (s : List Ob × Int) (va vs : Value) (N : List (Sh × Value)), allP (M :: Lb) 8 0 (plStep ([], 1) M) = some s ∧ N.map (·.1) = linkSh (obP s.1) s.1 ∧ v = .tuple #[lkA va vs (16 + M.im.entry), .int .i64 0] ∧ St nF w w' (.row 131 4 va ((linkAr s.1).map arC) :: .row 49 3 vs (N.map fun p => shC p.1 p.2) :: N.map fxRow))
def kvI (o : Ob) : Value × Value := (stK o.im.name, imgV o)
/-- the map by names, while it is filled -/
def MapB (B : List Ob) (i : Nat) (L : List (Value × Value)) : Prop := (((B.take i).map fun o => o.im.name).Nodup → L = (B.take i).map kvI) ∧ (¬ ((B.take i).map fun o => o.im.name).Nodup → L.length < i) ∧ L.length ≤ i
theorem MapB.start (B : List Ob) : MapB B 0 [] := ⟨fun _ => rfl, fun h => absurd (by simp) h, Nat.le_refl _⟩
theorem MapB.mem {B : List Ob} {i : Nat} {L : List (Value × Value)} (h : L = (B.take i).map kvI) (nm : List UInt8) : (∃ v, (stK nm, v) ∈ L) ↔ nm ∈ (B.take i).map fun o => o.im.name := by
  rw [h]
  constructor
  · rintro ⟨v, hv⟩
    obtain ⟨o, ho, e⟩ := List.mem_map.1 hv
    have e1 := congrArg Prod.fst e
    unfold kvI stK at e1
    exact List.mem_map.2 ⟨o, ho, by simpa using e1⟩
  · intro hn
    obtain ⟨o, ho, rfl⟩ := List.mem_map.1 hn
    exact ⟨imgV o, List.mem_map.2 ⟨o, ho, rfl⟩⟩
theorem nd_snoc {α : Type} {l : List α} {x : α} : (l ++ [x]).Nodup ↔ l.Nodup ∧ x ∉ l := by
  rw [List.nodup_append]
  constructor
  · rintro ⟨h1, -, h3⟩
    exact ⟨h1, fun h => h3 x h x (by simp) rfl⟩
  · rintro ⟨h1, h2⟩
    refine ⟨h1, by simp, fun a ha b hb => ?_⟩
    have : b = x := by simpa using hb
    subst this
    rintro rfl
    exact h2 ha
theorem MapB.new {B : List Ob} {i : Nat} {L : List (Value × Value)} {o : Ob} (h : MapB B i L) (ho : B[i]? = some o) (hn : ∀ v, (stK o.im.name, v) ∉ L) : MapB B (i + 1) (L ++ [kvI o]) := by
  unfold MapB
  rw [List.take_add_one, ho]
  simp only [Option.toList_some, List.map_append, List.map_cons, List.map_nil, List.length_append, List.length_cons, List.length_nil]
  rw [nd_snoc]
  refine ⟨fun ⟨h1, h2⟩ => by rw [h.1 h1], fun hno => ?_, by have := h.2.2; omega⟩
  by_cases h1 : ((B.take i).map fun o => o.im.name).Nodup
  · exfalso
    have hin : o.im.name ∈ (B.take i).map fun o => o.im.name := Classical.byContradiction fun hc => hno ⟨h1, hc⟩
    obtain ⟨v, hv⟩ := (MapB.mem (h.1 h1) o.im.name).2 hin
    exact hn v hv
  · have := h.2.1 h1
    omega
theorem MapB.old {B : List Ob} {i j : Nat} {L : List (Value × Value)} {o : Ob} {u : Value} {x : Value × Value} (h : MapB B i L) (ho : B[i]? = some o) (hu : (stK o.im.name, u) ∈ L) : MapB B (i + 1) (L.set j x) := by
  unfold MapB
  rw [List.take_add_one, ho]
  simp only [Option.toList_some, List.map_append, List.map_cons, List.map_nil, List.length_set]
  rw [nd_snoc]
  refine ⟨fun ⟨h1, h2⟩ => absurd ((MapB.mem (h.1 h1) o.im.name).1 ⟨u, hu⟩) h2, fun hno => ?_, by have := h.2.2; omega⟩
  have := h.2.2
  omega
theorem ends_le : ∀ {l : List Ob}, (∀ o ∈ l, ImOk o.im) → 0 ≤ endsN l ∧ endsN l ≤ 255 * l.length
  | [], _ => by simp [endsN]
  | o :: l, h => by
    have h1 := lastEnd_le (h o (by simp))
    have h2 := ends_le (l := l) fun x hx => h x (List.mem_cons_of_mem _ hx)
    simp only [endsN, List.length_cons]
    omega
theorem perm3 {α : Type} (A B C : List α) (x y z : α) : ((A ++ B) ++ (x :: y :: z :: C)).Perm (x :: y :: z :: (A ++ (C ++ B))) := by
  refine List.perm_append_comm.trans ?_
  simp only [List.cons_append]
  exact (((List.perm_append_comm_assoc C A B).cons _).cons _).cons _
theorem find_first {B : List Ob} {i : Nat} {o : Ob} {p : Ob → Bool} (h : ∀ x ∈ B.take i, p x = false) (ho : B[i]? = some o) (hp : p o = true) : B.find? p = some o := by
  have e : B = B.take i ++ o :: B.drop (i + 1) := by
    conv => lhs; rw [← List.take_append_drop i B, drop_at ho]
  rw [e, List.find?_append]
  have : (B.take i).find? p = none := by
    rw [List.find?_eq_none]
    intro t ht
    rw [h t ht]
    simp
  rw [this, Option.none_or, List.find?_cons, hp]
set_option maxRecDepth 100000 in
set_option maxHeartbeats 8000000 in
theorem Link_fn {w : World} {M : Ob} {Lb : List Ob} {vl : Value} (hM : ObV w M) (hL : Sl nF w 6 vl (Lb.map imR)) (hLo : ∀ o ∈ Lb, ObV w o) (hB : ∀ o ∈ M :: Lb, ImB o.im ∧ ImD o.im) : Fn Try.prog 13 [imgV M, vl] w (fun v w' => LinkF M Lb v w w') := by
  have hbl := hL.bound
  obtain ⟨pl, cl, rfl⟩ := hL.len
  have hall : ∀ o ∈ M :: Lb, ObV w o := fun o ho => by
    rcases List.mem_cons.1 ho with rfl | h
    · exact hM
    · exact hLo o h
  have hM1 := hM
  obtain ⟨I, vn, vs, vy, vr, a0⟩ := M
  replace hM1 : ImV w I vn vs vy vr := hM1
  obtain ⟨pn, cn, rfl⟩ := hM1.needs.len
  obtain ⟨ps, cs, rfl⟩ := hM1.segs.len
  obtain ⟨py, cy, rfl⟩ := hM1.syms.len
  obtain ⟨pr, cr, rfl⟩ := hM1.rels.len
  refine fn_enter (fn := Try.f13) ⟨Try.func13, by kernel_rfl, by kernel_rfl⟩ (by exact rfl) Try.ntmps13 (by exact rfl) ?_
  have hS := St.start w
  show WC _ _ _ _ _ [(0, .agg [.string ⟨I.name.toArray⟩, .slice pn I.needs.length cn, .slice ps I.segs.length cs, .slice py I.syms.length cy, .slice pr I.rels.length cr, .int .i64 I.entry].toArray), (1, .slice pl Lb.length cl)] _
  by_cases h6 : 6 < Lb.length
  · repeat' (first | (first | ((with_reducible apply l_pure tabOk); exact rfl; exact rfl) | ((with_reducible apply l_build tabOk); exact rfl; exact rfl; ((exact (rfl : _ = some [_, _, _]))); exact rfl) | ((with_reducible apply l_box hS); exact rfl; exact rfl; exact rfl; intro g w' hS'; clear hS; have hS := hS'; clear hS') | ((with_reducible apply l_alloc hS tabOk); exact rfl; exact rfl; exact rfl; intro g w' hS'; clear hS; have hS := hS'; clear hS') | (((with_reducible apply l_store hS tabOk (i := 0)); exact rfl; exact rfl; exact rfl; exact rfl; exact rfl; exact rfl; exact rfl; exact rfl; ((exact (rfl : _ = [_, _, _]))); intro w' hS'; simp only [List.set] at hS'; clear hS; have hS := hS'; clear hS'))) | (first | (with_reducible apply c_seq) | (with_reducible apply c_region) | (with_reducible apply l_nil) | (with_reducible apply q_then) | (with_reducible apply c_ret) | (with_reducible apply q_then_ret)) | (((with_reducible apply c_ifd); exact rfl; all_goals (intro hb hp; try (exfalso; omega)))))
    (apply q_ret2); (repeat (first | exact ResL.nil | (apply ResL.tmp; exact rfl) | (apply ResL.cell; exact rfl; (((with_reducible apply Loads.st tabOk); exact rfl; ((exact hS.blkR 0 rfl)); exact rfl)))))
    refine Or.inl ⟨?_, ?_, hS.sub (List.nil_sublist _)⟩
    · unfold linkC
      rw [if_pos h6]
      decide
    · unfold linkC
      rw [if_pos h6]
      rfl
  repeat' (first | (first | ((with_reducible apply l_pure tabOk); exact rfl; exact rfl) | ((with_reducible apply l_load); exact rfl; (((with_reducible apply Loads.st tabOk); exact rfl; ((exact hS.blkR 4 rfl)); exact rfl)); exact rfl) | ((with_reducible apply l_build tabOk); exact rfl; exact rfl; ((exact (rfl : _ = some [_, _, _, _]))); exact rfl) | ((with_reducible apply l_box hS); exact rfl; exact rfl; exact rfl; intro g w' hS'; clear hS; have hS := hS'; clear hS') | ((with_reducible apply l_alloc hS tabOk); exact rfl; exact rfl; exact rfl; intro g w' hS'; clear hS; have hS := hS'; clear hS') | ((with_reducible apply l_bslice hS tabOk); exact rfl; exact rfl; exact rfl; exact rfl; exact rfl; exact rfl; exact rfl; intro g w' hS'; clear hS; have hS := hS'; clear hS')) | (first | (with_reducible apply c_seq) | (with_reducible apply c_region) | (with_reducible apply l_nil) | (with_reducible apply q_then) | (with_reducible apply c_skip)) | (((with_reducible apply c_ifd); exact rfl; all_goals (intro hb hp; try (exfalso; omega)))) | ((with_reducible apply l_gets); exact rfl; exact g_makeMap hS; rintro _ w' ⟨r, rfl, hS'⟩; clear hS; have hS := hS'; clear hS'))
  rename_i g2 w1 g4 w2 w3 rb w4 gw w5 g1 w6
  obtain ⟨B, hBe⟩ : ∃ B, B = (⟨I, .slice pn I.needs.length cn, .slice ps I.segs.length cs, .slice py I.syms.length cy, .slice pr I.rels.length cr, a0⟩ : Ob) :: Lb := ⟨_, rfl⟩
  have hBl : B.length = Lb.length + 1 := by rw [hBe]; rfl
  ((with_reducible apply l_call); exact rfl; exact rfl; exact concatI (hS.rowRo 0 rfl) (hS.rowSl 1 rfl) (hL.now hS) (by simp) (by rw [List.length_map]; omega); exact rfl; rintro u w' hS'; replace hS := hS.transA hS'; simp only [appA] at hS; clear hS')
  replace hS := St.reorder [5, 0, 3, 4, 6, 7] hS (by decide) rfl
  replace hS : St nF w w' (.obj rb (.map #[] 0) :: [.row 27 6 u (B.map imR), .blk gw [.map (some rb), .map (some r), .slice none 0 0, .int .i64 1], .obj r (.map #[] 0), .blk g4 [.slice none 0 0, .slice none 0 0, .int .i64 0], .blk g2 [.string ⟨I.name.toArray⟩, .slice pn I.needs.length cn, .slice ps I.segs.length cs, .slice py I.syms.length cy, .slice pr I.rels.length cr, .int .i64 I.entry]]) := by rw [hBe]; exact hS
  obtain ⟨pu, cu, rfl⟩ := hS.rowSlice 1 rfl
  rw [List.length_map] at hS ⊢
  have hallB : ∀ o ∈ B, ObV w o := by rw [hBe]; exact hall
  have hBB : ∀ o ∈ B, ImB o.im ∧ ImD o.im := by rw [hBe]; exact hB
  have hcode : linkC ⟨I, .slice pn I.needs.length cn, .slice ps I.segs.length cs, .slice py I.syms.length cy, .slice pr I.rels.length cr, a0⟩ Lb = match B.find? (fun o => !decide (checkIm o.im = 0)) with
    | some o => checkIm o.im
    | none => if (B.map fun o => o.im.name).Nodup then
        match allP B 8 0 (plStep ([], 1) ⟨I, .slice pn I.needs.length cn, .slice ps I.segs.length cs, .slice py I.syms.length cy, .slice pr I.rels.length cr, a0⟩) with
        | none => 6
        | some s => if s.2 > 256 then 3 else if symsAll (obP s.1) s.1 = true then 0 else 7
      else 5 := by
    unfold linkC
    rw [if_neg h6, hBe]
    rfl
  unfold LinkF
  rw [hcode, ← hBe]
  have hB7 : B.length ≤ 7 := by omega
  have hMB0 : (⟨I, .slice pn I.needs.length cn, .slice ps I.segs.length cs, .slice py I.syms.length cy, .slice pr I.rels.length cr, a0⟩ : Ob) ∈ B := by rw [hBe]; exact List.mem_cons_self
  clear hcode hall hLo hL hM hM1 hB h6
  repeat' (first | (((with_reducible apply l_pure tabOk); exact rfl; exact rfl)) | (first | (with_reducible apply c_seq) | (with_reducible apply c_region) | (with_reducible apply l_nil) | (with_reducible apply q_then) | (with_reducible apply c_block)))
  refine c_loopK (X := Nat × Array MapEntry × Nat × List (Value × Value)) (fun x => [(31, .int .i64 (x.1 : Nat))]) [2, 4, 6, 7, 29, 30] rfl (fun x => [.obj rb (.map x.2.1 x.2.2.1)]) (fun x => x.1 ≤ B.length ∧ MapG .string x.2.1 x.2.2.2 ∧ MapB B x.1 x.2.2.2 ∧ ∀ o ∈ B.take x.1, (!decide (checkIm o.im = 0)) = false) (fun x => B.length - x.1) (0, #[], 0, []) (by repeat (first | exact Fr.sub_nil _ | (apply Fr.sub_cons; exact rfl))) ⟨Nat.zero_le _, MapG.nil _, MapB.start B, by simp⟩ hS ?_
  clear hS
  rintro ⟨i, es, c, L⟩ w7 ⟨hi, hG, hMB, hck⟩ hS
  dsimp only [List.cons_append, List.nil_append] at hi hG hMB hck hS ⊢
  by_cases hlt : i < B.length
  rotate_left
  · obtain rfl : i = B.length := by omega
    rw [List.take_of_length_le (Nat.le_refl _)] at hck
    unfold MapB at hMB
    rw [List.take_of_length_le (Nat.le_refl _)] at hMB
    have hfn : B.find? (fun o => !decide (checkIm o.im = 0)) = none := by
      rw [List.find?_eq_none]
      intro x hx
      rw [hck x hx]
      simp
    have hsz := hG.size
    rw [hfn]
    dsimp only
    by_cases hnd : (B.map fun o => o.im.name).Nodup
    rotate_left
    · have hlt2 := hMB.2.1 hnd
      rw [if_neg hnd]
      repeat' (first | (first | ((with_reducible apply l_pure tabOk); exact rfl; exact rfl) | ((with_reducible apply l_load); exact rfl; (((with_reducible apply Loads.sc tabOk); exact rfl; ((exact hS.blkC 2 rfl rfl)))); exact rfl) | ((with_reducible apply l_build tabOk); exact rfl; exact rfl; ((exact (rfl : _ = some [_, _, _]))); exact rfl) | (((with_reducible apply l_store hS tabOk (i := 4)); exact rfl; exact rfl; exact rfl; exact rfl; exact rfl; exact rfl; exact rfl; exact rfl; ((exact (rfl : _ = [_, _, _]))); intro w' hS'; simp only [List.set] at hS'; clear hS; have hS := hS'; clear hS'))) | (first | (with_reducible apply c_seq) | (with_reducible apply c_region) | (with_reducible apply l_nil) | (with_reducible apply q_then) | (with_reducible apply c_exit) | (with_reducible apply c_ret) | (with_reducible apply q_then_exit) | (with_reducible apply q_then_ret) | (with_reducible apply q_block_exit)) | (((with_reducible apply c_ifd); exact rfl; all_goals (intro hb hp; try (exfalso; omega)))) | ((with_reducible apply l_gets); exact rfl; exact g_lenMap hS (i := 0) mt_byName rfl rfl; rintro _ _ ⟨rfl, rfl⟩))
      (apply q_ret2); (repeat (first | exact ResL.nil | (apply ResL.tmp; exact rfl) | (apply ResL.cell; exact rfl; (((with_reducible apply Loads.st tabOk); exact rfl; ((exact hS.blkR 4 rfl)); exact rfl)))))
      exact Or.inl ⟨by decide, rfl, hS.sub (List.nil_sublist _)⟩
    rw [if_pos hnd]
    obtain rfl := hMB.1 hnd
    rw [List.length_map] at hsz
    repeat' (first | (first | ((with_reducible apply l_pure tabOk); exact rfl; exact rfl) | ((with_reducible apply l_load); exact rfl; (first | ((with_reducible apply Loads.sc tabOk); exact rfl; ((exact hS.blkC 2 rfl rfl))) | ((with_reducible apply Loads.st tabOk); exact rfl; ((exact hS.blkR 5 rfl)); exact rfl)); exact rfl)) | (first | (with_reducible apply c_seq) | (with_reducible apply c_region) | (with_reducible apply l_nil) | (with_reducible apply q_then) | (with_reducible apply c_skip) | (with_reducible apply c_exit) | (with_reducible apply q_then_exit) | (with_reducible apply q_block_exit)) | (((with_reducible apply c_ifd); exact rfl; all_goals (intro hb hp; try (exfalso; omega)))) | ((with_reducible apply l_gets); exact rfl; exact g_lenMap hS (i := 0) mt_byName rfl rfl; rintro _ _ ⟨rfl, rfl⟩))
    replace hS := hS.addNil 105 7
    replace hS := St.reorder [3, 4, 0, 1, 5, 6] hS (by decide) rfl
    have hckB : ∀ o ∈ B, checkIm o.im = 0 := fun o ho => by
      have := hck o ho
      exact Classical.byContradiction fun hc => by rw [decide_eq_false hc] at this; cases this
    have hcall := all_fn (p := none) (c := 0) (es := #[]) (cc := 0) (rb := rb) (rp := r) (gw := gw) (B := B) (Γ := [_, _]) hS ⟨[], MapG.nil _, rfl⟩ hG (fun o ho => ⟨(hallB o ho).needs.nowM (Γ := [_, _]) hS, (hallB o ho).segs.nowM (Γ := [_, _]) hS, (hallB o ho).syms.nowM (Γ := [_, _]) hS, (hallB o ho).rels.nowM (Γ := [_, _]) hS⟩) (fun o ho => (check_zeroL (hckB o ho)).1) hMB0 hB7
    have hPk : ∀ s, allP B 8 0 (plStep ([], 1) ⟨I, .slice pn I.needs.length cn, .slice ps I.segs.length cs, .slice py I.syms.length cy, .slice pr I.rels.length cr, a0⟩) = some s → PkI s ∧ Fst ⟨I, .slice pn I.needs.length cn, .slice ps I.segs.length cs, .slice py I.syms.length cy, .slice pr I.rels.length cr, a0⟩ s := fun s hs => ⟨allP_inv (Inv := PkI) (fun s o h _ => h.step o) hs (PkI.start.step _), allP_inv (Inv := Fst _) (fun s o h _ => fst_step o h) hs (fst_start _)⟩
    generalize hR : allP B 8 0 (plStep ([], 1) ⟨I, .slice pn I.needs.length cn, .slice ps I.segs.length cs, .slice py I.syms.length cy, .slice pr I.rels.length cr, a0⟩) = R at hcall hPk ⊢
    clear hR hG hck hsz hMB hMB0 hlt
    ((with_reducible apply l_call); exact rfl; exact rfl; exact hcall; exact rfl; rintro _ w' ⟨rfl, p', c', es', cc', s, hP, hA, hs, hS'⟩)
    replace hS := St.transM (Θ := LkM gw rb r none 0 #[] 0 ([], 1) ++ [.obj rb (.map es c)]) (Γ := [_, _]) hS hS'
    clear hS' hcall
    simp only [LkM, LkS, List.cons_append, List.nil_append] at hS
    cases R with
    | none =>
      simp only [allV]
      repeat' (first | (first | ((with_reducible apply l_pure tabOk); exact rfl; exact rfl) | ((with_reducible apply l_build tabOk); exact rfl; exact rfl; ((exact (rfl : _ = some [_, _, _]))); exact rfl) | (((with_reducible apply l_store hS tabOk (i := 4)); exact rfl; exact rfl; exact rfl; exact rfl; exact rfl; exact rfl; exact rfl; exact rfl; ((exact (rfl : _ = [_, _, _]))); intro w' hS'; simp only [List.set] at hS'; clear hS; have hS := hS'; clear hS'))) | (first | (with_reducible apply c_seq) | (with_reducible apply c_region) | (with_reducible apply l_nil) | (with_reducible apply q_then) | (with_reducible apply c_ret) | (with_reducible apply q_then_ret)) | (((with_reducible apply c_ift); exact rfl; (exact rfl))))
      (apply q_ret2); (repeat (first | exact ResL.nil | (apply ResL.tmp; exact rfl) | (apply ResL.cell; exact rfl; (((with_reducible apply Loads.st tabOk); exact rfl; ((exact hS.blkR 4 rfl)); exact rfl)))))
      exact Or.inl ⟨by decide, rfl, hS.sub (List.nil_sublist _)⟩
    | some s' =>
      obtain rfl := hs s' rfl
      obtain ⟨hPk, hFs⟩ := hPk s rfl
      simp only [allV]
      by_cases h256 : s.2 > 256
      · rw [if_pos h256, if_pos h256]
        repeat' (first | (first | ((with_reducible apply l_pure tabOk); exact rfl; exact rfl) | ((with_reducible apply l_build tabOk); exact rfl; exact rfl; ((exact (rfl : _ = some [_, _, _]))); exact rfl) | (((with_reducible apply l_store hS tabOk (i := 4)); exact rfl; exact rfl; exact rfl; exact rfl; exact rfl; exact rfl; exact rfl; exact rfl; ((exact (rfl : _ = [_, _, _]))); intro w' hS'; simp only [List.set] at hS'; clear hS; have hS := hS'; clear hS'))) | (first | (with_reducible apply c_seq) | (with_reducible apply c_region) | (with_reducible apply l_nil) | (with_reducible apply q_then) | (with_reducible apply c_ret) | (with_reducible apply q_then_ret)) | (((with_reducible apply c_ift); exact rfl; (exact rfl))))
        (apply q_ret2); (repeat (first | exact ResL.nil | (apply ResL.tmp; exact rfl) | (apply ResL.cell; exact rfl; (((with_reducible apply Loads.st tabOk); exact rfl; ((exact hS.blkR 4 rfl)); exact rfl)))))
        exact Or.inl ⟨by decide, rfl, hS.sub (List.nil_sublist _)⟩
      rw [if_neg h256, if_neg h256]
      repeat' (first | (((with_reducible apply l_pure tabOk); exact rfl; exact rfl)) | (first | (with_reducible apply c_seq) | (with_reducible apply c_region) | (with_reducible apply l_nil) | (with_reducible apply q_then) | (with_reducible apply c_skip)) | (((with_reducible apply c_iff); exact rfl; (exact rfl))))
      obtain ⟨os, nx⟩ := s
      dsimp only at hP hA hPk hFs h256 hS ⊢
      obtain ⟨rs, hrs⟩ := hFs
      dsimp only at hrs
      have hAs := hA.sub
      have hAl := hA.len
      dsimp only at hAs hAl
      have hosB : ∀ o ∈ os, ImF nF w o ∧ checkIm o.im = 0 := fun o ho => by
        obtain ⟨a, ha⟩ := hAs o ho
        have h1 := hallB { o with at_ := a } ha
        have h2 : checkIm o.im = 0 := hckB { o with at_ := a } ha
        exact ⟨⟨h1.needs, h1.segs, h1.syms, h1.rels⟩, h2⟩
      have hpos : 0 < os.length := by rw [hrs]; simp
      obtain ⟨gos, rfl⟩ := hS.rowSome 2 rfl hpos
      have hrow : (os.map obC)[0]? = some [.string ⟨I.name.toArray⟩, .slice pn I.needs.length cn, .slice ps I.segs.length cs, .slice py I.syms.length cy, .slice pr I.rels.length cr, .int .i64 I.entry, .int .i64 16] := by rw [hrs]; rfl
      have hent : 0 ≤ I.entry ∧ I.entry < 4096 := by
        have h1 := check_zeroL (hosB _ (by rw [hrs]; exact List.mem_cons_self)).2
        obtain ⟨se, hse, -⟩ := h1.2.2.2.entry
        exact own_small h1.1.s2 hse
      refine c_heldS 13 rfl hS (by kernel_rfl) ?_
      intro wh hh
      clear hS
      have hS := hh
      clear hh
      ((with_reducible apply a_take 0 tabOk); exact rfl; kernel_rfl; kernel_rfl; kernel_rfl; exact (fun _ _ _ h => h); exact hS; exact rfl; exact rfl)
      ((with_reducible apply a_take 1 tabOk); exact rfl; kernel_rfl; kernel_rfl; kernel_rfl; exact (fun _ _ _ h => h); exact hS; exact rfl; exact rfl)
      ((with_reducible apply a_take 2 tabOk); exact rfl; kernel_rfl; kernel_rfl; kernel_rfl; exact (fun _ _ _ h => h); exact hS; exact rfl; exact rfl)
      ((with_reducible apply a_takeL 3); exact rfl; kernel_rfl; kernel_rfl; kernel_rfl; exact (fun _ _ _ h => h); exact hS; exact rfl; (intro wd hd; replace hd : St _ _ wd _ := hd; (((with_reducible apply Loads.sl tabOk); exact rfl; ((exact hd.blkC 0 rfl rfl))))); exact rfl)
      ((with_reducible apply a_ix 4 tabOk); exact rfl; kernel_rfl; kernel_rfl; kernel_rfl; exact (fun _ _ _ _ h => h); exact hS; exact rfl; exact rfl; exact rfl; ((exact rfl)); ((omega)); exact rfl)
      ((with_reducible apply a_take 5 tabOk); exact rfl; kernel_rfl; kernel_rfl; kernel_rfl; exact (fun _ _ _ h => h); exact hS; exact rfl; exact rfl)
      ((with_reducible apply a_takeL 6); exact rfl; kernel_rfl; kernel_rfl; kernel_rfl; exact (fun _ _ _ h => h); exact hS; exact rfl; (intro wd hd; replace hd : St _ _ wd _ := hd; (((with_reducible apply Loads.sc tabOk); exact rfl; ((exact hd.rowCj 2 rfl (by assumption) rfl))))); exact rfl)
      ((with_reducible apply a_take 7 tabOk); exact rfl; kernel_rfl; kernel_rfl; kernel_rfl; exact (fun _ _ _ h => h); exact hS; exact rfl; exact rfl)
      ((with_reducible apply a_takeL 8); exact rfl; kernel_rfl; kernel_rfl; kernel_rfl; exact (fun _ _ _ h => h); exact hS; exact rfl; (intro wd hd; replace hd : St _ _ wd _ := hd; (((with_reducible apply Loads.sc tabOk); exact rfl; ((exact hd.blkC 5 rfl rfl))))); exact rfl)
      refine a_takeR 9 rfl (by kernel_rfl) (by kernel_rfl) (by kernel_rfl) (fun _ _ _ h => h) hS (fun a ha => r_add rfl rfl (by omega) (by omega) a ha _) rfl ?_
      ((with_reducible apply a_build 10 tabOk); exact rfl; kernel_rfl; kernel_rfl; kernel_rfl; exact (fun _ _ _ _ h => h); exact hS; exact rfl; exact rfl; ((exact (rfl : _ = some [_, _, _]))); exact rfl)
      refine a_one (i := 11) (by kernel_rfl) ?_
      refine o_gets rfl (g_allocT hS tabOk rfl rfl) rfl ?_
      rintro _ w' ⟨g, rfl, hS'⟩
      clear hS; have hS := hS'; clear hS'
      refine ⟨hS.drop, ?_⟩
      refine a_one (i := 12) (by kernel_rfl) ?_
      refine o_gets0 (Φ := fun _ w' => St _ _ w' _) rfl (g_store hS tabOk (i := 0) rfl rfl rfl rfl rfl (Nat.le_of_ble_eq_true rfl) (List.all_eq_true.1 rfl)) ?_
      intro _ w' hS'
      simp only [List.set] at hS'
      clear hS; have hS := hS'; clear hS'
      refine ⟨hS.drop, ?_⟩
      refine a_done (by kernel_rfl) ?_
      repeat' (first | (first | ((with_reducible apply l_pure tabOk); exact rfl; exact rfl) | ((with_reducible apply l_load); exact rfl; (((with_reducible apply Loads.sl tabOk); exact rfl; ((exact hS.blkC 1 rfl rfl)))); exact rfl)) | (first | (with_reducible apply c_seq) | (with_reducible apply c_region) | (with_reducible apply l_nil) | (with_reducible apply q_then) | (with_reducible apply c_block)))
      obtain ⟨g12, hg12⟩ : ∃ g12, g12 = g := ⟨_, rfl⟩
      rw [← hg12] at hS ⊢
      clear hg12
      replace hS := (hS.addNil 49 3).addNil 131 4
      replace hS := St.reorder [5, 3, 7, 2, 0, 1] hS (by decide) rfl
      clear hrow
      refine c_loopK (Γ := []) (X := Nat × (Option Addr × Nat) × (Option Addr × Nat) × List Ar × List (Sh × Value)) (fun x => [(81, .int .i64 (x.1 : Nat))]) [4, 6, 12, 79, 80] rfl (fun x => .row 105 7 (.slice (some ⟨gos, 0, none⟩) os.length c') (os.map obC) :: .blk gw [.map (some rb), .map (some r), .slice (some ⟨gos, 0, none⟩) os.length c', .int .i64 nx] :: .blk g4 [.slice none 0 0, .slice none 0 0, .int .i64 0] :: (LyS g12 x.2.1.1 x.2.1.2 x.2.2.1.1 x.2.2.1.2 (16 + I.entry) x.2.2.2.1 x.2.2.2.2 ++ x.2.2.2.2.map fxRow)) (fun x => x.1 ≤ os.length ∧ x.2.2.2.1 = linkAr (os.take x.1) ∧ x.2.2.2.2.map (·.1) = linkSh (obP os) (os.take x.1) ∧ AOk x.2.2.2.1 ∧ x.2.2.2.1.length ≤ 6 * x.1 ∧ x.2.2.2.2.length ≤ 1530 * x.1 ∧ symsAll (obP os) (os.take x.1) = true) (fun x => os.length - x.1) (0, (none, 0), (none, 0), [], []) (by repeat (first | exact Fr.sub_nil _ | (apply Fr.sub_cons; exact rfl))) ⟨Nat.zero_le _, rfl, rfl, (fun _ h => nomatch h), Nat.le_refl _, Nat.le_refl _, rfl⟩ hS ?_
      clear hS
      rintro ⟨j, ⟨qa, da⟩, ⟨qs, dq⟩, A, Lp⟩ w8 ⟨hj, hA1, hL1, hAo, hAn, hLn, hsy⟩ hS
      dsimp only [] at hj hA1 hL1 hAo hAn hLn hsy hS ⊢
      simp only [LyS, List.cons_append, List.nil_append, List.append_nil] at hS
      by_cases hjt : j < os.length
      rotate_left
      · rw [List.take_of_length_le (by omega)] at hA1 hL1 hsy
        rw [if_pos hsy]
        repeat' (first | (first | ((with_reducible apply l_pure tabOk); exact rfl; exact rfl) | ((with_reducible apply l_load); exact rfl; (((with_reducible apply Loads.st tabOk); exact rfl; ((exact hS.blkR 3 rfl)); exact rfl)); exact rfl) | (((with_reducible apply l_store hS tabOk (i := 2)); exact rfl; exact rfl; exact rfl; exact rfl; exact rfl; exact rfl; exact rfl; exact rfl; ((exact (rfl : _ = [_, _, _]))); intro w' hS'; simp only [List.set] at hS'; clear hS; have hS := hS'; clear hS'))) | (first | (with_reducible apply c_seq) | (with_reducible apply c_region) | (with_reducible apply l_nil) | (with_reducible apply q_then) | (with_reducible apply c_exit) | (with_reducible apply c_ret) | (with_reducible apply q_then_exit) | (with_reducible apply q_block_exit)) | (((with_reducible apply c_ifd); exact rfl; all_goals (intro hb hp; try (exfalso; omega)))))
        (apply q_ret2); (repeat (first | exact ResL.nil | (apply ResL.tmp; exact rfl) | (apply ResL.cell; exact rfl; (((with_reducible apply Loads.st tabOk); exact rfl; ((exact hS.blkR 2 rfl)); exact rfl)))))
        refine Or.inr ⟨rfl, (os, nx), .slice qa A.length da, .slice qs Lp.length dq, Lp, rfl, hL1, rfl, ?_⟩
        rw [← hA1]
        exact hS.drop.drop.drop.drop
      obtain ⟨o, ho⟩ := lt_get (l := os) (i := j) (by omega)
      have hom := List.mem_of_getElem? ho
      have hrow : (os.map obC)[j]? = some [.string ⟨o.im.name.toArray⟩, o.vn, o.vs, o.vy, o.vr, .int .i64 o.im.entry, .int .i64 o.at_] := map_get (f := obC) ho
      obtain ⟨hof, hoc⟩ := hosB o hom
      obtain ⟨z1, z2, z3, z4⟩ := check_zeroL hoc
      have hos0 : ∀ x ∈ os, ImOk x.im := fun x hx => (check_zeroL (hosB x hx).2).1
      have hat : o.at_ = (1 + endsN (os.take j)) * 16 := hPk.at_ j o ho
      have hen := ends_le (l := os.take j) fun x hx => hos0 x (List.mem_of_mem_take hx)
      rw [List.length_take] at hen
      obtain ⟨b0, hb0⟩ : ∃ b0, b0 = 1 + endsN (os.take j) := ⟨_, rfl⟩
      rw [← hb0] at hat
      have hb1 : 1 ≤ b0 ∧ b0 ≤ 3000 := by omega
      have hdiv : o.at_ / 16 = b0 := by omega
      have hsyr : ∀ x ∈ os, ∀ s ∈ x.im.syms, -9223372036854775808 ≤ x.at_ + s.at_ ∧ x.at_ + s.at_ ≤ 9223372036854775807 := fun x hx s hs => by
        obtain ⟨q, hq⟩ := List.mem_iff_getElem?.1 hx
        have q1 : x.at_ = (1 + endsN (os.take q)) * 16 := hPk.at_ q x hq
        have q2 := ends_le (l := os.take q) fun x hx => hos0 x (List.mem_of_mem_take hx)
        rw [List.length_take] at q2
        obtain ⟨y, hy⟩ := Option.isSome_iff_exists.1 ((check_zeroL (hosB x hx).2).2.2.2.syms s hs)
        have q3 := own_small (hos0 x hx).s2 hy
        omega
      have hshl : (shO (obP os) o.im b0).length ≤ 1530 := by
        have h1 := pgs_len_le (b0 := b0) z1.s2
        have h2 := z1.s3
        unfold shO
        rw [List.length_map]
        omega
      have hov : ObV w o := ⟨hof.needs, hof.segs, hof.syms, hof.rels⟩
      obtain ⟨A', hA'⟩ : ∃ A', A' = arsO A b0 o.im.segs := ⟨_, rfl⟩
      have hA2 : A' = linkAr (os.take (j + 1)) := by rw [hA', linkAr_step ho, hdiv, hA1]
      have hA3 := arsO_ok hAo hb1.1 (by omega) z1.s2
      rw [← hA'] at hA3
      have z5 := z1.s3
      obtain ⟨J, un, us, uy, ur, at_⟩ := o
      dsimp only at hrow hat hdiv hshl z1 z2 z3 z4 z5 hA'
      replace hA3 : AOk A' ∧ A'.length ≤ A.length + J.segs.length := hA3
      replace hov : ImV w J un us uy ur := hov
      obtain ⟨qn, en, rfl⟩ := hov.needs.len
      obtain ⟨qs', es_, rfl⟩ := hov.segs.len
      obtain ⟨qy, ey, rfl⟩ := hov.syms.len
      obtain ⟨qr, er, rfl⟩ := hov.rels.len
      repeat' (first | (first | ((with_reducible apply l_pure tabOk); exact rfl; exact rfl) | ((with_reducible apply l_load); exact rfl; (((with_reducible apply Loads.st tabOk); exact rfl; (first | exact hS.blkR 0 rfl | exact hS.rowR 0 rfl (by assumption)); exact rfl)); exact rfl) | ((with_reducible apply l_ix tabOk); exact rfl; exact rfl; exact rfl; ((exact rfl)); ((omega)); exact rfl) | ((with_reducible apply l_alloc hS tabOk); exact rfl; exact rfl; exact rfl; intro g w' hS'; clear hS; have hS := hS'; clear hS') | (((with_reducible apply l_store hS tabOk (i := 0)); exact rfl; exact rfl; exact rfl; exact rfl; exact rfl; exact rfl; exact rfl; exact rfl; ((exact rfl)); intro w' hS'; simp only [List.set] at hS'; clear hS; have hS := hS'; clear hS'))) | (first | (with_reducible apply c_seq) | (with_reducible apply c_region) | (with_reducible apply l_nil) | (with_reducible apply q_then) | (with_reducible apply c_skip) | (with_reducible apply c_block)) | (((with_reducible apply c_ifd); exact rfl; all_goals (intro hb hp; try (exfalso; omega)))))
      replace hS := St.reorderT 7 [4, 5, 6, 1, 2, 3] hS (by decide) rfl
      simp only [appA, List.drop_succ_cons, List.drop_zero] at hS
      have hcall := lay_fn (go := g12) (gw := gw) (qa := qa) (da := da) (qs := qs) (dq := dq) (en := 16 + I.entry) (A := A) (Lp := Lp) (os := os) (b0 := b0) (Γ := _ :: _ :: _ :: Lp.map fxRow) hS (St.ownBs (Θ := LyS g12 qa da qs dq (16 + I.entry) A Lp) (Γ := _ :: _ :: _ :: Lp.map fxRow) hS 1 rfl rfl) (St.ownSl (Θ := LyS g12 qa da qs dq (16 + I.entry) A Lp) (Γ := _ :: _ :: _ :: Lp.map fxRow) hS 0 rfl) (fun x hx => ⟨(hosB x hx).1.needs.nowM (Γ := _ :: _ :: _ :: Lp.map fxRow) hS, (hosB x hx).1.segs.nowM (Γ := _ :: _ :: _ :: Lp.map fxRow) hS, (hosB x hx).1.syms.nowM (Γ := _ :: _ :: _ :: Lp.map fxRow) hS, (hosB x hx).1.rels.nowM (Γ := _ :: _ :: _ :: Lp.map fxRow) hS⟩) hsyr hom hat hb1.1 (by omega) z1.s2 z3 z4 z2 z1.s3 hAo (by omega) (by omega)
      ((with_reducible apply l_call); exact rfl; exact rfl; exact hcall; exact rfl; rintro v w' hv)
      clear hcall
      rcases hv with ⟨hsf, rfl, hS'⟩ | ⟨hst, rfl, qa', da', qs', dq', N, hN, hS'⟩
      · replace hS := St.transM (Θ := LyS g12 qa da qs dq (16 + I.entry) A Lp) (Γ := _ :: _ :: _ :: Lp.map fxRow) hS hS'
        clear hS'
        simp only [List.nil_append] at hS
        have hsn : symsAll (obP os) os = false := all_no ho hsf
        rw [if_neg (by rw [hsn]; simp)]
        repeat' (first | (first | ((with_reducible apply l_pure tabOk); exact rfl; exact rfl) | ((with_reducible apply l_build tabOk); exact rfl; exact rfl; ((exact (rfl : _ = some [_, _, _]))); exact rfl) | (((with_reducible apply l_store hS tabOk (i := 2)); exact rfl; exact rfl; exact rfl; exact rfl; exact rfl; exact rfl; exact rfl; exact rfl; ((exact (rfl : _ = [_, _, _]))); intro w' hS'; simp only [List.set] at hS'; clear hS; have hS := hS'; clear hS'))) | (first | (with_reducible apply c_seq) | (with_reducible apply c_region) | (with_reducible apply l_nil) | (with_reducible apply q_then) | (with_reducible apply c_ret) | (with_reducible apply q_then_ret) | (with_reducible apply q_block_ret)) | (((with_reducible apply c_ift); exact rfl; (exact rfl))))
        (apply q_ret2); (repeat (first | exact ResL.nil | (apply ResL.tmp; exact rfl) | (apply ResL.cell; exact rfl; (((with_reducible apply Loads.st tabOk); exact rfl; ((exact hS.blkR 2 rfl)); exact rfl)))))
        exact Or.inl ⟨by decide, rfl, hS.sub (List.nil_sublist _)⟩
      · replace hS := (St.transM (Θ := LyS g12 qa da qs dq (16 + I.entry) A Lp) (Γ := _ :: _ :: _ :: Lp.map fxRow) hS hS').perm (perm3 _ _ _ _ _ _)
        clear hS'
        rw [← hA', ← List.map_append] at hS
        replace hN : N.map (·.1) = shO (obP os) J b0 := hN
        have hNl : N.length ≤ 1530 := by
          have := congrArg List.length hN
          rw [List.length_map] at this
          omega
        simp only [LyS, List.cons_append, List.nil_append] at hS
        repeat' (first | (first | ((with_reducible apply l_add); exact rfl; exact rfl; omega; omega; exact rfl) | ((with_reducible apply l_pure tabOk); exact rfl; exact rfl)) | (first | (with_reducible apply c_seq) | (with_reducible apply c_region) | (with_reducible apply l_nil) | (with_reducible apply q_then) | (with_reducible apply c_skip) | (with_reducible apply q_block)) | (((with_reducible apply c_iff); exact rfl; (exact rfl))))
        refine q_loopK (j + 1, (qa', da'), (qs', dq'), A', Lp ++ N) (by repeat (first | exact Fr.sub_nil _ | (apply Fr.sub_cons; exact rfl))) ⟨by show j + 1 ≤ _; omega, hA2, ?_, hA3.1, by show A'.length ≤ 6 * (j + 1); omega, by show (Lp ++ N).length ≤ 1530 * (j + 1); rw [List.length_append]; omega, all_take_succ hsy ho hst⟩ (by simpa only [LyS, List.cons_append, List.nil_append, List.append_nil] using hS) (by show _ - (j + 1) < _ - j; omega)
        show (Lp ++ N).map (·.1) = linkSh (obP os) (os.take (j + 1))
        rw [List.map_append, hL1, hN, linkSh_step ho, hdiv]
  obtain ⟨o, ho⟩ := lt_get (l := B) (i := i) (by omega)
  have hrow : (B.map imR)[i]? = some [.string ⟨o.im.name.toArray⟩, o.vn, o.vs, o.vy, o.vr, .int .i64 o.im.entry] := map_get (f := imR) ho
  have hov := hallB o (List.mem_of_getElem? ho)
  have hob := hBB o (List.mem_of_getElem? ho)
  obtain ⟨gu, rfl⟩ := hS.rowSome 1 rfl (by omega)
  obtain ⟨J, un, us, uy, ur, a1⟩ := o
  replace hov : ImV w J un us uy ur := hov
  replace hob : ImB J ∧ ImD J := hob
  dsimp only at hrow
  obtain ⟨qn, en, rfl⟩ := hov.needs.len
  obtain ⟨qs, es_, rfl⟩ := hov.segs.len
  obtain ⟨qy, ey, rfl⟩ := hov.syms.len
  obtain ⟨qr, er, rfl⟩ := hov.rels.len
  by_cases hc0 : checkIm J = 0
  rotate_left
  · have hd : (!decide (checkIm J = 0)) = true := by rw [decide_eq_false hc0]; rfl
    have hfind := find_first (p := fun o => !decide (checkIm o.im = 0)) hck ho hd
    repeat' (first | (first | ((with_reducible apply l_pure tabOk); exact rfl; exact rfl) | ((with_reducible apply l_load); exact rfl; (((with_reducible apply Loads.st tabOk); exact rfl; (first | exact hS.blkR 0 rfl | exact hS.rowR 1 rfl (by assumption)); exact rfl)); exact rfl) | ((with_reducible apply l_ix tabOk); exact rfl; exact rfl; exact rfl; ((exact rfl)); ((omega)); exact rfl) | ((with_reducible apply l_build tabOk); exact rfl; exact rfl; ((exact (rfl : _ = some [_, _, _]))); exact rfl) | ((with_reducible apply l_alloc hS tabOk); exact rfl; exact rfl; exact rfl; intro g w' hS'; clear hS; have hS := hS'; clear hS') | (((with_reducible apply l_store hS tabOk (i := 0)); exact rfl; exact rfl; exact rfl; exact rfl; exact rfl; exact rfl; exact rfl; exact rfl; ((exact (rfl : _ = [_, _, _, _, _, _]))); intro w' hS'; simp only [List.set] at hS'; clear hS; have hS := hS'; clear hS'))) | (first | (with_reducible apply c_seq) | (with_reducible apply c_region) | (with_reducible apply l_nil) | (with_reducible apply q_then) | (with_reducible apply c_skip) | (with_reducible apply c_block) | (with_reducible apply c_ret) | (with_reducible apply q_then_ret) | (with_reducible apply q_block_ret)) | (first | ((with_reducible apply c_ift); exact rfl; (assumption)) | ((with_reducible apply c_ifd); exact rfl; all_goals (intro hb hp; try (exfalso; omega)))) | ((with_reducible apply l_call); exact rfl; exact rfl; exact Check_fn (hov.now hS) hob.1 hob.2; exact rfl; rintro _ w' ⟨rfl, hS'⟩; replace hS := hS.transA hS'; simp only [appA] at hS; clear hS') | ((with_reducible apply l_store hS tabOk (i := 5)); exact rfl; exact rfl; exact rfl; exact rfl; exact rfl; exact rfl; exact rfl; exact rfl; ((exact (rfl : _ = [_, _, _]))); intro w' hS'; simp only [List.set] at hS'; clear hS; have hS := hS'; clear hS'))
    (apply q_ret2); (repeat (first | exact ResL.nil | (apply ResL.tmp; exact rfl) | (apply ResL.cell; exact rfl; (((with_reducible apply Loads.st tabOk); exact rfl; ((exact hS.blkR 5 rfl)); exact rfl)))))
    refine Or.inl ⟨?_, ?_, hS.sub (List.nil_sublist _)⟩
    · rw [hfind]; exact hc0
    · rw [hfind]; rfl
  have hd : (!decide (checkIm J = 0)) = false := by rw [decide_eq_true hc0]; rfl
  repeat' (first | (first | ((with_reducible apply l_pure tabOk); exact rfl; exact rfl) | ((with_reducible apply l_load); exact rfl; (((with_reducible apply Loads.st tabOk); exact rfl; (first | exact hS.blkR 0 rfl | exact hS.rowR 1 rfl (by assumption)); exact rfl)); exact rfl) | ((with_reducible apply l_ix tabOk); exact rfl; exact rfl; exact rfl; ((exact rfl)); ((omega)); exact rfl) | ((with_reducible apply l_alloc hS tabOk); exact rfl; exact rfl; exact rfl; intro g w' hS'; clear hS; have hS := hS'; clear hS') | (((with_reducible apply l_store hS tabOk (i := 0)); exact rfl; exact rfl; exact rfl; exact rfl; exact rfl; exact rfl; exact rfl; exact rfl; ((exact (rfl : _ = [_, _, _, _, _, _]))); intro w' hS'; simp only [List.set] at hS'; clear hS; have hS := hS'; clear hS'))) | (first | (with_reducible apply c_seq) | (with_reducible apply c_region) | (with_reducible apply l_nil) | (with_reducible apply q_then) | (with_reducible apply c_skip) | (with_reducible apply c_block)) | (first | ((with_reducible apply c_iff); exact rfl; (assumption)) | ((with_reducible apply c_ifd); exact rfl; all_goals (intro hb hp; try (exfalso; omega)))) | ((with_reducible apply l_call); exact rfl; exact rfl; exact Check_fn (hov.now hS) hob.1 hob.2; exact rfl; rintro _ w' ⟨rfl, hS'⟩; replace hS := hS.transA hS'; simp only [appA] at hS; clear hS'))
  (focus ((with_reducible apply c_draw _ _ _ 7 (by kernel_rfl) (by kernel_rfl) hS); (simp only [List.take_succ_cons, List.take_zero, List.drop_succ_cons, List.drop_zero]); (repeat' ((first | ((with_reducible apply d_pure tabOk); exact rfl; exact rfl) | ((with_reducible apply d_load); exact rfl; (intro wd hd; replace hd : St _ _ wd _ := hd; (first | ((with_reducible apply Loads.sc tabOk); exact rfl; (first | exact hd.blkC 0 rfl rfl | exact hd.blkC 3 rfl rfl)) | ((with_reducible apply Loads.st tabOk); exact rfl; ((exact hd.blkR 0 rfl)); exact rfl))); exact rfl)))); all_goals ((with_reducible apply d_nil); intro w' hS'; clear hS; have hS := hS'; clear hS')))
  have hck2 : ∀ x ∈ B.take (i + 1), (!decide (checkIm x.im = 0)) = false := by
    rw [List.take_add_one, ho]
    intro x hx
    rcases List.mem_append.1 hx with h | h
    · exact hck x h
    · have : x = ⟨J, .slice qn J.needs.length en, .slice qs J.segs.length es_, .slice qy J.syms.length ey, .slice qr J.rels.length er, a1⟩ := by simpa using h
      rw [this]
      exact hd
  by_cases hin : ∃ v, (stK J.name, v) ∈ L
  · obtain ⟨v0, hv0⟩ := hin
    refine l_gets0 (g_updO hS (i := 1) mt_byName ut_string rfl rfl rfl rfl hG (k := stK J.name) trivial hv0) ?_
    rintro - w9 ⟨es', c', j, u', -, hG', hS'⟩
    simp only [List.set] at hS'
    clear hS; have hS := hS'; clear hS'
    repeat' (first | (first | ((with_reducible apply l_add); exact rfl; exact rfl; omega; omega; exact rfl) | ((with_reducible apply l_pure tabOk); exact rfl; exact rfl)) | (first | (with_reducible apply c_region) | (with_reducible apply l_nil) | (with_reducible apply q_then) | (with_reducible apply q_block)))
    replace hS := St.reorder [1, 2, 3, 4, 5, 6] hS (by decide) rfl
    exact q_loopK (i + 1, es', c', _) (by repeat (first | exact Fr.sub_nil _ | (apply Fr.sub_cons; exact rfl))) ⟨by show i + 1 ≤ _; omega, hG', hMB.old ho hv0, hck2⟩ hS (by show _ - (i + 1) < _ - i; omega)
  · have hno : ∀ v, (stK J.name, v) ∉ L := fun v hv => hin ⟨v, hv⟩
    refine l_gets0 (g_updN hS (i := 1) mt_byName ut_string rfl rfl rfl rfl hG (k := stK J.name) trivial hno) ?_
    rintro - w9 ⟨es', c', hG', hS'⟩
    simp only [List.set] at hS'
    clear hS; have hS := hS'; clear hS'
    repeat' (first | (first | ((with_reducible apply l_add); exact rfl; exact rfl; omega; omega; exact rfl) | ((with_reducible apply l_pure tabOk); exact rfl; exact rfl)) | (first | (with_reducible apply c_region) | (with_reducible apply l_nil) | (with_reducible apply q_then) | (with_reducible apply q_block)))
    replace hS := St.reorder [1, 2, 3, 4, 5, 6] hS (by decide) rfl
    exact q_loopK (i + 1, es', c', _) (by repeat (first | exact Fr.sub_nil _ | (apply Fr.sub_cons; exact rfl))) ⟨by show i + 1 ≤ _; omega, hG', hMB.new ho hno, hck2⟩ hS (by show _ - (i + 1) < _ - i; omega)
end Go.Proofs.Ytejnpppejalhfab
/- Reading an image's bytes, in plain Lean. -/
namespace Go.Proofs.Ytejnpppejalhfab
open Go.RowKit Go.Sort

abbrev Bs8 := List UInt8
section
variable {α : Type} {one : Bs8 → Option (α × Bs8)}
end
/-! what is written is read as it was -/
theorem wrap64_in {m : Int} (h1 : -9223372036854775808 ≤ m) (h2 : m ≤ 9223372036854775807) : wrap64 m = m := by unfold wrap64; omega
end Go.Proofs.Ytejnpppejalhfab
/- The reader's glass. -/
namespace Go.Proofs.Ytejnpppejalhfab
open Go.RowKit Go.Sort

end Go.Proofs.Ytejnpppejalhfab
/- image.Read: 'each', and the closures. -/
namespace Go.Proofs.Ytejnpppejalhfab
open Go.RowKit Go.Sort

end Go.Proofs.Ytejnpppejalhfab
/- image.Read: the closures that read one thing. -/
namespace Go.Proofs.Ytejnpppejalhfab
open Go.RowKit Go.Sort
end Go.Proofs.Ytejnpppejalhfab
/- An image: the reference's places, and its check. -/
namespace Go.Proofs.Ytejnpppejalhfab
open Go.RowKit Go.Sort

theorem own_neg {l : List Sg} {x : Int} (h : ownI l x < 0) : own l x = none := by
  rcases ownI_own l x with ⟨_, h2⟩ | ⟨i, s, h1, _⟩
  · exact h2
  · omega
theorem own_ge {l : List Sg} {x : Int} (h : ¬ ownI l x < 0) : (own l x).isSome = true := by
  rcases ownI_own l x with ⟨h1, _⟩ | ⟨i, s, _, _, h2⟩
  · exact (h h1).elim
  · rw [h2]; rfl
set_option maxRecDepth 100000 in
set_option maxHeartbeats 4000000 in
theorem placesFine_fn {I : Im} {w : World} {vn vs vy vr : Value} (hI : ImV w I vn vs vy vr) (hok : sgsB I = true) : Fn Try.prog 104 [imA I vn vs vy vr] w (RBf (.bool (plcB I)) w) := by
  have bn := hI.needs.bound; have bs := hI.segs.bound; have by_ := hI.syms.bound; have br := hI.rels.bound; obtain ⟨pn, cn, rfl⟩ := hI.needs.len; obtain ⟨ps, cs, rfl⟩ := hI.segs.len; obtain ⟨py, cy, rfl⟩ := hI.syms.len; obtain ⟨pr, cr, rfl⟩ := hI.rels.len
  refine fn_enter (fn := Try.f104) ⟨Try.func104, by kernel_rfl, by kernel_rfl⟩ (by exact rfl) Try.ntmps104 (by exact rfl) ?_
  have hS := St.start w
  have no : ¬ Plc I → plcB I = false := fun h => pB_false h
  repeat' (first | (first | ((with_reducible apply l_pure tabOk); exact rfl; exact rfl) | ((with_reducible apply l_box hS); exact rfl; exact rfl; exact rfl; intro g w' hS'; clear hS; have hS := hS'; clear hS')) | (first | (with_reducible apply c_seq) | (with_reducible apply c_region) | (with_reducible apply l_nil) | (with_reducible apply q_then) | (with_reducible apply c_block)))
  refine c_count hS 3 [1] rfl (I.syms.length) (fun i => (I.syms.take i).all (fun s => (own I.segs s.at_).isSome) = true) 0 rfl (Nat.zero_le _) (by (rfl)) ?_
  rintro i w1 hi hall hS'
  clear hS; have hS := hS'; clear hS'
  by_cases hlt : i < I.syms.length
  · obtain ⟨x, hx⟩ := lt_get (l := I.syms) (i := i) (by omega)
    have hrow := map_get (f := syC) hx
    obtain ⟨b, off, rfl, hro⟩ := (hI.syms).at_ hlt
    repeat' (first | (first | ((with_reducible apply l_add); exact rfl; exact rfl; omega; omega; exact rfl) | ((with_reducible apply l_pure tabOk); exact rfl; exact rfl) | ((with_reducible apply l_load); exact rfl; (((with_reducible apply Loads.sl tabOk); exact rfl; ((exact hS.blkC 0 rfl rfl)))); exact rfl)) | (first | (with_reducible apply c_seq) | (with_reducible apply c_region) | (with_reducible apply l_nil) | (with_reducible apply q_then) | (with_reducible apply c_skip) | (with_reducible apply c_block) | (with_reducible apply c_ret) | (with_reducible apply q_then_ret) | (with_reducible apply q_block) | (with_reducible apply q_block_ret)) | (((with_reducible apply c_ifd); exact rfl; all_goals (intro hb hp; try (exfalso; omega)))) | (focus ((with_reducible apply c_drawAll nF _ _ (by kernel_rfl) (by kernel_rfl) hS); (repeat' (first | (first | ((with_reducible apply d_pure tabOk); exact rfl; exact rfl) | ((with_reducible apply d_load); exact rfl; (intro wd hd; replace hd : St _ _ wd _ := hd; (first | ((with_reducible apply Loads.sc tabOk); exact rfl; ((exact hd.roC (by assumption) (by assumption) rfl))) | ((with_reducible apply Loads.sl tabOk); exact rfl; ((exact hd.blkC 0 rfl rfl))) | ((with_reducible apply Loads.st tabOk); exact rfl; ((exact hd.blkR 0 rfl)); exact rfl))); exact rfl) | ((with_reducible apply d_ix tabOk); exact rfl; exact rfl; exact rfl; ((exact rfl)); ((omega)); exact rfl)) | ((with_reducible apply d_call); exact rfl; exact rfl; (intro wd hd; replace hd : St _ _ wd _ := hd; exact owner_fn _ (hI.now hd) hok); exact rfl))); all_goals ((with_reducible apply d_nil); intro w' hS'; clear hS; have hS := hS'; clear hS'))))
    · (apply q_ret1); (repeat (first | exact ResL.nil | (apply ResL.tmp; exact rfl)))
      refine ⟨?_, hS.sub (List.nil_sublist _)⟩
      rw [no fun h => by have := h.syms x (List.mem_of_getElem? hx); rw [own_neg hp] at this; cases this]
    · exact q_count (i + 1) (by repeat (first | exact Fr.sub_nil _ | (apply Fr.sub_cons; exact rfl))) (by omega) (all_take_succ hall hx (own_ge hp)) (by omega) hS
  have hsy := all_take_all hall (by omega)
  repeat' (first | (first | ((with_reducible apply l_pure tabOk); exact rfl; exact rfl) | ((with_reducible apply l_load); exact rfl; (((with_reducible apply Loads.sl tabOk); exact rfl; ((exact hS.blkC 0 rfl rfl)))); exact rfl)) | (first | (with_reducible apply c_seq) | (with_reducible apply c_region) | (with_reducible apply l_nil) | (with_reducible apply q_then) | (with_reducible apply c_block) | (with_reducible apply c_exit) | (with_reducible apply q_then_exit) | (with_reducible apply q_block_exit)) | (((with_reducible apply c_ifd); exact rfl; all_goals (intro hb hp; try (exfalso; omega)))))
  clear hall hi hlt hb hp
  refine c_count hS 4 [1] rfl I.rels.length (fun i => PlR I i) 0 rfl (Nat.zero_le _) (PlR.zero I) ?_
  rintro i w1 hi hall hS'
  clear hS; have hS := hS'; clear hS'
  by_cases hlt : i < I.rels.length
  · obtain ⟨x, hx⟩ := lt_get (l := I.rels) (i := i) (by omega)
    have hrow := map_get (f := rlC) hx
    obtain ⟨b, off, rfl, hro⟩ := (hI.rels).at_ hlt
    by_cases hin : 0 ≤ x.at_ ∧ x.at_ ≤ 4080
    · have hin' : (!decide (0 ≤ x.at_ ∧ x.at_ ≤ 4080)) = false := by rw [decide_eq_true hin]; rfl
      obtain ⟨in1, in2⟩ := hin
      by_cases hk0 : i = 0
      · repeat' (first | (first | ((with_reducible apply l_pure tabOk); exact rfl; exact rfl) | ((with_reducible apply l_load); exact rfl; (first | ((with_reducible apply Loads.sc tabOk); exact rfl; ((exact hS.roC0 (by assumption) (by assumption) rfl))) | ((with_reducible apply Loads.sl tabOk); exact rfl; ((exact hS.blkC 0 rfl rfl)))); exact rfl) | ((with_reducible apply l_ix tabOk); exact rfl; exact rfl; exact rfl; ((exact rfl)); ((omega)); exact rfl) | (first | ((with_reducible apply l_yes); exact rfl; exact rfl; exact rfl; exact rfl; (assumption)) | ((with_reducible apply l_no); exact rfl; exact rfl; exact rfl; exact rfl; ((assumption)); exact rfl) | ((with_reducible apply l_partd); exact rfl; exact rfl; exact rfl; all_goals (intro hb hp; try (exfalso; omega))) | ((with_reducible apply l_pick2); exact rfl; ((assumption)); exact rfl; exact rfl))) | (first | (with_reducible apply c_seq) | (with_reducible apply c_region) | (with_reducible apply l_nil) | (with_reducible apply q_then) | (with_reducible apply c_skip) | (with_reducible apply c_block)) | (first | ((with_reducible apply c_iff); exact rfl; (exact rfl)) | ((with_reducible apply c_ifd); exact rfl; all_goals (intro hb hp; try (exfalso; omega)))) | ((with_reducible apply l_call); exact rfl; exact rfl; exact within_fn _ _ _ _; exact rfl; rintro _ w' ⟨rfl, hS'⟩; replace hS := hS.transA hS'; simp only [appA] at hS; clear hS'))
        have hst : ∀ q, 0 < i → I.rels[i - 1]? = some q → q.at_ + 8 ≤ x.at_ := fun q h => by omega
        refine c_count hS 6 [1, 4, 5] rfl 8 (fun b => ∀ c : Int, 0 ≤ c → c < b → (own I.segs (x.at_ + c)).isSome = true) 0 rfl (by omega) (by intros; omega) ?_
        rintro b2 w1 hi2 hall2 hS'
        clear hS; have hS := hS'; clear hS'
        by_cases hlt2 : b2 < 8
        · repeat' (first | (first | ((with_reducible apply l_add); exact rfl; exact rfl; omega; omega; exact rfl) | ((with_reducible apply l_pure tabOk); exact rfl; exact rfl) | ((with_reducible apply l_load); exact rfl; (((with_reducible apply Loads.st tabOk); exact rfl; ((exact hS.blkR 0 rfl)); exact rfl)); exact rfl)) | (first | (with_reducible apply c_seq) | (with_reducible apply c_region) | (with_reducible apply l_nil) | (with_reducible apply q_then) | (with_reducible apply c_skip) | (with_reducible apply c_block) | (with_reducible apply c_ret) | (with_reducible apply q_then_ret) | (with_reducible apply q_block) | (with_reducible apply q_block_ret)) | (((with_reducible apply c_ifd); exact rfl; all_goals (intro hb hp; try (exfalso; omega)))) | ((with_reducible apply l_call); exact rfl; exact rfl; exact owner_fn (x.at_ + b2) (hI.now hS) hok; exact rfl; rintro _ w' ⟨rfl, hS'⟩; replace hS := hS.transA hS'; simp only [appA] at hS; clear hS'))
          · (apply q_ret1); (repeat (first | exact ResL.nil | (apply ResL.tmp; exact rfl)))
            refine ⟨?_, hS.sub (List.nil_sublist _)⟩
            rw [no fun h => by have := (h.rels i x hx).2 b2 (by omega) (by omega); rw [own_neg hp] at this; cases this]
          · refine q_count (b2 + 1) (by repeat (first | exact Fr.sub_nil _ | (apply Fr.sub_cons; exact rfl))) (by omega) (fun c h1 h2 => ?_) (by omega) hS
            by_cases e : c = b2
            · subst e; exact own_ge hp
            · exact hall2 c h1 (by omega)
        · repeat' (first | (first | ((with_reducible apply l_add); exact rfl; exact rfl; omega; omega; exact rfl) | ((with_reducible apply l_pure tabOk); exact rfl; exact rfl)) | (first | (with_reducible apply c_seq) | (with_reducible apply c_region) | (with_reducible apply l_nil) | (with_reducible apply q_then) | (with_reducible apply c_exit) | (with_reducible apply q_then_exit) | (with_reducible apply q_block) | (with_reducible apply q_block_exit)) | (((with_reducible apply c_ifd); exact rfl; all_goals (intro hb hp; try (exfalso; omega)))))
          exact q_count (i + 1) (by repeat (first | exact Fr.sub_nil _ | (apply Fr.sub_cons; exact rfl))) (by omega) (hall.succ hx (by omega) (fun c h1 h2 => hall2 c h1 (by omega)) hst) (by omega) hS
      · obtain ⟨y, hy⟩ := lt_get (l := I.rels) (i := i - 1) (by omega)
        have hrow2 := map_get (f := rlC) hy
        have hix : ((i - 1 : Nat) : Int) = (i : Int) - 1 := by omega
        repeat' (first | (first | ((with_reducible apply l_sub); exact rfl; exact rfl; omega; omega; exact rfl) | ((with_reducible apply l_pure tabOk); exact rfl; exact rfl) | ((with_reducible apply l_load); exact rfl; (first | ((with_reducible apply Loads.sc tabOk); exact rfl; ((exact hS.roC0 (by assumption) (by assumption) rfl))) | ((with_reducible apply Loads.sl tabOk); exact rfl; ((exact hS.blkC 0 rfl rfl)))); exact rfl) | ((with_reducible apply l_ix tabOk); exact rfl; exact rfl; exact rfl; (first | exact rfl | assumption); ((omega)); exact rfl) | (first | ((with_reducible apply l_yes); exact rfl; exact rfl; exact rfl; exact rfl; (assumption)) | ((with_reducible apply l_partd); exact rfl; exact rfl; exact rfl; all_goals (intro hb hp; try (exfalso; omega))) | ((with_reducible apply l_pick1); exact rfl; ((assumption)); exact rfl; exact rfl) | ((with_reducible apply l_pick2); exact rfl; ((assumption)); exact rfl; exact rfl))) | (first | (with_reducible apply c_seq) | (with_reducible apply c_region) | (with_reducible apply l_nil) | (with_reducible apply q_then) | (with_reducible apply c_skip) | (with_reducible apply c_block) | (with_reducible apply c_ret) | (with_reducible apply q_then_ret) | (with_reducible apply q_block_ret)) | (((with_reducible apply c_ifd); exact rfl; all_goals (intro hb hp; try (exfalso; omega)))) | ((with_reducible apply l_call); exact rfl; exact rfl; exact within_fn _ _ _ _; exact rfl; rintro _ w' ⟨rfl, hS'⟩; replace hS := hS.transA hS'; simp only [appA] at hS; clear hS'))
        · (apply q_ret1); (repeat (first | exact ResL.nil | (apply ResL.tmp; exact rfl)))
          refine ⟨?_, hS.sub (List.nil_sublist _)⟩
          rw [no fun h => by have := h.step (i - 1) y x hy (by rw [show i - 1 + 1 = i by omega]; exact hx); omega]
        · have hst : ∀ q, 0 < i → I.rels[i - 1]? = some q → q.at_ + 8 ≤ x.at_ := fun q _ h => by rw [hy] at h; cases h; omega
          refine c_count hS 6 [1, 4, 5] rfl 8 (fun b => ∀ c : Int, 0 ≤ c → c < b → (own I.segs (x.at_ + c)).isSome = true) 0 rfl (by omega) (by intros; omega) ?_
          rintro b2 w1 hi2 hall2 hS'
          clear hS; have hS := hS'; clear hS'
          by_cases hlt2 : b2 < 8
          · repeat' (first | (first | ((with_reducible apply l_add); exact rfl; exact rfl; omega; omega; exact rfl) | ((with_reducible apply l_pure tabOk); exact rfl; exact rfl) | ((with_reducible apply l_load); exact rfl; (((with_reducible apply Loads.st tabOk); exact rfl; ((exact hS.blkR 0 rfl)); exact rfl)); exact rfl)) | (first | (with_reducible apply c_seq) | (with_reducible apply c_region) | (with_reducible apply l_nil) | (with_reducible apply q_then) | (with_reducible apply c_skip) | (with_reducible apply c_block) | (with_reducible apply c_ret) | (with_reducible apply q_then_ret) | (with_reducible apply q_block) | (with_reducible apply q_block_ret)) | (((with_reducible apply c_ifd); exact rfl; all_goals (intro hb hp; try (exfalso; omega)))) | ((with_reducible apply l_call); exact rfl; exact rfl; exact owner_fn (x.at_ + b2) (hI.now hS) hok; exact rfl; rintro _ w' ⟨rfl, hS'⟩; replace hS := hS.transA hS'; simp only [appA] at hS; clear hS'))
            · (apply q_ret1); (repeat (first | exact ResL.nil | (apply ResL.tmp; exact rfl)))
              refine ⟨?_, hS.sub (List.nil_sublist _)⟩
              rw [no fun h => by have := (h.rels i x hx).2 b2 (by omega) (by omega); rw [own_neg hp] at this; cases this]
            · refine q_count (b2 + 1) (by repeat (first | exact Fr.sub_nil _ | (apply Fr.sub_cons; exact rfl))) (by omega) (fun c h1 h2 => ?_) (by omega) hS
              by_cases e : c = b2
              · subst e; exact own_ge hp
              · exact hall2 c h1 (by omega)
          · repeat' (first | (first | ((with_reducible apply l_add); exact rfl; exact rfl; omega; omega; exact rfl) | ((with_reducible apply l_pure tabOk); exact rfl; exact rfl)) | (first | (with_reducible apply c_seq) | (with_reducible apply c_region) | (with_reducible apply l_nil) | (with_reducible apply q_then) | (with_reducible apply c_exit) | (with_reducible apply q_then_exit) | (with_reducible apply q_block) | (with_reducible apply q_block_exit)) | (((with_reducible apply c_ifd); exact rfl; all_goals (intro hb hp; try (exfalso; omega)))))
            exact q_count (i + 1) (by repeat (first | exact Fr.sub_nil _ | (apply Fr.sub_cons; exact rfl))) (by omega) (hall.succ hx (by omega) (fun c h1 h2 => hall2 c h1 (by omega)) hst) (by omega) hS
    · have hin' : (!decide (0 ≤ x.at_ ∧ x.at_ ≤ 4080)) = true := by rw [decide_eq_false hin]; rfl
      repeat' (first | (first | ((with_reducible apply l_pure tabOk); exact rfl; exact rfl) | ((with_reducible apply l_load); exact rfl; (first | ((with_reducible apply Loads.sc tabOk); exact rfl; ((exact hS.roC0 (by assumption) (by assumption) rfl))) | ((with_reducible apply Loads.sl tabOk); exact rfl; ((exact hS.blkC 0 rfl rfl)))); exact rfl) | ((with_reducible apply l_ix tabOk); exact rfl; exact rfl; exact rfl; ((exact rfl)); ((omega)); exact rfl) | (first | ((with_reducible apply l_no); exact rfl; exact rfl; exact rfl; exact rfl; ((assumption)); exact rfl) | ((with_reducible apply l_undef); exact rfl; exact rfl; exact rfl; exact rfl; exact rfl) | ((with_reducible apply l_pick1); exact rfl; ((assumption)); exact rfl; exact rfl))) | (first | (with_reducible apply c_seq) | (with_reducible apply c_region) | (with_reducible apply l_nil) | (with_reducible apply q_then) | (with_reducible apply c_skip) | (with_reducible apply c_block) | (with_reducible apply c_ret) | (with_reducible apply q_then_ret) | (with_reducible apply q_block_ret)) | (first | ((with_reducible apply c_ift); exact rfl; (exact rfl)) | ((with_reducible apply c_ifd); exact rfl; all_goals (intro hb hp; try (exfalso; omega)))) | ((with_reducible apply l_call); exact rfl; exact rfl; exact within_fn _ _ _ _; exact rfl; rintro _ w' ⟨rfl, hS'⟩; replace hS := hS.transA hS'; simp only [appA] at hS; clear hS'))
      (apply q_ret1); (repeat (first | exact ResL.nil | (apply ResL.tmp; exact rfl)))
      refine ⟨?_, hS.sub (List.nil_sublist _)⟩
      rw [no fun h => hin (h.rels i x hx).1]
  · have hall' : PlR I I.rels.length := by rw [show I.rels.length = i by omega]; exact hall
    rcases ownI_own I.segs I.entry with ⟨ho, hn⟩ | ⟨k, s, ho, hs, hf⟩
    · have nope : plcB I = false := no fun h => by obtain ⟨s, hs, _⟩ := h.entry; rw [hn] at hs; cases hs
      rw [nope]
      repeat' (first | (first | ((with_reducible apply l_pure tabOk); exact rfl; exact rfl) | ((with_reducible apply l_load); exact rfl; (first | ((with_reducible apply Loads.sc tabOk); exact rfl; ((exact hS.blkC 0 rfl rfl))) | ((with_reducible apply Loads.sl tabOk); exact rfl; ((exact hS.blkC 0 rfl rfl))) | ((with_reducible apply Loads.st tabOk); exact rfl; ((exact hS.blkR 0 rfl)); exact rfl)); exact rfl) | (first | ((with_reducible apply l_yes); exact rfl; exact rfl; exact rfl; exact rfl; (assumption)) | ((with_reducible apply l_no); exact rfl; exact rfl; exact rfl; exact rfl; (first | exact rfl | assumption); exact rfl) | ((with_reducible apply l_partd); exact rfl; exact rfl; exact rfl; all_goals (intro hb hp; try (exfalso; omega))) | ((with_reducible apply l_pick1); exact rfl; ((assumption)); exact rfl; exact rfl) | ((with_reducible apply l_pick2); exact rfl; (first | exact rfl | assumption); exact rfl; exact rfl))) | (first | (with_reducible apply c_seq) | (with_reducible apply c_region) | (with_reducible apply l_nil) | (with_reducible apply q_then) | (with_reducible apply c_exit) | (with_reducible apply c_ret) | (with_reducible apply q_then_exit) | (with_reducible apply q_block_exit)) | (((with_reducible apply c_ifd); exact rfl; all_goals (intro hb hp; try (exfalso; omega)))) | ((with_reducible apply l_call); exact rfl; exact rfl; exact owner_fn I.entry (hI.now hS) hok; exact rfl; rintro _ w' ⟨rfl, hS'⟩; replace hS := hS.transA hS'; simp only [appA] at hS; clear hS') | ((with_reducible apply l_remT); exact rfl; exact rfl; omega; exact rfl))
      all_goals (apply q_ret1); (repeat (first | exact ResL.nil | (apply ResL.tmp; exact rfl)))
      all_goals exact ⟨rfl, hS.sub (List.nil_sublist _)⟩
    · have hrow := map_get (f := sgC) hs
      have hlt3 := lt_of_getE hs
      obtain ⟨b, off, rfl, hro⟩ := hI.segs.at_ hlt3
      repeat' (first | (first | ((with_reducible apply l_pure tabOk); exact rfl; exact rfl) | ((with_reducible apply l_load); exact rfl; (first | ((with_reducible apply Loads.sc tabOk); exact rfl; (first | exact hS.blkC 0 rfl rfl | exact hS.roC (by assumption) (by assumption) rfl)) | ((with_reducible apply Loads.sl tabOk); exact rfl; ((exact hS.blkC 0 rfl rfl))) | ((with_reducible apply Loads.st tabOk); exact rfl; ((exact hS.blkR 0 rfl)); exact rfl)); exact rfl) | ((with_reducible apply l_ix tabOk); exact rfl; exact rfl; exact rfl; ((exact rfl)); ((omega)); exact rfl) | (first | ((with_reducible apply l_yes); exact rfl; exact rfl; exact rfl; exact rfl; first | exact rfl | assumption) | ((with_reducible apply l_no); exact rfl; exact rfl; exact rfl; exact rfl; (first | exact rfl | assumption); exact rfl) | ((with_reducible apply l_partd); exact rfl; exact rfl; exact rfl; all_goals (intro hb hp; try (exfalso; omega))) | ((with_reducible apply l_pick1); exact rfl; (first | exact rfl | assumption); exact rfl; exact rfl) | ((with_reducible apply l_pick2); exact rfl; (first | exact rfl | assumption); exact rfl; exact rfl))) | (first | (with_reducible apply c_seq) | (with_reducible apply c_region) | (with_reducible apply l_nil) | (with_reducible apply q_then) | (with_reducible apply c_exit) | (with_reducible apply c_ret) | (with_reducible apply q_then_exit) | (with_reducible apply q_block_exit)) | (((with_reducible apply c_ifd); exact rfl; all_goals (intro hb hp; try (exfalso; omega)))) | ((with_reducible apply l_call); exact rfl; exact rfl; exact Fn.eqv (congrArg (Value.int .i64) ho) (owner_fn I.entry (hI.now hS) hok); exact rfl; rintro _ w' ⟨rfl, hS'⟩; replace hS := hS.transA hS'; simp only [appA] at hS; clear hS') | ((with_reducible apply l_remT); exact rfl; exact rfl; omega; exact rfl))
      · (apply q_ret1); (repeat (first | exact ResL.nil | (apply ResL.tmp; exact rfl)))
        refine ⟨?_, hS.sub (List.nil_sublist _)⟩
        cases he : s.ex with
        | false => rw [no fun h => by obtain ⟨s', hs', he'⟩ := h.entry; rw [hf] at hs'; cases hs'; rw [he] at he'; cases he']
        | true => rw [show plcB I = true from pB_true ⟨fun s hs => List.all_eq_true.1 hsy s hs, fun k r hr => hall'.rels k r (lt_of_getE hr) hr, fun k q r hq hr => hall'.step k q r (lt_of_getE hr) hq hr, ⟨s, hf, he⟩, hp⟩]
      · (apply q_ret1); (repeat (first | exact ResL.nil | (apply ResL.tmp; exact rfl)))
        refine ⟨?_, hS.sub (List.nil_sublist _)⟩
        rw [no fun h => hp h.by8]
end Go.Proofs.Ytejnpppejalhfab
/- The reference's check of an image. -/
namespace Go.Proofs.Ytejnpppejalhfab
open Go.RowKit Go.Sort

theorem eb (b : Bool) {c : Bool} (h : b = c) : Value.bool b = .bool c := by rw [h]
set_option maxRecDepth 100000 in
set_option maxHeartbeats 4000000 in
theorem CheckImage_fn {I : Im} {w : World} {vn vs vy vr : Value} (hI : ImV w I vn vs vy vr) (hB : ImB I) (hD : ImD I) : Fn Try.prog 49 [imA I vn vs vy vr] w (RBf (.int .i64 (checkIm I)) w) := by
  have bn := hI.needs.bound; have bs := hI.segs.bound; have by_ := hI.syms.bound; have br := hI.rels.bound; obtain ⟨pn, cn, rfl⟩ := hI.needs.len; obtain ⟨ps, cs, rfl⟩ := hI.segs.len; obtain ⟨py, cy, rfl⟩ := hI.syms.len; obtain ⟨pr, cr, rfl⟩ := hI.rels.len
  refine fn_enter (fn := Try.f49) ⟨Try.func49, by kernel_rfl, by kernel_rfl⟩ (by exact rfl) Try.ntmps49 (by exact rfl) ?_
  have hS := St.start w
  have hb2 := hB.syms
  cases h1 : nmsB I
  · repeat' (first | (first | ((with_reducible apply l_pure tabOk); exact rfl; exact rfl) | ((with_reducible apply l_load); exact rfl; (((with_reducible apply Loads.st tabOk); exact rfl; ((exact hS.blkR 0 rfl)); exact rfl)); exact rfl) | ((with_reducible apply l_box hS); exact rfl; exact rfl; exact rfl; intro g w' hS'; clear hS; have hS := hS'; clear hS')) | (first | (with_reducible apply c_seq) | (with_reducible apply c_region) | (with_reducible apply l_nil) | (with_reducible apply q_then) | (with_reducible apply c_ret) | (with_reducible apply q_then_ret)) | (((with_reducible apply c_ift); exact rfl; (exact rfl))) | ((with_reducible apply l_call); exact rfl; exact rfl; exact Fn.eqv (eb _ h1) (namesFine_fn (hI.now hS)); exact rfl; rintro _ w' ⟨rfl, hS'⟩; replace hS := hS.transA hS'; simp only [appA] at hS; clear hS'))
    (apply q_ret1); (repeat (first | exact ResL.nil | (apply ResL.tmp; exact rfl)))
    exact ⟨by rw [checkIm, if_pos h1], hS.sub (List.nil_sublist _)⟩
  by_cases hc : 1 ≤ (I.segs.length : Int) ∧ (I.segs.length : Int) ≤ 6 ∧ (I.needs.length : Int) ≤ 4 ∧ (I.syms.length : Int) ≤ 12 ∧ (I.rels.length : Int) ≤ 16
  rotate_left
  · have h2 : cntB I = false := by unfold cntB; rw [decide_eq_false_iff_not]; exact hc
    repeat' (first | (first | ((with_reducible apply l_pure tabOk); exact rfl; exact rfl) | ((with_reducible apply l_load); exact rfl; (first | ((with_reducible apply Loads.sl tabOk); exact rfl; ((exact hS.blkC 0 rfl rfl))) | ((with_reducible apply Loads.st tabOk); exact rfl; ((exact hS.blkR 0 rfl)); exact rfl)); exact rfl) | ((with_reducible apply l_box hS); exact rfl; exact rfl; exact rfl; intro g w' hS'; clear hS; have hS := hS'; clear hS') | (first | ((with_reducible apply l_yes); exact rfl; exact rfl; exact rfl; exact rfl; (assumption)) | ((with_reducible apply l_no); exact rfl; exact rfl; exact rfl; exact rfl; (first | exact rfl | assumption); exact rfl) | ((with_reducible apply l_partd); exact rfl; exact rfl; exact rfl; all_goals (intro hb hp; try (exfalso; omega))) | ((with_reducible apply l_partn); exact rfl; exact rfl; exact rfl; all_goals (intro hb hp; try (exfalso; omega))) | ((with_reducible apply l_pick1); exact rfl; (first | exact rfl | assumption); exact rfl; exact rfl) | ((with_reducible apply l_pick2); exact rfl; ((assumption)); exact rfl; exact rfl))) | (first | (with_reducible apply c_seq) | (with_reducible apply c_region) | (with_reducible apply l_nil) | (with_reducible apply q_then) | (with_reducible apply c_skip) | (with_reducible apply c_ret) | (with_reducible apply q_then_ret)) | (first | ((with_reducible apply c_ift); exact rfl; (exact rfl)) | ((with_reducible apply c_iff); exact rfl; (exact rfl)) | ((with_reducible apply c_ifd); exact rfl; all_goals (intro hb hp; try (exfalso; omega)))) | ((with_reducible apply l_call); exact rfl; exact rfl; exact Fn.eqv (eb _ h1) (namesFine_fn (hI.now hS)); exact rfl; rintro _ w' ⟨rfl, hS'⟩; replace hS := hS.transA hS'; simp only [appA] at hS; clear hS') | ((with_reducible apply l_call); exact rfl; exact rfl; exact within_fn _ _ _ _; exact rfl; rintro _ w' ⟨rfl, hS'⟩; replace hS := hS.transA hS'; simp only [appA] at hS; clear hS'))
    all_goals (apply q_ret1); (repeat (first | exact ResL.nil | (apply ResL.tmp; exact rfl)))
    all_goals exact ⟨by simp [checkIm, h1, h2], hS.sub (List.nil_sublist _)⟩
  have h2 : cntB I = true := by unfold cntB; rw [decide_eq_true_eq]; exact hc
  obtain ⟨c1, c2, c3, c4, c5⟩ := hc
  have c0 : (!decide (1 ≤ (I.segs.length : Int) ∧ (I.segs.length : Int) ≤ 6)) = false := by rw [decide_eq_true ⟨c1, c2⟩]; rfl
  have b3 : sgsB I = false → checkIm I = 3 := fun h => by simp [checkIm, h1, h2, h]
  repeat' (first | (first | ((with_reducible apply l_pure tabOk); exact rfl; exact rfl) | ((with_reducible apply l_load); exact rfl; (first | ((with_reducible apply Loads.sl tabOk); exact rfl; ((exact hS.blkC 0 rfl rfl))) | ((with_reducible apply Loads.st tabOk); exact rfl; ((exact hS.blkR 0 rfl)); exact rfl)); exact rfl) | ((with_reducible apply l_box hS); exact rfl; exact rfl; exact rfl; intro g w' hS'; clear hS; have hS := hS'; clear hS') | (first | ((with_reducible apply l_yes); exact rfl; exact rfl; exact rfl; exact rfl; (assumption)) | ((with_reducible apply l_partd); exact rfl; exact rfl; exact rfl; all_goals (intro hb hp; try (exfalso; omega))) | ((with_reducible apply l_pick2); exact rfl; ((assumption)); exact rfl; exact rfl))) | (first | (with_reducible apply c_seq) | (with_reducible apply c_region) | (with_reducible apply l_nil) | (with_reducible apply q_then) | (with_reducible apply c_skip) | (with_reducible apply c_block)) | (first | ((with_reducible apply c_iff); exact rfl; (exact rfl)) | ((with_reducible apply c_ifd); exact rfl; all_goals (intro hb hp; try (exfalso; omega)))) | ((with_reducible apply l_call); exact rfl; exact rfl; exact Fn.eqv (eb _ h1) (namesFine_fn (hI.now hS)); exact rfl; rintro _ w' ⟨rfl, hS'⟩; replace hS := hS.transA hS'; simp only [appA] at hS; clear hS') | ((with_reducible apply l_call); exact rfl; exact rfl; exact within_fn _ _ _ _; exact rfl; rintro _ w' ⟨rfl, hS'⟩; replace hS := hS.transA hS'; simp only [appA] at hS; clear hS'))
  refine c_count hS 3 [1] rfl (I.segs.length) (fun i => (I.segs.take i).all sgOk = true) 0 rfl (Nat.zero_le _) (by (rfl)) ?_
  rintro i w1 hi hall hS'
  clear hS; have hS := hS'; clear hS'
  by_cases hlt : i < I.segs.length
  · obtain ⟨x, hx⟩ := lt_get (l := I.segs) (i := i) (by omega)
    have hrow := map_get (f := sgC) hx
    obtain ⟨b, off, rfl, hro⟩ := (hI.segs).at_ hlt
    have hdx := hD x (List.mem_of_getElem? hx)
    by_cases hok1 : (0 ≤ x.pg ∧ x.pg ≤ 255) ∧ (1 ≤ x.n ∧ x.n ≤ 255)
    · have q1 : (!decide (0 ≤ x.pg ∧ x.pg ≤ 255)) = false := by rw [decide_eq_true hok1.1]; rfl
      have q2 : (!decide (1 ≤ x.n ∧ x.n ≤ 255)) = false := by rw [decide_eq_true hok1.2]; rfl
      obtain ⟨⟨o1, o2⟩, o3, o4⟩ := hok1
      repeat' (first | (first | ((with_reducible apply l_add); exact rfl; exact rfl; omega; omega; exact rfl) | ((with_reducible apply l_mul); exact rfl; exact rfl; omega; omega; exact rfl) | ((with_reducible apply l_pure tabOk); exact rfl; exact rfl) | ((with_reducible apply l_load); exact rfl; (first | ((with_reducible apply Loads.sc tabOk); exact rfl; ((exact hS.blkC 0 rfl rfl))) | ((with_reducible apply Loads.sl tabOk); exact rfl; ((exact hS.blkC 0 rfl rfl))) | ((with_reducible apply Loads.st tabOk); exact rfl; ((exact hS.roR (by assumption) (by assumption))); exact rfl)); exact rfl) | ((with_reducible apply l_ix tabOk); exact rfl; exact rfl; exact rfl; ((exact rfl)); ((omega)); exact rfl) | ((with_reducible apply l_alloc hS tabOk); exact rfl; exact rfl; exact rfl; intro g w' hS'; clear hS; have hS := hS'; clear hS') | (((with_reducible apply l_store hS tabOk (i := 0)); exact rfl; exact rfl; exact rfl; exact rfl; exact rfl; exact rfl; exact rfl; exact rfl; ((exact (rfl : _ = [_, _, _, _, _]))); intro w' hS'; simp only [List.set] at hS'; clear hS; have hS := hS'; clear hS')) | (first | ((with_reducible apply l_yes); exact rfl; exact rfl; exact rfl; exact rfl; (assumption)) | ((with_reducible apply l_no); exact rfl; exact rfl; exact rfl; exact rfl; ((assumption)); exact rfl) | ((with_reducible apply l_partd); exact rfl; exact rfl; exact rfl; all_goals (intro hb hp; try (exfalso; omega))) | ((with_reducible apply l_pick1); exact rfl; ((assumption)); exact rfl; exact rfl) | ((with_reducible apply l_pick2); exact rfl; ((assumption)); exact rfl; exact rfl))) | (first | (with_reducible apply c_seq) | (with_reducible apply c_region) | (with_reducible apply l_nil) | (with_reducible apply q_then) | (with_reducible apply c_skip) | (with_reducible apply c_block) | (with_reducible apply c_ret) | (with_reducible apply q_then_ret) | (with_reducible apply q_block) | (with_reducible apply q_block_ret)) | (first | ((with_reducible apply c_ift); exact rfl; (exact rfl)) | ((with_reducible apply c_ifd); exact rfl; all_goals (intro hb hp; try (exfalso; omega)))) | ((with_reducible apply l_call); exact rfl; exact rfl; exact within_fn _ _ _ _; exact rfl; rintro _ w' ⟨rfl, hS'⟩; replace hS := hS.transA hS'; simp only [appA] at hS; clear hS'))
      all_goals first
        | exact q_count (i + 1) (by repeat (first | exact Fr.sub_nil _ | (apply Fr.sub_cons; exact rfl))) (by omega) (all_take_succ hall hx (by unfold sgOk; rw [decide_eq_true_eq]; omega)) (by omega) hS.drop
        | (((apply q_ret1); (repeat (first | exact ResL.nil | (apply ResL.tmp; exact rfl)))); refine ⟨?_, hS.sub (List.nil_sublist _)⟩; rw [b3 (all_no hx (by unfold sgOk; rw [decide_eq_false_iff_not]; omega))])
    · have hbad : sgsB I = false := all_no hx (by unfold sgOk; rw [decide_eq_false_iff_not]; omega)
      rw [b3 hbad]
      by_cases hp1 : 0 ≤ x.pg ∧ x.pg ≤ 255
      · have q1 : (!decide (0 ≤ x.pg ∧ x.pg ≤ 255)) = false := by rw [decide_eq_true hp1]; rfl
        have q2 : (!decide (1 ≤ x.n ∧ x.n ≤ 255)) = true := by rw [decide_eq_false (fun h => hok1 ⟨hp1, h⟩)]; rfl
        repeat' (first | (first | ((with_reducible apply l_pure tabOk); exact rfl; exact rfl) | ((with_reducible apply l_load); exact rfl; (first | ((with_reducible apply Loads.sc tabOk); exact rfl; ((exact hS.blkC 0 rfl rfl))) | ((with_reducible apply Loads.sl tabOk); exact rfl; ((exact hS.blkC 0 rfl rfl))) | ((with_reducible apply Loads.st tabOk); exact rfl; ((exact hS.roR (by assumption) (by assumption))); exact rfl)); exact rfl) | ((with_reducible apply l_ix tabOk); exact rfl; exact rfl; exact rfl; ((exact rfl)); ((omega)); exact rfl) | ((with_reducible apply l_alloc hS tabOk); exact rfl; exact rfl; exact rfl; intro g w' hS'; clear hS; have hS := hS'; clear hS') | (((with_reducible apply l_store hS tabOk (i := 0)); exact rfl; exact rfl; exact rfl; exact rfl; exact rfl; exact rfl; exact rfl; exact rfl; ((exact (rfl : _ = [_, _, _, _, _]))); intro w' hS'; simp only [List.set] at hS'; clear hS; have hS := hS'; clear hS')) | (first | ((with_reducible apply l_yes); exact rfl; exact rfl; exact rfl; exact rfl; (assumption)) | ((with_reducible apply l_no); exact rfl; exact rfl; exact rfl; exact rfl; (first | exact rfl | assumption); exact rfl) | ((with_reducible apply l_pick1); exact rfl; (first | exact rfl | assumption); exact rfl; exact rfl) | ((with_reducible apply l_pick2); exact rfl; ((assumption)); exact rfl; exact rfl))) | (first | (with_reducible apply c_seq) | (with_reducible apply c_region) | (with_reducible apply l_nil) | (with_reducible apply q_then) | (with_reducible apply c_skip) | (with_reducible apply c_block) | (with_reducible apply c_ret) | (with_reducible apply q_then_ret) | (with_reducible apply q_block_ret)) | (first | ((with_reducible apply c_ift); exact rfl; (exact rfl)) | ((with_reducible apply c_ifd); exact rfl; all_goals (intro hb hp; try (exfalso; omega)))) | ((with_reducible apply l_call); exact rfl; exact rfl; exact within_fn _ _ _ _; exact rfl; rintro _ w' ⟨rfl, hS'⟩; replace hS := hS.transA hS'; simp only [appA] at hS; clear hS'))
        (apply q_ret1); (repeat (first | exact ResL.nil | (apply ResL.tmp; exact rfl)))
        exact ⟨rfl, hS.sub (List.nil_sublist _)⟩
      · have q1 : (!decide (0 ≤ x.pg ∧ x.pg ≤ 255)) = true := by rw [decide_eq_false hp1]; rfl
        repeat' (first | (first | ((with_reducible apply l_pure tabOk); exact rfl; exact rfl) | ((with_reducible apply l_load); exact rfl; (first | ((with_reducible apply Loads.sc tabOk); exact rfl; ((exact hS.blkC 0 rfl rfl))) | ((with_reducible apply Loads.sl tabOk); exact rfl; ((exact hS.blkC 0 rfl rfl))) | ((with_reducible apply Loads.st tabOk); exact rfl; ((exact hS.roR (by assumption) (by assumption))); exact rfl)); exact rfl) | ((with_reducible apply l_ix tabOk); exact rfl; exact rfl; exact rfl; ((exact rfl)); ((omega)); exact rfl) | ((with_reducible apply l_alloc hS tabOk); exact rfl; exact rfl; exact rfl; intro g w' hS'; clear hS; have hS := hS'; clear hS') | (((with_reducible apply l_store hS tabOk (i := 0)); exact rfl; exact rfl; exact rfl; exact rfl; exact rfl; exact rfl; exact rfl; exact rfl; ((exact (rfl : _ = [_, _, _, _, _]))); intro w' hS'; simp only [List.set] at hS'; clear hS; have hS := hS'; clear hS')) | (first | ((with_reducible apply l_no); exact rfl; exact rfl; exact rfl; exact rfl; (first | exact rfl | assumption); exact rfl) | ((with_reducible apply l_pick1); exact rfl; (first | exact rfl | assumption); exact rfl; exact rfl))) | (first | (with_reducible apply c_seq) | (with_reducible apply c_region) | (with_reducible apply l_nil) | (with_reducible apply q_then) | (with_reducible apply c_skip) | (with_reducible apply c_block) | (with_reducible apply c_ret) | (with_reducible apply q_then_ret) | (with_reducible apply q_block_ret)) | (first | ((with_reducible apply c_ift); exact rfl; (exact rfl)) | ((with_reducible apply c_ifd); exact rfl; all_goals (intro hb hp; try (exfalso; omega)))) | ((with_reducible apply l_call); exact rfl; exact rfl; exact within_fn _ _ _ _; exact rfl; rintro _ w' ⟨rfl, hS'⟩; replace hS := hS.transA hS'; simp only [appA] at hS; clear hS'))
        (apply q_ret1); (repeat (first | exact ResL.nil | (apply ResL.tmp; exact rfl)))
        exact ⟨rfl, hS.sub (List.nil_sublist _)⟩
  have hok : sgsB I = true := all_take_all hall (by omega)
  have b4 : aptB I = false → checkIm I = 5 := fun h => by simp [checkIm, h1, h2, hok, h]
  repeat' (first | (first | ((with_reducible apply l_pure tabOk); exact rfl; exact rfl) | ((with_reducible apply l_load); exact rfl; (((with_reducible apply Loads.sl tabOk); exact rfl; ((exact hS.blkC 0 rfl rfl)))); exact rfl)) | (first | (with_reducible apply c_seq) | (with_reducible apply c_region) | (with_reducible apply l_nil) | (with_reducible apply q_then) | (with_reducible apply c_block) | (with_reducible apply c_exit) | (with_reducible apply q_then_exit) | (with_reducible apply q_block_exit)) | (((with_reducible apply c_ifd); exact rfl; all_goals (intro hb hp; try (exfalso; omega)))))
  clear hi hlt hb hp hall c0 b3
  replace hS := hS.addNil 9 1
  rw [show ([] : List (List Value)) = (syN I 0).map stC from rfl] at hS
  refine c_loopK (X := Nat × Option Addr × Nat × Nat) (fun x => [(6, .int .i64 (x.1 : Nat)), (5, .slice x.2.1 x.2.2.1 x.2.2.2)]) [1] rfl (fun x => [.row 9 1 (.slice x.2.1 x.2.2.1 x.2.2.2) ((syN I x.1).map stC)]) (fun x => x.1 ≤ I.syms.length) (fun x => I.syms.length - x.1) (0, none, 0, 0) (by repeat (first | exact Fr.sub_nil _ | (apply Fr.sub_cons; exact rfl))) (by exact Nat.zero_le _) hS ?_
  clear hS
  rintro ⟨j, q1, q2, q3⟩ w1 hi hS
  simp only [List.cons_append, List.nil_append] at hi hS ⊢
  by_cases hlt : j < I.syms.length
  · obtain ⟨x, hx⟩ := lt_get (l := I.syms) (i := j) (by omega)
    have hrow := map_get (f := syC) hx
    obtain ⟨b, off, rfl, hro⟩ := hI.syms.at_ hlt
    have hl1 := syN_len hB j
    repeat' (first | (first | ((with_reducible apply l_add); exact rfl; exact rfl; omega; omega; exact rfl) | ((with_reducible apply l_pure tabOk); exact rfl; exact rfl) | ((with_reducible apply l_load); exact rfl; (first | ((with_reducible apply Loads.sc tabOk); exact rfl; ((exact hS.roC0 (by assumption) (by assumption) rfl))) | ((with_reducible apply Loads.sl tabOk); exact rfl; ((exact hS.blkC 1 rfl rfl)))); exact rfl) | ((with_reducible apply l_ix tabOk); exact rfl; exact rfl; exact rfl; ((exact rfl)); ((omega)); exact rfl) | ((with_reducible apply l_bslice hS tabOk); exact rfl; exact rfl; exact rfl; exact rfl; exact rfl; exact rfl; exact rfl; intro g w' hS'; clear hS; have hS := hS'; clear hS')) | (first | (with_reducible apply c_seq) | (with_reducible apply c_region) | (with_reducible apply l_nil) | (with_reducible apply q_then) | (with_reducible apply c_skip) | (with_reducible apply c_block) | (with_reducible apply q_block)) | (((with_reducible apply c_ifd); exact rfl; all_goals (intro hb hp; try (exfalso; omega)))) | ((with_reducible apply l_append hS tabOk 1); exact rfl; exact rfl; exact rfl; exact rfl; exact hS.rowRo 0 rfl; exact rfl; ((omega)); exact rfl; intro p' cap' w' hS'; simp only [List.set] at hS'; clear hS; have hS := hS'; clear hS'))
    rw [show [[.string ⟨x.name.toArray⟩]] = [stC x.name] from rfl, syN_succ hx] at hS
    refine q_loopK (j + 1, p', _, cap') (by repeat (first | exact Fr.sub_nil _ | (apply Fr.sub_cons; exact rfl))) (by show j + 1 ≤ I.syms.length; omega) ?_ (by show I.syms.length - (j + 1) < I.syms.length - j; omega)
    exact hS.drop
  rw [syN_all (by omega)] at hS
  repeat' (first | (first | ((with_reducible apply l_pure tabOk); exact rfl; exact rfl) | ((with_reducible apply l_load); exact rfl; (((with_reducible apply Loads.sl tabOk); exact rfl; ((exact hS.blkC 1 rfl rfl)))); exact rfl)) | (first | (with_reducible apply c_seq) | (with_reducible apply c_region) | (with_reducible apply l_nil) | (with_reducible apply q_then) | (with_reducible apply c_block) | (with_reducible apply c_exit) | (with_reducible apply q_then_exit) | (with_reducible apply q_block_exit)) | (((with_reducible apply c_ifd); exact rfl; all_goals (intro hb hp; try (exfalso; omega)))))
  clear hi hlt hb hp
  refine c_count hS 7 [1, 5] rfl (I.segs.length + 1) (fun i => 1 ≤ i ∧ ∀ (j : Nat) (a b : Sg), j + 1 < i → I.segs[j]? = some a → I.segs[j + 1]? = some b → a.pg + a.n ≤ b.pg) 1 rfl (by omega) ⟨Nat.le_refl _, by intros; omega⟩ ?_
  rintro i w1 hi ⟨hi1, hall⟩ hS'
  clear hS; have hS := hS'; clear hS'
  by_cases hlt : i < I.segs.length
  · obtain ⟨x, hx⟩ := lt_get (l := I.segs) (i := i) (by omega)
    have hrow := map_get (f := sgC) hx
    obtain ⟨b, off, rfl, hro⟩ := (hI.segs).at_ hlt
    obtain ⟨y, hy⟩ := lt_get (l := I.segs) (i := i - 1) (by omega)
    have hrow2 := map_get (f := sgC) hy
    have hix : ((i - 1 : Nat) : Int) = (i : Int) - 1 := by omega
    obtain ⟨o1, o2, o3, o4, -⟩ := sg_ok hok hx
    obtain ⟨u1, u2, u3, u4, -⟩ := sg_ok hok hy
    repeat' (first | (first | ((with_reducible apply l_add); exact rfl; exact rfl; omega; omega; exact rfl) | ((with_reducible apply l_pure tabOk); exact rfl; exact rfl) | ((with_reducible apply l_load); exact rfl; (((with_reducible apply Loads.sl tabOk); exact rfl; ((exact hS.blkC 1 rfl rfl)))); exact rfl)) | (first | (with_reducible apply c_seq) | (with_reducible apply c_region) | (with_reducible apply l_nil) | (with_reducible apply q_then) | (with_reducible apply c_skip) | (with_reducible apply c_block) | (with_reducible apply c_ret) | (with_reducible apply q_then_ret) | (with_reducible apply q_block) | (with_reducible apply q_block_ret)) | (((with_reducible apply c_ifd); exact rfl; all_goals (intro hb hp; try (exfalso; omega)))) | (focus ((with_reducible apply c_drawAll nF _ _ (by kernel_rfl) (by kernel_rfl) hS); (repeat' ((first | ((with_reducible apply d_add); exact rfl; exact rfl; omega; omega; exact rfl) | ((with_reducible apply d_sub); exact rfl; exact rfl; omega; omega; exact rfl) | ((with_reducible apply d_pure tabOk); exact rfl; exact rfl) | ((with_reducible apply d_load); exact rfl; (intro wd hd; replace hd : St _ _ wd _ := hd; (first | ((with_reducible apply Loads.sc tabOk); exact rfl; (first | exact hd.roC0 (by assumption) (by assumption) rfl | exact hd.roC (by assumption) (by assumption) rfl)) | ((with_reducible apply Loads.sl tabOk); exact rfl; ((exact hd.blkC 1 rfl rfl))))); exact rfl) | ((with_reducible apply d_ix tabOk); exact rfl; exact rfl; exact rfl; (first | exact rfl | assumption); ((omega)); exact rfl)))); all_goals ((with_reducible apply d_nil); intro w' hS'; clear hS; have hS := hS'; clear hS'))))
    · (apply q_ret1); (repeat (first | exact ResL.nil | (apply ResL.tmp; exact rfl)))
      refine ⟨?_, hS.sub (List.nil_sublist _)⟩
      rw [b4 (apt_ch (fun h => by have := h (i - 1) y x hy (by rw [show i - 1 + 1 = i by omega]; exact hx); omega))]
    · refine q_count (i + 1) (by repeat (first | exact Fr.sub_nil _ | (apply Fr.sub_cons; exact rfl))) (by omega) ⟨by omega, fun j a b h1 h2 h3 => ?_⟩ (by omega) hS
      by_cases e : j = i - 1
      · subst e
        rw [show i - 1 + 1 = i by omega] at h3
        rw [hy] at h2
        rw [hx] at h3
        cases h2
        cases h3
        omega
      · exact hall j a b (by omega) h2 h3
  have hch : Ch I.segs := fun j a b h1 h2 => hall j a b (by have := lt_of_getE h2; omega) h1 h2
  repeat' (first | (first | ((with_reducible apply l_pure tabOk); exact rfl; exact rfl) | ((with_reducible apply l_load); exact rfl; (first | ((with_reducible apply Loads.sl tabOk); exact rfl; ((exact hS.blkC 1 rfl rfl))) | ((with_reducible apply Loads.st tabOk); exact rfl; ((exact hS.blkR 1 rfl)); exact rfl)); exact rfl) | (first | ((with_reducible apply l_yes); exact rfl; exact rfl; exact rfl; exact rfl; (assumption)) | ((with_reducible apply l_no); exact rfl; exact rfl; exact rfl; exact rfl; ((assumption)); exact rfl) | ((with_reducible apply l_partd); exact rfl; exact rfl; exact rfl; all_goals (intro hb hp; try (exfalso; omega))) | ((with_reducible apply l_pick1); exact rfl; ((assumption)); exact rfl; exact rfl) | ((with_reducible apply l_pick2); exact rfl; ((assumption)); exact rfl; exact rfl))) | (first | (with_reducible apply c_seq) | (with_reducible apply c_region) | (with_reducible apply l_nil) | (with_reducible apply q_then) | (with_reducible apply c_skip) | (with_reducible apply c_exit) | (with_reducible apply c_ret) | (with_reducible apply q_then_exit) | (with_reducible apply q_then_ret) | (with_reducible apply q_block_exit)) | (first | ((with_reducible apply c_ift); exact rfl; (exact rfl)) | ((with_reducible apply c_ifd); exact rfl; all_goals (intro hb hp; try (exfalso; omega))) | ((with_reducible apply c_ifn); exact rfl; all_goals (intro hb hp; try (exfalso; omega)))) | ((with_reducible apply l_call); exact rfl; exact rfl; exact alike_fn (hS.rowSl 0 rfl); exact rfl; rintro _ w' ⟨rfl, hS'⟩; replace hS := hS.transA hS'; simp only [appA] at hS; clear hS') | ((with_reducible apply l_call); exact rfl; exact rfl; exact alike_fn (hI.needs.now hS); exact rfl; rintro _ w' ⟨rfl, hS'⟩; replace hS := hS.transA hS'; simp only [appA] at hS; clear hS') | ((with_reducible apply l_call); exact rfl; exact rfl; exact placesFine_fn (hI.now hS) hok; exact rfl; rintro _ w' ⟨rfl, hS'⟩; replace hS := hS.transA hS'; simp only [appA] at hS; clear hS'))
  · (apply q_ret1); (repeat (first | exact ResL.nil | (apply ResL.tmp; exact rfl)))
    refine ⟨?_, hS.sub (List.nil_sublist _)⟩
    rw [b4 (apt_sy hp)]
  · (apply q_ret1); (repeat (first | exact ResL.nil | (apply ResL.tmp; exact rfl)))
    refine ⟨?_, hS.sub (List.nil_sublist _)⟩
    rw [b4 (apt_nd hp)]
  · (apply q_ret1); (repeat (first | exact ResL.nil | (apply ResL.tmp; exact rfl)))
    refine ⟨?_, hS.sub (List.nil_sublist _)⟩
    have h4 : aptB I = true := apt_yes hch (by assumption) (by assumption)
    have h5 : plcB I = false := pB_false hp
    simp [checkIm, h1, h2, hok, h4, h5]
  · (apply q_ret1); (repeat (first | exact ResL.nil | (apply ResL.tmp; exact rfl)))
    refine ⟨?_, hS.sub (List.nil_sublist _)⟩
    have h4 : aptB I = true := apt_yes hch (by assumption) (by assumption)
    have h5 : plcB I = true := pB_true hp
    simp [checkIm, h1, h2, hok, h4, h5]
end Go.Proofs.Ytejnpppejalhfab
/- The writers: ink and pen. -/
namespace Go.Proofs.Ytejnpppejalhfab
open Go.RowKit Go.Sort

theorem leB_len (n : Int) (k : Nat) : (leB n k).length = k := by
  induction k with
  | zero => rfl
  | succ k ih => simp [leB, ih]
/-- one who writes: a variable at g that holds a slice of bytes of one's own -/
def PenA (g : Nat) (p : Option Addr) (m c : Nat) (l : List UInt8) : List Asr := [.blk g [.slice p m c], .row 5 1 (.slice p m c) (bR l)]
def Pens (g : Nat) (p : Option Addr) (m c : Nat) (l l' : List UInt8) (w : World) : Value → World → Prop := fun _ w' => ∃ p' m' c', St (fps (PenA g p m c l)) w w' (PenA g p' m' c' l')
/-- a text's bytes -/
def txB (s : List UInt8) : List UInt8 := leB s.length 8 ++ s
def trB (b : Bool) : Int := if b then 1 else 0
/-! the program's -/
/-- a row ahead of one who writes is none of the pen's things -/
theorem Pens.row {F : Nat → Prop} {w0 w : World} {Γ : List Asr} {g m c e sz : Nat} {p : Option Addr} {l : List UInt8} {v : Value} {rows : List (List Value)} (h : St F w0 w (.row e sz v rows :: .blk g [.slice p m c] :: .row 5 1 (.slice p m c) (bR l) :: Γ)) : Sl (fps (PenA g p m c l)) w sz v rows := by
  rcases h.rowSl 0 rfl with h1 | ⟨b, off, cap, h1, h2, h3, h4⟩
  · exact Or.inl h1
  · refine Or.inr ⟨b, off, cap, h1, h2, h3, ⟨h4.lt, ?_, h4.len, h4.one, h4.cells⟩⟩
    rintro ⟨A, hA, hA2⟩
    have hp := (List.pairwise_cons.1 h.apart).1
    have hown : (Asr.row e sz v rows).fp = some b := by
      rcases h.rowForm 0 rfl with ⟨h5, _⟩ | ⟨g2, cap2, h5, _⟩
      · rw [h1] at h5; cases h5
      · rw [h1] at h5; cases h5; rw [h1]; rfl
    have hAp : Aprt (.row e sz v rows) A := hp A (by
      unfold PenA at hA
      simp only [List.mem_cons, List.not_mem_nil, or_false] at hA
      rcases hA with rfl | rfl
      · simp
      · simp)
    rcases hAp with h6 | h6
    · rw [hown] at h6; cases h6
    · exact h6 (hown.trans hA2.symm)
end Go.Proofs.Ytejnpppejalhfab
/- An image's bytes; the reference's writer. -/
namespace Go.Proofs.Ytejnpppejalhfab
open Go.RowKit Go.Sort

theorem txB_len (s : List UInt8) : (txB s).length = 8 + s.length := by unfold txB; rw [List.length_append, leB_len]
def sgB (s : Sg) : List UInt8 := leB s.pg 8 ++ (leB s.n 8 ++ (txB s.data ++ (leB (trB s.wr) 8 ++ leB (trB s.ex) 8)))
def syB (s : Sy) : List UInt8 := txB s.name ++ leB s.at_ 8
def rlB (r : Rl) : List UInt8 := leB r.at_ 8 ++ (txB r.name ++ leB r.add 8)
def b2 (I : Im) : List UInt8 := txB I.name ++ leB I.needs.length 8
def b4 (I : Im) : List UInt8 := b2 I ++ I.needs.flatMap txB ++ leB I.segs.length 8
/-- what the check tells of the lengths -/
structure ImL (I : Im) : Prop where
  name : I.name.length ≤ 12
  needs : ∀ s ∈ I.needs, (txB s).length ≤ 20
  segs : ∀ s ∈ I.segs, (sgB s).length ≤ 5000
  syms : ∀ s ∈ I.syms, (syB s).length ≤ 28
  rels : ∀ s ∈ I.rels, (rlB s).length ≤ 36
  n1 : I.needs.length ≤ 4
  n2 : I.segs.length ≤ 6
  n3 : I.syms.length ≤ 12
  n4 : I.rels.length ≤ 16
theorem nm_le {l : List UInt8} (h : nmB l = true) : l.length ≤ 12 := by
  unfold nmB at h
  rw [Bool.and_eq_true, decide_eq_true_eq] at h
  omega
theorem checkIm_zero {I : Im} (h : checkIm I = 0) : nmsB I = true ∧ cntB I = true ∧ sgsB I = true ∧ aptB I = true ∧ plcB I = true := by
  unfold checkIm at h
  cases h1 : nmsB I <;> simp [h1] at h
  cases h2 : cntB I <;> simp [h2] at h
  cases h3 : sgsB I <;> simp [h3] at h
  cases h4 : aptB I <;> simp [h4] at h
  cases h5 : plcB I <;> simp [h5] at h
  exact ⟨rfl, rfl, rfl, rfl, rfl⟩
theorem ImL.of {I : Im} (h : checkIm I = 0) : ImL I := by
  obtain ⟨h1, h2, h3, _, _⟩ := checkIm_zero h
  unfold nmsB at h1
  simp only [Bool.and_eq_true] at h1
  obtain ⟨a1, a2, a3, a4⟩ := h1
  unfold cntB at h2
  rw [decide_eq_true_eq] at h2
  refine ⟨nm_le a1, fun s hs => ?_, fun s hs => ?_, fun s hs => ?_, fun s hs => ?_, by omega, by omega, by omega, by omega⟩
  · have := nm_le (List.all_eq_true.1 a2 s hs)
    rw [txB_len]; omega
  · have h4 := List.all_eq_true.1 h3 s hs
    unfold sgOk at h4
    rw [decide_eq_true_eq] at h4
    simp only [sgB, List.length_append, leB_len, txB_len]
    omega
  · have := nm_le (List.all_eq_true.1 a3 s hs)
    simp only [syB, List.length_append, leB_len, txB_len]
    omega
  · have h4 := List.all_eq_true.1 a4 s hs
    rw [Bool.or_eq_true, decide_eq_true_eq] at h4
    have : s.name.length ≤ 12 := by
      rcases h4 with e | e
      · rw [e]; simp
      · exact nm_le e
    simp only [rlB, List.length_append, leB_len, txB_len]
    omega
end Go.Proofs.Ytejnpppejalhfab
/- image.Write. -/
namespace Go.Proofs.Ytejnpppejalhfab
open Go.RowKit Go.Sort

end Go.Proofs.Ytejnpppejalhfab
/- image.Read. -/
namespace Go.Proofs.Ytejnpppejalhfab
open Go.RowKit Go.Sort
end Go.Proofs.Ytejnpppejalhfab
/- The reference's SameImages. -/
namespace Go.Proofs.Ytejnpppejalhfab
open Go.RowKit Go.Sort
end Go.Proofs.Ytejnpppejalhfab
/- tiny. -/
namespace Go.Proofs.Ytejnpppejalhfab
open Go.RowKit Go.Sort
theorem Bytes_fn (n : Int) (k : Nat) (w : World) (hk : k ≤ 8) : Fn Try.prog 69 [.int .i64 n, .int .i64 k] w (RBf (.string ⟨(leB n k).toArray⟩) w) :=
  Fn.of_rb ⟨Try.func69, by kernel_rfl, by kernel_rfl⟩ (rb_below (bytes_any n k w hk))
def encI (op a b c imm : Int) : List UInt8 := leB op 1 ++ leB a 1 ++ leB b 1 ++ leB c 1 ++ leB imm 4
set_option maxRecDepth 100000 in
theorem InstrBytes_fn (op a b c imm : Int) (w : World) : Fn Try.prog 96 [.agg [.int .i64 op, .int .i64 a, .int .i64 b, .int .i64 c, .int .i64 imm].toArray] w (RBf (.string ⟨(encI op a b c imm).toArray⟩) w) := by
  refine fn_enter (fn := Try.f96) ⟨Try.func96, by kernel_rfl, by kernel_rfl⟩ (by exact rfl) Try.ntmps96 (by exact rfl) ?_
  have hS := St.start w
  repeat' (first | (first | ((with_reducible apply l_pure tabOk); exact rfl; exact rfl) | ((with_reducible apply l_box hS); exact rfl; exact rfl; exact rfl; intro g w' hS'; clear hS; have hS := hS'; clear hS')) | (first | (with_reducible apply c_seq) | (with_reducible apply c_region) | (with_reducible apply l_nil) | (with_reducible apply q_then)))
  (focus ((with_reducible apply c_drawAll nF _ _ (by kernel_rfl) (by kernel_rfl) hS); (repeat' (first | (first | ((with_reducible apply d_pure tabOk); exact rfl; exact rfl) | ((with_reducible apply d_load); exact rfl; (intro wd hd; replace hd : St _ _ wd _ := hd; (((with_reducible apply Loads.sc tabOk); exact rfl; ((exact hd.blkC 0 rfl rfl))))); exact rfl)) | ((with_reducible apply d_call); exact rfl; exact rfl; (intro wd hd; replace hd : St _ _ wd _ := hd; exact Bytes_fn _ 1 _ (by decide)); exact rfl) | ((with_reducible apply d_call); exact rfl; exact rfl; (intro wd hd; replace hd : St _ _ wd _ := hd; exact Bytes_fn _ 4 _ (by decide)); exact rfl) | ((with_reducible apply d_runs); intro a ha; exact r_cat (by exact rfl) (by exact rfl) (by simp only [List.length_append, leB_len]; omega) a ha _; exact rfl))); all_goals ((with_reducible apply d_nil); intro w' hS'; clear hS; have hS := hS'; clear hS')))
  repeat' ((first | (with_reducible apply l_nil) | (with_reducible apply q_then) | (with_reducible apply c_ret)))
  (apply q_ret1); (repeat (first | exact ResL.nil | (apply ResL.tmp; exact rfl)))
  exact ⟨rfl, hS.sub (List.nil_sublist _)⟩
def tinyD : List UInt8 := encI 1 0 0 0 7 ++ encI 16 0 0 0 6
def tinyS : Sg := ⟨0, 1, tinyD, false, true⟩
def tinyI : Im := ⟨[116], [], [tinyS], [], [], 0⟩
theorem tiny_fn (w : World) : Fn Try.prog 45 [] w (fun v w' => ∃ g, v = imA tinyI (.slice none 0 0) (.slice (some ⟨g, 0, none⟩) 1 1) (.slice none 0 0) (.slice none 0 0) ∧ St nF w w' [.row 82 5 (.slice (some ⟨g, 0, none⟩) 1 1) [sgC tinyS]]) := by
  refine fn_enter (fn := Try.f45) ⟨Try.func45, by kernel_rfl, by kernel_rfl⟩ (by exact rfl) Try.ntmps45 (by exact rfl) ?_
  have hS := St.start w
  repeat' (first | (first | ((with_reducible apply l_build tabOk); exact rfl; exact rfl; (first | exact (rfl : _ = some [_, _, _, _, _]) | exact (rfl : _ = some [_, _, _, _, _, _])); exact rfl) | ((with_reducible apply l_alloc hS tabOk); exact rfl; exact rfl; exact rfl; intro g w' hS'; clear hS; have hS := hS'; clear hS') | (((with_reducible apply l_store hS tabOk (i := 1)); exact rfl; exact rfl; exact rfl; exact rfl; exact rfl; exact rfl; exact rfl; exact rfl; ((exact (rfl : _ = [_, _, _, _, _, _]))); intro w' hS'; simp only [List.set] at hS'; clear hS; have hS := hS'; clear hS')) | ((with_reducible apply l_bslice hS tabOk); exact rfl; exact rfl; exact rfl; exact rfl; exact rfl; exact rfl; exact rfl; intro g w' hS'; clear hS; have hS := hS'; clear hS')) | (first | (with_reducible apply c_seq) | (with_reducible apply c_region) | (with_reducible apply l_nil) | (with_reducible apply q_then) | (with_reducible apply c_ret)) | ((with_reducible apply l_call); exact rfl; exact rfl; exact InstrBytes_fn 1 0 0 0 7 _; exact rfl; rintro _ w' ⟨rfl, hS'⟩; replace hS := hS.transA hS'; simp only [appA] at hS; clear hS') | ((with_reducible apply l_call); exact rfl; exact rfl; exact InstrBytes_fn 16 0 0 0 6 _; exact rfl; rintro _ w' ⟨rfl, hS'⟩; replace hS := hS.transA hS'; simp only [appA] at hS; clear hS') | ((with_reducible apply l_cat); exact rfl; exact rfl; decide; exact rfl))
  rename Nat => g
  refine q_ret (vs := [imA tinyI (.slice none 0 0) (.slice (some ⟨g, 0, none⟩) 1 1) (.slice none 0 0) (.slice none 0 0)]) rfl ?_ rfl ⟨g, rfl, hS.reorder [0] (by decide) rfl⟩
  refine ResL.cell rfl ?_ ResL.nil
  unfold imA
  ((with_reducible apply Loads.st tabOk); exact rfl; ((exact hS.blkR 1 rfl)); exact rfl)
theorem check_tiny : checkIm tinyI = 0 := by
  have h1 : nmsB tinyI = true := by decide +kernel
  have h2 : cntB tinyI = true := by decide +kernel
  have h3 : sgsB tinyI = true := by decide +kernel
  have h4 : aptB tinyI = true := by
    refine pB_true ⟨fun j a b h1 h2 => ?_, ?_, ?_⟩
    · cases j <;> simp [tinyI] at h2
    · rintro ⟨i, j, x, _, h, _⟩; simp [tinyI] at h
    · rintro ⟨i, j, x, _, h, _⟩; simp [tinyI] at h
  have h5 : plcB tinyI = true := by
    refine pB_true ⟨?_, ?_, ?_, ?_, ?_⟩
    · intro s hs; simp [tinyI] at hs
    · intro k r h; simp [tinyI] at h
    · intro k q r h; simp [tinyI] at h
    · exact ⟨tinyS, by decide +kernel, rfl⟩
    · decide
  unfold checkIm
  simp [h1, h2, h3, h4, h5]
theorem tiny_B : ImB tinyI := ⟨by decide, by decide, by decide, by decide⟩
theorem tiny_D : ImD tinyI := by intro s hs; simp [tinyI] at hs; subst hs; decide
end Go.Proofs.Ytejnpppejalhfab
/- linkBegun. -/
namespace Go.Proofs.Ytejnpppejalhfab
open Go.RowKit Go.Sort
def tinySh : Sh := ⟨1, tinyD, []⟩
def tinyAr : Ar := ⟨1, 1, 2, false⟩
theorem find_tiny (vn vs vy vr : Value) (a : Int) : ([⟨tinyI, vn, vs, vy, vr, a⟩] : List Ob).find? (fun o => !decide (checkIm o.im = 0)) = none := by
  rw [List.find?_eq_none]
  intro x hx
  simp only [List.mem_singleton] at hx
  subst hx
  rw [check_tiny]
  decide
theorem all_tiny (vn vs vy vr : Value) (a : Int) : allP [⟨tinyI, vn, vs, vy, vr, a⟩] 8 0 (plStep ([], 1) ⟨tinyI, vn, vs, vy, vr, a⟩) = some ([⟨tinyI, vn, vs, vy, vr, 16⟩], 2) := rfl
theorem link_tiny (vn vs vy vr : Value) (a : Int) : linkC ⟨tinyI, vn, vs, vy, vr, a⟩ [] = 0 := by
  unfold linkC
  rw [if_neg (by decide), find_tiny]
  dsimp only
  rw [if_pos (by simp), all_tiny]
  rfl
theorem sh_tiny : shO [(tinyI, 16)] tinyI 1 = [tinySh] := by decide +kernel
theorem ar_tiny : ([rawA 1 tinyS]).foldl joinStep [] = [tinyAr] := by decide +kernel
theorem lt_fn {w : World} {vs : Value} (h : ImV w tinyI (.slice none 0 0) vs (.slice none 0 0) (.slice none 0 0)) : Fn Try.prog 13 [imA tinyI (.slice none 0 0) vs (.slice none 0 0) (.slice none 0 0), .slice none 0 0] w (fun v w' => ∃ va vh u, v = .tuple #[.agg [va, vh, .int .i64 16].toArray, .int .i64 0] ∧ St nF w w' [.row 131 4 va [arC tinyAr], .row 49 3 vh [shC tinySh u], .row 124 2 u []]) := by
  have H := Link_fn (M := ⟨tinyI, .slice none 0 0, vs, .slice none 0 0, .slice none 0 0, 0⟩) (Lb := []) (vl := .slice none 0 0) h (Sl.nil0 w 6) (by simp) (by
    intro o ho
    simp only [List.mem_singleton] at ho
    subst ho
    exact ⟨tiny_B, tiny_D⟩)
  refine H.mono fun v w' hv => ?_
  rcases hv with ⟨h1, -, -⟩ | ⟨-, s, va, vh, N, h1, h2, rfl, h4⟩
  · exact absurd (link_tiny _ _ _ _ _) h1
  · rw [all_tiny] at h1
    cases h1
    have e1 : N.map (·.1) = [tinySh] := h2.trans (Eq.trans (by rfl) ((List.append_nil _).trans sh_tiny))
    have e2 : linkAr [⟨tinyI, .slice none 0 0, vs, .slice none 0 0, .slice none 0 0, 16⟩] = [tinyAr] := Eq.trans (by rfl) ar_tiny
    match N, e1 with
    | [(S, u)], e1 =>
      simp only [List.map_cons, List.map_nil, List.cons.injEq, and_true] at e1
      subst e1
      refine ⟨va, vh, u, rfl, ?_⟩
      have h5 := h4
      rw [show linkAr ([⟨tinyI, .slice none 0 0, vs, .slice none 0 0, .slice none 0 0, 16⟩], (2 : Int)).1 = [tinyAr] from e2] at h5
      exact h5
theorem right_tiny : rightS tinySh = true := by decide +kernel
theorem fill_tiny : fillS tinySh = tinyD := by decide +kernel
theorem chk_tiny : checkLk [tinyAr] [tinySh] 16 = 0 := by decide +kernel
theorem ft_fn {w : World} {u : Value} (hu : ShV w tinySh u) : Fn Try.prog 18 [.agg (shC tinySh u).toArray] w (RBf (.tuple #[.string ⟨tinyD.toArray⟩, .int .i64 0]) w) := by
  have := Fill_fn hu
  rwa [if_pos right_tiny, if_pos right_tiny, fill_tiny] at this
theorem fz_fn (w : World) : Fn Try.prog 18 [.agg [.int .i64 0, .string ⟨#[]⟩, .slice none 0 0].toArray] w (RBf (.tuple #[.string ⟨[].toArray⟩, .int .i64 1]) w) := Fill_fn (S := ⟨0, [], []⟩) (Sl.nil0 w 2)
theorem lc_fn {w : World} {va vh u : Value} (h1 : Sl nF w 4 va [arC tinyAr]) (h2 : Sl nF w 3 vh [shC tinySh u]) (h3 : Sl nF w 2 u []) : Fn Try.prog 21 [.agg [va, vh, .int .i64 16].toArray] w (RBf (.int .i64 0) w) := by
  have := LkCheck_fn (A := [tinyAr]) (Lp := [(tinySh, u)]) (va := va) (vs := vh) (en := 16) h1 ⟨h2, fun p hp => by simp only [List.mem_singleton] at hp; subst hp; exact h3⟩ (by omega) (by omega)
  rwa [show shs [(tinySh, u)] = [tinySh] from rfl, chk_tiny] at this
set_option maxRecDepth 100000 in
set_option maxHeartbeats 8000000 in
theorem linkBegun_fn (w : World) : Fn Try.prog 16 [] w (RBf (.bool true) w) := by
  refine fn_enter (fn := Try.f16) ⟨Try.func16, by kernel_rfl, by kernel_rfl⟩ (by exact rfl) Try.ntmps16 (by exact rfl) ?_
  have hS := St.start w
  repeat' (first | (((with_reducible apply l_pure tabOk); exact rfl; exact rfl)) | (first | (with_reducible apply c_seq) | (with_reducible apply c_region) | (with_reducible apply l_nil) | (with_reducible apply q_then)) | ((with_reducible apply l_call); exact rfl; exact rfl; exact tiny_fn _; exact rfl; rintro _ w' ⟨gt, rfl, hS'⟩; replace hS := hS.transA hS'; simp only [appA] at hS; clear hS'))
  ((with_reducible apply l_call); exact rfl; exact rfl; exact lt_fn ⟨Sl.nil0 _ 1, hS.rowSl 0 rfl, Sl.nil0 _ 2, Sl.nil0 _ 3⟩; exact rfl; rintro _ w' ⟨va, vh, u, rfl, hS'⟩)
  obtain ⟨pa, ca, rfl⟩ : ∃ p c, va = .slice p 1 c := hS'.rowSlice 0 rfl
  obtain ⟨ph, ch, rfl⟩ : ∃ p c, vh = .slice p 1 c := hS'.rowSlice 1 rfl
  obtain ⟨pu, cu, rfl⟩ : ∃ p c, u = .slice p 0 c := hS'.rowSlice 2 rfl
  obtain ⟨gh, rfl⟩ := hS'.rowSome 1 rfl (by simp)
  replace hS := hS.transA hS'; simp only [appA] at hS; clear hS'
  have hrow : ([shC tinySh (.slice pu 0 cu)])[0]? = some [.int .i64 1, .string ⟨tinyD.toArray⟩, .slice pu 0 cu] := rfl
  have hseg : ([sgC tinyS])[0]? = some [.int .i64 0, .int .i64 1, .string ⟨tinyD.toArray⟩, .bool false, .bool true] := rfl
  repeat' (first | (first | ((with_reducible apply l_pure tabOk); exact rfl; exact rfl) | ((with_reducible apply l_load); exact rfl; (first | ((with_reducible apply Loads.sl tabOk); exact rfl; ((exact hS.blkC 0 rfl rfl))) | ((with_reducible apply Loads.st tabOk); exact rfl; ((exact hS.rowR 2 rfl (by assumption))); exact rfl)); exact rfl) | ((with_reducible apply l_ix tabOk); exact rfl; exact rfl; exact rfl; ((exact rfl)); ((simp only [List.length_map, List.length_cons, List.length_nil, List.length_append]; omega)); exact rfl) | ((with_reducible apply l_build tabOk); exact rfl; exact rfl; ((exact (rfl : _ = some [_, _, _]))); exact rfl) | ((with_reducible apply l_alloc hS tabOk); exact rfl; exact rfl; exact rfl; intro g w' hS'; clear hS; have hS := hS'; clear hS') | (((with_reducible apply l_store hS tabOk (i := 0)); exact rfl; exact rfl; exact rfl; exact rfl; exact rfl; exact rfl; exact rfl; exact rfl; ((exact (rfl : _ = [_, _, _]))); intro w' hS'; simp only [List.set] at hS'; clear hS; have hS := hS'; clear hS')) | (first | ((with_reducible apply l_yes); exact rfl; exact rfl; exact rfl; exact rfl; (exact rfl)) | ((with_reducible apply l_pick1); exact rfl; ((exact rfl)); exact rfl; exact rfl) | ((with_reducible apply l_pick2); exact rfl; ((exact rfl)); exact rfl; exact rfl))) | (first | (with_reducible apply c_seq) | (with_reducible apply c_region) | (with_reducible apply l_nil) | (with_reducible apply q_then) | (with_reducible apply c_skip)) | (((with_reducible apply c_iff); exact rfl; (exact rfl))) | ((with_reducible apply l_call); exact rfl; exact rfl; exact ft_fn (hS.rowSl 3 rfl); exact rfl; rintro _ w' ⟨rfl, hS'⟩; replace hS := hS.transA hS'; simp only [appA] at hS; clear hS') | ((with_reducible apply l_call); exact rfl; exact rfl; exact fz_fn _; exact rfl; rintro _ w' ⟨rfl, hS'⟩; replace hS := hS.transA hS'; simp only [appA] at hS; clear hS'))
  ((with_reducible apply l_call); exact rfl; exact rfl; exact tiny_fn _; exact rfl; rintro _ w' ⟨gt2, rfl, hS'⟩; replace hS := hS.transA hS'; simp only [appA] at hS; clear hS')
  repeat' (first | (first | ((with_reducible apply l_pure tabOk); exact rfl; exact rfl) | ((with_reducible apply l_load); exact rfl; (first | ((with_reducible apply Loads.sc tabOk); exact rfl; (first | exact hS.blkC 1 rfl rfl | exact hS.rowCj 0 rfl (by assumption) rfl)) | ((with_reducible apply Loads.st tabOk); exact rfl; ((exact hS.blkR 1 rfl)); exact rfl)); exact rfl) | ((with_reducible apply l_ix tabOk); exact rfl; exact rfl; exact rfl; ((exact rfl)); ((simp only [List.length_map, List.length_cons, List.length_nil, List.length_append]; omega)); exact rfl) | (first | ((with_reducible apply l_yes); exact rfl; exact rfl; exact rfl; exact rfl; (exact rfl)) | ((with_reducible apply l_pick1); exact rfl; ((exact rfl)); exact rfl; exact rfl))) | (first | (with_reducible apply l_nil) | (with_reducible apply q_then) | (with_reducible apply c_ret)) | ((with_reducible apply l_call); exact rfl; exact rfl; exact lc_fn (hS.rowSl 2 rfl) (hS.rowSl 3 rfl) (hS.rowSl 4 rfl); exact rfl; rintro _ w' ⟨rfl, hS'⟩; replace hS := hS.transA hS'; simp only [appA] at hS; clear hS'))
  (apply q_ret1); (repeat (first | exact ResL.nil | (apply ResL.tmp; exact rfl)))
  exact ⟨rfl, hS.sub (List.nil_sublist _)⟩
end Go.Proofs.Ytejnpppejalhfab
