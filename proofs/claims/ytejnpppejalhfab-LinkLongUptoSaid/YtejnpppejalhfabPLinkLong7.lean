/- Texts that the proof stands on, one behind the other: Lk12, PlRd, Im14, Im15, Im16, Im9, Im10, Im11, Im12, Im13, Im17, Im20, Im21, Lk13, Lk14, Lk15, Lk16, PlOf, Lk17. -/
import Derived.Test.YtejnpppejalhfabPLinkLong6
/- link.Link. -/
namespace Go.Proofs.Ytejnpppejalhfab
open Go.RowKit Go.Sort
def LinkF (M : Ob) (Lb : List Ob) (v : Value) (w w' : World) : Prop :=
  (linkC M Lb ≠ 0 ∧ v = .tuple #[lkA (.slice none 0 0) (.slice none 0 0) 0, .int .i64 (linkC M Lb)] ∧ St nF w w' []) ∨
  (linkC M Lb = 0 ∧ ∃ (s : List Ob × Int) (va vs : Value) (N : List (Sh × Value)), allP (M :: Lb) 8 0 (plStep ([], 1) M) = some s ∧ N.map (·.1) = linkSh (obP s.1) s.1 ∧ v = .tuple #[lkA va vs (16 + M.im.entry), .int .i64 0] ∧ St nF w w' (.row 131 4 va ((linkAr s.1).map arC) :: .row 49 3 vs (N.map fun p => shC p.1 p.2) :: N.map fxRow))
def kvI (o : Ob) : Value × Value := (stK o.im.name, imgV o)
/-- the map by names, while it is filled -/
def MapB (B : List Ob) (i : Nat) (L : List (Value × Value)) : Prop := (((B.take i).map fun o => o.im.name).Nodup → L = (B.take i).map kvI) ∧ (¬ ((B.take i).map fun o => o.im.name).Nodup → L.length < i) ∧ L.length ≤ i
theorem MapB.start (B : List Ob) : MapB B 0 [] := ⟨fun _ => rfl, fun h => absurd (by simp) h, Nat.le_refl _⟩
theorem MapB.mem {B : List Ob} {i : Nat} {L : List (Value × Value)} (h : L = (B.take i).map kvI) (nm : List UInt8) : (∃ v, (stK nm, v) ∈ L) ↔ nm ∈ (B.take i).map fun o => o.im.name := by
  rw [h]
  constructor
  · rintro ⟨v, hv⟩
    obtain ⟨o, ho, e⟩ := List.mem_map.1 hv
    have e1 := congrArg Prod.fst e
    unfold kvI stK at e1
    exact List.mem_map.2 ⟨o, ho, by simpa using e1⟩
  · intro hn
    obtain ⟨o, ho, rfl⟩ := List.mem_map.1 hn
    exact ⟨imgV o, List.mem_map.2 ⟨o, ho, rfl⟩⟩
theorem nd_snoc {α : Type} {l : List α} {x : α} : (l ++ [x]).Nodup ↔ l.Nodup ∧ x ∉ l := by
  rw [List.nodup_append]
  constructor
  · rintro ⟨h1, -, h3⟩
    exact ⟨h1, fun h => h3 x h x (by simp) rfl⟩
  · rintro ⟨h1, h2⟩
    refine ⟨h1, by simp, fun a ha b hb => ?_⟩
    have : b = x := by simpa using hb
    subst this
    rintro rfl
    exact h2 ha
theorem MapB.new {B : List Ob} {i : Nat} {L : List (Value × Value)} {o : Ob} (h : MapB B i L) (ho : B[i]? = some o) (hn : ∀ v, (stK o.im.name, v) ∉ L) : MapB B (i + 1) (L ++ [kvI o]) := by
  unfold MapB
  rw [List.take_add_one, ho]
  simp only [Option.toList_some, List.map_append, List.map_cons, List.map_nil, List.length_append, List.length_cons, List.length_nil]
  rw [nd_snoc]
  refine ⟨fun ⟨h1, h2⟩ => by rw [h.1 h1], fun hno => ?_, by have := h.2.2; omega⟩
  by_cases h1 : ((B.take i).map fun o => o.im.name).Nodup
  · exfalso
    have hin : o.im.name ∈ (B.take i).map fun o => o.im.name := Classical.byContradiction fun hc => hno ⟨h1, hc⟩
    obtain ⟨v, hv⟩ := (MapB.mem (h.1 h1) o.im.name).2 hin
    exact hn v hv
  · have := h.2.1 h1
    omega
theorem MapB.old {B : List Ob} {i j : Nat} {L : List (Value × Value)} {o : Ob} {u : Value} {x : Value × Value} (h : MapB B i L) (ho : B[i]? = some o) (hu : (stK o.im.name, u) ∈ L) : MapB B (i + 1) (L.set j x) := by
  unfold MapB
  rw [List.take_add_one, ho]
  simp only [Option.toList_some, List.map_append, List.map_cons, List.map_nil, List.length_set]
  rw [nd_snoc]
  refine ⟨fun ⟨h1, h2⟩ => absurd ((MapB.mem (h.1 h1) o.im.name).1 ⟨u, hu⟩) h2, fun hno => ?_, by have := h.2.2; omega⟩
  have := h.2.2
  omega
theorem ends_le : ∀ {l : List Ob}, (∀ o ∈ l, ImOk o.im) → 0 ≤ endsN l ∧ endsN l ≤ 255 * l.length
  | [], _ => by simp [endsN]
  | o :: l, h => by
    have h1 := lastEnd_le (h o (by simp))
    have h2 := ends_le (l := l) fun x hx => h x (List.mem_cons_of_mem _ hx)
    simp only [endsN, List.length_cons]
    omega
theorem perm3 {α : Type} (A B C : List α) (x y z : α) : ((A ++ B) ++ (x :: y :: z :: C)).Perm (x :: y :: z :: (A ++ (C ++ B))) := by
  refine List.perm_append_comm.trans ?_
  simp only [List.cons_append]
  exact (((List.perm_append_comm_assoc C A B).cons _).cons _).cons _
theorem find_first {B : List Ob} {i : Nat} {o : Ob} {p : Ob → Bool} (h : ∀ x ∈ B.take i, p x = false) (ho : B[i]? = some o) (hp : p o = true) : B.find? p = some o := by
  have e : B = B.take i ++ o :: B.drop (i + 1) := by
    conv => lhs; rw [← List.take_append_drop i B, drop_at ho]
  rw [e, List.find?_append]
  have : (B.take i).find? p = none := by
    rw [List.find?_eq_none]
    intro t ht
    rw [h t ht]
    simp
  rw [this, Option.none_or, List.find?_cons, hp]
set_option maxRecDepth 100000 in
set_option maxHeartbeats 8000000 in
theorem Link_fn {w : World} {M : Ob} {Lb : List Ob} {vl : Value} (hM : ObV w M) (hL : Sl nF w 6 vl (Lb.map imR)) (hLo : ∀ o ∈ Lb, ObV w o) (hB : ∀ o ∈ M :: Lb, ImB o.im ∧ ImD o.im) : Fn Try.prog 13 [imgV M, vl] w (fun v w' => LinkF M Lb v w w') := by
  have hbl := hL.bound
  obtain ⟨pl, cl, rfl⟩ := hL.len
  have hall : ∀ o ∈ M :: Lb, ObV w o := fun o ho => by
    rcases List.mem_cons.1 ho with rfl | h
    · exact hM
    · exact hLo o h
  have hM1 := hM
  obtain ⟨I, vn, vs, vy, vr, a0⟩ := M
  replace hM1 : ImV w I vn vs vy vr := hM1
  obtain ⟨pn, cn, rfl⟩ := hM1.needs.len
  obtain ⟨ps, cs, rfl⟩ := hM1.segs.len
  obtain ⟨py, cy, rfl⟩ := hM1.syms.len
  obtain ⟨pr, cr, rfl⟩ := hM1.rels.len
  refine fn_enter (fn := Try.f13) ⟨Try.func13, by kernel_rfl, by kernel_rfl⟩ (by exact rfl) Try.ntmps13 (by exact rfl) ?_
  have hS := St.start w
  show WC _ _ _ _ _ [(0, .agg [.string ⟨I.name.toArray⟩, .slice pn I.needs.length cn, .slice ps I.segs.length cs, .slice py I.syms.length cy, .slice pr I.rels.length cr, .int .i64 I.entry].toArray), (1, .slice pl Lb.length cl)] _
  by_cases h6 : 6 < Lb.length
  · repeat' (first | (first | ((with_reducible apply l_pure tabOk); exact rfl; exact rfl) | ((with_reducible apply l_build tabOk); exact rfl; exact rfl; ((exact (rfl : _ = some [_, _, _]))); exact rfl) | ((with_reducible apply l_box hS); exact rfl; exact rfl; exact rfl; intro g w' hS'; clear hS; have hS := hS'; clear hS') | ((with_reducible apply l_alloc hS tabOk); exact rfl; exact rfl; exact rfl; intro g w' hS'; clear hS; have hS := hS'; clear hS') | (((with_reducible apply l_store hS tabOk (i := 0)); exact rfl; exact rfl; exact rfl; exact rfl; exact rfl; exact rfl; exact rfl; exact rfl; ((exact (rfl : _ = [_, _, _]))); intro w' hS'; simp only [List.set] at hS'; clear hS; have hS := hS'; clear hS'))) | (first | (with_reducible apply c_seq) | (with_reducible apply c_region) | (with_reducible apply l_nil) | (with_reducible apply q_then) | (with_reducible apply c_ret) | (with_reducible apply q_then_ret)) | (((with_reducible apply c_ifd); exact rfl; all_goals (intro hb hp; try (exfalso; omega)))))
    (apply q_ret2); (repeat (first | exact ResL.nil | (apply ResL.tmp; exact rfl) | (apply ResL.cell; exact rfl; (((with_reducible apply Loads.st tabOk); exact rfl; ((exact hS.blkR 0 rfl)); exact rfl)))))
    refine Or.inl ⟨?_, ?_, hS.sub (List.nil_sublist _)⟩
    · unfold linkC
      rw [if_pos h6]
      decide
    · unfold linkC
      rw [if_pos h6]
      rfl
  repeat' (first | (first | ((with_reducible apply l_pure tabOk); exact rfl; exact rfl) | ((with_reducible apply l_load); exact rfl; (((with_reducible apply Loads.st tabOk); exact rfl; ((exact hS.blkR 4 rfl)); exact rfl)); exact rfl) | ((with_reducible apply l_build tabOk); exact rfl; exact rfl; ((exact (rfl : _ = some [_, _, _, _]))); exact rfl) | ((with_reducible apply l_box hS); exact rfl; exact rfl; exact rfl; intro g w' hS'; clear hS; have hS := hS'; clear hS') | ((with_reducible apply l_alloc hS tabOk); exact rfl; exact rfl; exact rfl; intro g w' hS'; clear hS; have hS := hS'; clear hS') | ((with_reducible apply l_bslice hS tabOk); exact rfl; exact rfl; exact rfl; exact rfl; exact rfl; exact rfl; exact rfl; intro g w' hS'; clear hS; have hS := hS'; clear hS')) | (first | (with_reducible apply c_seq) | (with_reducible apply c_region) | (with_reducible apply l_nil) | (with_reducible apply q_then) | (with_reducible apply c_skip)) | (((with_reducible apply c_ifd); exact rfl; all_goals (intro hb hp; try (exfalso; omega)))) | ((with_reducible apply l_gets); exact rfl; exact g_makeMap hS; rintro _ w' ⟨r, rfl, hS'⟩; clear hS; have hS := hS'; clear hS'))
  rename_i g2 w1 g4 w2 w3 rb w4 gw w5 g1 w6
  obtain ⟨B, hBe⟩ : ∃ B, B = (⟨I, .slice pn I.needs.length cn, .slice ps I.segs.length cs, .slice py I.syms.length cy, .slice pr I.rels.length cr, a0⟩ : Ob) :: Lb := ⟨_, rfl⟩
  have hBl : B.length = Lb.length + 1 := by rw [hBe]; rfl
  ((with_reducible apply l_call); exact rfl; exact rfl; exact concatI (hS.rowRo 0 rfl) (hS.rowSl 1 rfl) (hL.now hS) (by simp) (by rw [List.length_map]; omega); exact rfl; rintro u w' hS'; replace hS := hS.transA hS'; simp only [appA] at hS; clear hS')
  replace hS := St.reorder [5, 0, 3, 4, 6, 7] hS (by decide) rfl
  replace hS : St nF w w' (.obj rb (.map #[] 0) :: [.row 27 6 u (B.map imR), .blk gw [.map (some rb), .map (some r), .slice none 0 0, .int .i64 1], .obj r (.map #[] 0), .blk g4 [.slice none 0 0, .slice none 0 0, .int .i64 0], .blk g2 [.string ⟨I.name.toArray⟩, .slice pn I.needs.length cn, .slice ps I.segs.length cs, .slice py I.syms.length cy, .slice pr I.rels.length cr, .int .i64 I.entry]]) := by rw [hBe]; exact hS
  obtain ⟨pu, cu, rfl⟩ := hS.rowSlice 1 rfl
  rw [List.length_map] at hS ⊢
  have hallB : ∀ o ∈ B, ObV w o := by rw [hBe]; exact hall
  have hBB : ∀ o ∈ B, ImB o.im ∧ ImD o.im := by rw [hBe]; exact hB
  have hcode : linkC ⟨I, .slice pn I.needs.length cn, .slice ps I.segs.length cs, .slice py I.syms.length cy, .slice pr I.rels.length cr, a0⟩ Lb = match B.find? (fun o => !decide (checkIm o.im = 0)) with
    | some o => checkIm o.im
    | none => if (B.map fun o => o.im.name).Nodup then
        match allP B 8 0 (plStep ([], 1) ⟨I, .slice pn I.needs.length cn, .slice ps I.segs.length cs, .slice py I.syms.length cy, .slice pr I.rels.length cr, a0⟩) with
        | none => 6
        | some s => if s.2 > 256 then 3 else if symsAll (obP s.1) s.1 = true then 0 else 7
      else 5 := by
    unfold linkC
    rw [if_neg h6, hBe]
    rfl
  unfold LinkF
  rw [hcode, ← hBe]
  have hB7 : B.length ≤ 7 := by omega
  have hMB0 : (⟨I, .slice pn I.needs.length cn, .slice ps I.segs.length cs, .slice py I.syms.length cy, .slice pr I.rels.length cr, a0⟩ : Ob) ∈ B := by rw [hBe]; exact List.mem_cons_self
  clear hcode hall hLo hL hM hM1 hB h6
  repeat' (first | (((with_reducible apply l_pure tabOk); exact rfl; exact rfl)) | (first | (with_reducible apply c_seq) | (with_reducible apply c_region) | (with_reducible apply l_nil) | (with_reducible apply q_then) | (with_reducible apply c_block)))
  refine c_loopK (X := Nat × Array MapEntry × Nat × List (Value × Value)) (fun x => [(31, .int .i64 (x.1 : Nat))]) [2, 4, 6, 7, 29, 30] rfl (fun x => [.obj rb (.map x.2.1 x.2.2.1)]) (fun x => x.1 ≤ B.length ∧ MapG .string x.2.1 x.2.2.2 ∧ MapB B x.1 x.2.2.2 ∧ ∀ o ∈ B.take x.1, (!decide (checkIm o.im = 0)) = false) (fun x => B.length - x.1) (0, #[], 0, []) (by repeat (first | exact Fr.sub_nil _ | (apply Fr.sub_cons; exact rfl))) ⟨Nat.zero_le _, MapG.nil _, MapB.start B, by simp⟩ hS ?_
  clear hS
  rintro ⟨i, es, c, L⟩ w7 ⟨hi, hG, hMB, hck⟩ hS
  dsimp only [List.cons_append, List.nil_append] at hi hG hMB hck hS ⊢
  by_cases hlt : i < B.length
  rotate_left
  · obtain rfl : i = B.length := by omega
    rw [List.take_of_length_le (Nat.le_refl _)] at hck
    unfold MapB at hMB
    rw [List.take_of_length_le (Nat.le_refl _)] at hMB
    have hfn : B.find? (fun o => !decide (checkIm o.im = 0)) = none := by
      rw [List.find?_eq_none]
      intro x hx
      rw [hck x hx]
      simp
    have hsz := hG.size
    rw [hfn]
    dsimp only
    by_cases hnd : (B.map fun o => o.im.name).Nodup
    rotate_left
    · have hlt2 := hMB.2.1 hnd
      rw [if_neg hnd]
      repeat' (first | (first | ((with_reducible apply l_pure tabOk); exact rfl; exact rfl) | ((with_reducible apply l_load); exact rfl; (((with_reducible apply Loads.sc tabOk); exact rfl; ((exact hS.blkC 2 rfl rfl)))); exact rfl) | ((with_reducible apply l_build tabOk); exact rfl; exact rfl; ((exact (rfl : _ = some [_, _, _]))); exact rfl) | (((with_reducible apply l_store hS tabOk (i := 4)); exact rfl; exact rfl; exact rfl; exact rfl; exact rfl; exact rfl; exact rfl; exact rfl; ((exact (rfl : _ = [_, _, _]))); intro w' hS'; simp only [List.set] at hS'; clear hS; have hS := hS'; clear hS'))) | (first | (with_reducible apply c_seq) | (with_reducible apply c_region) | (with_reducible apply l_nil) | (with_reducible apply q_then) | (with_reducible apply c_exit) | (with_reducible apply c_ret) | (with_reducible apply q_then_exit) | (with_reducible apply q_then_ret) | (with_reducible apply q_block_exit)) | (((with_reducible apply c_ifd); exact rfl; all_goals (intro hb hp; try (exfalso; omega)))) | ((with_reducible apply l_gets); exact rfl; exact g_lenMap hS (i := 0) mt_byName rfl rfl; rintro _ _ ⟨rfl, rfl⟩))
      (apply q_ret2); (repeat (first | exact ResL.nil | (apply ResL.tmp; exact rfl) | (apply ResL.cell; exact rfl; (((with_reducible apply Loads.st tabOk); exact rfl; ((exact hS.blkR 4 rfl)); exact rfl)))))
      exact Or.inl ⟨by decide, rfl, hS.sub (List.nil_sublist _)⟩
    rw [if_pos hnd]
    obtain rfl := hMB.1 hnd
    rw [List.length_map] at hsz
    repeat' (first | (first | ((with_reducible apply l_pure tabOk); exact rfl; exact rfl) | ((with_reducible apply l_load); exact rfl; (first | ((with_reducible apply Loads.sc tabOk); exact rfl; ((exact hS.blkC 2 rfl rfl))) | ((with_reducible apply Loads.st tabOk); exact rfl; ((exact hS.blkR 5 rfl)); exact rfl)); exact rfl)) | (first | (with_reducible apply c_seq) | (with_reducible apply c_region) | (with_reducible apply l_nil) | (with_reducible apply q_then) | (with_reducible apply c_skip) | (with_reducible apply c_exit) | (with_reducible apply q_then_exit) | (with_reducible apply q_block_exit)) | (((with_reducible apply c_ifd); exact rfl; all_goals (intro hb hp; try (exfalso; omega)))) | ((with_reducible apply l_gets); exact rfl; exact g_lenMap hS (i := 0) mt_byName rfl rfl; rintro _ _ ⟨rfl, rfl⟩))
    replace hS := hS.addNil 105 7
    replace hS := St.reorder [3, 4, 0, 1, 5, 6] hS (by decide) rfl
    have hckB : ∀ o ∈ B, checkIm o.im = 0 := fun o ho => by
      have := hck o ho
      exact Classical.byContradiction fun hc => by rw [decide_eq_false hc] at this; cases this
    have hcall := all_fn (p := none) (c := 0) (es := #[]) (cc := 0) (rb := rb) (rp := r) (gw := gw) (B := B) (Γ := [_, _]) hS ⟨[], MapG.nil _, rfl⟩ hG (fun o ho => ⟨(hallB o ho).needs.nowM (Γ := [_, _]) hS, (hallB o ho).segs.nowM (Γ := [_, _]) hS, (hallB o ho).syms.nowM (Γ := [_, _]) hS, (hallB o ho).rels.nowM (Γ := [_, _]) hS⟩) (fun o ho => (check_zeroL (hckB o ho)).1) hMB0 hB7
    have hPk : ∀ s, allP B 8 0 (plStep ([], 1) ⟨I, .slice pn I.needs.length cn, .slice ps I.segs.length cs, .slice py I.syms.length cy, .slice pr I.rels.length cr, a0⟩) = some s → PkI s ∧ Fst ⟨I, .slice pn I.needs.length cn, .slice ps I.segs.length cs, .slice py I.syms.length cy, .slice pr I.rels.length cr, a0⟩ s := fun s hs => ⟨allP_inv (Inv := PkI) (fun s o h _ => h.step o) hs (PkI.start.step _), allP_inv (Inv := Fst _) (fun s o h _ => fst_step o h) hs (fst_start _)⟩
    generalize hR : allP B 8 0 (plStep ([], 1) ⟨I, .slice pn I.needs.length cn, .slice ps I.segs.length cs, .slice py I.syms.length cy, .slice pr I.rels.length cr, a0⟩) = R at hcall hPk ⊢
    clear hR hG hck hsz hMB hMB0 hlt
    ((with_reducible apply l_call); exact rfl; exact rfl; exact hcall; exact rfl; rintro _ w' ⟨rfl, p', c', es', cc', s, hP, hA, hs, hS'⟩)
    replace hS := St.transM (Θ := LkM gw rb r none 0 #[] 0 ([], 1) ++ [.obj rb (.map es c)]) (Γ := [_, _]) hS hS'
    clear hS' hcall
    simp only [LkM, LkS, List.cons_append, List.nil_append] at hS
    cases R with
    | none =>
      simp only [allV]
      repeat' (first | (first | ((with_reducible apply l_pure tabOk); exact rfl; exact rfl) | ((with_reducible apply l_build tabOk); exact rfl; exact rfl; ((exact (rfl : _ = some [_, _, _]))); exact rfl) | (((with_reducible apply l_store hS tabOk (i := 4)); exact rfl; exact rfl; exact rfl; exact rfl; exact rfl; exact rfl; exact rfl; exact rfl; ((exact (rfl : _ = [_, _, _]))); intro w' hS'; simp only [List.set] at hS'; clear hS; have hS := hS'; clear hS'))) | (first | (with_reducible apply c_seq) | (with_reducible apply c_region) | (with_reducible apply l_nil) | (with_reducible apply q_then) | (with_reducible apply c_ret) | (with_reducible apply q_then_ret)) | (((with_reducible apply c_ift); exact rfl; (exact rfl))))
      (apply q_ret2); (repeat (first | exact ResL.nil | (apply ResL.tmp; exact rfl) | (apply ResL.cell; exact rfl; (((with_reducible apply Loads.st tabOk); exact rfl; ((exact hS.blkR 4 rfl)); exact rfl)))))
      exact Or.inl ⟨by decide, rfl, hS.sub (List.nil_sublist _)⟩
    | some s' =>
      obtain rfl := hs s' rfl
      obtain ⟨hPk, hFs⟩ := hPk s rfl
      simp only [allV]
      by_cases h256 : s.2 > 256
      · rw [if_pos h256, if_pos h256]
        repeat' (first | (first | ((with_reducible apply l_pure tabOk); exact rfl; exact rfl) | ((with_reducible apply l_build tabOk); exact rfl; exact rfl; ((exact (rfl : _ = some [_, _, _]))); exact rfl) | (((with_reducible apply l_store hS tabOk (i := 4)); exact rfl; exact rfl; exact rfl; exact rfl; exact rfl; exact rfl; exact rfl; exact rfl; ((exact (rfl : _ = [_, _, _]))); intro w' hS'; simp only [List.set] at hS'; clear hS; have hS := hS'; clear hS'))) | (first | (with_reducible apply c_seq) | (with_reducible apply c_region) | (with_reducible apply l_nil) | (with_reducible apply q_then) | (with_reducible apply c_ret) | (with_reducible apply q_then_ret)) | (((with_reducible apply c_ift); exact rfl; (exact rfl))))
        (apply q_ret2); (repeat (first | exact ResL.nil | (apply ResL.tmp; exact rfl) | (apply ResL.cell; exact rfl; (((with_reducible apply Loads.st tabOk); exact rfl; ((exact hS.blkR 4 rfl)); exact rfl)))))
        exact Or.inl ⟨by decide, rfl, hS.sub (List.nil_sublist _)⟩
      rw [if_neg h256, if_neg h256]
      repeat' (first | (((with_reducible apply l_pure tabOk); exact rfl; exact rfl)) | (first | (with_reducible apply c_seq) | (with_reducible apply c_region) | (with_reducible apply l_nil) | (with_reducible apply q_then) | (with_reducible apply c_skip)) | (((with_reducible apply c_iff); exact rfl; (exact rfl))))
      obtain ⟨os, nx⟩ := s
      dsimp only at hP hA hPk hFs h256 hS ⊢
      obtain ⟨rs, hrs⟩ := hFs
      dsimp only at hrs
      have hAs := hA.sub
      have hAl := hA.len
      dsimp only at hAs hAl
      have hosB : ∀ o ∈ os, ImF nF w o ∧ checkIm o.im = 0 := fun o ho => by
        obtain ⟨a, ha⟩ := hAs o ho
        have h1 := hallB { o with at_ := a } ha
        have h2 : checkIm o.im = 0 := hckB { o with at_ := a } ha
        exact ⟨⟨h1.needs, h1.segs, h1.syms, h1.rels⟩, h2⟩
      have hpos : 0 < os.length := by rw [hrs]; simp
      obtain ⟨gos, rfl⟩ := hS.rowSome 2 rfl hpos
      have hrow : (os.map obC)[0]? = some [.string ⟨I.name.toArray⟩, .slice pn I.needs.length cn, .slice ps I.segs.length cs, .slice py I.syms.length cy, .slice pr I.rels.length cr, .int .i64 I.entry, .int .i64 16] := by rw [hrs]; rfl
      have hent : 0 ≤ I.entry ∧ I.entry < 4096 := by
        have h1 := check_zeroL (hosB _ (by rw [hrs]; exact List.mem_cons_self)).2
        obtain ⟨se, hse, -⟩ := h1.2.2.2.entry
        exact own_small h1.1.s2 hse
      refine c_heldS 13 rfl hS (by kernel_rfl) ?_
      intro wh hh
      clear hS
      have hS := hh
      clear hh
      ((with_reducible apply a_take 0 tabOk); exact rfl; kernel_rfl; kernel_rfl; kernel_rfl; exact (fun _ _ _ h => h); exact hS; exact rfl; exact rfl)
      ((with_reducible apply a_take 1 tabOk); exact rfl; kernel_rfl; kernel_rfl; kernel_rfl; exact (fun _ _ _ h => h); exact hS; exact rfl; exact rfl)
      ((with_reducible apply a_take 2 tabOk); exact rfl; kernel_rfl; kernel_rfl; kernel_rfl; exact (fun _ _ _ h => h); exact hS; exact rfl; exact rfl)
      ((with_reducible apply a_takeL 3); exact rfl; kernel_rfl; kernel_rfl; kernel_rfl; exact (fun _ _ _ h => h); exact hS; exact rfl; (intro wd hd; replace hd : St _ _ wd _ := hd; (((with_reducible apply Loads.sl tabOk); exact rfl; ((exact hd.blkC 0 rfl rfl))))); exact rfl)
      ((with_reducible apply a_ix 4 tabOk); exact rfl; kernel_rfl; kernel_rfl; kernel_rfl; exact (fun _ _ _ _ h => h); exact hS; exact rfl; exact rfl; exact rfl; ((exact rfl)); ((omega)); exact rfl)
      ((with_reducible apply a_take 5 tabOk); exact rfl; kernel_rfl; kernel_rfl; kernel_rfl; exact (fun _ _ _ h => h); exact hS; exact rfl; exact rfl)
      ((with_reducible apply a_takeL 6); exact rfl; kernel_rfl; kernel_rfl; kernel_rfl; exact (fun _ _ _ h => h); exact hS; exact rfl; (intro wd hd; replace hd : St _ _ wd _ := hd; (((with_reducible apply Loads.sc tabOk); exact rfl; ((exact hd.rowCj 2 rfl (by assumption) rfl))))); exact rfl)
      ((with_reducible apply a_take 7 tabOk); exact rfl; kernel_rfl; kernel_rfl; kernel_rfl; exact (fun _ _ _ h => h); exact hS; exact rfl; exact rfl)
      ((with_reducible apply a_takeL 8); exact rfl; kernel_rfl; kernel_rfl; kernel_rfl; exact (fun _ _ _ h => h); exact hS; exact rfl; (intro wd hd; replace hd : St _ _ wd _ := hd; (((with_reducible apply Loads.sc tabOk); exact rfl; ((exact hd.blkC 5 rfl rfl))))); exact rfl)
      refine a_takeR 9 rfl (by kernel_rfl) (by kernel_rfl) (by kernel_rfl) (fun _ _ _ h => h) hS (fun a ha => r_add rfl rfl (by omega) (by omega) a ha _) rfl ?_
      ((with_reducible apply a_build 10 tabOk); exact rfl; kernel_rfl; kernel_rfl; kernel_rfl; exact (fun _ _ _ _ h => h); exact hS; exact rfl; exact rfl; ((exact (rfl : _ = some [_, _, _]))); exact rfl)
      refine a_one (i := 11) (by kernel_rfl) ?_
      refine o_gets rfl (g_allocT hS tabOk rfl rfl) rfl ?_
      rintro _ w' ⟨g, rfl, hS'⟩
      clear hS; have hS := hS'; clear hS'
      refine ⟨hS.drop, ?_⟩
      refine a_one (i := 12) (by kernel_rfl) ?_
      refine o_gets0 (Φ := fun _ w' => St _ _ w' _) rfl (g_store hS tabOk (i := 0) rfl rfl rfl rfl rfl (Nat.le_of_ble_eq_true rfl) (List.all_eq_true.1 rfl)) ?_
      intro _ w' hS'
      simp only [List.set] at hS'
      clear hS; have hS := hS'; clear hS'
      refine ⟨hS.drop, ?_⟩
      refine a_done (by kernel_rfl) ?_
      repeat' (first | (first | ((with_reducible apply l_pure tabOk); exact rfl; exact rfl) | ((with_reducible apply l_load); exact rfl; (((with_reducible apply Loads.sl tabOk); exact rfl; ((exact hS.blkC 1 rfl rfl)))); exact rfl)) | (first | (with_reducible apply c_seq) | (with_reducible apply c_region) | (with_reducible apply l_nil) | (with_reducible apply q_then) | (with_reducible apply c_block)))
      obtain ⟨g12, hg12⟩ : ∃ g12, g12 = g := ⟨_, rfl⟩
      rw [← hg12] at hS ⊢
      clear hg12
      replace hS := (hS.addNil 49 3).addNil 131 4
      replace hS := St.reorder [5, 3, 7, 2, 0, 1] hS (by decide) rfl
      clear hrow
      refine c_loopK (Γ := []) (X := Nat × (Option Addr × Nat) × (Option Addr × Nat) × List Ar × List (Sh × Value)) (fun x => [(81, .int .i64 (x.1 : Nat))]) [4, 6, 12, 79, 80] rfl (fun x => .row 105 7 (.slice (some ⟨gos, 0, none⟩) os.length c') (os.map obC) :: .blk gw [.map (some rb), .map (some r), .slice (some ⟨gos, 0, none⟩) os.length c', .int .i64 nx] :: .blk g4 [.slice none 0 0, .slice none 0 0, .int .i64 0] :: (LyS g12 x.2.1.1 x.2.1.2 x.2.2.1.1 x.2.2.1.2 (16 + I.entry) x.2.2.2.1 x.2.2.2.2 ++ x.2.2.2.2.map fxRow)) (fun x => x.1 ≤ os.length ∧ x.2.2.2.1 = linkAr (os.take x.1) ∧ x.2.2.2.2.map (·.1) = linkSh (obP os) (os.take x.1) ∧ AOk x.2.2.2.1 ∧ x.2.2.2.1.length ≤ 6 * x.1 ∧ x.2.2.2.2.length ≤ 1530 * x.1 ∧ symsAll (obP os) (os.take x.1) = true) (fun x => os.length - x.1) (0, (none, 0), (none, 0), [], []) (by repeat (first | exact Fr.sub_nil _ | (apply Fr.sub_cons; exact rfl))) ⟨Nat.zero_le _, rfl, rfl, (fun _ h => nomatch h), Nat.le_refl _, Nat.le_refl _, rfl⟩ hS ?_
      clear hS
      rintro ⟨j, ⟨qa, da⟩, ⟨qs, dq⟩, A, Lp⟩ w8 ⟨hj, hA1, hL1, hAo, hAn, hLn, hsy⟩ hS
      dsimp only [] at hj hA1 hL1 hAo hAn hLn hsy hS ⊢
      simp only [LyS, List.cons_append, List.nil_append, List.append_nil] at hS
      by_cases hjt : j < os.length
      rotate_left
      · rw [List.take_of_length_le (by omega)] at hA1 hL1 hsy
        rw [if_pos hsy]
        repeat' (first | (first | ((with_reducible apply l_pure tabOk); exact rfl; exact rfl) | ((with_reducible apply l_load); exact rfl; (((with_reducible apply Loads.st tabOk); exact rfl; ((exact hS.blkR 3 rfl)); exact rfl)); exact rfl) | (((with_reducible apply l_store hS tabOk (i := 2)); exact rfl; exact rfl; exact rfl; exact rfl; exact rfl; exact rfl; exact rfl; exact rfl; ((exact (rfl : _ = [_, _, _]))); intro w' hS'; simp only [List.set] at hS'; clear hS; have hS := hS'; clear hS'))) | (first | (with_reducible apply c_seq) | (with_reducible apply c_region) | (with_reducible apply l_nil) | (with_reducible apply q_then) | (with_reducible apply c_exit) | (with_reducible apply c_ret) | (with_reducible apply q_then_exit) | (with_reducible apply q_block_exit)) | (((with_reducible apply c_ifd); exact rfl; all_goals (intro hb hp; try (exfalso; omega)))))
        (apply q_ret2); (repeat (first | exact ResL.nil | (apply ResL.tmp; exact rfl) | (apply ResL.cell; exact rfl; (((with_reducible apply Loads.st tabOk); exact rfl; ((exact hS.blkR 2 rfl)); exact rfl)))))
        refine Or.inr ⟨rfl, (os, nx), .slice qa A.length da, .slice qs Lp.length dq, Lp, rfl, hL1, rfl, ?_⟩
        rw [← hA1]
        exact hS.drop.drop.drop.drop
      obtain ⟨o, ho⟩ := lt_get (l := os) (i := j) (by omega)
      have hom := List.mem_of_getElem? ho
      have hrow : (os.map obC)[j]? = some [.string ⟨o.im.name.toArray⟩, o.vn, o.vs, o.vy, o.vr, .int .i64 o.im.entry, .int .i64 o.at_] := map_get (f := obC) ho
      obtain ⟨hof, hoc⟩ := hosB o hom
      obtain ⟨z1, z2, z3, z4⟩ := check_zeroL hoc
      have hos0 : ∀ x ∈ os, ImOk x.im := fun x hx => (check_zeroL (hosB x hx).2).1
      have hat : o.at_ = (1 + endsN (os.take j)) * 16 := hPk.at_ j o ho
      have hen := ends_le (l := os.take j) fun x hx => hos0 x (List.mem_of_mem_take hx)
      rw [List.length_take] at hen
      obtain ⟨b0, hb0⟩ : ∃ b0, b0 = 1 + endsN (os.take j) := ⟨_, rfl⟩
      rw [← hb0] at hat
      have hb1 : 1 ≤ b0 ∧ b0 ≤ 3000 := by omega
      have hdiv : o.at_ / 16 = b0 := by omega
      have hsyr : ∀ x ∈ os, ∀ s ∈ x.im.syms, -9223372036854775808 ≤ x.at_ + s.at_ ∧ x.at_ + s.at_ ≤ 9223372036854775807 := fun x hx s hs => by
        obtain ⟨q, hq⟩ := List.mem_iff_getElem?.1 hx
        have q1 : x.at_ = (1 + endsN (os.take q)) * 16 := hPk.at_ q x hq
        have q2 := ends_le (l := os.take q) fun x hx => hos0 x (List.mem_of_mem_take hx)
        rw [List.length_take] at q2
        obtain ⟨y, hy⟩ := Option.isSome_iff_exists.1 ((check_zeroL (hosB x hx).2).2.2.2.syms s hs)
        have q3 := own_small (hos0 x hx).s2 hy
        omega
      have hshl : (shO (obP os) o.im b0).length ≤ 1530 := by
        have h1 := pgs_len_le (b0 := b0) z1.s2
        have h2 := z1.s3
        unfold shO
        rw [List.length_map]
        omega
      have hov : ObV w o := ⟨hof.needs, hof.segs, hof.syms, hof.rels⟩
      obtain ⟨A', hA'⟩ : ∃ A', A' = arsO A b0 o.im.segs := ⟨_, rfl⟩
      have hA2 : A' = linkAr (os.take (j + 1)) := by rw [hA', linkAr_step ho, hdiv, hA1]
      have hA3 := arsO_ok hAo hb1.1 (by omega) z1.s2
      rw [← hA'] at hA3
      have z5 := z1.s3
      obtain ⟨J, un, us, uy, ur, at_⟩ := o
      dsimp only at hrow hat hdiv hshl z1 z2 z3 z4 z5 hA'
      replace hA3 : AOk A' ∧ A'.length ≤ A.length + J.segs.length := hA3
      replace hov : ImV w J un us uy ur := hov
      obtain ⟨qn, en, rfl⟩ := hov.needs.len
      obtain ⟨qs', es_, rfl⟩ := hov.segs.len
      obtain ⟨qy, ey, rfl⟩ := hov.syms.len
      obtain ⟨qr, er, rfl⟩ := hov.rels.len
      repeat' (first | (first | ((with_reducible apply l_pure tabOk); exact rfl; exact rfl) | ((with_reducible apply l_load); exact rfl; (((with_reducible apply Loads.st tabOk); exact rfl; (first | exact hS.blkR 0 rfl | exact hS.rowR 0 rfl (by assumption)); exact rfl)); exact rfl) | ((with_reducible apply l_ix tabOk); exact rfl; exact rfl; exact rfl; ((exact rfl)); ((omega)); exact rfl) | ((with_reducible apply l_alloc hS tabOk); exact rfl; exact rfl; exact rfl; intro g w' hS'; clear hS; have hS := hS'; clear hS') | (((with_reducible apply l_store hS tabOk (i := 0)); exact rfl; exact rfl; exact rfl; exact rfl; exact rfl; exact rfl; exact rfl; exact rfl; ((exact rfl)); intro w' hS'; simp only [List.set] at hS'; clear hS; have hS := hS'; clear hS'))) | (first | (with_reducible apply c_seq) | (with_reducible apply c_region) | (with_reducible apply l_nil) | (with_reducible apply q_then) | (with_reducible apply c_skip) | (with_reducible apply c_block)) | (((with_reducible apply c_ifd); exact rfl; all_goals (intro hb hp; try (exfalso; omega)))))
      replace hS := St.reorderT 7 [4, 5, 6, 1, 2, 3] hS (by decide) rfl
      simp only [appA, List.drop_succ_cons, List.drop_zero] at hS
      have hcall := lay_fn (go := g12) (gw := gw) (qa := qa) (da := da) (qs := qs) (dq := dq) (en := 16 + I.entry) (A := A) (Lp := Lp) (os := os) (b0 := b0) (Γ := _ :: _ :: _ :: Lp.map fxRow) hS (St.ownBs (Θ := LyS g12 qa da qs dq (16 + I.entry) A Lp) (Γ := _ :: _ :: _ :: Lp.map fxRow) hS 1 rfl rfl) (St.ownSl (Θ := LyS g12 qa da qs dq (16 + I.entry) A Lp) (Γ := _ :: _ :: _ :: Lp.map fxRow) hS 0 rfl) (fun x hx => ⟨(hosB x hx).1.needs.nowM (Γ := _ :: _ :: _ :: Lp.map fxRow) hS, (hosB x hx).1.segs.nowM (Γ := _ :: _ :: _ :: Lp.map fxRow) hS, (hosB x hx).1.syms.nowM (Γ := _ :: _ :: _ :: Lp.map fxRow) hS, (hosB x hx).1.rels.nowM (Γ := _ :: _ :: _ :: Lp.map fxRow) hS⟩) hsyr hom hat hb1.1 (by omega) z1.s2 z3 z4 z2 z1.s3 hAo (by omega) (by omega)
      ((with_reducible apply l_call); exact rfl; exact rfl; exact hcall; exact rfl; rintro v w' hv)
      clear hcall
      rcases hv with ⟨hsf, rfl, hS'⟩ | ⟨hst, rfl, qa', da', qs', dq', N, hN, hS'⟩
      · replace hS := St.transM (Θ := LyS g12 qa da qs dq (16 + I.entry) A Lp) (Γ := _ :: _ :: _ :: Lp.map fxRow) hS hS'
        clear hS'
        simp only [List.nil_append] at hS
        have hsn : symsAll (obP os) os = false := all_no ho hsf
        rw [if_neg (by rw [hsn]; simp)]
        repeat' (first | (first | ((with_reducible apply l_pure tabOk); exact rfl; exact rfl) | ((with_reducible apply l_build tabOk); exact rfl; exact rfl; ((exact (rfl : _ = some [_, _, _]))); exact rfl) | (((with_reducible apply l_store hS tabOk (i := 2)); exact rfl; exact rfl; exact rfl; exact rfl; exact rfl; exact rfl; exact rfl; exact rfl; ((exact (rfl : _ = [_, _, _]))); intro w' hS'; simp only [List.set] at hS'; clear hS; have hS := hS'; clear hS'))) | (first | (with_reducible apply c_seq) | (with_reducible apply c_region) | (with_reducible apply l_nil) | (with_reducible apply q_then) | (with_reducible apply c_ret) | (with_reducible apply q_then_ret) | (with_reducible apply q_block_ret)) | (((with_reducible apply c_ift); exact rfl; (exact rfl))))
        (apply q_ret2); (repeat (first | exact ResL.nil | (apply ResL.tmp; exact rfl) | (apply ResL.cell; exact rfl; (((with_reducible apply Loads.st tabOk); exact rfl; ((exact hS.blkR 2 rfl)); exact rfl)))))
        exact Or.inl ⟨by decide, rfl, hS.sub (List.nil_sublist _)⟩
      · replace hS := (St.transM (Θ := LyS g12 qa da qs dq (16 + I.entry) A Lp) (Γ := _ :: _ :: _ :: Lp.map fxRow) hS hS').perm (perm3 _ _ _ _ _ _)
        clear hS'
        rw [← hA', ← List.map_append] at hS
        replace hN : N.map (·.1) = shO (obP os) J b0 := hN
        have hNl : N.length ≤ 1530 := by
          have := congrArg List.length hN
          rw [List.length_map] at this
          omega
        simp only [LyS, List.cons_append, List.nil_append] at hS
        repeat' (first | (first | ((with_reducible apply l_add); exact rfl; exact rfl; omega; omega; exact rfl) | ((with_reducible apply l_pure tabOk); exact rfl; exact rfl)) | (first | (with_reducible apply c_seq) | (with_reducible apply c_region) | (with_reducible apply l_nil) | (with_reducible apply q_then) | (with_reducible apply c_skip) | (with_reducible apply q_block)) | (((with_reducible apply c_iff); exact rfl; (exact rfl))))
        refine q_loopK (j + 1, (qa', da'), (qs', dq'), A', Lp ++ N) (by repeat (first | exact Fr.sub_nil _ | (apply Fr.sub_cons; exact rfl))) ⟨by show j + 1 ≤ _; omega, hA2, ?_, hA3.1, by show A'.length ≤ 6 * (j + 1); omega, by show (Lp ++ N).length ≤ 1530 * (j + 1); rw [List.length_append]; omega, all_take_succ hsy ho hst⟩ (by simpa only [LyS, List.cons_append, List.nil_append, List.append_nil] using hS) (by show _ - (j + 1) < _ - j; omega)
        show (Lp ++ N).map (·.1) = linkSh (obP os) (os.take (j + 1))
        rw [List.map_append, hL1, hN, linkSh_step ho, hdiv]
  obtain ⟨o, ho⟩ := lt_get (l := B) (i := i) (by omega)
  have hrow : (B.map imR)[i]? = some [.string ⟨o.im.name.toArray⟩, o.vn, o.vs, o.vy, o.vr, .int .i64 o.im.entry] := map_get (f := imR) ho
  have hov := hallB o (List.mem_of_getElem? ho)
  have hob := hBB o (List.mem_of_getElem? ho)
  obtain ⟨gu, rfl⟩ := hS.rowSome 1 rfl (by omega)
  obtain ⟨J, un, us, uy, ur, a1⟩ := o
  replace hov : ImV w J un us uy ur := hov
  replace hob : ImB J ∧ ImD J := hob
  dsimp only at hrow
  obtain ⟨qn, en, rfl⟩ := hov.needs.len
  obtain ⟨qs, es_, rfl⟩ := hov.segs.len
  obtain ⟨qy, ey, rfl⟩ := hov.syms.len
  obtain ⟨qr, er, rfl⟩ := hov.rels.len
  by_cases hc0 : checkIm J = 0
  rotate_left
  · have hd : (!decide (checkIm J = 0)) = true := by rw [decide_eq_false hc0]; rfl
    have hfind := find_first (p := fun o => !decide (checkIm o.im = 0)) hck ho hd
    repeat' (first | (first | ((with_reducible apply l_pure tabOk); exact rfl; exact rfl) | ((with_reducible apply l_load); exact rfl; (((with_reducible apply Loads.st tabOk); exact rfl; (first | exact hS.blkR 0 rfl | exact hS.rowR 1 rfl (by assumption)); exact rfl)); exact rfl) | ((with_reducible apply l_ix tabOk); exact rfl; exact rfl; exact rfl; ((exact rfl)); ((omega)); exact rfl) | ((with_reducible apply l_build tabOk); exact rfl; exact rfl; ((exact (rfl : _ = some [_, _, _]))); exact rfl) | ((with_reducible apply l_alloc hS tabOk); exact rfl; exact rfl; exact rfl; intro g w' hS'; clear hS; have hS := hS'; clear hS') | (((with_reducible apply l_store hS tabOk (i := 0)); exact rfl; exact rfl; exact rfl; exact rfl; exact rfl; exact rfl; exact rfl; exact rfl; ((exact (rfl : _ = [_, _, _, _, _, _]))); intro w' hS'; simp only [List.set] at hS'; clear hS; have hS := hS'; clear hS'))) | (first | (with_reducible apply c_seq) | (with_reducible apply c_region) | (with_reducible apply l_nil) | (with_reducible apply q_then) | (with_reducible apply c_skip) | (with_reducible apply c_block) | (with_reducible apply c_ret) | (with_reducible apply q_then_ret) | (with_reducible apply q_block_ret)) | (first | ((with_reducible apply c_ift); exact rfl; (assumption)) | ((with_reducible apply c_ifd); exact rfl; all_goals (intro hb hp; try (exfalso; omega)))) | ((with_reducible apply l_call); exact rfl; exact rfl; exact Check_fn (hov.now hS) hob.1 hob.2; exact rfl; rintro _ w' ⟨rfl, hS'⟩; replace hS := hS.transA hS'; simp only [appA] at hS; clear hS') | ((with_reducible apply l_store hS tabOk (i := 5)); exact rfl; exact rfl; exact rfl; exact rfl; exact rfl; exact rfl; exact rfl; exact rfl; ((exact (rfl : _ = [_, _, _]))); intro w' hS'; simp only [List.set] at hS'; clear hS; have hS := hS'; clear hS'))
    (apply q_ret2); (repeat (first | exact ResL.nil | (apply ResL.tmp; exact rfl) | (apply ResL.cell; exact rfl; (((with_reducible apply Loads.st tabOk); exact rfl; ((exact hS.blkR 5 rfl)); exact rfl)))))
    refine Or.inl ⟨?_, ?_, hS.sub (List.nil_sublist _)⟩
    · rw [hfind]; exact hc0
    · rw [hfind]; rfl
  have hd : (!decide (checkIm J = 0)) = false := by rw [decide_eq_true hc0]; rfl
  repeat' (first | (first | ((with_reducible apply l_pure tabOk); exact rfl; exact rfl) | ((with_reducible apply l_load); exact rfl; (((with_reducible apply Loads.st tabOk); exact rfl; (first | exact hS.blkR 0 rfl | exact hS.rowR 1 rfl (by assumption)); exact rfl)); exact rfl) | ((with_reducible apply l_ix tabOk); exact rfl; exact rfl; exact rfl; ((exact rfl)); ((omega)); exact rfl) | ((with_reducible apply l_alloc hS tabOk); exact rfl; exact rfl; exact rfl; intro g w' hS'; clear hS; have hS := hS'; clear hS') | (((with_reducible apply l_store hS tabOk (i := 0)); exact rfl; exact rfl; exact rfl; exact rfl; exact rfl; exact rfl; exact rfl; exact rfl; ((exact (rfl : _ = [_, _, _, _, _, _]))); intro w' hS'; simp only [List.set] at hS'; clear hS; have hS := hS'; clear hS'))) | (first | (with_reducible apply c_seq) | (with_reducible apply c_region) | (with_reducible apply l_nil) | (with_reducible apply q_then) | (with_reducible apply c_skip) | (with_reducible apply c_block)) | (first | ((with_reducible apply c_iff); exact rfl; (assumption)) | ((with_reducible apply c_ifd); exact rfl; all_goals (intro hb hp; try (exfalso; omega)))) | ((with_reducible apply l_call); exact rfl; exact rfl; exact Check_fn (hov.now hS) hob.1 hob.2; exact rfl; rintro _ w' ⟨rfl, hS'⟩; replace hS := hS.transA hS'; simp only [appA] at hS; clear hS'))
  (focus ((with_reducible apply c_draw _ _ _ 7 (by kernel_rfl) (by kernel_rfl) hS); (simp only [List.take_succ_cons, List.take_zero, List.drop_succ_cons, List.drop_zero]); (repeat' ((first | ((with_reducible apply d_pure tabOk); exact rfl; exact rfl) | ((with_reducible apply d_load); exact rfl; (intro wd hd; replace hd : St _ _ wd _ := hd; (first | ((with_reducible apply Loads.sc tabOk); exact rfl; (first | exact hd.blkC 0 rfl rfl | exact hd.blkC 3 rfl rfl)) | ((with_reducible apply Loads.st tabOk); exact rfl; ((exact hd.blkR 0 rfl)); exact rfl))); exact rfl)))); all_goals ((with_reducible apply d_nil); intro w' hS'; clear hS; have hS := hS'; clear hS')))
  have hck2 : ∀ x ∈ B.take (i + 1), (!decide (checkIm x.im = 0)) = false := by
    rw [List.take_add_one, ho]
    intro x hx
    rcases List.mem_append.1 hx with h | h
    · exact hck x h
    · have : x = ⟨J, .slice qn J.needs.length en, .slice qs J.segs.length es_, .slice qy J.syms.length ey, .slice qr J.rels.length er, a1⟩ := by simpa using h
      rw [this]
      exact hd
  by_cases hin : ∃ v, (stK J.name, v) ∈ L
  · obtain ⟨v0, hv0⟩ := hin
    refine l_gets0 (g_updO hS (i := 1) mt_byName ut_string rfl rfl rfl rfl hG (k := stK J.name) trivial hv0) ?_
    rintro - w9 ⟨es', c', j, u', -, hG', hS'⟩
    simp only [List.set] at hS'
    clear hS; have hS := hS'; clear hS'
    repeat' (first | (first | ((with_reducible apply l_add); exact rfl; exact rfl; omega; omega; exact rfl) | ((with_reducible apply l_pure tabOk); exact rfl; exact rfl)) | (first | (with_reducible apply c_region) | (with_reducible apply l_nil) | (with_reducible apply q_then) | (with_reducible apply q_block)))
    replace hS := St.reorder [1, 2, 3, 4, 5, 6] hS (by decide) rfl
    exact q_loopK (i + 1, es', c', _) (by repeat (first | exact Fr.sub_nil _ | (apply Fr.sub_cons; exact rfl))) ⟨by show i + 1 ≤ _; omega, hG', hMB.old ho hv0, hck2⟩ hS (by show _ - (i + 1) < _ - i; omega)
  · have hno : ∀ v, (stK J.name, v) ∉ L := fun v hv => hin ⟨v, hv⟩
    refine l_gets0 (g_updN hS (i := 1) mt_byName ut_string rfl rfl rfl rfl hG (k := stK J.name) trivial hno) ?_
    rintro - w9 ⟨es', c', hG', hS'⟩
    simp only [List.set] at hS'
    clear hS; have hS := hS'; clear hS'
    repeat' (first | (first | ((with_reducible apply l_add); exact rfl; exact rfl; omega; omega; exact rfl) | ((with_reducible apply l_pure tabOk); exact rfl; exact rfl)) | (first | (with_reducible apply c_region) | (with_reducible apply l_nil) | (with_reducible apply q_then) | (with_reducible apply q_block)))
    replace hS := St.reorder [1, 2, 3, 4, 5, 6] hS (by decide) rfl
    exact q_loopK (i + 1, es', c', _) (by repeat (first | exact Fr.sub_nil _ | (apply Fr.sub_cons; exact rfl))) ⟨by show i + 1 ≤ _; omega, hG', hMB.new ho hno, hck2⟩ hS (by show _ - (i + 1) < _ - i; omega)
end Go.Proofs.Ytejnpppejalhfab
/- Reading an image's bytes, in plain Lean. -/
namespace Go.Proofs.Ytejnpppejalhfab
open Go.RowKit Go.Sort

abbrev Bs8 := List UInt8
section
variable {α : Type} {one : Bs8 → Option (α × Bs8)}
end
/-! what is written is read as it was -/
theorem wrap64_in {m : Int} (h1 : -9223372036854775808 ≤ m) (h2 : m ≤ 9223372036854775807) : wrap64 m = m := by unfold wrap64; omega
end Go.Proofs.Ytejnpppejalhfab
/- The reader's glass. -/
namespace Go.Proofs.Ytejnpppejalhfab
open Go.RowKit Go.Sort

end Go.Proofs.Ytejnpppejalhfab
/- image.Read: 'each', and the closures. -/
namespace Go.Proofs.Ytejnpppejalhfab
open Go.RowKit Go.Sort

end Go.Proofs.Ytejnpppejalhfab
/- image.Read: the closures that read one thing. -/
namespace Go.Proofs.Ytejnpppejalhfab
open Go.RowKit Go.Sort
end Go.Proofs.Ytejnpppejalhfab
/- An image: the reference's places, and its check. -/
namespace Go.Proofs.Ytejnpppejalhfab
open Go.RowKit Go.Sort

end Go.Proofs.Ytejnpppejalhfab
/- The reference's check of an image. -/
namespace Go.Proofs.Ytejnpppejalhfab
open Go.RowKit Go.Sort

theorem eb (b : Bool) {c : Bool} (h : b = c) : Value.bool b = .bool c := by rw [h]
end Go.Proofs.Ytejnpppejalhfab
/- The writers: ink and pen. -/
namespace Go.Proofs.Ytejnpppejalhfab
open Go.RowKit Go.Sort

theorem leB_len (n : Int) (k : Nat) : (leB n k).length = k := by
  induction k with
  | zero => rfl
  | succ k ih => simp [leB, ih]
/-- one who writes: a variable at g that holds a slice of bytes of one's own -/
def PenA (g : Nat) (p : Option Addr) (m c : Nat) (l : List UInt8) : List Asr := [.blk g [.slice p m c], .row 5 1 (.slice p m c) (bR l)]
def Pens (g : Nat) (p : Option Addr) (m c : Nat) (l l' : List UInt8) (w : World) : Value → World → Prop := fun _ w' => ∃ p' m' c', St (fps (PenA g p m c l)) w w' (PenA g p' m' c' l')
/-- a text's bytes -/
def txB (s : List UInt8) : List UInt8 := leB s.length 8 ++ s
def trB (b : Bool) : Int := if b then 1 else 0
/-! the program's -/
/-- a row ahead of one who writes is none of the pen's things -/
theorem Pens.row {F : Nat → Prop} {w0 w : World} {Γ : List Asr} {g m c e sz : Nat} {p : Option Addr} {l : List UInt8} {v : Value} {rows : List (List Value)} (h : St F w0 w (.row e sz v rows :: .blk g [.slice p m c] :: .row 5 1 (.slice p m c) (bR l) :: Γ)) : Sl (fps (PenA g p m c l)) w sz v rows := by
  rcases h.rowSl 0 rfl with h1 | ⟨b, off, cap, h1, h2, h3, h4⟩
  · exact Or.inl h1
  · refine Or.inr ⟨b, off, cap, h1, h2, h3, ⟨h4.lt, ?_, h4.len, h4.one, h4.cells⟩⟩
    rintro ⟨A, hA, hA2⟩
    have hp := (List.pairwise_cons.1 h.apart).1
    have hown : (Asr.row e sz v rows).fp = some b := by
      rcases h.rowForm 0 rfl with ⟨h5, _⟩ | ⟨g2, cap2, h5, _⟩
      · rw [h1] at h5; cases h5
      · rw [h1] at h5; cases h5; rw [h1]; rfl
    have hAp : Aprt (.row e sz v rows) A := hp A (by
      unfold PenA at hA
      simp only [List.mem_cons, List.not_mem_nil, or_false] at hA
      rcases hA with rfl | rfl
      · simp
      · simp)
    rcases hAp with h6 | h6
    · rw [hown] at h6; cases h6
    · exact h6 (hown.trans hA2.symm)
end Go.Proofs.Ytejnpppejalhfab
/- An image's bytes; the reference's writer. -/
namespace Go.Proofs.Ytejnpppejalhfab
open Go.RowKit Go.Sort

theorem txB_len (s : List UInt8) : (txB s).length = 8 + s.length := by unfold txB; rw [List.length_append, leB_len]
def sgB (s : Sg) : List UInt8 := leB s.pg 8 ++ (leB s.n 8 ++ (txB s.data ++ (leB (trB s.wr) 8 ++ leB (trB s.ex) 8)))
def syB (s : Sy) : List UInt8 := txB s.name ++ leB s.at_ 8
def rlB (r : Rl) : List UInt8 := leB r.at_ 8 ++ (txB r.name ++ leB r.add 8)
def b2 (I : Im) : List UInt8 := txB I.name ++ leB I.needs.length 8
def b4 (I : Im) : List UInt8 := b2 I ++ I.needs.flatMap txB ++ leB I.segs.length 8
/-- what the check tells of the lengths -/
structure ImL (I : Im) : Prop where
  name : I.name.length ≤ 12
  needs : ∀ s ∈ I.needs, (txB s).length ≤ 20
  segs : ∀ s ∈ I.segs, (sgB s).length ≤ 5000
  syms : ∀ s ∈ I.syms, (syB s).length ≤ 28
  rels : ∀ s ∈ I.rels, (rlB s).length ≤ 36
  n1 : I.needs.length ≤ 4
  n2 : I.segs.length ≤ 6
  n3 : I.syms.length ≤ 12
  n4 : I.rels.length ≤ 16
theorem nm_le {l : List UInt8} (h : nmB l = true) : l.length ≤ 12 := by
  unfold nmB at h
  rw [Bool.and_eq_true, decide_eq_true_eq] at h
  omega
theorem checkIm_zero {I : Im} (h : checkIm I = 0) : nmsB I = true ∧ cntB I = true ∧ sgsB I = true ∧ aptB I = true ∧ plcB I = true := by
  unfold checkIm at h
  cases h1 : nmsB I <;> simp [h1] at h
  cases h2 : cntB I <;> simp [h2] at h
  cases h3 : sgsB I <;> simp [h3] at h
  cases h4 : aptB I <;> simp [h4] at h
  cases h5 : plcB I <;> simp [h5] at h
  exact ⟨rfl, rfl, rfl, rfl, rfl⟩
theorem ImL.of {I : Im} (h : checkIm I = 0) : ImL I := by
  obtain ⟨h1, h2, h3, _, _⟩ := checkIm_zero h
  unfold nmsB at h1
  simp only [Bool.and_eq_true] at h1
  obtain ⟨a1, a2, a3, a4⟩ := h1
  unfold cntB at h2
  rw [decide_eq_true_eq] at h2
  refine ⟨nm_le a1, fun s hs => ?_, fun s hs => ?_, fun s hs => ?_, fun s hs => ?_, by omega, by omega, by omega, by omega⟩
  · have := nm_le (List.all_eq_true.1 a2 s hs)
    rw [txB_len]; omega
  · have h4 := List.all_eq_true.1 h3 s hs
    unfold sgOk at h4
    rw [decide_eq_true_eq] at h4
    simp only [sgB, List.length_append, leB_len, txB_len]
    omega
  · have := nm_le (List.all_eq_true.1 a3 s hs)
    simp only [syB, List.length_append, leB_len, txB_len]
    omega
  · have h4 := List.all_eq_true.1 a4 s hs
    rw [Bool.or_eq_true, decide_eq_true_eq] at h4
    have : s.name.length ≤ 12 := by
      rcases h4 with e | e
      · rw [e]; simp
      · exact nm_le e
    simp only [rlB, List.length_append, leB_len, txB_len]
    omega
end Go.Proofs.Ytejnpppejalhfab
/- image.Write. -/
namespace Go.Proofs.Ytejnpppejalhfab
open Go.RowKit Go.Sort

end Go.Proofs.Ytejnpppejalhfab
/- image.Read. -/
namespace Go.Proofs.Ytejnpppejalhfab
open Go.RowKit Go.Sort
end Go.Proofs.Ytejnpppejalhfab
/- The reference's SameImages. -/
namespace Go.Proofs.Ytejnpppejalhfab
open Go.RowKit Go.Sort
end Go.Proofs.Ytejnpppejalhfab
/- tiny. -/
namespace Go.Proofs.Ytejnpppejalhfab
open Go.RowKit Go.Sort
theorem Bytes_fn (n : Int) (k : Nat) (w : World) (hk : k ≤ 8) : Fn Try.prog 69 [.int .i64 n, .int .i64 k] w (RBf (.string ⟨(leB n k).toArray⟩) w) :=
  Fn.of_rb ⟨Try.func69, by kernel_rfl, by kernel_rfl⟩ (rb_below (bytes_any n k w hk))
def encI (op a b c imm : Int) : List UInt8 := leB op 1 ++ leB a 1 ++ leB b 1 ++ leB c 1 ++ leB imm 4
set_option maxRecDepth 100000 in
theorem InstrBytes_fn (op a b c imm : Int) (w : World) : Fn Try.prog 96 [.agg [.int .i64 op, .int .i64 a, .int .i64 b, .int .i64 c, .int .i64 imm].toArray] w (RBf (.string ⟨(encI op a b c imm).toArray⟩) w) := by
  refine fn_enter (fn := Try.f96) ⟨Try.func96, by kernel_rfl, by kernel_rfl⟩ (by exact rfl) Try.ntmps96 (by exact rfl) ?_
  have hS := St.start w
  repeat' (first | (first | ((with_reducible apply l_pure tabOk); exact rfl; exact rfl) | ((with_reducible apply l_box hS); exact rfl; exact rfl; exact rfl; intro g w' hS'; clear hS; have hS := hS'; clear hS')) | (first | (with_reducible apply c_seq) | (with_reducible apply c_region) | (with_reducible apply l_nil) | (with_reducible apply q_then)))
  (focus ((with_reducible apply c_drawAll nF _ _ (by kernel_rfl) (by kernel_rfl) hS); (repeat' (first | (first | ((with_reducible apply d_pure tabOk); exact rfl; exact rfl) | ((with_reducible apply d_load); exact rfl; (intro wd hd; replace hd : St _ _ wd _ := hd; (((with_reducible apply Loads.sc tabOk); exact rfl; ((exact hd.blkC 0 rfl rfl))))); exact rfl)) | ((with_reducible apply d_call); exact rfl; exact rfl; (intro wd hd; replace hd : St _ _ wd _ := hd; exact Bytes_fn _ 1 _ (by decide)); exact rfl) | ((with_reducible apply d_call); exact rfl; exact rfl; (intro wd hd; replace hd : St _ _ wd _ := hd; exact Bytes_fn _ 4 _ (by decide)); exact rfl) | ((with_reducible apply d_runs); intro a ha; exact r_cat (by exact rfl) (by exact rfl) (by simp only [List.length_append, leB_len]; omega) a ha _; exact rfl))); all_goals ((with_reducible apply d_nil); intro w' hS'; clear hS; have hS := hS'; clear hS')))
  repeat' ((first | (with_reducible apply l_nil) | (with_reducible apply q_then) | (with_reducible apply c_ret)))
  (apply q_ret1); (repeat (first | exact ResL.nil | (apply ResL.tmp; exact rfl)))
  exact ⟨rfl, hS.sub (List.nil_sublist _)⟩
def tinyD : List UInt8 := encI 1 0 0 0 7 ++ encI 16 0 0 0 6
def tinyS : Sg := ⟨0, 1, tinyD, false, true⟩
def tinyI : Im := ⟨[116], [], [tinyS], [], [], 0⟩
theorem tiny_fn (w : World) : Fn Try.prog 45 [] w (fun v w' => ∃ g, v = imA tinyI (.slice none 0 0) (.slice (some ⟨g, 0, none⟩) 1 1) (.slice none 0 0) (.slice none 0 0) ∧ St nF w w' [.row 82 5 (.slice (some ⟨g, 0, none⟩) 1 1) [sgC tinyS]]) := by
  refine fn_enter (fn := Try.f45) ⟨Try.func45, by kernel_rfl, by kernel_rfl⟩ (by exact rfl) Try.ntmps45 (by exact rfl) ?_
  have hS := St.start w
  repeat' (first | (first | ((with_reducible apply l_build tabOk); exact rfl; exact rfl; (first | exact (rfl : _ = some [_, _, _, _, _]) | exact (rfl : _ = some [_, _, _, _, _, _])); exact rfl) | ((with_reducible apply l_alloc hS tabOk); exact rfl; exact rfl; exact rfl; intro g w' hS'; clear hS; have hS := hS'; clear hS') | (((with_reducible apply l_store hS tabOk (i := 1)); exact rfl; exact rfl; exact rfl; exact rfl; exact rfl; exact rfl; exact rfl; exact rfl; ((exact (rfl : _ = [_, _, _, _, _, _]))); intro w' hS'; simp only [List.set] at hS'; clear hS; have hS := hS'; clear hS')) | ((with_reducible apply l_bslice hS tabOk); exact rfl; exact rfl; exact rfl; exact rfl; exact rfl; exact rfl; exact rfl; intro g w' hS'; clear hS; have hS := hS'; clear hS')) | (first | (with_reducible apply c_seq) | (with_reducible apply c_region) | (with_reducible apply l_nil) | (with_reducible apply q_then) | (with_reducible apply c_ret)) | ((with_reducible apply l_call); exact rfl; exact rfl; exact InstrBytes_fn 1 0 0 0 7 _; exact rfl; rintro _ w' ⟨rfl, hS'⟩; replace hS := hS.transA hS'; simp only [appA] at hS; clear hS') | ((with_reducible apply l_call); exact rfl; exact rfl; exact InstrBytes_fn 16 0 0 0 6 _; exact rfl; rintro _ w' ⟨rfl, hS'⟩; replace hS := hS.transA hS'; simp only [appA] at hS; clear hS') | ((with_reducible apply l_cat); exact rfl; exact rfl; decide; exact rfl))
  rename Nat => g
  refine q_ret (vs := [imA tinyI (.slice none 0 0) (.slice (some ⟨g, 0, none⟩) 1 1) (.slice none 0 0) (.slice none 0 0)]) rfl ?_ rfl ⟨g, rfl, hS.reorder [0] (by decide) rfl⟩
  refine ResL.cell rfl ?_ ResL.nil
  unfold imA
  ((with_reducible apply Loads.st tabOk); exact rfl; ((exact hS.blkR 1 rfl)); exact rfl)
theorem check_tiny : checkIm tinyI = 0 := by
  have h1 : nmsB tinyI = true := by decide +kernel
  have h2 : cntB tinyI = true := by decide +kernel
  have h3 : sgsB tinyI = true := by decide +kernel
  have h4 : aptB tinyI = true := by
    refine pB_true ⟨fun j a b h1 h2 => ?_, ?_, ?_⟩
    · cases j <;> simp [tinyI] at h2
    · rintro ⟨i, j, x, _, h, _⟩; simp [tinyI] at h
    · rintro ⟨i, j, x, _, h, _⟩; simp [tinyI] at h
  have h5 : plcB tinyI = true := by
    refine pB_true ⟨?_, ?_, ?_, ?_, ?_⟩
    · intro s hs; simp [tinyI] at hs
    · intro k r h; simp [tinyI] at h
    · intro k q r h; simp [tinyI] at h
    · exact ⟨tinyS, by decide +kernel, rfl⟩
    · decide
  unfold checkIm
  simp [h1, h2, h3, h4, h5]
theorem tiny_B : ImB tinyI := ⟨by decide, by decide, by decide, by decide⟩
theorem tiny_D : ImD tinyI := by intro s hs; simp [tinyI] at hs; subst hs; decide
end Go.Proofs.Ytejnpppejalhfab
/- linkBegun. -/
namespace Go.Proofs.Ytejnpppejalhfab
open Go.RowKit Go.Sort
def tinySh : Sh := ⟨1, tinyD, []⟩
def tinyAr : Ar := ⟨1, 1, 2, false⟩
theorem find_tiny (vn vs vy vr : Value) (a : Int) : ([⟨tinyI, vn, vs, vy, vr, a⟩] : List Ob).find? (fun o => !decide (checkIm o.im = 0)) = none := by
  rw [List.find?_eq_none]
  intro x hx
  simp only [List.mem_singleton] at hx
  subst hx
  rw [check_tiny]
  decide
theorem all_tiny (vn vs vy vr : Value) (a : Int) : allP [⟨tinyI, vn, vs, vy, vr, a⟩] 8 0 (plStep ([], 1) ⟨tinyI, vn, vs, vy, vr, a⟩) = some ([⟨tinyI, vn, vs, vy, vr, 16⟩], 2) := rfl
theorem link_tiny (vn vs vy vr : Value) (a : Int) : linkC ⟨tinyI, vn, vs, vy, vr, a⟩ [] = 0 := by
  unfold linkC
  rw [if_neg (by decide), find_tiny]
  dsimp only
  rw [if_pos (by simp), all_tiny]
  rfl
theorem sh_tiny : shO [(tinyI, 16)] tinyI 1 = [tinySh] := by decide +kernel
theorem ar_tiny : ([rawA 1 tinyS]).foldl joinStep [] = [tinyAr] := by decide +kernel
theorem lt_fn {w : World} {vs : Value} (h : ImV w tinyI (.slice none 0 0) vs (.slice none 0 0) (.slice none 0 0)) : Fn Try.prog 13 [imA tinyI (.slice none 0 0) vs (.slice none 0 0) (.slice none 0 0), .slice none 0 0] w (fun v w' => ∃ va vh u, v = .tuple #[.agg [va, vh, .int .i64 16].toArray, .int .i64 0] ∧ St nF w w' [.row 131 4 va [arC tinyAr], .row 49 3 vh [shC tinySh u], .row 124 2 u []]) := by
  have H := Link_fn (M := ⟨tinyI, .slice none 0 0, vs, .slice none 0 0, .slice none 0 0, 0⟩) (Lb := []) (vl := .slice none 0 0) h (Sl.nil0 w 6) (by simp) (by
    intro o ho
    simp only [List.mem_singleton] at ho
    subst ho
    exact ⟨tiny_B, tiny_D⟩)
  refine H.mono fun v w' hv => ?_
  rcases hv with ⟨h1, -, -⟩ | ⟨-, s, va, vh, N, h1, h2, rfl, h4⟩
  · exact absurd (link_tiny _ _ _ _ _) h1
  · rw [all_tiny] at h1
    cases h1
    have e1 : N.map (·.1) = [tinySh] := h2.trans (Eq.trans (by rfl) ((List.append_nil _).trans sh_tiny))
    have e2 : linkAr [⟨tinyI, .slice none 0 0, vs, .slice none 0 0, .slice none 0 0, 16⟩] = [tinyAr] := Eq.trans (by rfl) ar_tiny
    match N, e1 with
    | [(S, u)], e1 =>
      simp only [List.map_cons, List.map_nil, List.cons.injEq, and_true] at e1
      subst e1
      refine ⟨va, vh, u, rfl, ?_⟩
      have h5 := h4
      rw [show linkAr ([⟨tinyI, .slice none 0 0, vs, .slice none 0 0, .slice none 0 0, 16⟩], (2 : Int)).1 = [tinyAr] from e2] at h5
      exact h5
theorem right_tiny : rightS tinySh = true := by decide +kernel
theorem fill_tiny : fillS tinySh = tinyD := by decide +kernel
theorem chk_tiny : checkLk [tinyAr] [tinySh] 16 = 0 := by decide +kernel
theorem ft_fn {w : World} {u : Value} (hu : ShV w tinySh u) : Fn Try.prog 18 [.agg (shC tinySh u).toArray] w (RBf (.tuple #[.string ⟨tinyD.toArray⟩, .int .i64 0]) w) := by
  have := Fill_fn hu
  rwa [if_pos right_tiny, if_pos right_tiny, fill_tiny] at this
theorem fz_fn (w : World) : Fn Try.prog 18 [.agg [.int .i64 0, .string ⟨#[]⟩, .slice none 0 0].toArray] w (RBf (.tuple #[.string ⟨[].toArray⟩, .int .i64 1]) w) := Fill_fn (S := ⟨0, [], []⟩) (Sl.nil0 w 2)
theorem lc_fn {w : World} {va vh u : Value} (h1 : Sl nF w 4 va [arC tinyAr]) (h2 : Sl nF w 3 vh [shC tinySh u]) (h3 : Sl nF w 2 u []) : Fn Try.prog 21 [.agg [va, vh, .int .i64 16].toArray] w (RBf (.int .i64 0) w) := by
  have := LkCheck_fn (A := [tinyAr]) (Lp := [(tinySh, u)]) (va := va) (vs := vh) (en := 16) h1 ⟨h2, fun p hp => by simp only [List.mem_singleton] at hp; subst hp; exact h3⟩ (by omega) (by omega)
  rwa [show shs [(tinySh, u)] = [tinySh] from rfl, chk_tiny] at this
set_option maxRecDepth 100000 in
set_option maxHeartbeats 8000000 in
theorem linkBegun_fn (w : World) : Fn Try.prog 16 [] w (RBf (.bool true) w) := by
  refine fn_enter (fn := Try.f16) ⟨Try.func16, by kernel_rfl, by kernel_rfl⟩ (by exact rfl) Try.ntmps16 (by exact rfl) ?_
  have hS := St.start w
  repeat' (first | (((with_reducible apply l_pure tabOk); exact rfl; exact rfl)) | (first | (with_reducible apply c_seq) | (with_reducible apply c_region) | (with_reducible apply l_nil) | (with_reducible apply q_then)) | ((with_reducible apply l_call); exact rfl; exact rfl; exact tiny_fn _; exact rfl; rintro _ w' ⟨gt, rfl, hS'⟩; replace hS := hS.transA hS'; simp only [appA] at hS; clear hS'))
  ((with_reducible apply l_call); exact rfl; exact rfl; exact lt_fn ⟨Sl.nil0 _ 1, hS.rowSl 0 rfl, Sl.nil0 _ 2, Sl.nil0 _ 3⟩; exact rfl; rintro _ w' ⟨va, vh, u, rfl, hS'⟩)
  obtain ⟨pa, ca, rfl⟩ : ∃ p c, va = .slice p 1 c := hS'.rowSlice 0 rfl
  obtain ⟨ph, ch, rfl⟩ : ∃ p c, vh = .slice p 1 c := hS'.rowSlice 1 rfl
  obtain ⟨pu, cu, rfl⟩ : ∃ p c, u = .slice p 0 c := hS'.rowSlice 2 rfl
  obtain ⟨gh, rfl⟩ := hS'.rowSome 1 rfl (by simp)
  replace hS := hS.transA hS'; simp only [appA] at hS; clear hS'
  have hrow : ([shC tinySh (.slice pu 0 cu)])[0]? = some [.int .i64 1, .string ⟨tinyD.toArray⟩, .slice pu 0 cu] := rfl
  have hseg : ([sgC tinyS])[0]? = some [.int .i64 0, .int .i64 1, .string ⟨tinyD.toArray⟩, .bool false, .bool true] := rfl
  repeat' (first | (first | ((with_reducible apply l_pure tabOk); exact rfl; exact rfl) | ((with_reducible apply l_load); exact rfl; (first | ((with_reducible apply Loads.sl tabOk); exact rfl; ((exact hS.blkC 0 rfl rfl))) | ((with_reducible apply Loads.st tabOk); exact rfl; ((exact hS.rowR 2 rfl (by assumption))); exact rfl)); exact rfl) | ((with_reducible apply l_ix tabOk); exact rfl; exact rfl; exact rfl; ((exact rfl)); ((simp only [List.length_map, List.length_cons, List.length_nil, List.length_append]; omega)); exact rfl) | ((with_reducible apply l_build tabOk); exact rfl; exact rfl; ((exact (rfl : _ = some [_, _, _]))); exact rfl) | ((with_reducible apply l_alloc hS tabOk); exact rfl; exact rfl; exact rfl; intro g w' hS'; clear hS; have hS := hS'; clear hS') | (((with_reducible apply l_store hS tabOk (i := 0)); exact rfl; exact rfl; exact rfl; exact rfl; exact rfl; exact rfl; exact rfl; exact rfl; ((exact (rfl : _ = [_, _, _]))); intro w' hS'; simp only [List.set] at hS'; clear hS; have hS := hS'; clear hS')) | (first | ((with_reducible apply l_yes); exact rfl; exact rfl; exact rfl; exact rfl; (exact rfl)) | ((with_reducible apply l_pick1); exact rfl; ((exact rfl)); exact rfl; exact rfl) | ((with_reducible apply l_pick2); exact rfl; ((exact rfl)); exact rfl; exact rfl))) | (first | (with_reducible apply c_seq) | (with_reducible apply c_region) | (with_reducible apply l_nil) | (with_reducible apply q_then) | (with_reducible apply c_skip)) | (((with_reducible apply c_iff); exact rfl; (exact rfl))) | ((with_reducible apply l_call); exact rfl; exact rfl; exact ft_fn (hS.rowSl 3 rfl); exact rfl; rintro _ w' ⟨rfl, hS'⟩; replace hS := hS.transA hS'; simp only [appA] at hS; clear hS') | ((with_reducible apply l_call); exact rfl; exact rfl; exact fz_fn _; exact rfl; rintro _ w' ⟨rfl, hS'⟩; replace hS := hS.transA hS'; simp only [appA] at hS; clear hS'))
  ((with_reducible apply l_call); exact rfl; exact rfl; exact tiny_fn _; exact rfl; rintro _ w' ⟨gt2, rfl, hS'⟩; replace hS := hS.transA hS'; simp only [appA] at hS; clear hS')
  repeat' (first | (first | ((with_reducible apply l_pure tabOk); exact rfl; exact rfl) | ((with_reducible apply l_load); exact rfl; (first | ((with_reducible apply Loads.sc tabOk); exact rfl; (first | exact hS.blkC 1 rfl rfl | exact hS.rowCj 0 rfl (by assumption) rfl)) | ((with_reducible apply Loads.st tabOk); exact rfl; ((exact hS.blkR 1 rfl)); exact rfl)); exact rfl) | ((with_reducible apply l_ix tabOk); exact rfl; exact rfl; exact rfl; ((exact rfl)); ((simp only [List.length_map, List.length_cons, List.length_nil, List.length_append]; omega)); exact rfl) | (first | ((with_reducible apply l_yes); exact rfl; exact rfl; exact rfl; exact rfl; (exact rfl)) | ((with_reducible apply l_pick1); exact rfl; ((exact rfl)); exact rfl; exact rfl))) | (first | (with_reducible apply l_nil) | (with_reducible apply q_then) | (with_reducible apply c_ret)) | ((with_reducible apply l_call); exact rfl; exact rfl; exact lc_fn (hS.rowSl 2 rfl) (hS.rowSl 3 rfl) (hS.rowSl 4 rfl); exact rfl; rintro _ w' ⟨rfl, hS'⟩; replace hS := hS.transA hS'; simp only [appA] at hS; clear hS'))
  (apply q_ret1); (repeat (first | exact ResL.nil | (apply ResL.tmp; exact rfl)))
  exact ⟨rfl, hS.sub (List.nil_sublist _)⟩
end Go.Proofs.Ytejnpppejalhfab
/- The reference's find and address of a link. -/
namespace Go.Proofs.Ytejnpppejalhfab
open Go.RowKit Go.Sort
def findO (B : List Ob) (nm : List UInt8) : Int := match B.findIdx? (fun o => decide (o.im.name = nm)) with
  | some k => (k : Nat)
  | none => -1
theorem findO_hit {B : List Ob} {nm : List UInt8} {k : Nat} {o : Ob} (h : (B.take k).all (fun o => !decide (o.im.name = nm)) = true) (ho : B[k]? = some o) (hn : o.im.name = nm) : findO B nm = (k : Nat) := by
  unfold findO
  have : B.findIdx? (fun o => decide (o.im.name = nm)) = some k := by
    rw [List.findIdx?_eq_some_iff_getElem]
    obtain ⟨h1, rfl⟩ := List.getElem?_eq_some_iff.1 ho
    refine ⟨h1, by simp [hn], fun j hj => ?_⟩
    have := List.all_eq_true.1 h B[j] (List.mem_iff_getElem?.2 ⟨j, by rw [List.getElem?_take]; simp [hj]⟩)
    simpa using this
  rw [this]
theorem findO_miss {B : List Ob} {nm : List UInt8} {k : Nat} (h : (B.take k).all (fun o => !decide (o.im.name = nm)) = true) (hk : B.length ≤ k) : findO B nm = -1 := by
  unfold findO
  rw [List.take_of_length_le hk] at h
  have : B.findIdx? (fun o => decide (o.im.name = nm)) = none := by
    rw [List.findIdx?_eq_none_iff]
    intro x hx
    have := List.all_eq_true.1 h x hx
    simpa using this
  rw [this]
set_option maxRecDepth 100000 in
set_option maxHeartbeats 8000000 in
theorem find_fn {B : List Ob} {w : World} {vl : Value} (nm : List UInt8) (hL : Sl nF w 6 vl (B.map imR)) : Fn Try.prog 105 [vl, .string ⟨nm.toArray⟩] w (RBf (.int .i64 (findO B nm)) w) := by
  have bnd := hL.bound
  obtain ⟨p, c, rfl⟩ := hL.len
  refine fn_enter (fn := Try.f105) ⟨Try.func105, by kernel_rfl, by kernel_rfl⟩ (by exact rfl) Try.ntmps105 (by exact rfl) ?_
  have hS := St.start w
  repeat' (first | (((with_reducible apply l_pure tabOk); exact rfl; exact rfl)) | (first | (with_reducible apply c_seq) | (with_reducible apply c_region) | (with_reducible apply l_nil) | (with_reducible apply q_then) | (with_reducible apply c_block)))
  refine c_loopK (X := Nat) (fun x => [(5, .int .i64 (x : Nat))]) [0, 1] rfl (fun _ => []) (fun x => x ≤ B.length ∧ (B.take x).all (fun o => !decide (o.im.name = nm)) = true) (fun x => B.length - x) 0 (by repeat (first | exact Fr.sub_nil _ | (apply Fr.sub_cons; exact rfl))) (by simp) hS ?_
  clear hS
  intro i w1 hI hS
  obtain ⟨hi, hall⟩ := hI
  dsimp only [List.cons_append, List.nil_append] at hi hall hS ⊢
  by_cases hlt : i < B.length
  rotate_left
  · rw [findO_miss hall (by omega)]
    repeat' (first | (((with_reducible apply l_pure tabOk); exact rfl; exact rfl)) | (first | (with_reducible apply c_seq) | (with_reducible apply c_region) | (with_reducible apply l_nil) | (with_reducible apply q_then) | (with_reducible apply c_exit) | (with_reducible apply c_ret) | (with_reducible apply q_then_exit) | (with_reducible apply q_block_exit)) | (((with_reducible apply c_ifd); exact rfl; all_goals (intro hb hp; try (exfalso; omega)))))
    (apply q_ret1); (repeat (first | exact ResL.nil | (apply ResL.tmp; exact rfl)))
    exact ⟨rfl, hS⟩
  obtain ⟨o, ho⟩ := lt_get (l := B) (i := i) (by omega)
  have hrow : (B.map imR)[i]? = some [.string ⟨o.im.name.toArray⟩, o.vn, o.vs, o.vy, o.vr, .int .i64 o.im.entry] := map_get (f := imR) ho
  obtain ⟨b, off, rfl, hro⟩ := hL.at_ (i := i) hlt
  by_cases hn : o.im.name = nm
  · have hd : decide (o.im.name = nm) = true := decide_eq_true hn
    rw [findO_hit hall ho hn]
    repeat' (first | (first | ((with_reducible apply l_pure tabOk); exact rfl; exact rfl) | ((with_reducible apply l_load); exact rfl; (((with_reducible apply Loads.sc tabOk); exact rfl; ((exact hS.roC0 (by assumption) (by assumption) rfl)))); exact rfl) | ((with_reducible apply l_ix tabOk); exact rfl; exact rfl; exact rfl; ((exact rfl)); ((omega)); exact rfl)) | (first | (with_reducible apply c_seq) | (with_reducible apply c_region) | (with_reducible apply l_nil) | (with_reducible apply q_then) | (with_reducible apply c_skip) | (with_reducible apply c_block) | (with_reducible apply c_ret) | (with_reducible apply q_then_ret) | (with_reducible apply q_block_ret)) | (first | ((with_reducible apply c_ift); exact rfl; (assumption)) | ((with_reducible apply c_ifd); exact rfl; all_goals (intro hb hp; try (exfalso; omega)))))
    (apply q_ret1); (repeat (first | exact ResL.nil | (apply ResL.tmp; exact rfl)))
    exact ⟨rfl, hS⟩
  · have hd : decide (o.im.name = nm) = false := decide_eq_false hn
    repeat' (first | (first | ((with_reducible apply l_add); exact rfl; exact rfl; omega; omega; exact rfl) | ((with_reducible apply l_pure tabOk); exact rfl; exact rfl) | ((with_reducible apply l_load); exact rfl; (((with_reducible apply Loads.sc tabOk); exact rfl; ((exact hS.roC0 (by assumption) (by assumption) rfl)))); exact rfl) | ((with_reducible apply l_ix tabOk); exact rfl; exact rfl; exact rfl; ((exact rfl)); ((omega)); exact rfl)) | (first | (with_reducible apply c_seq) | (with_reducible apply c_region) | (with_reducible apply l_nil) | (with_reducible apply q_then) | (with_reducible apply c_skip) | (with_reducible apply c_block) | (with_reducible apply q_block)) | (first | ((with_reducible apply c_iff); exact rfl; (assumption)) | ((with_reducible apply c_ifd); exact rfl; all_goals (intro hb hp; try (exfalso; omega)))))
    exact q_loopK (i + 1) (by repeat (first | exact Fr.sub_nil _ | (apply Fr.sub_cons; exact rfl))) ⟨by show i + 1 ≤ B.length; omega, all_take_succ hall ho (by simp [hn])⟩ hS (by show B.length - (i + 1) < B.length - i; omega)
def rbC (o : Ob) : List Value := [.string ⟨o.im.name.toArray⟩, o.vn, o.vs, o.vy, o.vr, .int .i64 o.im.entry, .int .i64 (o.at_ / 16)]
def adrT (os : List (Im × Int)) (at_ : Int) (r : Rl) : Option Int := (if r.name = [] then some at_ else adr os r.name).map fun t => IntKind.i64.wrap (t + r.add)
theorem bytesOf_adr (os : List (Im × Int)) (at_ : Int) (r : Rl) : bytesOf os at_ r = (adrT os at_ r).map fun n => leB n 8 := by
  unfold bytesOf adrT
  rw [Option.map_map]
  rfl
set_option maxRecDepth 100000 in
set_option maxHeartbeats 8000000 in
theorem adrR_fn {os : List Ob} {w : World} {lv : Value} {own : Ob} {r : Rl} {bo : Int} (hl : Sl nF w 7 lv (os.map rbC)) (hO : ∀ o ∈ os, ObV w o) (hb : ∀ o ∈ os, ∃ b : Int, o.at_ = b * 16 ∧ 0 ≤ b ∧ b ≤ 100000) (hbo : own.at_ = bo * 16 ∧ 0 ≤ bo ∧ bo ≤ 100000) (hr : ∀ o ∈ os, ∀ s ∈ o.im.syms, -9223372036854775808 ≤ o.at_ + s.at_ ∧ o.at_ + s.at_ ≤ 9223372036854775807) : Fn Try.prog 52 [lv, .agg (rbC own).toArray, .agg (rlC r).toArray] w (RBf (AdrV (adrT (obP os) own.at_ r)) w) := by
  have bnd := hl.bound
  obtain ⟨p, c, rfl⟩ := hl.len
  obtain ⟨rat, nm, rad⟩ := r
  have hdb : own.at_ / 16 = bo := by omega
  unfold rbC rlC
  rw [hdb, hbo.1]
  refine fn_enter (fn := Try.f52) ⟨Try.func52, by kernel_rfl, by kernel_rfl⟩ (by exact rfl) Try.ntmps52 (by exact rfl) ?_
  have hS := St.start w
  by_cases hnm : nm = []
  · subst hnm
    repeat' (first | (first | ((with_reducible apply l_mul); exact rfl; exact rfl; omega; omega; exact rfl) | ((with_reducible apply l_pure tabOk); exact rfl; exact rfl) | ((with_reducible apply l_load); exact rfl; (((with_reducible apply Loads.sc tabOk); exact rfl; (first | exact hS.blkC 0 rfl rfl | exact hS.blkC 1 rfl rfl))); exact rfl) | ((with_reducible apply l_box hS); exact rfl; exact rfl; exact rfl; intro g w' hS'; clear hS; have hS := hS'; clear hS')) | (first | (with_reducible apply c_seq) | (with_reducible apply c_region) | (with_reducible apply l_nil) | (with_reducible apply q_then) | (with_reducible apply c_ret) | (with_reducible apply q_then_ret)) | (((with_reducible apply c_ift); exact rfl; (exact rfl))))
    (apply q_ret2); (repeat (first | exact ResL.nil | (apply ResL.tmp; exact rfl)))
    exact ⟨rfl, hS.sub (List.nil_sublist _)⟩
  have hd0 : decide (nm = []) = false := decide_eq_false hnm
  have he : adrT (obP os) (bo * 16) ⟨rat, nm, rad⟩ = (adr (obP os) nm).map fun t => IntKind.i64.wrap (t + rad) := by
    unfold adrT
    rw [if_neg hnm]
  rw [he]
  clear he
  dsimp only []
  repeat' (first | (first | ((with_reducible apply l_pure tabOk); exact rfl; exact rfl) | ((with_reducible apply l_load); exact rfl; (((with_reducible apply Loads.sc tabOk); exact rfl; ((exact hS.blkC 0 rfl rfl)))); exact rfl) | ((with_reducible apply l_box hS); exact rfl; exact rfl; exact rfl; intro g w' hS'; clear hS; have hS := hS'; clear hS')) | (first | (with_reducible apply c_seq) | (with_reducible apply c_region) | (with_reducible apply l_nil) | (with_reducible apply q_then) | (with_reducible apply c_skip) | (with_reducible apply c_block)) | (((with_reducible apply c_iff); exact rfl; (assumption))))
  refine c_loopK (X := Nat) (fun x => [(8, .int .i64 (x : Nat))]) [0, 5] rfl (fun _ => []) (fun x => x ≤ os.length ∧ adr (obP os) nm = adr ((obP os).drop x) nm) (fun x => os.length - x) 0 (by repeat (first | exact Fr.sub_nil _ | (apply Fr.sub_cons; exact rfl))) (by simp) hS ?_
  clear hS
  intro i w1 hI hS
  obtain ⟨hi, had⟩ := hI
  dsimp only [List.cons_append, List.nil_append] at hi had hS ⊢
  by_cases hlt : i < os.length
  rotate_left
  · rw [List.drop_of_length_le (by rw [obP_len]; omega)] at had
    repeat' (first | (((with_reducible apply l_pure tabOk); exact rfl; exact rfl)) | (first | (with_reducible apply c_seq) | (with_reducible apply c_region) | (with_reducible apply l_nil) | (with_reducible apply q_then) | (with_reducible apply c_exit) | (with_reducible apply c_ret) | (with_reducible apply q_then_exit) | (with_reducible apply q_block_exit)) | (((with_reducible apply c_ifd); exact rfl; all_goals (intro hb hp; try (exfalso; omega)))))
    (apply q_ret2); (repeat (first | exact ResL.nil | (apply ResL.tmp; exact rfl)))
    exact ⟨by rw [had]; rfl, hS.sub (List.nil_sublist _)⟩
  obtain ⟨o, ho⟩ := lt_get (l := os) (i := i) (by omega)
  obtain ⟨b0, hb0, hb1, hb2⟩ := hb o (List.mem_of_getElem? ho)
  have hd16 : o.at_ / 16 = b0 := by omega
  have hrow : (os.map rbC)[i]? = some [.string ⟨o.im.name.toArray⟩, o.vn, o.vs, o.vy, o.vr, .int .i64 o.im.entry, .int .i64 (o.at_ / 16)] := map_get (f := rbC) ho
  rw [hd16] at hrow
  obtain ⟨b, off, rfl, hro⟩ := hl.at_ (i := i) hlt
  have hst := adr_step (nm := nm) (obP_at ho)
  have hov := hO o (List.mem_of_getElem? ho)
  have hor := hr o (List.mem_of_getElem? ho)
  rw [hst] at had
  obtain ⟨I, vn, vs, vy, vr, at_⟩ := o
  dsimp only at had hor hb0 hrow
  subst hb0
  clear hd16
  replace hov : ImV w I vn vs vy vr := hov
  have by_ := hov.syms.bound
  have hsy := hov.syms
  obtain ⟨pn, cn, rfl⟩ := hov.needs.len
  obtain ⟨ps, cs, rfl⟩ := hov.segs.len
  obtain ⟨py, cy, rfl⟩ := hov.syms.len
  obtain ⟨pr, cr, rfl⟩ := hov.rels.len
  repeat' (first | (((with_reducible apply l_pure tabOk); exact rfl; exact rfl)) | (first | (with_reducible apply c_seq) | (with_reducible apply c_region) | (with_reducible apply l_nil) | (with_reducible apply q_then) | (with_reducible apply c_skip) | (with_reducible apply c_block)) | (((with_reducible apply c_ifd); exact rfl; all_goals (intro hb hp; try (exfalso; omega)))))
  refine c_loopK (X := Nat) (fun x => [(9, .int .i64 (x : Nat))]) [0, 5, 8] rfl (fun _ => []) (fun x => x ≤ I.syms.length ∧ (I.syms.take x).all (fun s => !decide (s.name = nm)) = true) (fun x => I.syms.length - x) 0 (by repeat (first | exact Fr.sub_nil _ | (apply Fr.sub_cons; exact rfl))) (by simp) hS ?_
  clear hS
  intro k w2 hK hS
  obtain ⟨hk, hall⟩ := hK
  dsimp only [List.cons_append, List.nil_append] at hk hall hS ⊢
  by_cases hkt : k < I.syms.length
  · obtain ⟨y, hy⟩ := lt_get (l := I.syms) (i := k) (by omega)
    have hrow2 := map_get (f := syC) hy
    obtain ⟨b2, off2, rfl, hro2⟩ := hsy.at_ (i := k) hkt
    have hyr := hor y (List.mem_of_getElem? hy)
    unfold syC at hrow2
    by_cases hn : y.name = nm
    · have hd : decide (y.name = nm) = true := decide_eq_true hn
      rw [symAt_hit hall hy hn] at had
      repeat' (first | (first | ((with_reducible apply l_pure tabOk); exact rfl; exact rfl) | ((with_reducible apply l_load); exact rfl; (((with_reducible apply Loads.sl tabOk); exact rfl; ((exact hS.roC (by assumption) (by assumption) rfl)))); exact rfl) | ((with_reducible apply l_ix tabOk); exact rfl; exact rfl; exact rfl; ((exact rfl)); ((omega)); exact rfl)) | (first | (with_reducible apply c_seq) | (with_reducible apply c_region) | (with_reducible apply l_nil) | (with_reducible apply q_then) | (with_reducible apply c_skip) | (with_reducible apply c_block)) | (((with_reducible apply c_ifd); exact rfl; all_goals (intro hb hp; try (exfalso; omega)))))
      (focus ((with_reducible apply c_drawAll _ _ _ (by kernel_rfl) (by kernel_rfl) hS); (repeat' ((first | ((with_reducible apply d_pure tabOk); exact rfl; exact rfl) | ((with_reducible apply d_load); exact rfl; (intro wd hd; replace hd : St _ _ wd _ := hd; (first | ((with_reducible apply Loads.sc tabOk); exact rfl; (first | exact hd.blkC 0 rfl rfl | exact hd.roC0 (by assumption) (by assumption) rfl)) | ((with_reducible apply Loads.sl tabOk); exact rfl; ((exact hd.roC (by assumption) (by assumption) rfl))))); exact rfl) | ((with_reducible apply d_ix tabOk); exact rfl; exact rfl; exact rfl; ((exact rfl)); ((omega)); exact rfl)))); all_goals ((with_reducible apply d_nil); intro w' hS'; clear hS; have hS := hS'; clear hS')))
      repeat' (first | (first | (with_reducible apply c_seq) | (with_reducible apply l_nil) | (with_reducible apply q_then)) | (((with_reducible apply c_ift); exact rfl; (assumption))))
      (focus ((with_reducible apply c_drawAll _ _ _ (by kernel_rfl) (by kernel_rfl) hS); (repeat' ((first | ((with_reducible apply d_add); exact rfl; exact rfl; omega; omega; exact rfl) | ((with_reducible apply d_mul); exact rfl; exact rfl; omega; omega; exact rfl) | ((with_reducible apply d_pure tabOk); exact rfl; exact rfl) | ((with_reducible apply d_load); exact rfl; (intro wd hd; replace hd : St _ _ wd _ := hd; (first | ((with_reducible apply Loads.sc tabOk); exact rfl; (first | exact hd.blkC 0 rfl rfl | exact hd.roC (by assumption) (by assumption) rfl)) | ((with_reducible apply Loads.sl tabOk); exact rfl; ((exact hd.roC (by assumption) (by assumption) rfl))))); exact rfl) | ((with_reducible apply d_ix tabOk); exact rfl; exact rfl; exact rfl; ((exact rfl)); ((omega)); exact rfl)))); all_goals ((with_reducible apply d_nil); intro w' hS'; clear hS; have hS := hS'; clear hS')))
      repeat' ((first | (with_reducible apply l_nil) | (with_reducible apply q_then) | (with_reducible apply c_ret) | (with_reducible apply q_then_ret) | (with_reducible apply q_block_ret)))
      (apply q_ret2); (repeat (first | exact ResL.nil | (apply ResL.tmp; exact rfl)))
      exact ⟨by rw [had]; rfl, hS.sub (List.nil_sublist _)⟩
    · have hd : decide (y.name = nm) = false := decide_eq_false hn
      repeat' (first | (first | ((with_reducible apply l_pure tabOk); exact rfl; exact rfl) | ((with_reducible apply l_load); exact rfl; (((with_reducible apply Loads.sl tabOk); exact rfl; ((exact hS.roC (by assumption) (by assumption) rfl)))); exact rfl) | ((with_reducible apply l_ix tabOk); exact rfl; exact rfl; exact rfl; ((exact rfl)); ((omega)); exact rfl)) | (first | (with_reducible apply c_seq) | (with_reducible apply c_region) | (with_reducible apply l_nil) | (with_reducible apply q_then) | (with_reducible apply c_skip) | (with_reducible apply c_block)) | (((with_reducible apply c_ifd); exact rfl; all_goals (intro hb hp; try (exfalso; omega)))))
      (focus ((with_reducible apply c_drawAll _ _ _ (by kernel_rfl) (by kernel_rfl) hS); (repeat' ((first | ((with_reducible apply d_pure tabOk); exact rfl; exact rfl) | ((with_reducible apply d_load); exact rfl; (intro wd hd; replace hd : St _ _ wd _ := hd; (first | ((with_reducible apply Loads.sc tabOk); exact rfl; (first | exact hd.blkC 0 rfl rfl | exact hd.roC0 (by assumption) (by assumption) rfl)) | ((with_reducible apply Loads.sl tabOk); exact rfl; ((exact hd.roC (by assumption) (by assumption) rfl))))); exact rfl) | ((with_reducible apply d_ix tabOk); exact rfl; exact rfl; exact rfl; ((exact rfl)); ((omega)); exact rfl)))); all_goals ((with_reducible apply d_nil); intro w' hS'; clear hS; have hS := hS'; clear hS')))
      repeat' (first | (first | ((with_reducible apply l_add); exact rfl; exact rfl; omega; omega; exact rfl) | ((with_reducible apply l_pure tabOk); exact rfl; exact rfl)) | (first | (with_reducible apply c_region) | (with_reducible apply l_nil) | (with_reducible apply q_then) | (with_reducible apply c_skip) | (with_reducible apply q_block)) | (((with_reducible apply c_iff); exact rfl; (assumption))))
      exact q_loopK (k + 1) (by repeat (first | exact Fr.sub_nil _ | (apply Fr.sub_cons; exact rfl))) ⟨by show k + 1 ≤ I.syms.length; omega, all_take_succ hall hy (by simp [hn])⟩ hS (by show I.syms.length - (k + 1) < I.syms.length - k; omega)
  · rw [symAt_miss hall (by omega)] at had
    repeat' (first | (first | ((with_reducible apply l_add); exact rfl; exact rfl; omega; omega; exact rfl) | ((with_reducible apply l_pure tabOk); exact rfl; exact rfl) | ((with_reducible apply l_load); exact rfl; (((with_reducible apply Loads.sl tabOk); exact rfl; ((exact hS.roC (by assumption) (by assumption) rfl)))); exact rfl) | ((with_reducible apply l_ix tabOk); exact rfl; exact rfl; exact rfl; ((exact rfl)); ((omega)); exact rfl)) | (first | (with_reducible apply c_seq) | (with_reducible apply c_region) | (with_reducible apply l_nil) | (with_reducible apply q_then) | (with_reducible apply c_exit) | (with_reducible apply q_then_exit) | (with_reducible apply q_block) | (with_reducible apply q_block_exit)) | (((with_reducible apply c_ifd); exact rfl; all_goals (intro hb hp; try (exfalso; omega)))))
    exact q_loopK (i + 1) (by repeat (first | exact Fr.sub_nil _ | (apply Fr.sub_cons; exact rfl))) ⟨by show i + 1 ≤ os.length; omega, had⟩ hS (by show os.length - (i + 1) < os.length - i; omega)
end Go.Proofs.Ytejnpppejalhfab
/- The reference's objects. -/
namespace Go.Proofs.Ytejnpppejalhfab
open Go.RowKit Go.Sort
structure OrdI (B : List Ob) (ord : List Nat) (s : List Ob × Int) : Prop where
  len : s.1.length = ord.length
  at_ : ∀ (i k : Nat), ord[i]? = some k → ∃ (o : Ob) (a : Int), B[k]? = some o ∧ s.1[i]? = some { o with at_ := a }
def ixC (k : Nat) : List Value := [.int .i64 (k : Nat)]
theorem findO_none {B : List Ob} {nm : List UInt8} (h : lookB B nm = none) : findO B nm = -1 := by
  unfold findO
  unfold lookB at h
  rw [List.find?_eq_none] at h
  have : B.findIdx? (fun o => decide (o.im.name = nm)) = none := by
    rw [List.findIdx?_eq_none_iff]
    intro x hx
    simpa using h x hx
  rw [this]
theorem findO_some {B : List Ob} {nm : List UInt8} {o : Ob} (h : lookB B nm = some o) : ∃ k : Nat, findO B nm = (k : Nat) ∧ B[k]? = some o := by
  unfold lookB at h
  rw [List.find?_eq_some_iff_getElem] at h
  obtain ⟨hp, i, hi, rfl, hj⟩ := h
  refine ⟨i, ?_, by simp [hi]⟩
  unfold findO
  have : B.findIdx? (fun o => decide (o.im.name = nm)) = some i := by
    rw [List.findIdx?_eq_some_iff_getElem]
    exact ⟨hi, hp, fun j hji => by simpa using hj j hji⟩
  rw [this]
theorem nodup_at {B : List Ob} (h : (B.map fun o => o.im.name).Nodup) {i j : Nat} {a b : Ob} (ha : B[i]? = some a) (hb : B[j]? = some b) (he : a.im.name = b.im.name) : i = j := by
  obtain ⟨h1, rfl⟩ := List.getElem?_eq_some_iff.1 ha
  obtain ⟨h2, rfl⟩ := List.getElem?_eq_some_iff.1 hb
  unfold List.Nodup at h
  rw [List.pairwise_iff_getElem] at h
  rcases Nat.lt_trichotomy i j with hlt | heq | hlt
  · exact absurd (by rw [List.getElem_map, List.getElem_map]; exact he) (h i j (by simpa using h1) (by simpa using h2) hlt)
  · exact heq
  · exact absurd (by rw [List.getElem_map, List.getElem_map]; exact he.symm) (h j i (by simpa using h2) (by simpa using h1) hlt)
theorem OrdI.mem {B : List Ob} {ord : List Nat} {s : List Ob × Int} {k : Nat} {o : Ob} (h : OrdI B ord s) (hn : (B.map fun o => o.im.name).Nodup) (hk : B[k]? = some o) : k ∈ ord ↔ isPl s.1 o.im.name = true := by
  rw [isPl_iff]
  constructor
  · intro hm
    obtain ⟨i, hi⟩ := List.mem_iff_getElem?.1 hm
    obtain ⟨o', a, h1, h2⟩ := h.at_ i k hi
    rw [hk] at h1
    cases h1
    exact ⟨_, List.mem_of_getElem? h2, rfl⟩
  · rintro ⟨x, hx, hxn⟩
    obtain ⟨i, hi⟩ := List.mem_iff_getElem?.1 hx
    have hil : i < ord.length := by have := lt_of_getE hi; have := h.len; omega
    obtain ⟨k', hk'⟩ := lt_get (l := ord) (i := i) (by omega)
    obtain ⟨o', a, h1, h2⟩ := h.at_ i k' hk'
    rw [hi] at h2
    cases h2
    have := nodup_at hn hk h1 hxn.symm
    subst this
    exact List.mem_of_getElem? hk'
theorem OrdI.old {B : List Ob} {ord : List Nat} {s : List Ob × Int} {k : Nat} {o : Ob} (h : OrdI B ord s) (hn : (B.map fun o => o.im.name).Nodup) (hk : B[k]? = some o) (hm : k ∈ ord) : OrdI B ord (plStep s o) := by
  have := (h.mem hn hk).1 hm
  unfold plStep plOs plNext
  rw [if_pos this, if_pos this]
  exact h
theorem OrdI.new {B : List Ob} {ord : List Nat} {s : List Ob × Int} {k : Nat} {o : Ob} (h : OrdI B ord s) (hn : (B.map fun o => o.im.name).Nodup) (hk : B[k]? = some o) (hm : k ∉ ord) : OrdI B (ord ++ [k]) (plStep s o) := by
  have hp : ¬ isPl s.1 o.im.name = true := fun hc => hm ((h.mem hn hk).2 hc)
  unfold plStep plOs plNext
  rw [if_neg hp, if_neg hp]
  refine ⟨by simp [h.len], fun i j hj => ?_⟩
  rcases Nat.lt_or_ge i ord.length with hi | hi
  · rw [List.getElem?_append_left hi] at hj
    obtain ⟨o', a, h1, h2⟩ := h.at_ i j hj
    exact ⟨o', a, h1, by rw [List.getElem?_append_left (by rw [h.len]; exact hi)]; exact h2⟩
  · rw [List.getElem?_append_right hi] at hj
    obtain ⟨h1, h2⟩ := List.getElem?_eq_some_iff.1 hj
    simp only [List.length_singleton] at h1
    obtain rfl : i = ord.length := by omega
    simp only [Nat.sub_self, List.getElem_cons_zero] at h2
    subst h2
    exact ⟨o, s.2 * 16, hk, by rw [← h.len, List.getElem?_append_right (by omega)]; simp⟩
theorem OrdI.start {B : List Ob} {M : Ob} (h : B[0]? = some M) : OrdI B [0] (plStep ([], 1) M) := by
  refine ⟨rfl, fun i k hk => ?_⟩
  cases i with
  | zero =>
    obtain rfl : 0 = k := by simpa using hk
    exact ⟨M, 16, h, rfl⟩
  | succ i => simp at hk
def ObjF (R : Option (List Ob × Int)) (v : Value) (w w' : World) : Prop :=
  (R = none ∧ v = .tuple #[.slice none 0 0, .int .i64 6] ∧ St nF w w' []) ∨
  (∃ s, R = some s ∧ s.2 > 256 ∧ v = .tuple #[.slice none 0 0, .int .i64 3] ∧ St nF w w' []) ∨
  (∃ s u, R = some s ∧ s.2 ≤ 256 ∧ v = .tuple #[u, .int .i64 0] ∧ St nF w w' [.row 113 7 u (s.1.map rbC)])
theorem take_mem_succ {ord : List Nat} {j x kk : Nat} (hx : ord[j]? = some x) : kk ∈ ord.take (j + 1) ↔ kk ∈ ord.take j ∨ x = kk := by
  rw [List.take_add_one, hx]
  simp [eq_comm]
set_option maxRecDepth 100000 in
set_option maxHeartbeats 8000000 in
theorem objects_fn {w : World} {M : Ob} {B : List Ob} {vl : Value} (hL : Sl nF w 6 vl (B.map imR)) (hM : B[0]? = some M) (hO : ∀ o ∈ B, ObV w o) (hok : ∀ o ∈ B, ImOk o.im) (hn : (B.map fun o => o.im.name).Nodup) (hl : B.length ≤ 7) : Fn Try.prog 51 [vl] w (fun v w' => ObjF (allP B 8 0 (plStep ([], 1) M)) v w w') := by
  have bnd := hL.bound
  obtain ⟨p, c, rfl⟩ := hL.len
  have hMm := List.mem_of_getElem? hM
  have hA0 : AllI B ([], 1) := ⟨by simp, by simp, by simp, by simp⟩
  have hA1 := hA0.step hMm (hok M hMm)
  have hO1 := OrdI.start hM
  have hPk : ∀ s, allP B 8 0 (plStep ([], 1) M) = some s → PkI s := fun s hs => allP_inv (Inv := PkI) (fun s o h _ => h.step o) hs (PkI.start.step _)
  refine fn_enter (fn := Try.f51) ⟨Try.func51, by kernel_rfl, by kernel_rfl⟩ (by exact rfl) Try.ntmps51 (by exact rfl) ?_
  have hS := St.start w
  generalize hR : allP B 8 0 (plStep ([], 1) M) = R at hPk ⊢
  generalize plStep ([], 1) M = s1 at hR hA1 hO1
  repeat' (first | (first | ((with_reducible apply l_pure tabOk); exact rfl; exact rfl) | ((with_reducible apply l_bslice hS tabOk); exact rfl; exact rfl; exact rfl; exact rfl; exact rfl; exact rfl; exact rfl; intro g w' hS'; clear hS; have hS := hS'; clear hS')) | (first | (with_reducible apply c_seq) | (with_reducible apply c_region) | (with_reducible apply l_nil) | (with_reducible apply q_then) | (with_reducible apply c_block)))
  replace hS : St nF w w' [.row 3 1 (.slice (some ⟨g, 0, none⟩) ([0] : List Nat).length 1) (([0] : List Nat).map ixC)] := hS
  refine c_loopK (Γ := []) (X := Nat × List Nat × (Option Addr × Nat) × (List Ob × Int)) (fun x => [(5, .int .i64 (x.1 : Nat)), (4, .slice x.2.2.1.1 x.2.1.length x.2.2.1.2)]) [0] rfl (fun x => [.row 3 1 (.slice x.2.2.1.1 x.2.1.length x.2.2.1.2) (x.2.1.map ixC)]) (fun x => OrdI B x.2.1 x.2.2.2 ∧ AllI B x.2.2.2 ∧ R = allP B (8 - x.1) x.1 x.2.2.2 ∧ x.1 ≤ x.2.2.2.1.length) (fun x => 8 - x.1) (0, [0], (some ⟨g, 0, none⟩, 1), s1) (by repeat (first | exact Fr.sub_nil _ | (apply Fr.sub_cons; exact rfl))) ⟨hO1, hA1, hR.symm, Nat.zero_le _⟩ hS ?_
  clear hS hO1 hA1 hR
  rintro ⟨n, ord, ⟨po, co⟩, s⟩ w2 ⟨hO2, hA2, hR2, hn2⟩ hS
  dsimp only [List.cons_append, List.nil_append] at hO2 hA2 hR2 hn2 hS ⊢
  have hlen := hA2.len
  have hol := hO2.len
  by_cases hlt : n < ord.length
  rotate_left
  · have hd : s.1[n]? = none := List.getElem?_eq_none (by omega)
    have hR3 : R = some s := by
      rw [hR2]
      cases 8 - n with
      | zero => rfl
      | succ k => unfold allP; rw [hd]
    clear hR2
    subst hR3
    have hpk := hPk s rfl
    have hsok : ∀ o ∈ s.1, ImOk o.im := fun o ho => by
      obtain ⟨a, ha⟩ := hA2.sub o ho
      exact hok { o with at_ := a } ha
    have hos1 : ∀ o ∈ s.1, ∃ a : Int, { o with at_ := a } ∈ B := hA2.sub
    repeat' (first | (((with_reducible apply l_pure tabOk); exact rfl; exact rfl)) | (first | (with_reducible apply c_seq) | (with_reducible apply c_region) | (with_reducible apply l_nil) | (with_reducible apply q_then) | (with_reducible apply c_block) | (with_reducible apply c_exit) | (with_reducible apply q_then_exit) | (with_reducible apply q_block_exit)) | (((with_reducible apply c_ifd); exact rfl; all_goals (intro hb hp; try (exfalso; omega)))))
    replace hS := hS.addNil 113 7
    refine c_loopK (X := Nat × Int × (Option Addr × Nat × Nat) × List (List Value)) (fun x => [(13, .int .i64 (x.1 : Nat)), (12, .int .i64 x.2.1), (11, .slice x.2.2.1.1 x.2.2.1.2.1 x.2.2.1.2.2)]) [0, 4] rfl (fun x => [.row 113 7 (.slice x.2.2.1.1 x.2.2.1.2.1 x.2.2.1.2.2) x.2.2.2]) (fun x => x.1 ≤ s.1.length ∧ x.2.1 = 1 + endsN (s.1.take x.1) ∧ x.2.1 ≤ 256 ∧ x.2.2.2 = (s.1.take x.1).map rbC ∧ x.2.2.1.2.1 = x.1) (fun x => s.1.length - x.1) (0, 1, (none, 0, 0), []) (by repeat (first | exact Fr.sub_nil _ | (apply Fr.sub_cons; exact rfl))) ⟨Nat.zero_le _, rfl, by show (1 : Int) ≤ 256; decide, rfl, rfl⟩ hS ?_
    clear hS
    rintro ⟨i, bs, ⟨q, m, d⟩, R⟩ w3 ⟨hi, hbs, he, hR, hm⟩ hS
    dsimp only [List.cons_append, List.nil_append] at hi hbs he hR hm hS ⊢
    by_cases hlt2 : i < ord.length
    rotate_left
    · have e1 : s.1.take i = s.1 := List.take_of_length_le (by omega)
      repeat' (first | (((with_reducible apply l_pure tabOk); exact rfl; exact rfl)) | (first | (with_reducible apply c_seq) | (with_reducible apply c_region) | (with_reducible apply l_nil) | (with_reducible apply q_then) | (with_reducible apply c_exit) | (with_reducible apply c_ret) | (with_reducible apply q_then_exit) | (with_reducible apply q_block_exit)) | (((with_reducible apply c_ifd); exact rfl; all_goals (intro hb hp; try (exfalso; omega)))))
      (apply q_ret2); (repeat (first | exact ResL.nil | (apply ResL.tmp; exact rfl)))
      refine Or.inr (Or.inr ⟨s, _, rfl, ?_, rfl, ?_⟩)
      · rw [hpk.nx, ← e1, ← hbs]; exact he
      · rw [hR, e1] at hS
        exact hS.reorder [0] (by decide) rfl
    have hRl : R.length = m := by rw [hR, List.length_map, List.length_take]; omega
    obtain ⟨kk, hkk⟩ := lt_get (l := ord) (i := i) (by omega)
    obtain ⟨o, a, hB, hs1⟩ := hO2.at_ i kk hkk
    have hrow := map_get (f := ixC) hkk
    have hrowB : (B.map imR)[kk]? = some [.string ⟨o.im.name.toArray⟩, o.vn, o.vs, o.vy, o.vr, .int .i64 o.im.entry] := map_get (f := imR) hB
    have hat := hpk.at_ i _ hs1
    have hov := hO o (List.mem_of_getElem? hB)
    have hoo := hok o (List.mem_of_getElem? hB)
    have hoe := lastEnd_le hoo
    have hen : endsN (s.1.take (i + 1)) = endsN (s.1.take i) + lastEnd o.im := by
      rw [List.take_add_one, hs1]
      simp only [Option.toList_some, endsN_app, endsN]
      omega
    have hends := ends_le (l := s.1.drop (i + 1)) fun x hx => hsok x (List.mem_of_mem_drop hx)
    have hends0 := ends_le (l := s.1.take i) fun x hx => hsok x (List.mem_of_mem_take hx)
    have hall : endsN s.1 = endsN (s.1.take (i + 1)) + endsN (s.1.drop (i + 1)) := by
      rw [← endsN_app, List.take_append_drop]
    have hnx := hpk.nx
    have hkB := lt_of_getE hB
    obtain ⟨pb, ob, hpe, hroB⟩ := hL.at_ (i := kk) hkB
    subst hpe
    have hRs : (s.1.take (i + 1)).map rbC = R ++ [rbC { o with at_ := a }] := by
      rw [List.take_add_one, hs1, hR]
      simp
    obtain ⟨I, vn, vs, vy, vr, a0⟩ := o
    replace hov : ImV w I vn vs vy vr := hov
    replace hoo : ImOk I := hoo
    replace hoe : 0 ≤ lastEnd I ∧ lastEnd I ≤ 255 := hoe
    replace hen : endsN (s.1.take (i + 1)) = endsN (s.1.take i) + lastEnd I := hen
    replace hat : a = (1 + endsN (s.1.take i)) * 16 := hat
    have ha16 : a / 16 = bs := by omega
    have hs1' := hoo.s1
    have hs3' := hoo.s3
    obtain ⟨sg, hsg⟩ : ∃ sg, I.segs.getLast? = some sg := by
      cases hl : I.segs.getLast? with
      | none => rw [List.getLast?_eq_none_iff] at hl; rw [hl] at hs1'; simp at hs1'
      | some sg => exact ⟨sg, rfl⟩
    have hle : lastEnd I = sg.pg + sg.n := by unfold lastEnd; rw [hsg]
    have hsok1 := List.all_eq_true.1 hoo.s2 sg (List.mem_of_getLast? hsg)
    unfold sgOk at hsok1
    have hsok1 := of_decide_eq_true hsok1
    have hsgr : (I.segs.map sgC)[((I.segs.length : Int) - 1).toNat]? = some (sgC sg) := by
      rw [List.getLast?_eq_getElem?] at hsg
      rw [show ((I.segs.length : Int) - 1).toNat = I.segs.length - 1 by omega]
      exact map_get (f := sgC) hsg
    have hsgs := hov.segs
    obtain ⟨pn, cn, rfl⟩ := hov.needs.len
    obtain ⟨ps, cs, rfl⟩ := hov.segs.len
    obtain ⟨py, cy, rfl⟩ := hov.syms.len
    obtain ⟨pr, cr, rfl⟩ := hov.rels.len
    obtain ⟨b2, off2, hpe2, hro2⟩ := hsgs.at_ (i := I.segs.length - 1) (by omega)
    subst hpe2
    obtain ⟨gO, hgo⟩ := hS.rowSome 1 rfl (by omega)
    subst hgo
    clear hsok hPk hA2 hO2 hok hn hsg
    unfold sgC at hsgr
    dsimp only at hrowB hRs
    by_cases h256 : bs + sg.pg + sg.n - 1 > 255
    · repeat' (first | (first | ((with_reducible apply l_add); exact rfl; exact rfl; omega; omega; exact rfl) | ((with_reducible apply l_sub); exact rfl; exact rfl; omega; omega; exact rfl) | ((with_reducible apply l_pure tabOk); exact rfl; exact rfl) | ((with_reducible apply l_load); exact rfl; (first | ((with_reducible apply Loads.sc tabOk); exact rfl; (first | exact hS.blkC 0 rfl rfl | exact hS.rowC0 1 rfl (by assumption) rfl)) | ((with_reducible apply Loads.sl tabOk); exact rfl; ((exact hS.blkC 0 rfl rfl))) | ((with_reducible apply Loads.st tabOk); exact rfl; ((exact hS.roR (by assumption) (by assumption))); exact rfl)); exact rfl) | ((with_reducible apply l_ix tabOk); exact rfl; exact rfl; exact rfl; (first | exact rfl | exact Int.toNat_of_nonneg (by omega)); ((omega)); exact rfl) | ((with_reducible apply l_build tabOk); exact rfl; exact rfl; ((exact (rfl : _ = some [_, _, _, _, _, _, _]))); exact rfl) | ((with_reducible apply l_alloc hS tabOk); exact rfl; exact rfl; exact rfl; intro g w' hS'; clear hS; have hS := hS'; clear hS') | (((with_reducible apply l_store hS tabOk (i := 0)); exact rfl; exact rfl; exact rfl; exact rfl; exact rfl; exact rfl; exact rfl; exact rfl; (first | exact (rfl : _ = [_, _, _, _, _]) | exact (rfl : _ = [_, _, _, _, _, _, _])); intro w' hS'; simp only [List.set] at hS'; clear hS; have hS := hS'; clear hS'))) | (first | (with_reducible apply c_seq) | (with_reducible apply c_region) | (with_reducible apply l_nil) | (with_reducible apply q_then) | (with_reducible apply c_skip) | (with_reducible apply c_block) | (with_reducible apply c_ret) | (with_reducible apply q_then_ret) | (with_reducible apply q_block_ret)) | (((with_reducible apply c_ifd); exact rfl; all_goals (intro hb hp; try (exfalso; omega)))))
      (apply q_ret2); (repeat (first | exact ResL.nil | (apply ResL.tmp; exact rfl)))
      exact Or.inr (Or.inl ⟨s, rfl, by omega, rfl, hS.sub (List.nil_sublist _)⟩)
    · repeat' (first | (first | ((with_reducible apply l_add); exact rfl; exact rfl; omega; omega; exact rfl) | ((with_reducible apply l_sub); exact rfl; exact rfl; omega; omega; exact rfl) | ((with_reducible apply l_pure tabOk); exact rfl; exact rfl) | ((with_reducible apply l_load); exact rfl; (first | ((with_reducible apply Loads.sc tabOk); exact rfl; (first | exact hS.blkC 0 rfl rfl | exact hS.rowC0 1 rfl (by assumption) rfl)) | ((with_reducible apply Loads.sl tabOk); exact rfl; ((exact hS.blkC 0 rfl rfl))) | ((with_reducible apply Loads.st tabOk); exact rfl; (first | exact hS.blkR 1 rfl | exact hS.roR (by assumption) (by assumption)); exact rfl)); exact rfl) | ((with_reducible apply l_ix tabOk); exact rfl; exact rfl; exact rfl; (first | exact rfl | exact Int.toNat_of_nonneg (by omega)); ((omega)); exact rfl) | ((with_reducible apply l_build tabOk); exact rfl; exact rfl; ((exact (rfl : _ = some [_, _, _, _, _, _, _]))); exact rfl) | ((with_reducible apply l_alloc hS tabOk); exact rfl; exact rfl; exact rfl; intro g w' hS'; clear hS; have hS := hS'; clear hS') | (((with_reducible apply l_store hS tabOk (i := 0)); exact rfl; exact rfl; exact rfl; exact rfl; exact rfl; exact rfl; exact rfl; exact rfl; (first | exact (rfl : _ = [_, _, _, _, _]) | exact (rfl : _ = [_, _, _, _, _, _, _])); intro w' hS'; simp only [List.set] at hS'; clear hS; have hS := hS'; clear hS')) | ((with_reducible apply l_bslice hS tabOk); exact rfl; exact rfl; exact rfl; exact rfl; exact rfl; exact rfl; exact rfl; intro g w' hS'; clear hS; have hS := hS'; clear hS')) | (first | (with_reducible apply c_seq) | (with_reducible apply c_region) | (with_reducible apply l_nil) | (with_reducible apply q_then) | (with_reducible apply c_skip) | (with_reducible apply c_block) | (with_reducible apply q_block)) | (((with_reducible apply c_ifd); exact rfl; all_goals (intro hb hp; try (exfalso; omega)))) | ((with_reducible apply l_append hS tabOk 3); exact rfl; exact rfl; exact rfl; exact rfl; exact hS.rowRo 0 rfl; exact rfl; ((omega)); exact rfl; intro p' cap' w' hS'; simp only [List.set] at hS'; clear hS; have hS := hS'; clear hS'))
      replace hS := St.reorder [3, 4] hS (by decide) rfl
      have e1 : R.length + 1 = m + 1 := by omega
      refine q_loopK (i + 1, bs + sg.pg + sg.n, (p', R.length + 1, cap'), _) (by repeat (first | exact Fr.sub_nil _ | (apply Fr.sub_cons; exact rfl))) ⟨by show i + 1 ≤ _; omega, by show bs + sg.pg + sg.n = 1 + endsN (s.1.take (i + 1)); omega, by show bs + sg.pg + sg.n ≤ 256; omega, ?_, by show R.length + 1 = i + 1; omega⟩ hS (by show _ - (i + 1) < _ - i; omega)
      show _ = (s.1.take (i + 1)).map rbC
      rw [hRs]
      unfold rbC
      dsimp only
      rw [ha16]
  obtain ⟨kk, hkk⟩ := lt_get (l := ord) (i := n) (by omega)
  obtain ⟨o, a, hB, hs1⟩ := hO2.at_ n kk hkk
  have hrow := map_get (f := ixC) hkk
  have hrowB : (B.map imR)[kk]? = some [.string ⟨o.im.name.toArray⟩, o.vn, o.vs, o.vy, o.vr, .int .i64 o.im.entry] := map_get (f := imR) hB
  have hkB := lt_of_getE hB
  have hov := hO o (List.mem_of_getElem? hB)
  have hR3 : R = match needsP B o.im.needs s with
      | none => none
      | some s' => allP B (8 - (n + 1)) (n + 1) s' := by
    rw [hR2, show 8 - n = (8 - (n + 1)) + 1 by omega]
    show (match s.1[n]? with
      | none => some s
      | some o => match needsP B o.im.needs s with
        | none => none
        | some s' => allP B (8 - (n + 1)) (n + 1) s') = _
    rw [hs1]
  clear hR2
  obtain ⟨J, un, us, uy, ur, at_⟩ := o
  replace hov : ImV w J un us uy ur := hov
  dsimp only at hR3 hrowB
  have hnd := hov.needs
  have hbn := hov.needs.bound
  obtain ⟨qn, dn, rfl⟩ := hov.needs.len
  obtain ⟨pb, ob, hpe, hroB⟩ := hL.at_ (i := kk) hkB
  subst hpe
  obtain ⟨gO, hgo⟩ := hS.rowSome 0 rfl (by omega)
  subst hgo
  clear hs1 hB hov
  unfold ixC at hrow
  repeat' (first | (first | ((with_reducible apply l_pure tabOk); exact rfl; exact rfl) | ((with_reducible apply l_load); exact rfl; (first | ((with_reducible apply Loads.sc tabOk); exact rfl; ((exact hS.rowC0 0 rfl (by assumption) rfl))) | ((with_reducible apply Loads.sl tabOk); exact rfl; ((exact hS.roC (by assumption) (by assumption) rfl)))); exact rfl) | ((with_reducible apply l_ix tabOk); exact rfl; exact rfl; exact rfl; ((exact rfl)); ((omega)); exact rfl)) | (first | (with_reducible apply c_seq) | (with_reducible apply c_region) | (with_reducible apply l_nil) | (with_reducible apply q_then) | (with_reducible apply c_skip) | (with_reducible apply c_block)) | (((with_reducible apply c_ifd); exact rfl; all_goals (intro hb hp; try (exfalso; omega)))))
  refine c_loopK (Γ := []) (X := Nat × List Nat × (Option Addr × Nat) × (List Ob × Int)) (fun x => [(7, .int .i64 (x.1 : Nat)), (4, .slice x.2.2.1.1 x.2.1.length x.2.2.1.2)]) [0, 5, 6] rfl (fun x => [.row 3 1 (.slice x.2.2.1.1 x.2.1.length x.2.2.1.2) (x.2.1.map ixC)]) (fun x => OrdI B x.2.1 x.2.2.2 ∧ AllI B x.2.2.2 ∧ needsP B J.needs s = needsP B (J.needs.drop x.1) x.2.2.2 ∧ n < x.2.2.2.1.length ∧ x.1 ≤ J.needs.length) (fun x => J.needs.length - x.1) (0, ord, (some ⟨gO, 0, none⟩, co), s) (by repeat (first | exact Fr.sub_nil _ | (apply Fr.sub_cons; exact rfl))) ⟨hO2, hA2, rfl, by show n < s.1.length; omega, Nat.zero_le _⟩ hS ?_
  clear hS hO2 hA2 hrow hrowB hkk hlt hn2 hlen hol
  rintro ⟨k, od, ⟨q3, c3⟩, s3⟩ w3 ⟨hO3, hA3, hN3, hn3, hk3⟩ hS
  dsimp only [List.cons_append, List.nil_append] at hO3 hA3 hN3 hn3 hk3 hS ⊢
  have hlen3 := hA3.len
  have hol3 := hO3.len
  by_cases hkt : k < J.needs.length
  rotate_left
  · rw [List.drop_of_length_le (by omega)] at hN3
    rw [hN3] at hR3
    replace hR3 : R = allP B (8 - (n + 1)) (n + 1) s3 := hR3
    repeat' (first | (first | ((with_reducible apply l_add); exact rfl; exact rfl; omega; omega; exact rfl) | ((with_reducible apply l_pure tabOk); exact rfl; exact rfl)) | (first | (with_reducible apply c_seq) | (with_reducible apply c_region) | (with_reducible apply l_nil) | (with_reducible apply q_then) | (with_reducible apply c_exit) | (with_reducible apply q_then_exit) | (with_reducible apply q_block) | (with_reducible apply q_block_exit)) | (((with_reducible apply c_ifd); exact rfl; all_goals (intro hb hp; try (exfalso; omega)))))
    exact q_loopK (n + 1, od, (q3, c3), s3) (by repeat (first | exact Fr.sub_nil _ | (apply Fr.sub_cons; exact rfl))) ⟨hO3, hA3, hR3, by show n + 1 ≤ s3.1.length; omega⟩ hS (by show 8 - (n + 1) < 8 - n; omega)
  obtain ⟨nm, hnm⟩ := lt_get (l := J.needs) (i := k) (by omega)
  have hrow := map_get (f := stC) hnm
  obtain ⟨b2, off2, rfl, hro2⟩ := hnd.at_ (i := k) hkt
  rw [needsP_step hnm] at hN3
  unfold stC at hrow
  have hfi := fun w (h : Sl nF w 6 (.slice (some ⟨pb, ob, none⟩) B.length c) (B.map imR)) => find_fn nm h
  cases hlk : lookB B nm with
  | none =>
    rw [hlk] at hN3
    replace hN3 : needsP B J.needs s = none := hN3
    rw [hN3] at hR3
    replace hR3 : R = none := hR3
    simp only [findO_none hlk] at hfi
    repeat' (first | (first | ((with_reducible apply l_pure tabOk); exact rfl; exact rfl) | ((with_reducible apply l_load); exact rfl; (((with_reducible apply Loads.sc tabOk); exact rfl; ((exact hS.roC0 (by assumption) (by assumption) rfl)))); exact rfl) | ((with_reducible apply l_ix tabOk); exact rfl; exact rfl; exact rfl; ((exact rfl)); ((omega)); exact rfl)) | (first | (with_reducible apply c_seq) | (with_reducible apply c_region) | (with_reducible apply l_nil) | (with_reducible apply q_then) | (with_reducible apply c_skip) | (with_reducible apply c_block) | (with_reducible apply c_ret) | (with_reducible apply q_then_ret) | (with_reducible apply q_block_ret)) | (first | ((with_reducible apply c_ift); exact rfl; (exact rfl)) | ((with_reducible apply c_ifd); exact rfl; all_goals (intro hb hp; try (exfalso; omega)))) | ((with_reducible apply l_call); exact rfl; exact rfl; exact hfi _ (hL.now hS); exact rfl; rintro _ w' ⟨rfl, hS'⟩; replace hS := hS.transA hS'; simp only [appA] at hS; clear hS'))
    (apply q_ret2); (repeat (first | exact ResL.nil | (apply ResL.tmp; exact rfl)))
    exact Or.inl ⟨hR3, rfl, hS.sub (List.nil_sublist _)⟩
  | some y =>
    rw [hlk] at hN3
    replace hN3 : needsP B J.needs s = needsP B (J.needs.drop (k + 1)) (plStep s3 y) := hN3
    obtain ⟨ky, hky, hBy⟩ := findO_some hlk
    obtain ⟨hy, hyn⟩ := lookB_mem hlk
    have hyo := hok _ hy
    have hA4 := hA3.step hy hyo
    have hpl := plStep_len s3 y
    simp only [hky] at hfi
    repeat' (first | (first | ((with_reducible apply l_pure tabOk); exact rfl; exact rfl) | ((with_reducible apply l_load); exact rfl; (((with_reducible apply Loads.sc tabOk); exact rfl; ((exact hS.roC0 (by assumption) (by assumption) rfl)))); exact rfl) | ((with_reducible apply l_ix tabOk); exact rfl; exact rfl; exact rfl; ((exact rfl)); ((omega)); exact rfl)) | (first | (with_reducible apply c_seq) | (with_reducible apply c_region) | (with_reducible apply l_nil) | (with_reducible apply q_then) | (with_reducible apply c_skip) | (with_reducible apply c_block)) | (first | ((with_reducible apply c_iff); exact rfl; (exact rfl)) | ((with_reducible apply c_ifd); exact rfl; all_goals (intro hb hp; try (exfalso; omega)))) | ((with_reducible apply l_call); exact rfl; exact rfl; exact hfi _ (hL.now hS); exact rfl; rintro _ w' ⟨rfl, hS'⟩; replace hS := hS.transA hS'; simp only [appA] at hS; clear hS'))
    refine c_loopK (X := Nat × Bool) (fun x => [(10, .int .i64 (x.1 : Nat)), (9, .bool x.2)]) [0, 5, 6, 7, 4, 8] rfl (fun _ => []) (fun x => x.1 ≤ od.length ∧ x.2 = decide (ky ∈ od.take x.1)) (fun x => od.length - x.1) (0, false) (by repeat (first | exact Fr.sub_nil _ | (apply Fr.sub_cons; exact rfl))) ⟨Nat.zero_le _, by simp⟩ hS ?_
    clear hS
    rintro ⟨j, bb⟩ w4 ⟨hj, hbb⟩ hS
    dsimp only [List.cons_append, List.nil_append] at hj hbb hS ⊢
    by_cases hjt : j < od.length
    · obtain ⟨x, hx⟩ := lt_get (l := od) (i := j) (by omega)
      have hrowx := map_get (f := ixC) hx
      unfold ixC at hrowx
      obtain ⟨gO2, hgo2⟩ := hS.rowSome 0 rfl (by omega)
      subst hgo2
      have hms := take_mem_succ (kk := ky) hx
      have hmd : decide (ky ∈ od.take (j + 1)) = (bb || decide ((x : Int) = (ky : Int))) := by
        have h3 : ((x : Int) = (ky : Int)) ↔ x = ky := by omega
        rw [hbb]
        by_cases h1 : ky ∈ od.take j <;> by_cases h2 : x = ky <;> simp [hms, h1, h2, h3]
      clear hbb
      cases bb with
      | true =>
        repeat' (first | (first | ((with_reducible apply l_add); exact rfl; exact rfl; omega; omega; exact rfl) | ((with_reducible apply l_pure tabOk); exact rfl; exact rfl) | (first | ((with_reducible apply l_no); exact rfl; exact rfl; exact rfl; exact rfl; ((exact rfl)); exact rfl) | ((with_reducible apply l_pick1); exact rfl; ((exact rfl)); exact rfl; exact rfl))) | (first | (with_reducible apply c_seq) | (with_reducible apply c_region) | (with_reducible apply l_nil) | (with_reducible apply q_then) | (with_reducible apply c_skip) | (with_reducible apply c_block) | (with_reducible apply q_block)) | (((with_reducible apply c_ifd); exact rfl; all_goals (intro hb hp; try (exfalso; omega)))))
        exact q_loopK (j + 1, true) (by repeat (first | exact Fr.sub_nil _ | (apply Fr.sub_cons; exact rfl))) ⟨by show j + 1 ≤ _; omega, hmd.symm⟩ hS (by show _ - (j + 1) < _ - j; omega)
      | false =>
        repeat' (first | (first | ((with_reducible apply l_add); exact rfl; exact rfl; omega; omega; exact rfl) | ((with_reducible apply l_pure tabOk); exact rfl; exact rfl) | ((with_reducible apply l_load); exact rfl; (((with_reducible apply Loads.sc tabOk); exact rfl; ((exact hS.rowC0 0 rfl (by assumption) rfl)))); exact rfl) | ((with_reducible apply l_ix tabOk); exact rfl; exact rfl; exact rfl; ((exact rfl)); ((omega)); exact rfl) | (first | ((with_reducible apply l_yes); exact rfl; exact rfl; exact rfl; exact rfl; (exact rfl)) | ((with_reducible apply l_pick2); exact rfl; ((exact rfl)); exact rfl; exact rfl))) | (first | (with_reducible apply c_seq) | (with_reducible apply c_region) | (with_reducible apply l_nil) | (with_reducible apply q_then) | (with_reducible apply c_skip) | (with_reducible apply c_block) | (with_reducible apply q_block)) | (((with_reducible apply c_ifd); exact rfl; all_goals (intro hb hp; try (exfalso; omega)))))
        exact q_loopK (j + 1, _) (by repeat (first | exact Fr.sub_nil _ | (apply Fr.sub_cons; exact rfl))) ⟨by show j + 1 ≤ _; omega, hmd.symm⟩ hS (by show _ - (j + 1) < _ - j; omega)
    · rw [List.take_of_length_le (by omega)] at hbb
      by_cases hm : ky ∈ od
      · rw [decide_eq_true hm] at hbb
        subst hbb
        repeat' (first | (first | ((with_reducible apply l_add); exact rfl; exact rfl; omega; omega; exact rfl) | ((with_reducible apply l_pure tabOk); exact rfl; exact rfl)) | (first | (with_reducible apply c_seq) | (with_reducible apply c_region) | (with_reducible apply l_nil) | (with_reducible apply q_then) | (with_reducible apply c_skip) | (with_reducible apply c_exit) | (with_reducible apply q_then_exit) | (with_reducible apply q_block) | (with_reducible apply q_block_exit)) | (first | ((with_reducible apply c_iff); exact rfl; (exact rfl)) | ((with_reducible apply c_ifd); exact rfl; all_goals (intro hb hp; try (exfalso; omega)))))
        exact q_loopK (k + 1, od, (q3, c3), plStep s3 y) (by repeat (first | exact Fr.sub_nil _ | (apply Fr.sub_cons; exact rfl))) ⟨hO3.old hn hBy hm, hA4, hN3, Nat.lt_of_lt_of_le hn3 hpl, by show k + 1 ≤ _; omega⟩ hS (by show _ - (k + 1) < _ - k; omega)
      · rw [decide_eq_false hm] at hbb
        subst hbb
        repeat' (first | (first | ((with_reducible apply l_add); exact rfl; exact rfl; omega; omega; exact rfl) | ((with_reducible apply l_pure tabOk); exact rfl; exact rfl) | ((with_reducible apply l_bslice hS tabOk); exact rfl; exact rfl; exact rfl; exact rfl; exact rfl; exact rfl; exact rfl; intro g w' hS'; clear hS; have hS := hS'; clear hS')) | (first | (with_reducible apply c_seq) | (with_reducible apply c_region) | (with_reducible apply l_nil) | (with_reducible apply q_then) | (with_reducible apply c_exit) | (with_reducible apply q_then_exit) | (with_reducible apply q_block) | (with_reducible apply q_block_exit)) | (first | ((with_reducible apply c_ift); exact rfl; (exact rfl)) | ((with_reducible apply c_ifd); exact rfl; all_goals (intro hb hp; try (exfalso; omega)))) | ((with_reducible apply l_append hS tabOk 1); exact rfl; exact rfl; exact rfl; exact rfl; exact hS.rowRo 0 rfl; exact rfl; ((simp only [List.length_map, List.length_cons, List.length_nil, List.length_append]; omega)); exact rfl; intro p' cap' w' hS'; simp only [List.set] at hS'; clear hS; have hS := hS'; clear hS'))
        have hS2 : St nF w w' (.row 3 1 (.slice p' (od ++ [ky]).length cap') ((od ++ [ky]).map ixC) :: []) := by
          rw [List.length_map] at hS
          rw [List.length_append, List.map_append]
          exact hS.reorder [1] (by decide) rfl
        have e1 : Value.slice p' ((od.map ixC).length + 1) cap' = Value.slice p' (od ++ [ky]).length cap' := by rw [List.length_append, List.length_map]; rfl
        refine q_loopK (k + 1, od ++ [ky], (p', cap'), plStep s3 y) ?_ ⟨hO3.new hn hBy hm, hA4, hN3, Nat.lt_of_lt_of_le hn3 hpl, by show k + 1 ≤ _; omega⟩ hS2 (by show _ - (k + 1) < _ - k; omega)
        dsimp only [List.cons_append, List.nil_append]
        rw [← e1]
        repeat (first | exact Fr.sub_nil _ | (apply Fr.sub_cons; exact rfl))
end Go.Proofs.Ytejnpppejalhfab
/- The reference's LinkError. -/
namespace Go.Proofs.Ytejnpppejalhfab
open Go.RowKit Go.Sort
noncomputable def linkB (B : List Ob) (R : Option (List Ob × Int)) : Int :=
  match B.find? (fun o => !decide (checkIm o.im = 0)) with
    | some o => checkIm o.im
    | none => if (B.map fun o => o.im.name).Nodup then
        match R with
        | none => 6
        | some s => if s.2 > 256 then 3 else if symsAll (obP s.1) s.1 = true then 0 else 7
      else 5
theorem linkC_eq {M : Ob} {Lb : List Ob} (h6 : ¬ 6 < Lb.length) : linkC M Lb = linkB (M :: Lb) (allP (M :: Lb) 8 0 (plStep ([], 1) M)) := by
  unfold linkC linkB
  rw [if_neg h6]
  rfl
theorem adrT_some {os : List (Im × Int)} {at_ : Int} {r : Rl} : (adrT os at_ r).isSome = (bytesOf os at_ r).isSome := by
  rw [bytesOf_adr]
  cases adrT os at_ r <;> rfl
/-- what is known of objects that are placed -/
structure ObsI (w : World) (os : List Ob) : Prop where
  v : ∀ o ∈ os, ObV w o
  b : ∀ o ∈ os, ∃ b : Int, o.at_ = b * 16 ∧ 1 ≤ b ∧ b ≤ 1800
  y : ∀ o ∈ os, ∀ s ∈ o.im.syms, -9223372036854775808 ≤ o.at_ + s.at_ ∧ o.at_ + s.at_ ≤ 9223372036854775807
  n : os.length ≤ 7
  k : ∀ o ∈ os, checkIm o.im = 0
theorem ObsI.now {w w' : World} {os : List Ob} {Γ : List Asr} (h : ObsI w os) (hS : St nF w w' Γ) : ObsI w' os := ⟨fun o ho => (h.v o ho).now hS, h.b, h.y, h.n, h.k⟩
theorem obsI_of {w : World} {B : List Ob} {s : List Ob × Int} (hO : ∀ o ∈ B, ObV w o) (hk : ∀ o ∈ B, checkIm o.im = 0) (hl : B.length ≤ 7) (hA : AllI B s) (hp : PkI s) : ObsI w s.1 := by
  have hz : ∀ o ∈ s.1, ObV w o ∧ checkIm o.im = 0 := fun o ho => by
    obtain ⟨a, ha⟩ := hA.sub o ho
    have h1 := hO { o with at_ := a } ha
    exact ⟨⟨h1.needs, h1.segs, h1.syms, h1.rels⟩, hk { o with at_ := a } ha⟩
  have hn : s.1.length ≤ 7 := Nat.le_trans hA.len hl
  have hb : ∀ o ∈ s.1, ∃ b : Int, o.at_ = b * 16 ∧ 1 ≤ b ∧ b ≤ 1800 := fun o ho => by
    obtain ⟨q, hq⟩ := List.mem_iff_getElem?.1 ho
    have q1 : o.at_ = (1 + endsN (s.1.take q)) * 16 := hp.at_ q o hq
    have q2 := ends_le (l := s.1.take q) fun x hx => (check_zeroL (hz x (List.mem_of_mem_take hx)).2).1
    rw [List.length_take] at q2
    exact ⟨1 + endsN (s.1.take q), q1, by omega, by omega⟩
  refine ⟨fun o ho => (hz o ho).1, hb, fun o ho y hy => ?_, hn, fun o ho => (hz o ho).2⟩
  obtain ⟨b, hb1, hb2, hb3⟩ := hb o ho
  obtain ⟨sg, hsg⟩ := Option.isSome_iff_exists.1 ((check_zeroL (hz o ho).2).2.2.2.syms y hy)
  have q3 := own_small (check_zeroL (hz o ho).2).1.s2 hsg
  omega
theorem allP_all {B : List Ob} {M : Ob} {s : List Ob × Int} (hM : M ∈ B) (hk : ∀ o ∈ B, checkIm o.im = 0) (h : allP B 8 0 (plStep ([], 1) M) = some s) : AllI B s ∧ PkI s := by
  have hA0 : AllI B ([], 1) := ⟨by simp, by simp, by simp, by simp⟩
  exact ⟨allP_inv (Inv := AllI B) (fun s o h ho => h.step ho (check_zeroL (hk o ho)).1) h (hA0.step hM (check_zeroL (hk M hM)).1), allP_inv (Inv := PkI) (fun s o h _ => h.step o) h (PkI.start.step _)⟩
end Go.Proofs.Ytejnpppejalhfab
/- The board of a link, in plain Lean. -/
namespace Go.Proofs.Ytejnpppejalhfab
open Go.RowKit Go.Sort

def rawsO (l : List Ob) : List Ar := l.flatMap fun o => o.im.segs.map (rawA (o.at_ / 16))
theorem linkAr_raws (l : List Ob) : linkAr l = joined (rawsO l) := rfl
theorem rgt_in (s : Sg) : 0 ≤ rgt s ∧ rgt s ≤ 3 := by unfold rgt; split <;> split <;> decide
theorem raws_seg {b0 : Int} : ∀ {l : List Sg} {e : Int}, Ch l → l.all sgOk = true → 1 ≤ b0 → (∀ s, l[0]? = some s → e ≤ b0 + s.pg) → (∀ s, l.getLast? = some s → b0 + s.pg + s.n ≤ 256) → RiseF e (l.map (rawA b0)) ∧ (∀ s, l.getLast? = some s → endOf e (l.map (rawA b0)) = b0 + s.pg + s.n)
  | [], e, _, _, _, _, _ => ⟨trivial, fun s h => by simp at h⟩
  | s :: l, e, hch, hs, hb, h0, hl => by
    have hch' : Ch l := fun j a b h1 h2 => hch (j + 1) a b (by simpa using h1) (by simpa using h2)
    simp only [List.all_cons, Bool.and_eq_true] at hs
    have hso := hs.1
    unfold sgOk at hso
    have hso := of_decide_eq_true hso
    have h00 := h0 s rfl
    have key : ∀ t, l[0]? = some t → b0 + s.pg + s.n ≤ b0 + t.pg := fun t ht => by
      have := hch 0 s t rfl (by simpa using ht)
      omega
    have hl' : ∀ t, l.getLast? = some t → b0 + t.pg + t.n ≤ 256 := fun t ht => hl t (by rw [List.getLast?_cons, ht]; rfl)
    obtain ⟨i1, i2⟩ := raws_seg (e := b0 + s.pg + s.n) hch' hs.2 hb key hl'
    have hfin : b0 + s.pg + s.n ≤ 256 := by
      cases l with
      | nil => exact hl s rfl
      | cons t l =>
        have h1 := key t rfl
        obtain ⟨x, hx⟩ : ∃ x, (t :: l).getLast? = some x := ⟨_, List.getLast?_eq_some_getLast (by simp)⟩
        have h2 := hl' x hx
        have h3 : RiseF (b0 + s.pg + s.n) ((t :: l).map (rawA b0)) := i1
        have h4 := i2 x hx
        have h5 := endOf_ge h3
        omega
    refine ⟨⟨⟨?_, ?_, ?_, ?_, (rgt_in s).1, (rgt_in s).2⟩, h00, i1⟩, fun t ht => ?_⟩
    · show 1 ≤ b0 + s.pg; omega
    · show b0 + s.pg ≤ 255; omega
    · show 1 ≤ s.n; omega
    · show s.n ≤ 256 - (b0 + s.pg); omega
    · cases l with
      | nil =>
        simp only [List.getLast?_singleton, Option.some.injEq] at ht
        subst ht
        rfl
      | cons u l => exact i2 t (by rw [List.getLast?_cons_cons] at ht; exact ht)
theorem seg_last {I : Im} (h : ImOk I) : ∃ s, I.segs.getLast? = some s ∧ lastEnd I = s.pg + s.n := by
  cases hl : I.segs.getLast? with
  | none =>
    rw [List.getLast?_eq_none_iff] at hl
    have := h.s1
    rw [hl] at this
    simp at this
  | some s => exact ⟨s, rfl, by unfold lastEnd; rw [hl]⟩
theorem raws_rise {os : List Ob} {nx : Int} (hP : PkI (os, nx)) (hk : ∀ o ∈ os, checkIm o.im = 0) (hx : nx ≤ 256) : RiseF 1 (rawsO os) := by
  have key : ∀ i, i ≤ os.length → RiseF 1 (rawsO (os.take i)) ∧ endOf 1 (rawsO (os.take i)) ≤ 1 + endsN (os.take i) := by
    intro i
    induction i with
    | zero => intro _; exact ⟨trivial, Int.le_refl _⟩
    | succ i ih =>
      intro hi
      obtain ⟨h1, h2⟩ := ih (by omega)
      obtain ⟨o, ho⟩ : ∃ o, os[i]? = some o := ⟨os[i], by simp⟩
      have hat : o.at_ = (1 + endsN (os.take i)) * 16 := hP.at_ i o ho
      have e1 : rawsO (os.take (i + 1)) = rawsO (os.take i) ++ o.im.segs.map (rawA (o.at_ / 16)) := by
        unfold rawsO
        rw [List.take_add_one, ho]
        simp
      have hen : endsN (os.take (i + 1)) = endsN (os.take i) + lastEnd o.im := by
        rw [List.take_add_one, ho]
        simp only [Option.toList_some, endsN_app, endsN]
        omega
      have hz := check_zeroL (hk o (List.mem_of_getElem? ho))
      have hpos : ∀ l : List Ob, (∀ o ∈ l, o ∈ os) → 0 ≤ endsN l := fun l hl => (ends_le fun o ho => (check_zeroL (hk o (hl o ho))).1).1
      have q1 := hpos (os.take i) fun o ho => List.mem_of_mem_take ho
      have q2 := hpos (os.drop (i + 1)) fun o ho => List.mem_of_mem_drop ho
      have hnx : nx = 1 + endsN os := hP.nx
      have hall : endsN os = endsN (os.take (i + 1)) + endsN (os.drop (i + 1)) := by rw [← endsN_app, List.take_append_drop]
      obtain ⟨sl, hsl, hle⟩ := seg_last hz.1
      have hb0 : o.at_ / 16 = 1 + endsN (os.take i) := by omega
      rw [e1, hb0]
      have hr := raws_seg (b0 := 1 + endsN (os.take i)) (e := endOf 1 (rawsO (os.take i))) hz.2.2.1 hz.1.s2 (by omega) (fun s hs => by
        have := List.all_eq_true.1 hz.1.s2 s (List.mem_of_getElem? hs)
        unfold sgOk at this
        have := of_decide_eq_true this
        omega) (fun s hs => by rw [hsl] at hs; cases hs; omega)
      refine ⟨riseF_append.2 ⟨h1, hr.1⟩, ?_⟩
      have e2 : endOf 1 (rawsO (os.take i) ++ o.im.segs.map (rawA (1 + endsN (os.take i)))) = endOf (endOf 1 (rawsO (os.take i))) (o.im.segs.map (rawA (1 + endsN (os.take i)))) := by
        generalize rawsO (os.take i) = A
        generalize o.im.segs.map (rawA (1 + endsN (os.take i))) = C
        generalize (1 : Int) = e
        induction A generalizing e with
        | nil => rfl
        | cons a A ih => exact ih _
      rw [e2, hr.2 sl hsl, hen]
      omega
  have := (key os.length (Nat.le_refl _)).1
  rwa [List.take_of_length_le (Nat.le_refl _)] at this
end Go.Proofs.Ytejnpppejalhfab
/- The reference's fixesOf. -/
namespace Go.Proofs.Ytejnpppejalhfab
open Go.RowKit Go.Sort
end Go.Proofs.Ytejnpppejalhfab
