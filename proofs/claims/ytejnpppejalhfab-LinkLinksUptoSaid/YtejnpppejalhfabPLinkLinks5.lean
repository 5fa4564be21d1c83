/- Texts that the proof stands on, one behind the other: Lk2, Lk3, Sc21, PlLnk5, PlFix, PlLay, Lk8, Lk7. -/
import Derived.Laws.IdiomCopy
import Derived.Test.YtejnpppejalhfabPLinkLinks4
/- link.Check and the reference's. -/
namespace Go.Proofs.Ytejnpppejalhfab
open Go.RowKit Go.Sort
set_option maxRecDepth 100000 in
set_option maxHeartbeats 8000000 in
theorem LkCheck_fn {A : List Ar} {Lp : List (Sh × Value)} {w : World} {va vs : Value} {en : Int} (hA : Sl nF w 4 va (A.map arC)) (hL : ShsV w Lp vs) (hen : -9223372036854775808 ≤ en) (hen2 : en ≤ 9223372036854775807) : Fn Try.prog 21 [lkA va vs en] w (RBf (.int .i64 (checkLk A (shs Lp) en)) w) := by
  have bnd := hL.sl.bound
  have hsl := hL.sl
  obtain ⟨p, c, rfl⟩ := hL.sl.len
  unfold lkA
  by_cases hc : checkI A = 0
  rotate_left
  · have hr : checkLk A (shs Lp) en = checkI A := if_neg hc
    have hc' : (!decide (checkI A = 0)) = true := by rw [decide_eq_false hc]; rfl
    rw [hr]
    refine fn_enter (fn := Try.f21) ⟨Try.func21, by kernel_rfl, by kernel_rfl⟩ (by exact rfl) Try.ntmps21 (by exact rfl) ?_
    have hS := St.start w
    repeat' (first | (first | ((with_reducible apply l_pure tabOk); exact rfl; exact rfl) | ((with_reducible apply l_load); exact rfl; (((with_reducible apply Loads.sl tabOk); exact rfl; ((exact hS.blkC 0 rfl rfl)))); exact rfl) | ((with_reducible apply l_box hS); exact rfl; exact rfl; exact rfl; intro g w' hS'; clear hS; have hS := hS'; clear hS')) | (first | (with_reducible apply c_seq) | (with_reducible apply c_region) | (with_reducible apply l_nil) | (with_reducible apply q_then) | (with_reducible apply c_ret) | (with_reducible apply q_then_ret)) | (((with_reducible apply c_ift); exact rfl; (assumption))) | ((with_reducible apply l_call); exact rfl; exact rfl; exact check_fn (hA.now hS); exact rfl; rintro _ w' ⟨rfl, hS'⟩; replace hS := hS.transA hS'; simp only [appA] at hS; clear hS'))
    (apply q_ret1); (repeat (first | exact ResL.nil | (apply ResL.tmp; exact rfl)))
    exact ⟨rfl, hS.sub (List.nil_sublist _)⟩
  have hck := fun w (h : Sl nF w 4 va (A.map arC)) => check_fn h
  have htot := fun w (h : Sl nF w 4 va (A.map arC)) => Total_fn h
  have hfnd := fun w page (h : Sl nF w 4 va (A.map arC)) => Find_fn page h
  have hfi : ∀ page, findI A page = findA A page := fun page => if_pos hc
  simp only [hc, if_true, hfi] at hck htot hfnd
  have hr : checkLk A (shs Lp) en = if lkB A (shs Lp) en = true then 0 else 1 := if_pos hc
  rw [hr]
  unfold lkB
  rw [shs_len]
  by_cases hn : (Lp.length : Int) = sumN A
  rotate_left
  · have hn' : (!decide ((Lp.length : Int) = sumN A)) = true := by rw [decide_eq_false hn]; rfl
    rw [if_neg (by rw [decide_eq_false hn]; simp)]
    refine fn_enter (fn := Try.f21) ⟨Try.func21, by kernel_rfl, by kernel_rfl⟩ (by exact rfl) Try.ntmps21 (by exact rfl) ?_
    have hS := St.start w
    repeat' (first | (first | ((with_reducible apply l_pure tabOk); exact rfl; exact rfl) | ((with_reducible apply l_load); exact rfl; (((with_reducible apply Loads.sl tabOk); exact rfl; ((exact hS.blkC 0 rfl rfl)))); exact rfl) | ((with_reducible apply l_box hS); exact rfl; exact rfl; exact rfl; intro g w' hS'; clear hS; have hS := hS'; clear hS')) | (first | (with_reducible apply c_seq) | (with_reducible apply c_region) | (with_reducible apply l_nil) | (with_reducible apply q_then) | (with_reducible apply c_skip)) | (((with_reducible apply c_iff); exact rfl; (exact rfl))) | ((with_reducible apply l_call); exact rfl; exact rfl; exact hck _ (hA.now hS); exact rfl; rintro _ w' ⟨rfl, hS'⟩; replace hS := hS.transA hS'; simp only [appA] at hS; clear hS'))
    (focus ((with_reducible apply c_drawAll nF _ _ (by kernel_rfl) (by kernel_rfl) hS); (repeat' (first | (first | ((with_reducible apply d_pure tabOk); exact rfl; exact rfl) | ((with_reducible apply d_load); exact rfl; (intro wd hd; replace hd : St _ _ wd _ := hd; (((with_reducible apply Loads.sl tabOk); exact rfl; ((exact hd.blkC 0 rfl rfl))))); exact rfl)) | ((with_reducible apply d_call); exact rfl; exact rfl; (intro wd hd; replace hd : St _ _ wd _ := hd; exact htot _ (hA.now hd)); exact rfl))); all_goals ((with_reducible apply d_nil); intro w' hS'; clear hS; have hS := hS'; clear hS')))
    repeat' (first | (((with_reducible apply l_pure tabOk); exact rfl; exact rfl)) | (first | (with_reducible apply c_seq) | (with_reducible apply c_region) | (with_reducible apply l_nil) | (with_reducible apply q_then) | (with_reducible apply c_ret) | (with_reducible apply q_then_ret)) | (((with_reducible apply c_ift); exact rfl; (assumption))))
    (apply q_ret1); (repeat (first | exact ResL.nil | (apply ResL.tmp; exact rfl)))
    exact ⟨rfl, hS.sub (List.nil_sublist _)⟩
  have hn' : (!decide ((Lp.length : Int) = sumN A)) = false := by rw [decide_eq_true hn]; rfl
  rw [decide_eq_true hn, Bool.true_and]
  refine fn_enter (fn := Try.f21) ⟨Try.func21, by kernel_rfl, by kernel_rfl⟩ (by exact rfl) Try.ntmps21 (by exact rfl) ?_
  have hS := St.start w
  repeat' (first | (first | ((with_reducible apply l_pure tabOk); exact rfl; exact rfl) | ((with_reducible apply l_load); exact rfl; (((with_reducible apply Loads.sl tabOk); exact rfl; ((exact hS.blkC 0 rfl rfl)))); exact rfl) | ((with_reducible apply l_box hS); exact rfl; exact rfl; exact rfl; intro g w' hS'; clear hS; have hS := hS'; clear hS')) | (first | (with_reducible apply c_seq) | (with_reducible apply c_region) | (with_reducible apply l_nil) | (with_reducible apply q_then) | (with_reducible apply c_skip)) | (((with_reducible apply c_iff); exact rfl; (exact rfl))) | ((with_reducible apply l_call); exact rfl; exact rfl; exact hck _ (hA.now hS); exact rfl; rintro _ w' ⟨rfl, hS'⟩; replace hS := hS.transA hS'; simp only [appA] at hS; clear hS'))
  (focus ((with_reducible apply c_drawAll nF _ _ (by kernel_rfl) (by kernel_rfl) hS); (repeat' (first | (first | ((with_reducible apply d_pure tabOk); exact rfl; exact rfl) | ((with_reducible apply d_load); exact rfl; (intro wd hd; replace hd : St _ _ wd _ := hd; (((with_reducible apply Loads.sl tabOk); exact rfl; ((exact hd.blkC 0 rfl rfl))))); exact rfl)) | ((with_reducible apply d_call); exact rfl; exact rfl; (intro wd hd; replace hd : St _ _ wd _ := hd; exact htot _ (hA.now hd)); exact rfl))); all_goals ((with_reducible apply d_nil); intro w' hS'; clear hS; have hS := hS'; clear hS')))
  repeat' (first | (first | ((with_reducible apply l_pure tabOk); exact rfl; exact rfl) | ((with_reducible apply l_load); exact rfl; (((with_reducible apply Loads.sl tabOk); exact rfl; ((exact hS.blkC 0 rfl rfl)))); exact rfl)) | (first | (with_reducible apply c_seq) | (with_reducible apply c_region) | (with_reducible apply l_nil) | (with_reducible apply q_then) | (with_reducible apply c_skip) | (with_reducible apply c_block)) | (((with_reducible apply c_iff); exact rfl; (assumption))))
  refine c_loopK (X := Nat × Int) (fun x => [(27, .int .i64 (x.1 : Nat)), (4, .int .i64 x.2)]) [1, 25, 26] rfl (fun _ => []) (fun x => x.1 ≤ Lp.length ∧ shsB A 0 (shs Lp) = shsB A x.2 ((shs Lp).drop x.1)) (fun x => Lp.length - x.1) (0, 0) (by repeat (first | exact Fr.sub_nil _ | (apply Fr.sub_cons; exact rfl))) (by simp) hS ?_
  clear hS
  rintro ⟨i, last⟩ w1 ⟨hi, hok⟩ hS
  dsimp only [List.cons_append, List.nil_append] at hi hok hS ⊢
  by_cases hlt : i < Lp.length
  · obtain ⟨x, hx⟩ := lt_get (l := Lp) (i := i) (by omega)
    have hrow := map_get (f := fun p => shC p.1 p.2) hx
    obtain ⟨b, off, rfl, hro⟩ := hsl.at_ (i := i) hlt
    have hst := shsB_step (A := A) (last := last) (shs_at hx)
    have hfx := hL.fx x (List.mem_of_getElem? hx)
    have hfi2 := fun w h => hfnd w x.1.page h
    obtain ⟨S, u⟩ := x
    dsimp only [shC] at hrow hst hfx hfi2
    obtain ⟨pu, cu, rfl⟩ := hfx.len
    have hrt := fun w (h : ShV w S (.slice pu S.fixes.length cu)) => right_fn h
    rw [hst] at hok
    cases hf : findA A S.page with
    | none =>
      simp only [hf] at hfi2
      have ha : arOk A S.page = false := by unfold arOk; rw [hf]
      rw [ha, Bool.false_and] at hok
      repeat' (first | (first | ((with_reducible apply l_pure tabOk); exact rfl; exact rfl) | ((with_reducible apply l_load); exact rfl; (first | ((with_reducible apply Loads.sc tabOk); exact rfl; ((exact hS.blkC 0 rfl rfl))) | ((with_reducible apply Loads.sl tabOk); exact rfl; ((exact hS.blkC 1 rfl rfl))) | ((with_reducible apply Loads.st tabOk); exact rfl; ((exact hS.roR (by assumption) (by assumption))); exact rfl)); exact rfl) | ((with_reducible apply l_ix tabOk); exact rfl; exact rfl; exact rfl; ((exact rfl)); ((omega)); exact rfl) | ((with_reducible apply l_alloc hS tabOk); exact rfl; exact rfl; exact rfl; intro g w' hS'; clear hS; have hS := hS'; clear hS') | (((with_reducible apply l_store hS tabOk (i := 0)); exact rfl; exact rfl; exact rfl; exact rfl; exact rfl; exact rfl; exact rfl; exact rfl; (first | exact (rfl : _ = [_, _, _]) | exact (rfl : _ = [_, _, _, _])); intro w' hS'; simp only [List.set] at hS'; clear hS; have hS := hS'; clear hS')) | (first | ((with_reducible apply l_no); exact rfl; exact rfl; exact rfl; exact rfl; ((exact rfl)); exact rfl) | ((with_reducible apply l_pick1); exact rfl; ((exact rfl)); exact rfl; exact rfl))) | (first | (with_reducible apply c_seq) | (with_reducible apply c_region) | (with_reducible apply l_nil) | (with_reducible apply q_then) | (with_reducible apply c_skip) | (with_reducible apply c_block) | (with_reducible apply c_ret) | (with_reducible apply q_then_ret) | (with_reducible apply q_block_ret)) | (first | ((with_reducible apply c_ift); exact rfl; (exact rfl)) | ((with_reducible apply c_ifd); exact rfl; all_goals (intro hb hp; try (exfalso; omega)))) | ((with_reducible apply l_call); exact rfl; exact rfl; exact hfi2 _ (hA.now hS); exact rfl; rintro _ w' ⟨rfl, hS'⟩; replace hS := hS.transA hS'; simp only [appA] at hS; clear hS'))
      (apply q_ret1); (repeat (first | exact ResL.nil | (apply ResL.tmp; exact rfl)))
      exact ⟨by rw [hok]; rfl, hS.sub (List.nil_sublist _)⟩
    | some a =>
      simp only [hf] at hfi2
      obtain ⟨pg, n, prot, z⟩ := a
      cases z with
      | true =>
        have ha : arOk A S.page = false := by unfold arOk; rw [hf]; rfl
        rw [ha, Bool.false_and] at hok
        repeat' (first | (first | ((with_reducible apply l_pure tabOk); exact rfl; exact rfl) | ((with_reducible apply l_load); exact rfl; (first | ((with_reducible apply Loads.sc tabOk); exact rfl; ((exact hS.blkC 0 rfl rfl))) | ((with_reducible apply Loads.sl tabOk); exact rfl; ((exact hS.blkC 1 rfl rfl))) | ((with_reducible apply Loads.st tabOk); exact rfl; ((exact hS.roR (by assumption) (by assumption))); exact rfl)); exact rfl) | ((with_reducible apply l_ix tabOk); exact rfl; exact rfl; exact rfl; ((exact rfl)); ((omega)); exact rfl) | ((with_reducible apply l_alloc hS tabOk); exact rfl; exact rfl; exact rfl; intro g w' hS'; clear hS; have hS := hS'; clear hS') | (((with_reducible apply l_store hS tabOk (i := 0)); exact rfl; exact rfl; exact rfl; exact rfl; exact rfl; exact rfl; exact rfl; exact rfl; (first | exact (rfl : _ = [_, _, _]) | exact (rfl : _ = [_, _, _, _])); intro w' hS'; simp only [List.set] at hS'; clear hS; have hS := hS'; clear hS')) | (first | ((with_reducible apply l_yes); exact rfl; exact rfl; exact rfl; exact rfl; (exact rfl)) | ((with_reducible apply l_no); exact rfl; exact rfl; exact rfl; exact rfl; ((exact rfl)); exact rfl) | ((with_reducible apply l_pick1); exact rfl; ((exact rfl)); exact rfl; exact rfl) | ((with_reducible apply l_pick2); exact rfl; ((exact rfl)); exact rfl; exact rfl))) | (first | (with_reducible apply c_seq) | (with_reducible apply c_region) | (with_reducible apply l_nil) | (with_reducible apply q_then) | (with_reducible apply c_skip) | (with_reducible apply c_block) | (with_reducible apply c_ret) | (with_reducible apply q_then_ret) | (with_reducible apply q_block_ret)) | (first | ((with_reducible apply c_ift); exact rfl; (exact rfl)) | ((with_reducible apply c_ifd); exact rfl; all_goals (intro hb hp; try (exfalso; omega)))) | ((with_reducible apply l_call); exact rfl; exact rfl; exact hfi2 _ (hA.now hS); exact rfl; rintro _ w' ⟨rfl, hS'⟩; replace hS := hS.transA hS'; simp only [appA] at hS; clear hS'))
        (apply q_ret1); (repeat (first | exact ResL.nil | (apply ResL.tmp; exact rfl)))
        exact ⟨by rw [hok]; rfl, hS.sub (List.nil_sublist _)⟩
      | false =>
        have ha : arOk A S.page = true := by unfold arOk; rw [hf]; rfl
        rw [ha, Bool.true_and] at hok
        cases hR : rightS S with
        | false =>
          simp only [hR] at hrt
          rw [hR, Bool.false_and] at hok
          repeat' (first | (first | ((with_reducible apply l_pure tabOk); exact rfl; exact rfl) | ((with_reducible apply l_load); exact rfl; (first | ((with_reducible apply Loads.sc tabOk); exact rfl; ((exact hS.blkC 0 rfl rfl))) | ((with_reducible apply Loads.sl tabOk); exact rfl; ((exact hS.blkC 1 rfl rfl))) | ((with_reducible apply Loads.st tabOk); exact rfl; (first | exact hS.blkR 1 rfl | exact hS.roR (by assumption) (by assumption)); exact rfl)); exact rfl) | ((with_reducible apply l_ix tabOk); exact rfl; exact rfl; exact rfl; ((exact rfl)); ((omega)); exact rfl) | ((with_reducible apply l_alloc hS tabOk); exact rfl; exact rfl; exact rfl; intro g w' hS'; clear hS; have hS := hS'; clear hS') | (((with_reducible apply l_store hS tabOk (i := 0)); exact rfl; exact rfl; exact rfl; exact rfl; exact rfl; exact rfl; exact rfl; exact rfl; (first | exact (rfl : _ = [_, _, _]) | exact (rfl : _ = [_, _, _, _])); intro w' hS'; simp only [List.set] at hS'; clear hS; have hS := hS'; clear hS')) | (first | ((with_reducible apply l_yes); exact rfl; exact rfl; exact rfl; exact rfl; (exact rfl)) | ((with_reducible apply l_no); exact rfl; exact rfl; exact rfl; exact rfl; ((exact rfl)); exact rfl) | ((with_reducible apply l_pick1); exact rfl; ((exact rfl)); exact rfl; exact rfl) | ((with_reducible apply l_pick2); exact rfl; ((exact rfl)); exact rfl; exact rfl))) | (first | (with_reducible apply c_seq) | (with_reducible apply c_region) | (with_reducible apply l_nil) | (with_reducible apply q_then) | (with_reducible apply c_skip) | (with_reducible apply c_block) | (with_reducible apply c_ret) | (with_reducible apply q_then_ret) | (with_reducible apply q_block_ret)) | (first | ((with_reducible apply c_ift); exact rfl; (exact rfl)) | ((with_reducible apply c_ifd); exact rfl; all_goals (intro hb hp; try (exfalso; omega)))) | ((with_reducible apply l_call); exact rfl; exact rfl; exact hfi2 _ (hA.now hS); exact rfl; rintro _ w' ⟨rfl, hS'⟩; replace hS := hS.transA hS'; simp only [appA] at hS; clear hS') | ((with_reducible apply l_call); exact rfl; exact rfl; exact hrt _ (hfx.now hS); exact rfl; rintro _ w' ⟨rfl, hS'⟩; replace hS := hS.transA hS'; simp only [appA] at hS; clear hS'))
          (apply q_ret1); (repeat (first | exact ResL.nil | (apply ResL.tmp; exact rfl)))
          exact ⟨by rw [hok]; rfl, hS.sub (List.nil_sublist _)⟩
        | true =>
          simp only [hR] at hrt
          rw [hR, Bool.true_and] at hok
          by_cases hlp : last < S.page
          · rw [decide_eq_true hlp, Bool.true_and] at hok
            repeat' (first | (first | ((with_reducible apply l_add); exact rfl; exact rfl; omega; omega; exact rfl) | ((with_reducible apply l_pure tabOk); exact rfl; exact rfl) | ((with_reducible apply l_load); exact rfl; (first | ((with_reducible apply Loads.sc tabOk); exact rfl; (first | exact hS.blkC 0 rfl rfl | exact hS.blkC 1 rfl rfl)) | ((with_reducible apply Loads.sl tabOk); exact rfl; ((exact hS.blkC 1 rfl rfl))) | ((with_reducible apply Loads.st tabOk); exact rfl; (first | exact hS.blkR 1 rfl | exact hS.roR (by assumption) (by assumption)); exact rfl)); exact rfl) | ((with_reducible apply l_ix tabOk); exact rfl; exact rfl; exact rfl; ((exact rfl)); ((omega)); exact rfl) | ((with_reducible apply l_alloc hS tabOk); exact rfl; exact rfl; exact rfl; intro g w' hS'; clear hS; have hS := hS'; clear hS') | (((with_reducible apply l_store hS tabOk (i := 0)); exact rfl; exact rfl; exact rfl; exact rfl; exact rfl; exact rfl; exact rfl; exact rfl; (first | exact (rfl : _ = [_, _, _]) | exact (rfl : _ = [_, _, _, _])); intro w' hS'; simp only [List.set] at hS'; clear hS; have hS := hS'; clear hS')) | (first | ((with_reducible apply l_yes); exact rfl; exact rfl; exact rfl; exact rfl; (exact rfl)) | ((with_reducible apply l_pick2); exact rfl; ((exact rfl)); exact rfl; exact rfl))) | (first | (with_reducible apply c_seq) | (with_reducible apply c_region) | (with_reducible apply l_nil) | (with_reducible apply q_then) | (with_reducible apply c_skip) | (with_reducible apply c_block) | (with_reducible apply q_block)) | (((with_reducible apply c_ifd); exact rfl; all_goals (intro hb hp; try (exfalso; omega)))) | ((with_reducible apply l_call); exact rfl; exact rfl; exact hfi2 _ (hA.now hS); exact rfl; rintro _ w' ⟨rfl, hS'⟩; replace hS := hS.transA hS'; simp only [appA] at hS; clear hS') | ((with_reducible apply l_call); exact rfl; exact rfl; exact hrt _ (hfx.now hS); exact rfl; rintro _ w' ⟨rfl, hS'⟩; replace hS := hS.transA hS'; simp only [appA] at hS; clear hS'))
            exact q_loopK (i + 1, S.page) (by repeat (first | exact Fr.sub_nil _ | (apply Fr.sub_cons; exact rfl))) ⟨by show i + 1 ≤ Lp.length; omega, hok⟩ (hS.reorder [2] (by decide) rfl) (by show Lp.length - (i + 1) < Lp.length - i; omega)
          · rw [decide_eq_false hlp, Bool.false_and] at hok
            repeat' (first | (first | ((with_reducible apply l_pure tabOk); exact rfl; exact rfl) | ((with_reducible apply l_load); exact rfl; (first | ((with_reducible apply Loads.sc tabOk); exact rfl; (first | exact hS.blkC 0 rfl rfl | exact hS.blkC 1 rfl rfl)) | ((with_reducible apply Loads.sl tabOk); exact rfl; ((exact hS.blkC 1 rfl rfl))) | ((with_reducible apply Loads.st tabOk); exact rfl; (first | exact hS.blkR 1 rfl | exact hS.roR (by assumption) (by assumption)); exact rfl)); exact rfl) | ((with_reducible apply l_ix tabOk); exact rfl; exact rfl; exact rfl; ((exact rfl)); ((omega)); exact rfl) | ((with_reducible apply l_alloc hS tabOk); exact rfl; exact rfl; exact rfl; intro g w' hS'; clear hS; have hS := hS'; clear hS') | (((with_reducible apply l_store hS tabOk (i := 0)); exact rfl; exact rfl; exact rfl; exact rfl; exact rfl; exact rfl; exact rfl; exact rfl; (first | exact (rfl : _ = [_, _, _]) | exact (rfl : _ = [_, _, _, _])); intro w' hS'; simp only [List.set] at hS'; clear hS; have hS := hS'; clear hS')) | (first | ((with_reducible apply l_yes); exact rfl; exact rfl; exact rfl; exact rfl; (exact rfl)) | ((with_reducible apply l_pick2); exact rfl; ((exact rfl)); exact rfl; exact rfl))) | (first | (with_reducible apply c_seq) | (with_reducible apply c_region) | (with_reducible apply l_nil) | (with_reducible apply q_then) | (with_reducible apply c_skip) | (with_reducible apply c_block) | (with_reducible apply c_ret) | (with_reducible apply q_then_ret) | (with_reducible apply q_block_ret)) | (((with_reducible apply c_ifd); exact rfl; all_goals (intro hb hp; try (exfalso; omega)))) | ((with_reducible apply l_call); exact rfl; exact rfl; exact hfi2 _ (hA.now hS); exact rfl; rintro _ w' ⟨rfl, hS'⟩; replace hS := hS.transA hS'; simp only [appA] at hS; clear hS') | ((with_reducible apply l_call); exact rfl; exact rfl; exact hrt _ (hfx.now hS); exact rfl; rintro _ w' ⟨rfl, hS'⟩; replace hS := hS.transA hS'; simp only [appA] at hS; clear hS'))
            (apply q_ret1); (repeat (first | exact ResL.nil | (apply ResL.tmp; exact rfl)))
            exact ⟨by rw [hok]; rfl, hS.sub (List.nil_sublist _)⟩
  rw [List.drop_of_length_le (by rw [shs_len]; omega)] at hok
  have hrv : (if (shsB A 0 (shs Lp) && entB A en) = true then (0 : Int) else 1) = if entB A en = true then 0 else 1 := by
    simp only [hok, shsB, Bool.true_and]
  rw [hrv]
  have hfe := fun w h => hfnd w (en.tdiv 16) h
  by_cases he : 0 ≤ en ∧ en.tmod 8 = 0
  rotate_left
  · have hE : entB A en = false := by unfold entB; rw [decide_eq_false he]; rfl
    rw [hE]
    have hrv2 : (if false = true then (0 : Int) else 1) = 1 := rfl
    repeat' (first | (first | ((with_reducible apply l_pure tabOk); exact rfl; exact rfl) | ((with_reducible apply l_load); exact rfl; (((with_reducible apply Loads.sc tabOk); exact rfl; ((exact hS.blkC 0 rfl rfl)))); exact rfl) | (first | ((with_reducible apply l_yes); exact rfl; exact rfl; exact rfl; exact rfl; (assumption)) | ((with_reducible apply l_no); exact rfl; exact rfl; exact rfl; exact rfl; ((assumption)); exact rfl) | ((with_reducible apply l_partd); exact rfl; exact rfl; exact rfl; all_goals (intro hb hp; try (exfalso; omega))) | ((with_reducible apply l_pick1); exact rfl; ((assumption)); exact rfl; exact rfl) | ((with_reducible apply l_pick2); exact rfl; ((assumption)); exact rfl; exact rfl))) | (first | (with_reducible apply c_seq) | (with_reducible apply c_region) | (with_reducible apply l_nil) | (with_reducible apply q_then) | (with_reducible apply c_exit) | (with_reducible apply c_ret) | (with_reducible apply q_then_exit) | (with_reducible apply q_then_ret) | (with_reducible apply q_block_exit)) | (first | ((with_reducible apply c_ift); exact rfl; (exact rfl)) | ((with_reducible apply c_ifd); exact rfl; all_goals (intro hb hp; try (exfalso; omega))) | ((with_reducible apply c_ifn); exact rfl; all_goals (intro hb hp; try (exfalso; omega)))) | ((with_reducible apply l_remT); exact rfl; exact rfl; omega; exact rfl))
    all_goals (((apply q_ret1); (repeat (first | exact ResL.nil | (apply ResL.tmp; exact rfl)))); exact ⟨rfl, hS.sub (List.nil_sublist _)⟩)
  cases hf : findA A (en.tdiv 16) with
  | none =>
    simp only [hf] at hfe
    have hE : entB A en = false := by unfold entB; rw [hf]; simp
    rw [hE]
    repeat' (first | (first | ((with_reducible apply l_pure tabOk); exact rfl; exact rfl) | ((with_reducible apply l_load); exact rfl; (first | ((with_reducible apply Loads.sc tabOk); exact rfl; ((exact hS.blkC 0 rfl rfl))) | ((with_reducible apply Loads.sl tabOk); exact rfl; ((exact hS.blkC 0 rfl rfl)))); exact rfl) | ((with_reducible apply l_alloc hS tabOk); exact rfl; exact rfl; exact rfl; intro g w' hS'; clear hS; have hS := hS'; clear hS') | (((with_reducible apply l_store hS tabOk (i := 0)); exact rfl; exact rfl; exact rfl; exact rfl; exact rfl; exact rfl; exact rfl; exact rfl; ((exact (rfl : _ = [_, _, _, _]))); intro w' hS'; simp only [List.set] at hS'; clear hS; have hS := hS'; clear hS')) | (first | ((with_reducible apply l_yes); exact rfl; exact rfl; exact rfl; exact rfl; (assumption)) | ((with_reducible apply l_no); exact rfl; exact rfl; exact rfl; exact rfl; ((exact rfl)); exact rfl) | ((with_reducible apply l_partd); exact rfl; exact rfl; exact rfl; all_goals (intro hb hp; try (exfalso; omega))) | ((with_reducible apply l_pick1); exact rfl; ((exact rfl)); exact rfl; exact rfl) | ((with_reducible apply l_pick2); exact rfl; ((assumption)); exact rfl; exact rfl))) | (first | (with_reducible apply c_seq) | (with_reducible apply c_region) | (with_reducible apply l_nil) | (with_reducible apply q_then) | (with_reducible apply c_skip) | (with_reducible apply c_exit) | (with_reducible apply c_ret) | (with_reducible apply q_then_exit) | (with_reducible apply q_then_ret) | (with_reducible apply q_block_exit)) | (first | ((with_reducible apply c_ift); exact rfl; (exact rfl)) | ((with_reducible apply c_ifd); exact rfl; all_goals (intro hb hp; try (exfalso; omega))) | ((with_reducible apply c_ifn); exact rfl; all_goals (intro hb hp; try (exfalso; omega)))) | ((with_reducible apply l_remT); exact rfl; exact rfl; omega; exact rfl) | ((with_reducible apply l_quoT); exact rfl; exact rfl; omega; omega; omega; exact rfl) | ((with_reducible apply l_call); exact rfl; exact rfl; exact hfe _ (hA.now hS); exact rfl; rintro _ w' ⟨rfl, hS'⟩; replace hS := hS.transA hS'; simp only [appA] at hS; clear hS'))
    (apply q_ret1); (repeat (first | exact ResL.nil | (apply ResL.tmp; exact rfl)))
    exact ⟨rfl, hS.sub (List.nil_sublist _)⟩
  | some a =>
    simp only [hf] at hfe
    have hok2 := (good_pos hc hf).1
    unfold Ar.ok at hok2
    obtain ⟨pg, n, prot, z⟩ := a
    dsimp only at hok2
    have ha2 := and2 (p := prot) (by omega) (by omega)
    by_cases h2 : 2 ≤ prot
    · have hE : entB A en = true := by unfold entB; rw [hf, decide_eq_true he]; simp [h2]
      rw [hE]
      rw [if_pos h2] at ha2
      repeat' (first | (first | ((with_reducible apply l_pure tabOk); exact rfl; exact rfl) | ((with_reducible apply l_load); exact rfl; (first | ((with_reducible apply Loads.sc tabOk); exact rfl; ((exact hS.blkC 0 rfl rfl))) | ((with_reducible apply Loads.sl tabOk); exact rfl; ((exact hS.blkC 0 rfl rfl)))); exact rfl) | ((with_reducible apply l_alloc hS tabOk); exact rfl; exact rfl; exact rfl; intro g w' hS'; clear hS; have hS := hS'; clear hS') | (((with_reducible apply l_store hS tabOk (i := 0)); exact rfl; exact rfl; exact rfl; exact rfl; exact rfl; exact rfl; exact rfl; exact rfl; ((exact (rfl : _ = [_, _, _, _]))); intro w' hS'; simp only [List.set] at hS'; clear hS; have hS := hS'; clear hS')) | (first | ((with_reducible apply l_yes); exact rfl; exact rfl; exact rfl; exact rfl; first | exact rfl | assumption) | ((with_reducible apply l_partd); exact rfl; exact rfl; exact rfl; all_goals (intro hb hp; try (exfalso; omega))) | ((with_reducible apply l_pick2); exact rfl; (first | exact rfl | assumption); exact rfl; exact rfl))) | (first | (with_reducible apply c_seq) | (with_reducible apply c_region) | (with_reducible apply l_nil) | (with_reducible apply q_then) | (with_reducible apply c_skip) | (with_reducible apply c_exit) | (with_reducible apply c_ret) | (with_reducible apply q_then_exit) | (with_reducible apply q_block_exit)) | (first | ((with_reducible apply c_iff); exact rfl; (exact rfl)) | ((with_reducible apply c_ifd); exact rfl; all_goals (intro hb hp; try (exfalso; omega))) | ((with_reducible apply c_ifn); exact rfl; all_goals (intro hb hp; try (exfalso; omega)))) | ((with_reducible apply l_remT); exact rfl; exact rfl; omega; exact rfl) | ((with_reducible apply l_quoT); exact rfl; exact rfl; omega; omega; omega; exact rfl) | ((with_reducible apply l_call); exact rfl; exact rfl; exact hfe _ (hA.now hS); exact rfl; rintro _ w' ⟨rfl, hS'⟩; replace hS := hS.transA hS'; simp only [appA] at hS; clear hS') | ((with_reducible apply l_and); exact rfl; exact rfl; exact ha2; exact rfl))
      (apply q_ret1); (repeat (first | exact ResL.nil | (apply ResL.tmp; exact rfl)))
      exact ⟨rfl, hS.sub (List.nil_sublist _)⟩
    · have hE : entB A en = false := by unfold entB; rw [hf]; simp [h2]
      rw [hE]
      rw [if_neg h2] at ha2
      repeat' (first | (first | ((with_reducible apply l_pure tabOk); exact rfl; exact rfl) | ((with_reducible apply l_load); exact rfl; (first | ((with_reducible apply Loads.sc tabOk); exact rfl; ((exact hS.blkC 0 rfl rfl))) | ((with_reducible apply Loads.sl tabOk); exact rfl; ((exact hS.blkC 0 rfl rfl)))); exact rfl) | ((with_reducible apply l_alloc hS tabOk); exact rfl; exact rfl; exact rfl; intro g w' hS'; clear hS; have hS := hS'; clear hS') | (((with_reducible apply l_store hS tabOk (i := 0)); exact rfl; exact rfl; exact rfl; exact rfl; exact rfl; exact rfl; exact rfl; exact rfl; ((exact (rfl : _ = [_, _, _, _]))); intro w' hS'; simp only [List.set] at hS'; clear hS; have hS := hS'; clear hS')) | (first | ((with_reducible apply l_yes); exact rfl; exact rfl; exact rfl; exact rfl; first | exact rfl | assumption) | ((with_reducible apply l_partd); exact rfl; exact rfl; exact rfl; all_goals (intro hb hp; try (exfalso; omega))) | ((with_reducible apply l_pick2); exact rfl; (first | exact rfl | assumption); exact rfl; exact rfl))) | (first | (with_reducible apply c_seq) | (with_reducible apply c_region) | (with_reducible apply l_nil) | (with_reducible apply q_then) | (with_reducible apply c_skip) | (with_reducible apply c_exit) | (with_reducible apply c_ret) | (with_reducible apply q_then_exit) | (with_reducible apply q_then_ret) | (with_reducible apply q_block_exit)) | (first | ((with_reducible apply c_ift); exact rfl; (exact rfl)) | ((with_reducible apply c_ifd); exact rfl; all_goals (intro hb hp; try (exfalso; omega))) | ((with_reducible apply c_ifn); exact rfl; all_goals (intro hb hp; try (exfalso; omega)))) | ((with_reducible apply l_remT); exact rfl; exact rfl; omega; exact rfl) | ((with_reducible apply l_quoT); exact rfl; exact rfl; omega; omega; omega; exact rfl) | ((with_reducible apply l_call); exact rfl; exact rfl; exact hfe _ (hA.now hS); exact rfl; rintro _ w' ⟨rfl, hS'⟩; replace hS := hS.transA hS'; simp only [appA] at hS; clear hS') | ((with_reducible apply l_and); exact rfl; exact rfl; exact ha2; exact rfl))
      (apply q_ret1); (repeat (first | exact ResL.nil | (apply ResL.tmp; exact rfl)))
      exact ⟨rfl, hS.sub (List.nil_sublist _)⟩
end Go.Proofs.Ytejnpppejalhfab
/- The reference's sheetsRise and CheckLinked. -/
namespace Go.Proofs.Ytejnpppejalhfab
open Go.RowKit Go.Sort
end Go.Proofs.Ytejnpppejalhfab
/- THE STEP CALCULUS, part 21: min and max; copy of a string into a row of bytes of one's own; things in a list of whatever length. -/
namespace Go.Proofs.Ytejnpppejalhfab
open Go.RowKit Go.Sort

section
variable {P : Program} {n : Nat} {ds : List Deferred} {E : Fr} {w : World} {Q : Exit → Act → World → Prop} {ops : Array Oper} {rest : List Oper} {d : Nat} {dst : Option Nat} {ty : TypeId} {pos : String} {after : Array Edge} {F : Nat → Prop} {w0 : World} {Γ : List Asr} {T : Tab}
theorem r_min {x y : Operand} {ats : Array TypeId} {m k : Int} (hx : E.ev x = some (.int .i64 m)) (hy : E.ev y = some (.int .i64 k)) : ∀ a, Has n ds a E → ∀ dst, Runs P ⟨dst, .call { callee := .builtin .min, args := #[x, y], argTypes := ats }, ty, pos, after, none⟩ a (.int .i64 (min m k)) := fun a ha dst w => by
  have e : (if k < m then k else m) = min m k := by omega
  simp [execOp, resolve, invoke, builtin, ha.ev hx, ha.ev hy, Builtin.min_, Builtin.min2, Result.andThen, e]
theorem l_min {x y : Operand} {ats : Array TypeId} {m k : Int} (hx : E.ev x = some (.int .i64 m)) (hy : E.ev y = some (.int .i64 k)) (hd : Nat.blt d n = true) (k' : WL P ops Q rest n ds ((d, .int .i64 (min m k)) :: E) w) : WL P ops Q (⟨some d, .call { callee := .builtin .min, args := #[x, y], argTypes := ats }, ty, pos, after, none⟩ :: rest) n ds E w := l_runs (fun a ha => r_min hx hy a ha _) hd k'
theorem r_max {x y : Operand} {ats : Array TypeId} {m k : Int} (hx : E.ev x = some (.int .i64 m)) (hy : E.ev y = some (.int .i64 k)) : ∀ a, Has n ds a E → ∀ dst, Runs P ⟨dst, .call { callee := .builtin .max, args := #[x, y], argTypes := ats }, ty, pos, after, none⟩ a (.int .i64 (max m k)) := fun a ha dst w => by
  have e : (if k > m then k else m) = max m k := by omega
  simp [execOp, resolve, invoke, builtin, ha.ev hx, ha.ev hy, Builtin.max_, Builtin.max2, Result.andThen, e]
theorem l_max {x y : Operand} {ats : Array TypeId} {m k : Int} (hx : E.ev x = some (.int .i64 m)) (hy : E.ev y = some (.int .i64 k)) (hd : Nat.blt d n = true) (k' : WL P ops Q rest n ds ((d, .int .i64 (max m k)) :: E) w) : WL P ops Q (⟨some d, .call { callee := .builtin .max, args := #[x, y], argTypes := ats }, ty, pos, after, none⟩ :: rest) n ds E w := l_runs (fun a ha => r_max hx hy a ha _) hd k'
theorem d_strFrom {C : World → Prop} {K : Act → Prop} (hT : TabOk P T) {t sz : Nat} {z : Value} {x lo : Operand} {kk : IntKind} {l : List UInt8} {i : Int} (ht : T.get t = some (.sc .string sz z)) (hx : E.ev x = some (.string ⟨l.toArray⟩)) (hlo : E.ev lo = some (.int kk i)) (h0 : 0 ≤ i) (h1 : i ≤ l.length) (hd : Nat.blt d n = true) (k : WD P ops C K rest n ds ((d, .string ⟨(l.drop i.toNat).toArray⟩) :: E)) : WD P ops C K (⟨some d, .slice t x (some lo) none none, ty, pos, after, none⟩ :: rest) n ds E := d_runs (fun a ha => r_strFrom hT ht hx hlo h0 h1 a ha _) hd k
theorem setL_pre (old c : List Value) (h : c.length ≤ old.length) : setL old 0 c = c ++ old.drop c.length := by
  conv => lhs; rw [← List.take_append_drop c.length old]
  rw [setL_front _ _ _ _ (by simp; omega), setL_all _ _ (by simp; omega)]
/-- 'copy(b, s)', b a row of bytes of one's own, s a string -/
theorem g_copyS (hS : St F w0 w Γ) (hT : TabOk P T) {t u e m cap g i : Nat} {ty2 : TypeId} {x y : Operand} {old l : List UInt8} (ht : T.get t = some (.sl e 1 1 false [.int .u8 0])) (hx : E.ev x = some (.slice (some ⟨g, 0, none⟩) m cap)) (hi : Γ[i]? = some (.row e 1 (.slice (some ⟨g, 0, none⟩) m cap) (bR old))) (hy : E.ev y = some (.string ⟨l.toArray⟩)) :
    Gets P ⟨dst, .call { callee := .builtin .copy, args := #[x, y], argTypes := #[t, u] }, ty2, pos, after, none⟩ n ds E w (fun v' w' => v' = .int .i64 ((l.take m).length : Nat) ∧ St F w0 w' (Γ.set i (.row e 1 (.slice (some ⟨g, 0, none⟩) m cap) (bR (l.take m ++ old.drop (l.take m).length))))) := by
  intro a ha K Q k
  obtain ⟨hown, hlen, hone⟩ := hS.at_ hi
  rcases hown.2 with ⟨hv, _⟩ | ⟨g', cap', cur, hv, _, hg, hmc, hcm, hcs, htake⟩
  · cases hv
  have hol : (bR old).length = old.length := bR_len old
  cases hv
  rw [hol] at hmc htake hx hi
  simp only [hol] at k
  obtain ⟨c, hc⟩ : ∃ c, c = l.take old.length := ⟨_, rfl⟩
  have hcl : c.length = min l.length old.length := by rw [hc, List.length_take]; omega
  have hHL : HoldL w g cur.toList := ⟨e, hg⟩
  have hcu : old.length ≤ cur.size := by rw [hcs]; omega
  obtain ⟨ji, zv, hu, hinfo, _, hs, hby, hz, hzl, _, hsz, hs0⟩ := hT.sl ht
  have hst := run_storeCells_cells (P := P) g 0 (c.map fun b => Value.int .u8 (b.toNat : Int)) 0 w (fun j hj => by
    rw [List.length_map] at hj
    rw [hHL.cell]
    simp only [Option.isSome_iff_exists]
    exact ⟨_, List.getElem?_eq_getElem (by simp; omega)⟩) (fun j _ => hHL.frozen _) (by simp [Value.oneCell'])
  have hcs2 : ((ByteArray.extract ⟨l.toArray⟩ 0 (Nat.min l.length old.length)).data.map fun b => Value.int .u8 (b.toNat : Int)).toList = c.map fun b => Value.int .u8 (b.toNat : Int) := by
    rw [ba_extract, hc, show l.take old.length = l.take (Nat.min l.length old.length) by rw [List.take_eq_take_iff]; show min old.length l.length = min (min l.length old.length) l.length; omega]
    simp
  have hrun : (Builtin.copy_ #[t, u] ty2 #[.slice (some ⟨g, 0, none⟩) old.length cap, .string ⟨l.toArray⟩]).run P w = .ok (goInt c.length) (w.setCells g 0 (c.map fun b => Value.int .u8 (b.toNat : Int))) := by
    simp [Builtin.copy_, run_underlying hu, Builtin.lenOf, Builtin.firstCells, sizeOf, typeInfo, hinfo, hs, ByteArray.size]
    have e : List.take (Nat.min l.length old.length) (l.map fun b => Value.int .u8 (b.toNat : Int)) = c.map fun b => Value.int .u8 (b.toNat : Int) := by rw [← List.map_take, hc, show l.take old.length = l.take (Nat.min l.length old.length) by rw [List.take_eq_take_iff]; show min old.length l.length = min (min l.length old.length) l.length; omega]
    rw [e, hst, hcl]
    rfl
  have hex : (execOp a.eval ⟨dst, .call { callee := .builtin .copy, args := #[x, y], argTypes := #[t, u] }, ty2, pos, after, none⟩).run P w = .ok (.value (.int .i64 (c.length : Nat))) (w.setCells g 0 (c.map fun b => Value.int .u8 (b.toNat : Int))) := by
    simp [execOp, resolve, invoke, builtin, ha.ev hx, ha.ev hy, hrun, Result.andThen, goInt]
  unfold Oper.wp
  rw [hex]
  simp only [← hc] at k
  have hcel : (bR (c ++ old.drop c.length)).length = old.length := by rw [bR_len, List.length_append, List.length_drop]; omega
  refine k _ _ ⟨rfl, hS.upd hi (grownBy_setCells w g 0 _) ⟨⟨?_, .inr ⟨g, cap, _, by rw [hcel], Nat.zero_le _, setCells_heap hg 0 _, by rw [hcel]; exact hmc, hcm, by simp [setL_len, hcs], ?_⟩⟩, ?_, ?_⟩ (fun q hq => Or.inl hq)⟩
  · rw [bR_flat, List.length_map, hcel, List.length_append, List.length_drop]; omega
  · rw [hcel, Nat.mul_one, List.toList_toArray, setL_pre _ _ (by simp; omega), bR_flat, List.map_append, List.length_map, List.take_append]
    rw [Nat.mul_one, bR_flat] at htake
    have h1 : (c.map fun b => Value.int .u8 (b.toNat : Int)).take old.length = c.map fun b => Value.int .u8 (b.toNat : Int) := List.take_of_length_le (by rw [List.length_map]; omega)
    rw [h1, List.length_map, List.map_drop, ← htake, List.drop_take]
  · intro r hr
    unfold bR at hr
    obtain ⟨b, _, rfl⟩ := List.mem_map.1 hr
    rfl
  · intro r hr
    unfold bR at hr
    obtain ⟨b, _, rfl⟩ := List.mem_map.1 hr
    rfl
end
end Go.Proofs.Ytejnpppejalhfab
/- Sheets of an object while they are made: boxes. -/
namespace Go.Proofs.Ytejnpppejalhfab
open Go.RowKit Go.Sort

section
variable {F : Nat → Prop} {w0 w w' : World} {Γ Δ : List Asr}
/-- what is one's own, the first m in another order, some of them forgotten -/
theorem St.reorderT (m : Nat) (is : List Nat) (h : St F w0 w Γ) (hn : is.Nodup ∧ ∀ i ∈ is, i < m) (hp : pickL Γ is = some Δ) : St F w0 w (appA Δ (Γ.drop m)) := by
  rw [appA_eq]
  have h1 := h.reorder is hn.1 hp
  have h2 := h.sub (List.drop_sublist m Γ)
  refine ⟨h.os, h.tape, h.output, h.size, h.base, fun A hA => ?_, fun A hA => ?_, ?_⟩
  · rcases List.mem_append.1 hA with hA | hA
    · exact h1.holds A hA
    · exact h2.holds A hA
  · rcases List.mem_append.1 hA with hA | hA
    · exact h1.own A hA
    · exact h2.own A hA
  · rw [List.pairwise_append]
    refine ⟨h1.apart, h2.apart, fun a ha b hb => ?_⟩
    obtain ⟨j, hj⟩ := List.mem_iff_getElem?.1 ha
    obtain ⟨k, hk⟩ := List.mem_iff_getElem?.1 hb
    obtain ⟨i, hi, hi2⟩ := pickL_at hp j a hj
    rw [List.getElem?_drop] at hk
    have := hn.2 i (List.mem_of_getElem? hi)
    exact apart_at h.apart hi2 hk (by omega)
end
/-- a sheet in the making: its block, its page, its bytes, its fixes -/
structure Bx where
  g : Nat
  pg : Int
  data : List UInt8
  p : Option Addr
  c : Nat
  fx : List Fx
def Bx.v (b : Bx) : Value := .slice b.p b.fx.length b.c
def bxB (b : Bx) : Asr := .blk b.g [.int .i64 b.pg, .string ⟨b.data.toArray⟩, .slice b.p b.fx.length b.c]
def bxR (b : Bx) : Asr := .row 124 2 (.slice b.p b.fx.length b.c) (b.fx.map fxC)
def bxs (l : List Bx) : List Asr := l.map bxB ++ l.map bxR
def kvB (b : Bx) : Value × Value := (.int .i64 b.pg, .pointer (some ⟨b.g, 0, none⟩))
def keyB (b : Bx) : Int × List UInt8 × List Fx := (b.pg, b.data, b.fx)
theorem bxs_cons (b : Bx) (l : List Bx) : (bxs (b :: l)).Perm (bxB b :: bxR b :: bxs l) := by
  unfold bxs
  simp only [List.map_cons, List.cons_append]
  exact List.Perm.cons _ List.perm_middle
theorem bxs_perm {l m : List Bx} (h : l.Perm m) : (bxs l).Perm (bxs m) := (h.map bxB).append (h.map bxR)
theorem bxs_snoc (b : Bx) (l : List Bx) : (bxB b :: bxR b :: bxs l).Perm (bxs (l ++ [b])) := (bxs_cons b l).symm.trans (bxs_perm (List.perm_append_comm (l₁ := [b]) (l₂ := l)))
theorem perm_erase {α : Type} : ∀ {l : List α} {k : Nat} {b : α}, l[k]? = some b → l.Perm (b :: l.eraseIdx k) := by
  intro l
  induction l with
  | nil => intro k b h; simp at h
  | cons a l ih =>
    intro k b h
    cases k with
    | zero => simp at h; subst h; simp
    | succ k =>
      simp only [List.getElem?_cons_succ] at h
      rw [List.eraseIdx_cons_succ]
      exact ((ih h).cons a).trans (List.Perm.swap b a _)
theorem bxs_pick {l : List Bx} {k : Nat} {b : Bx} (h : l[k]? = some b) : (bxs l).Perm (bxB b :: bxR b :: bxs (l.eraseIdx k)) := (bxs_perm (perm_erase h)).trans (bxs_cons b _)
theorem erase_set {α : Type} : ∀ {l : List α} {k : Nat} {b : α}, (l.set k b).eraseIdx k = l.eraseIdx k := by
  intro l
  induction l with
  | nil => intro k b; simp
  | cons a l ih =>
    intro k b
    cases k with
    | zero => simp
    | succ k => simp only [List.set_cons_succ, List.eraseIdx_cons_succ, ih]
theorem bxs_put {l : List Bx} {k : Nat} {b0 b : Bx} (h : l[k]? = some b0) : (bxB b :: bxR b :: bxs (l.eraseIdx k)).Perm (bxs (l.set k b)) := by
  have h1 := bxs_pick (l := l.set k b) (k := k) (b := b) (by rw [List.getElem?_set]; simp [(List.getElem?_eq_some_iff.1 h).1])
  rw [erase_set] at h1
  exact h1.symm
/-! pages of an object -/
def dataAt (d : List UInt8) (n : Nat) : List UInt8 := (d.drop (n * 16)).take 16 ++ List.replicate (16 - ((d.drop (n * 16)).take 16).length) 0
theorem dataAt_len (d : List UInt8) (n : Nat) : (dataAt d n).length = 16 := by
  unfold dataAt
  simp only [List.length_append, List.length_replicate, List.length_take]
  omega
def pgK (b0 : Int) (s : Sg) (n : Nat) : Int × List UInt8 × List Fx := (b0 + s.pg + n, dataAt s.data n, [])
def pgsS (b0 : Int) (s : Sg) (m : Nat) : List (Int × List UInt8 × List Fx) := (List.range m).map (pgK b0 s)
def pgsO (b0 : Int) (l : List Sg) : List (Int × List UInt8 × List Fx) := l.flatMap fun s => pgsS b0 s s.n.toNat
theorem pgsS_succ (b0 : Int) (s : Sg) (m : Nat) : pgsS b0 s (m + 1) = pgsS b0 s m ++ [pgK b0 s m] := by
  unfold pgsS
  rw [List.range_succ, List.map_append]
  rfl
theorem pgsO_step {b0 : Int} {l : List Sg} {j : Nat} {s : Sg} (h : l[j]? = some s) : pgsO b0 (l.take (j + 1)) = pgsO b0 (l.take j) ++ pgsS b0 s s.n.toNat := by
  unfold pgsO
  rw [List.take_add_one, h]
  simp
theorem ut_int : (Try.prog).underlying 3 = some (.int .i64) := by kernel_rfl
theorem mt_sheets : (Try.prog).underlying 189 = some (.map 3 194) := by kernel_rfl
end Go.Proofs.Ytejnpppejalhfab
/- What a relocation lays into a page. -/
namespace Go.Proofs.Ytejnpppejalhfab
open Go.RowKit Go.Sort

/-- of bytes s at an address, the part in a page -/
def fxOf (at_ : Int) (s : List UInt8) (pg : Int) : List Fx :=
  let fr := at_ - 16 * pg
  let a := max fr 0
  let e := min (fr + s.length) 16
  if a < e then [⟨a, (s.drop (a - fr).toNat).take (e - a).toNat⟩] else []
theorem take_drop_take {α : Type} (s : List α) (d i m : Nat) (h : i + m ≤ d) : ((s.take d).drop i).take m = (s.drop i).take m := by
  rw [List.drop_take, List.take_take, Nat.min_eq_left (by omega)]
theorem fxOf_step {at_ : Int} {s : List UInt8} {d n : Nat} {off : Int} (h0 : 0 ≤ at_) (hd : d < s.length) (hoff : off = (at_ + d) % 16) (hal : d = 0 ∨ off = 0) (hn : (n : Int) = min ((s.length : Int) - d) (16 - off)) (pg : Int) :
    fxOf at_ (s.take (d + n)) pg = fxOf at_ (s.take d) pg ++ (if pg = (at_ + d) / 16 then [⟨off, (s.drop d).take n⟩] else []) := by
  have hl1 : (s.take (d + n)).length = d + n := by rw [List.length_take]; omega
  have hl2 : (s.take d).length = d := by rw [List.length_take]; omega
  unfold fxOf
  dsimp only []
  rw [hl1, hl2]
  by_cases hp : pg = (at_ + d) / 16
  · rw [if_pos hp]
    have h1 : ¬ max (at_ - 16 * pg) 0 < min (at_ - 16 * pg + (d : Nat)) 16 := by omega
    have h2 : max (at_ - 16 * pg) 0 < min (at_ - 16 * pg + ((d + n : Nat) : Int)) 16 := by omega
    rw [if_neg h1, if_pos h2, List.nil_append]
    have h3 : max (at_ - 16 * pg) 0 = off := by omega
    have h4 : min (at_ - 16 * pg + ((d + n : Nat) : Int)) 16 = off + n := by omega
    rw [h3, h4, show (off - (at_ - 16 * pg)).toNat = d by omega, show (off + n - off).toNat = n by omega, take_drop_take _ _ _ _ (by omega)]
  · rw [if_neg hp, List.append_nil]
    by_cases hlt : pg < (at_ + d) / 16
    · have h3 : min (at_ - 16 * pg + ((d + n : Nat) : Int)) 16 = 16 := by omega
      have h4 : min (at_ - 16 * pg + (d : Int)) 16 = 16 := by omega
      rw [h3, h4]
      by_cases ha : max (at_ - 16 * pg) 0 < 16
      · rw [if_pos ha, if_pos ha, take_drop_take _ _ _ _ (by omega), take_drop_take _ _ _ _ (by omega)]
      · rw [if_neg ha, if_neg ha]
    · rw [if_neg (by omega), if_neg (by omega)]
theorem fxOf_nil (at_ pg : Int) : fxOf at_ [] pg = [] := by
  unfold fxOf
  rw [if_neg (by simp only [List.length_nil]; omega)]
end Go.Proofs.Ytejnpppejalhfab
/- What the linker lays down, in plain Lean. -/
namespace Go.Proofs.Ytejnpppejalhfab
open Go.RowKit Go.Sort

def bytesOf (os : List (Im × Int)) (at_ : Int) (r : Rl) : Option (List UInt8) := (if r.name = [] then some at_ else adr os r.name).map fun t => leB (IntKind.i64.wrap (t + r.add)) 8
def bytesT (os : List (Im × Int)) (at_ : Int) (r : Rl) : List UInt8 := (bytesOf os at_ r).getD []
def symsIn (os : List (Im × Int)) (at_ : Int) (l : List Rl) : Bool := l.all fun r => (bytesOf os at_ r).isSome
def fxAll (os : List (Im × Int)) (at_ : Int) (l : List Rl) (pg : Int) : List Fx := l.flatMap fun r => fxOf (at_ + r.at_) (bytesT os at_ r) pg
def shOf (os : List (Im × Int)) (at_ : Int) (l : List Rl) (k : Int × List UInt8 × List Fx) : Sh := ⟨k.1, k.2.1, fxAll os at_ l k.1⟩
/-- the sheets of an object -/
def shO (os : List (Im × Int)) (I : Im) (b0 : Int) : List Sh := (pgsO b0 I.segs).map (shOf os (b0 * 16) I.rels)
def rawA (b0 : Int) (s : Sg) : Ar := ⟨b0 + s.pg, s.n, rgt s, false⟩
def arsO (A : List Ar) (b0 : Int) (l : List Sg) : List Ar := (l.map (rawA b0)).foldl joinStep A
theorem fxOf_len (at_ : Int) (s : List UInt8) (pg : Int) : (fxOf at_ s pg).length ≤ 1 := by
  unfold fxOf
  dsimp only []
  split <;> simp
theorem fxAll_len (os : List (Im × Int)) (at_ : Int) (l : List Rl) (pg : Int) : (fxAll os at_ l pg).length ≤ l.length := by
  unfold fxAll
  induction l with
  | nil => simp
  | cons r l ih =>
    have := fxOf_len (at_ + r.at_) (bytesT os at_ r) pg
    simp only [List.flatMap_cons, List.length_append, List.length_cons]
    omega
theorem fxAll_step {os : List (Im × Int)} {at_ : Int} {l : List Rl} {j : Nat} {r : Rl} (h : l[j]? = some r) (pg : Int) : fxAll os at_ (l.take (j + 1)) pg = fxAll os at_ (l.take j) pg ++ fxOf (at_ + r.at_) (bytesT os at_ r) pg := by
  unfold fxAll
  rw [List.take_add_one, h]
  simp
theorem arsO_step {A : List Ar} {b0 : Int} {l : List Sg} {j : Nat} {s : Sg} (h : l[j]? = some s) : arsO A b0 (l.take (j + 1)) = joinStep (arsO A b0 (l.take j)) (rawA b0 s) := by
  unfold arsO
  rw [List.take_add_one, h]
  simp
theorem pgsS_mem {b0 : Int} {s : Sg} {m : Nat} {k : Int × List UInt8 × List Fx} (h : k ∈ pgsS b0 s m) : ∃ n : Nat, n < m ∧ k = pgK b0 s n := by
  unfold pgsS at h
  obtain ⟨n, hn, rfl⟩ := List.mem_map.1 h
  exact ⟨n, List.mem_range.1 hn, rfl⟩
theorem pgs_rise (b0 : Int) : ∀ {l : List Sg}, Ch l → l.all sgOk = true → (∀ k ∈ pgsO b0 l, ∀ s, l[0]? = some s → b0 + s.pg ≤ k.1) ∧ (pgsO b0 l).Pairwise fun a b => a.1 < b.1
  | [], _, _ => ⟨by simp, by simp [pgsO]⟩
  | s :: l, hch, hs => by
    have hch' : Ch l := fun j a b h1 h2 => hch (j + 1) a b (by simpa using h1) (by simpa using h2)
    simp only [List.all_cons, Bool.and_eq_true] at hs
    obtain ⟨i1, i2⟩ := pgs_rise b0 hch' hs.2
    have e : pgsO b0 (s :: l) = pgsS b0 s s.n.toNat ++ pgsO b0 l := by unfold pgsO; simp
    have hso := hs.1
    unfold sgOk at hso
    have hso := of_decide_eq_true hso
    have later : ∀ k ∈ pgsO b0 l, b0 + s.pg + s.n ≤ k.1 := fun k hk => by
      cases l with
      | nil => simp [pgsO] at hk
      | cons t l =>
        have h1 := i1 k hk t rfl
        have h2 := hch 0 s t rfl rfl
        omega
    rw [e]
    refine ⟨fun k hk s' hs' => ?_, ?_⟩
    · simp only [List.getElem?_cons_zero, Option.some.injEq] at hs'
      subst hs'
      rcases List.mem_append.1 hk with h | h
      · obtain ⟨n, -, rfl⟩ := pgsS_mem h
        show _ ≤ b0 + s.pg + (n : Int)
        omega
      · have := later k h
        omega
    · rw [List.pairwise_append]
      refine ⟨?_, i2, fun a ha b hb => ?_⟩
      · unfold pgsS
        rw [List.pairwise_map]
        refine List.pairwise_lt_range.imp ?_
        intro a b hab
        show b0 + s.pg + (a : Int) < b0 + s.pg + (b : Int)
        omega
      · obtain ⟨n, hn, rfl⟩ := pgsS_mem ha
        have := later b hb
        show b0 + s.pg + (n : Int) < b.1
        omega
theorem pgs_nodup {b0 : Int} {l : List Sg} (hch : Ch l) (hs : l.all sgOk = true) : ((pgsO b0 l).map (·.1)).Nodup := by
  have := (pgs_rise b0 hch hs).2
  unfold List.Nodup
  rw [List.pairwise_map]
  exact this.imp fun h => by omega
theorem pgsS_len (b0 : Int) (s : Sg) (m : Nat) : (pgsS b0 s m).length = m := by unfold pgsS; simp
theorem pgsO_at {b0 : Int} {l : List Sg} {j n : Nat} {s : Sg} (h : l[j]? = some s) (hn : n < s.n.toNat) : (pgsO b0 l)[(pgsO b0 (l.take j)).length + n]? = some (pgK b0 s n) := by
  have e : pgsO b0 l = pgsO b0 (l.take j) ++ (pgsS b0 s s.n.toNat ++ pgsO b0 (l.drop (j + 1))) := by
    conv => lhs; rw [← List.take_append_drop j l, drop_at h]
    unfold pgsO
    simp
  rw [e, List.getElem?_append_right (by omega), Nat.add_sub_cancel_left, List.getElem?_append_left (by rw [pgsS_len]; exact hn)]
  unfold pgsS
  rw [List.getElem?_map, List.getElem?_range hn]
  rfl
theorem pgs_len_le {b0 : Int} {l : List Sg} (hs : l.all sgOk = true) : (pgsO b0 l).length ≤ 255 * l.length := by
  induction l with
  | nil => simp [pgsO]
  | cons s l ih =>
    simp only [List.all_cons, Bool.and_eq_true] at hs
    have hso := hs.1
    unfold sgOk at hso
    have hso := of_decide_eq_true hso
    have e : pgsO b0 (s :: l) = pgsS b0 s s.n.toNat ++ pgsO b0 l := by unfold pgsO; simp
    have := ih hs.2
    rw [e, List.length_append, pgsS_len, List.length_cons]
    omega
theorem pgs_there {b0 : Int} {l : List Sg} {x : Int} (h : (own l x).isSome = true) : ∃ k ∈ pgsO b0 l, k.1 = (b0 * 16 + x) / 16 := by
  obtain ⟨s, hs⟩ := Option.isSome_iff_exists.1 h
  unfold own at hs
  have hm := List.mem_of_find?_eq_some hs
  have hin := List.find?_some hs
  unfold inSg at hin
  have hin := of_decide_eq_true hin
  refine ⟨pgK b0 s (x / 16 - s.pg).toNat, ?_, ?_⟩
  · unfold pgsO pgsS
    refine List.mem_flatMap.2 ⟨s, hm, List.mem_map.2 ⟨_, List.mem_range.2 ?_, rfl⟩⟩
    omega
  · show b0 + s.pg + ((x / 16 - s.pg).toNat : Int) = _
    omega
/-- areas as the linker makes them -/
def AOk (A : List Ar) : Prop := ∀ a ∈ A, a.z = false ∧ 0 ≤ a.pg ∧ 0 ≤ a.n ∧ a.pg + a.n ≤ 200000 ∧ 0 ≤ a.prot ∧ a.prot ≤ 3
theorem AOk.step {A : List Ar} {a : Ar} (h : AOk A) (ha : a.z = false ∧ 0 ≤ a.pg ∧ 0 ≤ a.n ∧ a.pg + a.n ≤ 200000 ∧ 0 ≤ a.prot ∧ a.prot ≤ 3) : AOk (joinStep A a) := by
  unfold joinStep
  split
  · rename_i b hb
    have hbm := h b (List.mem_of_getLast? hb)
    split
    · rename_i hal
      unfold Ar.alike at hal
      intro x hx
      rcases List.mem_append.1 hx with h1 | h1
      · exact h x ((List.dropLast_sublist A).subset h1)
      · obtain rfl : x = { b with n := b.n + a.n } := by simpa using h1
        have e1 : b.fin = a.pg := hal.1
        unfold Ar.fin at e1
        obtain ⟨q1, q2, q3, q4, q5, q6⟩ := hbm
        obtain ⟨p1, p2, p3, p4, p5, p6⟩ := ha
        refine ⟨q1, q2, ?_, ?_, q5, q6⟩
        · show 0 ≤ b.n + a.n
          omega
        · show b.pg + (b.n + a.n) ≤ 200000
          omega
    · intro x hx
      rcases List.mem_append.1 hx with h1 | h1
      · exact h x h1
      · obtain rfl : x = a := by simpa using h1
        exact ha
  · intro x hx
    rcases List.mem_append.1 hx with h1 | h1
    · exact h x h1
    · obtain rfl : x = a := by simpa using h1
      exact ha
end Go.Proofs.Ytejnpppejalhfab
/- The linker's fix. -/
namespace Go.Proofs.Ytejnpppejalhfab
open Go.RowKit Go.Sort
def gK (b : Bx) : Nat × Int × List UInt8 × List Fx := (b.g, keyB b)
def gF (at_ : Int) (s : List UInt8) (b : Bx) : Nat × Int × List UInt8 × List Fx := (b.g, b.pg, b.data, b.fx ++ fxOf at_ s b.pg)
theorem fix_put {bs bs' : List Bx} {at_ : Int} {s : List UInt8} {d n k : Nat} {off : Int} {b1 b2 : Bx} (hK : bs'.map gK = bs.map (gF at_ (s.take d))) (hnd : (bs.map (·.pg)).Nodup) (hk : bs'[k]? = some b1) (hpg : b1.pg = (at_ + d) / 16) (hb : (b2.g, keyB b2) = (b1.g, b1.pg, b1.data, b1.fx ++ [⟨off, (s.drop d).take n⟩]))
    (h0 : 0 ≤ at_) (hd : d < s.length) (hoff : off = (at_ + d) % 16) (hal : d = 0 ∨ off = 0) (hn : (n : Int) = min ((s.length : Int) - d) (16 - off)) : (bs'.set k b2).map gK = bs.map (gF at_ (s.take (d + n))) := by
  have hat : ∀ j : Nat, (bs'[j]?).map gK = (bs[j]?).map (gF at_ (s.take d)) := fun j => by
    have := congrArg (fun l : List (Nat × Int × List UInt8 × List Fx) => l[j]?) hK
    simpa only [List.getElem?_map] using this
  have hkl := (List.getElem?_eq_some_iff.1 hk).1
  obtain ⟨b0, hb0⟩ : ∃ b0, bs[k]? = some b0 := by
    have := hat k
    rw [hk] at this
    cases h : bs[k]? with
    | none => rw [h] at this; cases this
    | some x => exact ⟨x, rfl⟩
  have hk0 := hat k
  rw [hk, hb0] at hk0
  simp only [Option.map_some, Option.some.injEq, gK, gF, keyB, Prod.mk.injEq] at hk0 hb
  obtain ⟨e1, e2, e3, e4⟩ := hk0
  obtain ⟨f1, f2, f3, f4⟩ := hb
  apply List.ext_getElem?
  intro j
  rw [List.getElem?_map, List.getElem?_map, List.getElem?_set]
  by_cases hj : k = j
  · subst hj
    rw [if_pos rfl, if_pos hkl, hb0]
    simp only [Option.map_some, gK, gF, keyB, Option.some.injEq, Prod.mk.injEq]
    refine ⟨by rw [f1, e1], by rw [f2, e2], by rw [f3, e3], ?_⟩
    rw [f4, e4, fxOf_step h0 hd hoff hal hn, if_pos (by rw [← e2]; exact hpg), List.append_assoc]
  · rw [if_neg hj, hat j]
    cases hj2 : bs[j]? with
    | none => rfl
    | some x =>
      have hne : x.pg ≠ (at_ + d) / 16 := fun e => by
        have h1 : (bs.map (·.pg))[j]? = some ((at_ + d) / 16) := by rw [List.getElem?_map, hj2]; simp [e]
        have h2 : (bs.map (·.pg))[k]? = some ((at_ + d) / 16) := by rw [List.getElem?_map, hb0]; simp [← e2, hpg]
        obtain ⟨l1, v1⟩ := List.getElem?_eq_some_iff.1 h1
        obtain ⟨l2, v2⟩ := List.getElem?_eq_some_iff.1 h2
        exact hj ((List.getElem_inj hnd).1 (v2.trans v1.symm))
      simp only [Option.map_some, gF]
      rw [fxOf_step h0 hd hoff hal hn, if_neg hne, List.append_nil]
theorem keyG_kv {bs bs' : List Bx} {f : Bx → Int × List UInt8 × List Fx} (hf : ∀ b, (f b).1 = b.pg) (h : bs'.map gK = bs.map fun b => (b.g, f b)) : bs'.map kvB = bs.map kvB := by
  have h2 := congrArg (List.map fun (x : Nat × Int × List UInt8 × List Fx) => (Value.int .i64 x.2.1, Value.pointer (some ⟨x.1, 0, none⟩))) h
  rw [List.map_map, List.map_map] at h2
  refine Eq.trans ?_ (h2.trans ?_)
  · rfl
  · apply List.map_congr_left
    intro b _
    show (Value.int .i64 (f b).1, _) = _
    rw [hf]
    rfl
set_option maxRecDepth 100000 in
set_option maxHeartbeats 8000000 in
theorem fix_fn {F : Nat → Prop} {w0 w : World} {Γ : List Asr} {r c : Nat} {es : Array MapEntry} {bs : List Bx} {at_ : Int} {s : List UInt8} (hS0 : St F w0 w ((.obj r (.map es c) :: bxs bs) ++ Γ)) (hM : MapG (.int .i64) es (bs.map kvB)) (hs : s.length = 8) (h0 : 0 ≤ at_) (h1 : at_ ≤ 1000000000) (hp : ∀ d : Nat, d < 8 → ∃ b ∈ bs, b.pg = (at_ + d) / 16) (hnd : (bs.map (·.pg)).Nodup) (hfx : ∀ b ∈ bs, b.fx.length ≤ 1000000) :
    Fn Try.prog 101 [.map (some r), .int .i64 at_, .string ⟨s.toArray⟩] w (fun _ w' => ∃ bs' : List Bx, bs'.map gK = bs.map (gF at_ s) ∧ St (fps (.obj r (.map es c) :: bxs bs)) w w' (.obj r (.map es c) :: bxs bs')) := by
  refine fn_enter (fn := Try.f101) ⟨Try.func101, by kernel_rfl, by kernel_rfl⟩ (by exact rfl) Try.ntmps101 (by exact rfl) ?_
  have hS := St.startM hS0
  generalize hG : fps (.obj r (.map es c) :: bxs bs) = G at hS ⊢
  repeat' (((with_reducible apply c_block)))
  refine c_loopK (Γ := []) (X := Nat × Int × List UInt8 × List Bx) (fun x => [(1, .int .i64 x.2.1), (2, .string ⟨x.2.2.1.toArray⟩)]) [0] rfl (fun x => .obj r (.map es c) :: bxs x.2.2.2) (fun x => x.1 ≤ 8 ∧ x.2.1 = at_ + (x.1 : Nat) ∧ x.2.2.1 = s.drop x.1 ∧ (x.1 = 0 ∨ x.1 = 8 ∨ (at_ + (x.1 : Nat)) % 16 = 0) ∧ x.2.2.2.map gK = bs.map (gF at_ (s.take x.1))) (fun x => 8 - x.1) (0, at_, s, bs) (by repeat (first | exact Fr.sub_nil _ | (apply Fr.sub_cons; exact rfl))) ⟨by omega, by simp, rfl, Or.inl rfl, by unfold gF; simp only [List.take_zero, fxOf_nil, List.append_nil]; rfl⟩ (by simpa only [List.append_nil] using hS) ?_
  clear hS
  rintro ⟨d, a, t, bs'⟩ w1 ⟨hd, ha, ht, hal, hK⟩ hS
  dsimp only [] at hd ha ht hal hK hS ⊢
  simp only [List.append_nil] at hS
  have hM' : MapG (.int .i64) es (bs'.map kvB) := by rw [keyG_kv (f := fun b => (b.pg, b.data, b.fx ++ fxOf at_ (s.take d) b.pg)) (fun _ => rfl) hK]; exact hM
  by_cases hlt : d < 8
  rotate_left
  · obtain rfl : d = 8 := by omega
    rw [List.drop_of_length_le (by omega)] at ht
    subst ht
    repeat' (first | (((with_reducible apply l_pure tabOk); exact rfl; exact rfl)) | (first | (with_reducible apply c_seq) | (with_reducible apply c_region) | (with_reducible apply l_nil) | (with_reducible apply q_then) | (with_reducible apply c_exit) | (with_reducible apply q_then_exit) | (with_reducible apply q_block_exit)) | (((with_reducible apply c_iff); exact rfl; (exact rfl))))
    (apply q_ret0); (repeat ((exact ResL.nil)))
    refine ⟨bs', ?_, hS⟩
    rw [hK, List.take_of_length_le (by omega)]
  have hdl : t.length = 8 - d := by rw [ht, List.length_drop]; omega
  have hne : (!decide (t = [])) = true := by rw [decide_eq_false (fun e => by rw [e] at hdl; simp only [List.length_nil] at hdl; omega)]; rfl
  have hat : ∀ j : Nat, (bs'[j]?).map gK = (bs[j]?).map (gF at_ (s.take d)) := fun j => by
    have := congrArg (fun l : List (Nat × Int × List UInt8 × List Fx) => l[j]?) hK
    simpa only [List.getElem?_map] using this
  obtain ⟨k, b1, hk, hpg, hfl⟩ : ∃ (k : Nat) (b1 : Bx), bs'[k]? = some b1 ∧ b1.pg = (at_ + d) / 16 ∧ b1.fx.length ≤ 1000001 := by
    obtain ⟨b0, hb0, hb0p⟩ := hp d hlt
    obtain ⟨k, hk0⟩ := List.mem_iff_getElem?.1 hb0
    have := hat k
    rw [hk0] at this
    cases h : bs'[k]? with
    | none => rw [h] at this; cases this
    | some x =>
      rw [h] at this
      simp only [Option.map_some, Option.some.injEq, gK, gF, keyB, Prod.mk.injEq] at this
      refine ⟨k, x, h, by rw [this.2.1]; exact hb0p, ?_⟩
      have h1 := hfx b0 hb0
      have h2 := fxOf_len at_ (s.take d) b0.pg
      rw [this.2.2.2, List.length_append]
      omega
  clear hat
  replace hS := hS.perm ((bxs_pick hk).cons _)
  have hkv : (Value.int .i64 b1.pg, Value.pointer (some ⟨b1.g, 0, none⟩)) ∈ bs'.map kvB := List.mem_map.2 ⟨_, List.mem_of_getElem? hk, rfl⟩
  have e1 : a.tmod 16 = a % 16 := Int.tmod_eq_emod_of_nonneg (by omega)
  have e2 : a.tdiv 16 = b1.pg := by rw [Int.tdiv_eq_ediv_of_nonneg (by omega), ha]; exact hpg.symm
  rw [← e2] at hkv
  obtain ⟨n, hn⟩ : ∃ n : Nat, (n : Int) = min (t.length : Int) (16 - a.tmod 16) := ⟨(min (t.length : Int) (16 - a.tmod 16)).toNat, by omega⟩
  have hfin := fun b2 hb => fix_put (b2 := b2) (n := n) hK hnd hk hpg hb h0 (by omega) (off := a.tmod 16) (by omega) (by omega) (by omega)
  obtain ⟨g, pg, data, p, cp, fx⟩ := b1
  unfold bxB bxR at hS
  dsimp only at hS hkv hfl hpg e2 hfin
  repeat' (first | (first | ((with_reducible apply l_sub); exact rfl; exact rfl; omega; omega; exact rfl) | ((with_reducible apply l_pure tabOk); exact rfl; exact rfl)) | (first | (with_reducible apply c_seq) | (with_reducible apply c_region) | (with_reducible apply l_nil) | (with_reducible apply q_then) | (with_reducible apply c_skip) | (with_reducible apply c_block)) | (((with_reducible apply c_ift); exact rfl; (assumption))) | ((with_reducible apply l_remT); exact rfl; exact rfl; omega; exact rfl) | ((with_reducible apply l_quoT); exact rfl; exact rfl; omega; omega; omega; exact rfl) | ((with_reducible apply l_min); exact rfl; exact rfl; exact rfl; rw [← hn]) | ((with_reducible apply l_gets); exact rfl; exact g_look hS (i := 0) mt_sheets ut_int rfl rfl rfl hM' (k := .int .i64 (a.tdiv 16)) rfl hkv false; rintro _ _ ⟨rfl, rfl⟩))
  rw [← ht] at hfin
  refine c_till (fun w' => (Asr.blk g [Value.int IntKind.i64 pg, Value.string { data := data.toArray }, Value.slice p fx.length cp]).holds w') 14 15 rfl hS (by kernel_rfl) ?_
  intro w10 hS'
  clear hS; have hS := hS'; clear hS'
  have hH := hS.at_ (i := 1) rfl
  ((with_reducible apply t_pure 0 tabOk); exact rfl; kernel_rfl; kernel_rfl; kernel_rfl; exact rfl; exact (fun _ _ _ h => h); exact Or.inr hH; exact rfl; exact rfl)
  ((with_reducible apply t_pure 1 tabOk); exact rfl; kernel_rfl; kernel_rfl; kernel_rfl; exact rfl; exact (fun _ _ _ h => h); exact Or.inr hH; exact rfl; exact rfl)
  ((with_reducible apply t_pure 2 tabOk); exact rfl; kernel_rfl; kernel_rfl; kernel_rfl; exact rfl; exact (fun _ _ _ h => h); exact Or.inr hH; exact rfl; exact rfl)
  ((with_reducible apply t_pure 3 tabOk); exact rfl; kernel_rfl; kernel_rfl; kernel_rfl; exact rfl; exact (fun _ _ _ h => h); exact Or.inr hH; exact rfl; exact rfl)
  ((with_reducible apply t_takeL 4); exact rfl; kernel_rfl; kernel_rfl; kernel_rfl; kernel_rfl; exact rfl; exact rfl; exact (fun _ _ _ h => h); exact hH; exact rfl; (intro w2 hw2; ((with_reducible apply Loads.sl tabOk); exact rfl; exact holdC hw2 rfl)); exact rfl)
  ((with_reducible apply t_pure 5 tabOk); exact rfl; kernel_rfl; kernel_rfl; kernel_rfl; exact rfl; exact (fun _ _ _ h => h); exact Or.inr hH; exact rfl; exact rfl)
  ((with_reducible apply t_pure 6 tabOk); exact rfl; kernel_rfl; kernel_rfl; kernel_rfl; exact rfl; exact (fun _ _ _ h => h); exact Or.inr hH; exact rfl; exact rfl)
  ((with_reducible apply t_pure 7 tabOk); exact rfl; kernel_rfl; kernel_rfl; kernel_rfl; exact rfl; exact (fun _ _ _ h => h); exact Or.inr hH; exact rfl; exact rfl)
  refine t_one (i := 8) (by kernel_rfl) ?_
  refine p_gets rfl (Gets.of_runs fun a ha => r_strTo tabOk rfl rfl rfl (by omega) (by omega) a ha _) rfl ?_
  rintro _ _ ⟨rfl, rfl⟩
  refine ⟨Or.inr (Or.inr hH), ?_⟩
  refine t_one (i := 9) (by kernel_rfl) ?_
  ((with_reducible apply p_build tabOk); exact rfl; exact rfl; exact rfl; ((exact (rfl : _ = some [_, _]))); exact rfl)
  refine ⟨Or.inr (Or.inr hH), ?_⟩
  refine t_one (i := 10) (by kernel_rfl) ?_
  refine p_gets rfl (g_bslice hS tabOk rfl rfl rfl rfl rfl rfl) rfl ?_
  rintro _ w' ⟨g9, rfl, hS'⟩
  clear hS; have hS := hS'; clear hS'
  have hH := hS.at_ (i := 2) rfl
  refine ⟨Or.inr (Or.inr hH), ?_⟩
  refine t_one (i := 11) (by kernel_rfl) ?_
  refine p_gets rfl (g_append hS tabOk (i := 3) rfl rfl rfl rfl (hS.rowRo 0 rfl) rfl (by simp only [List.length_map]; omega)) rfl ?_
  rintro _ w' ⟨p', c', rfl, hS'⟩
  simp only [List.set] at hS'
  clear hS; have hS := hS'; clear hS'
  have hH := hS.at_ (i := 2) rfl
  refine ⟨Or.inr (Or.inr hH), ?_⟩
  ((with_reducible apply t_pure 12 tabOk); exact rfl; kernel_rfl; kernel_rfl; kernel_rfl; exact rfl; exact (fun _ _ _ h => h); exact Or.inr hH; exact rfl; exact rfl)
  ((with_reducible apply t_pure 13 tabOk); exact rfl; kernel_rfl; kernel_rfl; kernel_rfl; exact rfl; exact (fun _ _ _ h => h); exact Or.inr hH; exact rfl; exact rfl)
  refine t_one (i := 14) (by kernel_rfl) ?_
  refine p_gets0 (Φ := fun _ w' => St _ _ w' _) rfl (g_store hS tabOk (i := 2) rfl rfl rfl rfl rfl (Nat.le_of_ble_eq_true rfl) (by intro u hu; simp [Value.cells] at hu; subst hu; rfl)) ?_
  intro _ w' hS'
  simp only [List.set] at hS'
  clear hS; have hS := hS'; clear hS'
  refine ⟨Or.inl rfl, ?_⟩
  refine t_done (by kernel_rfl) ?_
  repeat' (((with_reducible apply q_then)))
  (focus ((with_reducible apply c_drawAll _ _ _ (by kernel_rfl) (by kernel_rfl) hS); (repeat' (first | (first | ((with_reducible apply d_add); exact rfl; exact rfl; omega; omega; exact rfl) | ((with_reducible apply d_pure tabOk); exact rfl; exact rfl)) | ((with_reducible apply d_strFrom tabOk); exact rfl; exact rfl; exact rfl; omega; omega; exact rfl))); all_goals ((with_reducible apply d_nil); intro w' hS'; clear hS; have hS := hS'; clear hS')))
  repeat' ((first | (with_reducible apply l_nil) | (with_reducible apply q_block)))
  rw [Int.toNat_natCast, List.length_map] at hS
  have hf2 := hfin ⟨g, pg, data, p', c', fx ++ [⟨a.tmod 16, t.take n⟩]⟩ rfl
  have hS2 := hS.drop
  clear hS
  replace hS2 : St G w w' (.obj r (.map es c) :: bxB ⟨g, pg, data, p', c', fx ++ [⟨a.tmod 16, t.take n⟩]⟩ :: bxR ⟨g, pg, data, p', c', fx ++ [⟨a.tmod 16, t.take n⟩]⟩ :: bxs (bs'.eraseIdx k)) := by
    unfold bxB bxR
    dsimp only []
    rw [List.length_append, List.map_append]
    exact hS2
  replace hS2 := hS2.perm ((bxs_put hk).cons _)
  exact q_loopK (d + n, a + n, t.drop (n : Int).toNat, _) (by repeat (first | exact Fr.sub_nil _ | (apply Fr.sub_cons; exact rfl))) ⟨by show d + n ≤ 8; omega, by show a + n = at_ + ((d + n : Nat) : Int); omega, by show t.drop (n : Int).toNat = s.drop (d + n); rw [Int.toNat_natCast, ht, List.drop_drop], by show d + n = 0 ∨ d + n = 8 ∨ (at_ + ((d + n : Nat) : Int)) % 16 = 0; omega, hf2⟩ (by simpa only [List.append_nil] using hS2) (by show 8 - (d + n) < 8 - d; omega)
end Go.Proofs.Ytejnpppejalhfab
/- The linker's sheets of an object. -/
namespace Go.Proofs.Ytejnpppejalhfab
open Go.RowKit Go.Sort
set_option maxRecDepth 100000 in
set_option maxHeartbeats 8000000 in
theorem sheets_fn {w : World} {I : Im} {vn vs vy vr : Value} {b0 : Int} (hI : ImV w I vn vs vy vr) (hs2 : I.segs.all sgOk = true) (hch : Ch I.segs) (h0 : 1 ≤ b0) (h1 : b0 ≤ 100000) :
    Fn Try.prog 99 [.agg (obC ⟨I, vn, vs, vy, vr, b0 * 16⟩).toArray] w (fun v w' => ∃ r es c bs, v = .map (some r) ∧ MapG (.int .i64) es (bs.map kvB) ∧ bs.map keyB = pgsO b0 I.segs ∧ St nF w w' (.obj r (.map es c) :: bxs bs)) := by
  have bn := hI.needs.bound; have bs := hI.segs.bound; have by_ := hI.syms.bound; have br := hI.rels.bound; obtain ⟨pn, cn, rfl⟩ := hI.needs.len; obtain ⟨ps, cs, rfl⟩ := hI.segs.len; obtain ⟨py, cy, rfl⟩ := hI.syms.len; obtain ⟨pr, cr, rfl⟩ := hI.rels.len
  show Fn _ _ [.agg [.string ⟨I.name.toArray⟩, .slice pn I.needs.length cn, .slice ps I.segs.length cs, .slice py I.syms.length cy, .slice pr I.rels.length cr, .int .i64 I.entry, .int .i64 (b0 * 16)].toArray] _ _
  refine fn_enter (fn := Try.f99) ⟨Try.func99, by kernel_rfl, by kernel_rfl⟩ (by exact rfl) Try.ntmps99 (by exact rfl) ?_
  have hS := St.start w
  repeat' (first | (first | ((with_reducible apply l_pure tabOk); exact rfl; exact rfl) | ((with_reducible apply l_load); exact rfl; (((with_reducible apply Loads.sl tabOk); exact rfl; ((exact hS.blkC 1 rfl rfl)))); exact rfl) | ((with_reducible apply l_box hS); exact rfl; exact rfl; exact rfl; intro g w' hS'; clear hS; have hS := hS'; clear hS')) | (first | (with_reducible apply c_seq) | (with_reducible apply c_region) | (with_reducible apply l_nil) | (with_reducible apply q_then) | (with_reducible apply c_block)) | ((with_reducible apply l_gets); exact rfl; exact g_makeMap hS; rintro _ w' ⟨r, rfl, hS'⟩; clear hS; have hS := hS'; clear hS'))
  obtain ⟨g1, hg1⟩ : ∃ g1, g1 = g := ⟨_, rfl⟩
  rw [← hg1] at hS ⊢
  clear hg1
  refine c_loopK (Γ := []) (X := Nat × List Bx × Array MapEntry × Nat) (fun x => [(15, .int .i64 (x.1 : Nat))]) [1, 3, 13, 14] rfl (fun x => .obj r (.map x.2.2.1 x.2.2.2) :: .blk g1 [.string ⟨I.name.toArray⟩, .slice pn I.needs.length cn, .slice ps I.segs.length cs, .slice py I.syms.length cy, .slice pr I.rels.length cr, .int .i64 I.entry, .int .i64 (b0 * 16)] :: bxs x.2.1) (fun x => x.1 ≤ I.segs.length ∧ MapG (.int .i64) x.2.2.1 (x.2.1.map kvB) ∧ x.2.1.map keyB = pgsO b0 (I.segs.take x.1) ∧ ∀ b ∈ x.2.1, ∀ s, I.segs[x.1]? = some s → b.pg < b0 + s.pg) (fun x => I.segs.length - x.1) (0, [], #[], 0) (by repeat (first | exact Fr.sub_nil _ | (apply Fr.sub_cons; exact rfl))) ⟨Nat.zero_le _, MapG.nil _, rfl, fun _ h => nomatch h⟩ hS ?_
  clear hS
  rintro ⟨j, bs, es, c⟩ w1 ⟨hj, hM, hK, hB⟩ hS
  dsimp only [] at hj hM hK hB hS ⊢
  simp only [List.cons_append, List.append_nil] at hS
  by_cases hlt : j < I.segs.length
  rotate_left
  · rw [List.take_of_length_le (by omega)] at hK
    repeat' (first | (((with_reducible apply l_pure tabOk); exact rfl; exact rfl)) | (first | (with_reducible apply c_seq) | (with_reducible apply c_region) | (with_reducible apply l_nil) | (with_reducible apply q_then) | (with_reducible apply c_exit) | (with_reducible apply c_ret) | (with_reducible apply q_then_exit) | (with_reducible apply q_block_exit)) | (((with_reducible apply c_ifd); exact rfl; all_goals (intro hb hp; try (exfalso; omega)))))
    (apply q_ret1); (repeat (first | exact ResL.nil | (apply ResL.tmp; exact rfl)))
    replace hS := St.reorderT 2 [0] hS (by decide) rfl
    simp only [appA, List.drop_succ_cons, List.drop_zero] at hS
    exact ⟨r, es, c, bs, rfl, hM, hK, hS⟩
  obtain ⟨s, hs⟩ := lt_get (l := I.segs) (i := j) (by omega)
  have hrow := map_get (f := sgC) hs
  unfold sgC at hrow
  obtain ⟨b, off, rfl, hro⟩ := hI.segs.at_ (i := j) hlt
  obtain ⟨y1, y2, y3, y4, y5⟩ := sg_ok hs2 hs
  obtain ⟨m, hm⟩ : ∃ m : Nat, (m : Int) = s.n := ⟨s.n.toNat, by omega⟩
  repeat' (first | (first | ((with_reducible apply l_pure tabOk); exact rfl; exact rfl) | ((with_reducible apply l_load); exact rfl; (first | ((with_reducible apply Loads.sc tabOk); exact rfl; ((exact hS.blkC 0 rfl rfl))) | ((with_reducible apply Loads.st tabOk); exact rfl; ((exact hS.roR (by assumption) (by assumption))); exact rfl)); exact rfl) | ((with_reducible apply l_ix tabOk); exact rfl; exact rfl; exact rfl; ((exact rfl)); ((omega)); exact rfl) | ((with_reducible apply l_alloc hS tabOk); exact rfl; exact rfl; exact rfl; intro g w' hS'; clear hS; have hS := hS'; clear hS') | (((with_reducible apply l_store hS tabOk (i := 0)); exact rfl; exact rfl; exact rfl; exact rfl; exact rfl; exact rfl; exact rfl; exact rfl; ((exact (rfl : _ = [_, _, _, _, _]))); intro w' hS'; simp only [List.set] at hS'; clear hS; have hS := hS'; clear hS'))) | (first | (with_reducible apply c_seq) | (with_reducible apply c_region) | (with_reducible apply l_nil) | (with_reducible apply q_then) | (with_reducible apply c_skip) | (with_reducible apply c_block)) | (((with_reducible apply c_ifd); exact rfl; all_goals (intro hb hp; try (exfalso; omega)))))
  rename Nat => g5
  refine c_loopK (Γ := []) (X := Nat × List Bx × Array MapEntry × Nat) (fun x => [(21, .int .i64 (x.1 : Nat))]) [1, 3, 13, 14, 15, 5, 20] rfl (fun x => .blk g5 [.int .i64 s.pg, .int .i64 s.n, .string ⟨s.data.toArray⟩, .bool s.wr, .bool s.ex] :: .obj r (.map x.2.2.1 x.2.2.2) :: .blk g1 [.string ⟨I.name.toArray⟩, .slice pn I.needs.length cn, .slice (some ⟨b, off, none⟩) I.segs.length cs, .slice py I.syms.length cy, .slice pr I.rels.length cr, .int .i64 I.entry, .int .i64 (b0 * 16)] :: bxs x.2.1) (fun x => x.1 ≤ m ∧ MapG (.int .i64) x.2.2.1 (x.2.1.map kvB) ∧ x.2.1.map keyB = pgsO b0 (I.segs.take j) ++ pgsS b0 s x.1 ∧ ∀ b ∈ x.2.1, b.pg < b0 + s.pg + x.1) (fun x => m - x.1) (0, bs, es, c) (by repeat (first | exact Fr.sub_nil _ | (apply Fr.sub_cons; exact rfl))) ⟨Nat.zero_le _, hM, by rw [hK]; simp [pgsS], fun x hx => by have := hB x hx s hs; show _ < _ + ((0 : Nat) : Int); omega⟩ (by simpa only [List.append_nil] using hS) ?_
  clear hS hM hK hB
  rintro ⟨n, bs, es, c⟩ w2 ⟨hn, hM, hK, hB⟩ hS
  dsimp only [] at hn hM hK hB hS ⊢
  simp only [List.cons_append, List.append_nil] at hS
  by_cases hnt : n < m
  rotate_left
  · obtain rfl : n = m := by omega
    repeat' (first | (first | ((with_reducible apply l_add); exact rfl; exact rfl; omega; omega; exact rfl) | ((with_reducible apply l_pure tabOk); exact rfl; exact rfl)) | (first | (with_reducible apply c_seq) | (with_reducible apply c_region) | (with_reducible apply l_nil) | (with_reducible apply q_then) | (with_reducible apply c_exit) | (with_reducible apply q_then_exit) | (with_reducible apply q_block) | (with_reducible apply q_block_exit)) | (((with_reducible apply c_ifd); exact rfl; all_goals (intro hb hp; try (exfalso; omega)))))
    replace hS := St.reorderT 3 [1, 2] hS (by decide) rfl
    simp only [appA, List.drop_succ_cons, List.drop_zero] at hS
    refine q_loopK (j + 1, bs, es, c) (by repeat (first | exact Fr.sub_nil _ | (apply Fr.sub_cons; exact rfl))) ⟨by show j + 1 ≤ _; omega, hM, ?_, ?_⟩ (by simpa only [List.append_nil] using hS) (by show _ - (j + 1) < _ - j; omega)
    · show bs.map keyB = pgsO b0 (I.segs.take (j + 1))
      rw [pgsO_step hs, hK, show s.n.toNat = n by omega]
    · intro x hx s' hs'
      have h2 := hB x hx
      have h3 := hch j s s' hs hs'
      show x.pg < b0 + s'.pg
      omega
  have hno : ∀ v, (Value.int .i64 (b0 + s.pg + n), v) ∉ bs.map kvB := fun v hv => by
    obtain ⟨x, hx, e⟩ := List.mem_map.1 hv
    have h2 := hB x hx
    unfold kvB at e
    simp only [Prod.mk.injEq, Value.int.injEq] at e
    omega
  have hquo : (b0 * 16).tdiv 16 = b0 := Int.mul_tdiv_cancel _ (by omega)
  rw [← hquo] at hno
  have fin : ∀ (w' : World) (g7 : Nat), St nF w w' (.row 5 1 (.slice (some ⟨g7, 0, none⟩) 16 16) (bR (dataAt s.data n)) :: .blk g5 [.int .i64 s.pg, .int .i64 s.n, .string ⟨s.data.toArray⟩, .bool s.wr, .bool s.ex] :: .obj r (.map es c) :: .blk g1 [.string ⟨I.name.toArray⟩, .slice pn I.needs.length cn, .slice (some ⟨b, off, none⟩) I.segs.length cs, .slice py I.syms.length cy, .slice pr I.rels.length cr, .int .i64 I.entry, .int .i64 (b0 * 16)] :: bxs bs) → ∀ (g9 : Nat) (w9 : World) (es' : Array MapEntry) (c' : Nat), St nF w w9 (.blk g9 [.int .i64 ((b0 * 16).tdiv 16 + s.pg + n), .string ⟨(dataAt s.data n).toArray⟩, .slice none 0 0] :: .row 5 1 (.slice (some ⟨g7, 0, none⟩) 16 16) (bR (dataAt s.data n)) :: .blk g5 [.int .i64 s.pg, .int .i64 s.n, .string ⟨s.data.toArray⟩, .bool s.wr, .bool s.ex] :: .obj r (.map es' c') :: .blk g1 [.string ⟨I.name.toArray⟩, .slice pn I.needs.length cn, .slice (some ⟨b, off, none⟩) I.segs.length cs, .slice py I.syms.length cy, .slice pr I.rels.length cr, .int .i64 I.entry, .int .i64 (b0 * 16)] :: bxs bs) → MapG (.int .i64) es' (bs.map kvB ++ [(.int .i64 ((b0 * 16).tdiv 16 + s.pg + n), .pointer (some ⟨g9, 0, none⟩))]) → ∃ bx : Bx, St nF w w9 (.blk g5 [.int .i64 s.pg, .int .i64 s.n, .string ⟨s.data.toArray⟩, .bool s.wr, .bool s.ex] :: .obj r (.map es' c') :: .blk g1 [.string ⟨I.name.toArray⟩, .slice pn I.needs.length cn, .slice (some ⟨b, off, none⟩) I.segs.length cs, .slice py I.syms.length cy, .slice pr I.rels.length cr, .int .i64 I.entry, .int .i64 (b0 * 16)] :: bxs (bs ++ [bx])) ∧ MapG (.int .i64) es' ((bs ++ [bx]).map kvB) ∧ (bs ++ [bx]).map keyB = pgsO b0 (I.segs.take j) ++ pgsS b0 s (n + 1) ∧ ∀ b ∈ bs ++ [bx], b.pg < b0 + s.pg + ((n + 1 : Nat) : Int) := by
    intro w' g7 _ g9 w9 es' c' hS hM'
    rw [hquo] at hS hM'
    refine ⟨⟨g9, b0 + s.pg + n, dataAt s.data n, none, 0, []⟩, ?_, ?_, ?_, ?_⟩
    · replace hS := hS.addNil 124 2
      replace hS := St.reorderT 6 [3, 4, 5, 1, 0] hS (by decide) rfl
      simp only [appA, List.drop_succ_cons, List.drop_zero] at hS
      exact hS.perm ((((bxs_snoc ⟨g9, b0 + s.pg + n, dataAt s.data n, none, 0, []⟩ bs).cons _).cons _).cons _)
    · rw [List.map_append]
      exact hM'
    · rw [List.map_append, hK, pgsS_succ, List.append_assoc]
      rfl
    · intro x hx
      rcases List.mem_append.1 hx with h | h
      · have := hB x h; omega
      · have : x.pg = b0 + s.pg + n := by simp only [List.mem_singleton] at h; rw [h]
        omega
  by_cases hfr : (n : Int) * 16 < s.data.length
  · repeat' (first | (first | ((with_reducible apply l_add); exact rfl; exact rfl; omega; omega; exact rfl) | ((with_reducible apply l_mul); exact rfl; exact rfl; omega; omega; exact rfl) | ((with_reducible apply l_pure tabOk); exact rfl; exact rfl) | ((with_reducible apply l_load); exact rfl; (((with_reducible apply Loads.sc tabOk); exact rfl; (first | exact hS.blkC 1 rfl rfl | exact hS.blkC 3 rfl rfl))); exact rfl)) | (first | (with_reducible apply c_seq) | (with_reducible apply c_region) | (with_reducible apply l_nil) | (with_reducible apply q_then) | (with_reducible apply c_skip) | (with_reducible apply c_block)) | (((with_reducible apply c_ifd); exact rfl; all_goals (intro hb hp; try (exfalso; omega)))) | ((with_reducible apply l_make hS tabOk (m := 16)); exact rfl; exact rfl; exact rfl; exact rfl; exact rfl; omega; omega; exact rfl; exact rfl; intro g7 w' hS'; clear hS; have hS := hS'; clear hS') | ((with_reducible apply l_strFrom tabOk); exact rfl; exact rfl; exact rfl; omega; omega; exact rfl) | ((with_reducible apply l_gets); exact rfl; exact g_copyS hS tabOk (i := 0) (old := List.replicate 16 0) rfl rfl rfl rfl; rintro _ w' ⟨rfl, hS'⟩; simp only [List.set] at hS'; clear hS; have hS := hS'; clear hS') | ((with_reducible apply l_quoT); exact rfl; exact rfl; omega; omega; omega; exact rfl))
    have hd : List.take 16 (List.drop ((n : Int) * 16).toNat s.data) ++ List.drop (List.take 16 (List.drop ((n : Int) * 16).toNat s.data)).length (List.replicate 16 0) = dataAt s.data n := by
      unfold dataAt
      rw [show ((n : Int) * 16).toNat = n * 16 by omega, List.drop_replicate]
    rw [hd] at hS
    have hf := fin _ _ hS
    clear fin
    repeat' (first | (first | ((with_reducible apply l_build tabOk); exact rfl; exact rfl; ((exact (rfl : _ = some [_, _, _]))); exact rfl) | ((with_reducible apply l_box hS); exact rfl; exact rfl; exact rfl; intro g w' hS'; clear hS; have hS := hS'; clear hS')) | ((with_reducible apply l_convS hS tabOk 0); exact rfl; exact rfl; exact rfl; exact rfl; exact rfl; (rw [dataAt_len]; omega); exact rfl))
    refine l_gets0 (g_updN hS (i := 3) mt_sheets ut_int rfl rfl rfl rfl hM (k := .int .i64 ((b0 * 16).tdiv 16 + s.pg + n)) rfl hno) ?_
    rintro - w9 ⟨es', c', hM', hS'⟩
    simp only [List.set] at hS'
    obtain ⟨bx, hS2, hM2, hK2, hB2⟩ := hf _ w9 es' c' hS' hM'
    clear hf hS hS' hM'
    have hS := hS2
    repeat' (first | (first | ((with_reducible apply l_add); exact rfl; exact rfl; omega; omega; exact rfl) | ((with_reducible apply l_pure tabOk); exact rfl; exact rfl)) | (first | (with_reducible apply c_region) | (with_reducible apply l_nil) | (with_reducible apply q_then) | (with_reducible apply q_block)))
    exact q_loopK (n + 1, bs ++ [bx], es', c') (by repeat (first | exact Fr.sub_nil _ | (apply Fr.sub_cons; exact rfl))) ⟨by show n + 1 ≤ m; omega, hM2, hK2, hB2⟩ (by simpa only [List.append_nil] using hS) (by show m - (n + 1) < m - n; omega)
  · repeat' (first | (first | ((with_reducible apply l_add); exact rfl; exact rfl; omega; omega; exact rfl) | ((with_reducible apply l_mul); exact rfl; exact rfl; omega; omega; exact rfl) | ((with_reducible apply l_pure tabOk); exact rfl; exact rfl) | ((with_reducible apply l_load); exact rfl; (((with_reducible apply Loads.sc tabOk); exact rfl; (first | exact hS.blkC 1 rfl rfl | exact hS.blkC 3 rfl rfl))); exact rfl)) | (first | (with_reducible apply c_seq) | (with_reducible apply c_region) | (with_reducible apply l_nil) | (with_reducible apply q_then) | (with_reducible apply c_skip) | (with_reducible apply c_block)) | (((with_reducible apply c_ifd); exact rfl; all_goals (intro hb hp; try (exfalso; omega)))) | ((with_reducible apply l_make hS tabOk (m := 16)); exact rfl; exact rfl; exact rfl; exact rfl; exact rfl; omega; omega; exact rfl; exact rfl; intro g7 w' hS'; clear hS; have hS := hS'; clear hS') | ((with_reducible apply l_quoT); exact rfl; exact rfl; omega; omega; omega; exact rfl))
    have hd : List.replicate 16 [Value.int .u8 0] = bR (dataAt s.data n) := by
      unfold dataAt
      rw [List.drop_of_length_le (by omega)]
      rfl
    rw [hd] at hS
    have hf := fin _ _ hS
    clear fin
    repeat' (first | (first | ((with_reducible apply l_build tabOk); exact rfl; exact rfl; ((exact (rfl : _ = some [_, _, _]))); exact rfl) | ((with_reducible apply l_box hS); exact rfl; exact rfl; exact rfl; intro g w' hS'; clear hS; have hS := hS'; clear hS')) | ((with_reducible apply l_convS hS tabOk 0); exact rfl; exact rfl; exact rfl; exact rfl; exact rfl; (rw [dataAt_len]; omega); exact rfl))
    refine l_gets0 (g_updN hS (i := 3) mt_sheets ut_int rfl rfl rfl rfl hM (k := .int .i64 ((b0 * 16).tdiv 16 + s.pg + n)) rfl hno) ?_
    rintro - w9 ⟨es', c', hM', hS'⟩
    simp only [List.set] at hS'
    obtain ⟨bx, hS2, hM2, hK2, hB2⟩ := hf _ w9 es' c' hS' hM'
    clear hf hS hS' hM'
    have hS := hS2
    repeat' (first | (first | ((with_reducible apply l_add); exact rfl; exact rfl; omega; omega; exact rfl) | ((with_reducible apply l_pure tabOk); exact rfl; exact rfl)) | (first | (with_reducible apply c_region) | (with_reducible apply l_nil) | (with_reducible apply q_then) | (with_reducible apply q_block)))
    exact q_loopK (n + 1, bs ++ [bx], es', c') (by repeat (first | exact Fr.sub_nil _ | (apply Fr.sub_cons; exact rfl))) ⟨by show n + 1 ≤ m; omega, hM2, hK2, hB2⟩ (by simpa only [List.append_nil] using hS) (by show m - (n + 1) < m - n; omega)
end Go.Proofs.Ytejnpppejalhfab
