/- Texts that the proof stands on, one behind the other: Im10, Im11, Im12, Im13, Im17, Im20. -/
import Derived.Test.YtejnpppejalhfabPLinkFills10
/- The reference's check of an image. -/
namespace Go.Proofs.Ytejnpppejalhfab
open Go.RowKit Go.Sort

theorem eb (b : Bool) {c : Bool} (h : b = c) : Value.bool b = .bool c := by rw [h]
theorem nb {b c : Bool} (h : b = c) : (!b) = !c := by rw [h]
set_option maxRecDepth 100000 in
set_option maxHeartbeats 4000000 in
theorem CheckImage_fn {I : Im} {w : World} {vn vs vy vr : Value} (hI : ImV w I vn vs vy vr) (hB : ImB I) (hD : ImD I) : Fn Try.prog 49 [imA I vn vs vy vr] w (RBf (.int .i64 (checkIm I)) w) := by
  have bn := hI.needs.bound; have bs := hI.segs.bound; have by_ := hI.syms.bound; have br := hI.rels.bound; obtain ⟨pn, cn, rfl⟩ := hI.needs.len; obtain ⟨ps, cs, rfl⟩ := hI.segs.len; obtain ⟨py, cy, rfl⟩ := hI.syms.len; obtain ⟨pr, cr, rfl⟩ := hI.rels.len
  refine fn_enter (fn := Try.f49) ⟨Try.func49, by kernel_rfl, by kernel_rfl⟩ (by exact rfl) Try.ntmps49 (by exact rfl) ?_
  have hS := St.start w
  have hb2 := hB.syms
  cases h1 : nmsB I
  · repeat' (first | (first | ((with_reducible apply l_pure tabOk); exact rfl; exact rfl) | ((with_reducible apply l_load); exact rfl; (((with_reducible apply Loads.st tabOk); exact rfl; ((exact hS.blkR 0 rfl)); exact rfl)); exact rfl) | ((with_reducible apply l_box hS); exact rfl; exact rfl; exact rfl; intro g w' hS'; clear hS; have hS := hS'; clear hS')) | (first | (with_reducible apply c_seq) | (with_reducible apply c_region) | (with_reducible apply l_nil) | (with_reducible apply q_then) | (with_reducible apply c_ret) | (with_reducible apply q_then_ret)) | (((with_reducible apply c_ift); exact rfl; (exact rfl))) | ((with_reducible apply l_call); exact rfl; exact rfl; exact Fn.eqv (eb _ h1) (namesFine_fn (hI.now hS)); exact rfl; rintro _ w' ⟨rfl, hS'⟩; replace hS := hS.transA hS'; simp only [appA] at hS; clear hS'))
    (apply q_ret1); (repeat (first | exact ResL.nil | (apply ResL.tmp; exact rfl)))
    exact ⟨by rw [checkIm, if_pos h1], hS.sub (List.nil_sublist _)⟩
  by_cases hc : 1 ≤ (I.segs.length : Int) ∧ (I.segs.length : Int) ≤ 6 ∧ (I.needs.length : Int) ≤ 4 ∧ (I.syms.length : Int) ≤ 12 ∧ (I.rels.length : Int) ≤ 16
  rotate_left
  · have h2 : cntB I = false := by unfold cntB; rw [decide_eq_false_iff_not]; exact hc
    repeat' (first | (first | ((with_reducible apply l_pure tabOk); exact rfl; exact rfl) | ((with_reducible apply l_load); exact rfl; (first | ((with_reducible apply Loads.sl tabOk); exact rfl; ((exact hS.blkC 0 rfl rfl))) | ((with_reducible apply Loads.st tabOk); exact rfl; ((exact hS.blkR 0 rfl)); exact rfl)); exact rfl) | ((with_reducible apply l_box hS); exact rfl; exact rfl; exact rfl; intro g w' hS'; clear hS; have hS := hS'; clear hS') | (first | ((with_reducible apply l_yes); exact rfl; exact rfl; exact rfl; exact rfl; (assumption)) | ((with_reducible apply l_no); exact rfl; exact rfl; exact rfl; exact rfl; (first | exact rfl | assumption); exact rfl) | ((with_reducible apply l_partd); exact rfl; exact rfl; exact rfl; all_goals (intro hb hp; try (exfalso; omega))) | ((with_reducible apply l_partn); exact rfl; exact rfl; exact rfl; all_goals (intro hb hp; try (exfalso; omega))) | ((with_reducible apply l_pick1); exact rfl; (first | exact rfl | assumption); exact rfl; exact rfl) | ((with_reducible apply l_pick2); exact rfl; ((assumption)); exact rfl; exact rfl))) | (first | (with_reducible apply c_seq) | (with_reducible apply c_region) | (with_reducible apply l_nil) | (with_reducible apply q_then) | (with_reducible apply c_skip) | (with_reducible apply c_ret) | (with_reducible apply q_then_ret)) | (first | ((with_reducible apply c_ift); exact rfl; (exact rfl)) | ((with_reducible apply c_iff); exact rfl; (exact rfl)) | ((with_reducible apply c_ifd); exact rfl; all_goals (intro hb hp; try (exfalso; omega)))) | ((with_reducible apply l_call); exact rfl; exact rfl; exact Fn.eqv (eb _ h1) (namesFine_fn (hI.now hS)); exact rfl; rintro _ w' ⟨rfl, hS'⟩; replace hS := hS.transA hS'; simp only [appA] at hS; clear hS') | ((with_reducible apply l_call); exact rfl; exact rfl; exact within_fn _ _ _ _; exact rfl; rintro _ w' ⟨rfl, hS'⟩; replace hS := hS.transA hS'; simp only [appA] at hS; clear hS'))
    all_goals (apply q_ret1); (repeat (first | exact ResL.nil | (apply ResL.tmp; exact rfl)))
    all_goals exact ⟨by simp [checkIm, h1, h2], hS.sub (List.nil_sublist _)⟩
  have h2 : cntB I = true := by unfold cntB; rw [decide_eq_true_eq]; exact hc
  obtain ⟨c1, c2, c3, c4, c5⟩ := hc
  have c0 : (!decide (1 ≤ (I.segs.length : Int) ∧ (I.segs.length : Int) ≤ 6)) = false := by rw [decide_eq_true ⟨c1, c2⟩]; rfl
  have b3 : sgsB I = false → checkIm I = 3 := fun h => by simp [checkIm, h1, h2, h]
  repeat' (first | (first | ((with_reducible apply l_pure tabOk); exact rfl; exact rfl) | ((with_reducible apply l_load); exact rfl; (first | ((with_reducible apply Loads.sl tabOk); exact rfl; ((exact hS.blkC 0 rfl rfl))) | ((with_reducible apply Loads.st tabOk); exact rfl; ((exact hS.blkR 0 rfl)); exact rfl)); exact rfl) | ((with_reducible apply l_box hS); exact rfl; exact rfl; exact rfl; intro g w' hS'; clear hS; have hS := hS'; clear hS') | (first | ((with_reducible apply l_yes); exact rfl; exact rfl; exact rfl; exact rfl; (assumption)) | ((with_reducible apply l_partd); exact rfl; exact rfl; exact rfl; all_goals (intro hb hp; try (exfalso; omega))) | ((with_reducible apply l_pick2); exact rfl; ((assumption)); exact rfl; exact rfl))) | (first | (with_reducible apply c_seq) | (with_reducible apply c_region) | (with_reducible apply l_nil) | (with_reducible apply q_then) | (with_reducible apply c_skip) | (with_reducible apply c_block)) | (first | ((with_reducible apply c_iff); exact rfl; (exact rfl)) | ((with_reducible apply c_ifd); exact rfl; all_goals (intro hb hp; try (exfalso; omega)))) | ((with_reducible apply l_call); exact rfl; exact rfl; exact Fn.eqv (eb _ h1) (namesFine_fn (hI.now hS)); exact rfl; rintro _ w' ⟨rfl, hS'⟩; replace hS := hS.transA hS'; simp only [appA] at hS; clear hS') | ((with_reducible apply l_call); exact rfl; exact rfl; exact within_fn _ _ _ _; exact rfl; rintro _ w' ⟨rfl, hS'⟩; replace hS := hS.transA hS'; simp only [appA] at hS; clear hS'))
  refine c_count hS 3 [1] rfl (I.segs.length) (fun i => (I.segs.take i).all sgOk = true) 0 rfl (Nat.zero_le _) (by (rfl)) ?_
  rintro i w1 hi hall hS'
  clear hS; have hS := hS'; clear hS'
  by_cases hlt : i < I.segs.length
  · obtain ⟨x, hx⟩ := lt_get (l := I.segs) (i := i) (by omega)
    have hrow := map_get (f := sgC) hx
    obtain ⟨b, off, rfl, hro⟩ := (hI.segs).at_ hlt
    have hdx := hD x (List.mem_of_getElem? hx)
    by_cases hok1 : (0 ≤ x.pg ∧ x.pg ≤ 255) ∧ (1 ≤ x.n ∧ x.n ≤ 255)
    · have q1 : (!decide (0 ≤ x.pg ∧ x.pg ≤ 255)) = false := by rw [decide_eq_true hok1.1]; rfl
      have q2 : (!decide (1 ≤ x.n ∧ x.n ≤ 255)) = false := by rw [decide_eq_true hok1.2]; rfl
      obtain ⟨⟨o1, o2⟩, o3, o4⟩ := hok1
      repeat' (first | (first | ((with_reducible apply l_add); exact rfl; exact rfl; omega; omega; exact rfl) | ((with_reducible apply l_mul); exact rfl; exact rfl; omega; omega; exact rfl) | ((with_reducible apply l_pure tabOk); exact rfl; exact rfl) | ((with_reducible apply l_load); exact rfl; (first | ((with_reducible apply Loads.sc tabOk); exact rfl; ((exact hS.blkC 0 rfl rfl))) | ((with_reducible apply Loads.sl tabOk); exact rfl; ((exact hS.blkC 0 rfl rfl))) | ((with_reducible apply Loads.st tabOk); exact rfl; ((exact hS.roR (by assumption) (by assumption))); exact rfl)); exact rfl) | ((with_reducible apply l_ix tabOk); exact rfl; exact rfl; exact rfl; ((exact rfl)); ((omega)); exact rfl) | ((with_reducible apply l_alloc hS tabOk); exact rfl; exact rfl; exact rfl; intro g w' hS'; clear hS; have hS := hS'; clear hS') | (((with_reducible apply l_store hS tabOk (i := 0)); exact rfl; exact rfl; exact rfl; exact rfl; exact rfl; exact rfl; exact rfl; exact rfl; ((exact (rfl : _ = [_, _, _, _, _]))); intro w' hS'; simp only [List.set] at hS'; clear hS; have hS := hS'; clear hS')) | (first | ((with_reducible apply l_yes); exact rfl; exact rfl; exact rfl; exact rfl; (assumption)) | ((with_reducible apply l_no); exact rfl; exact rfl; exact rfl; exact rfl; ((assumption)); exact rfl) | ((with_reducible apply l_partd); exact rfl; exact rfl; exact rfl; all_goals (intro hb hp; try (exfalso; omega))) | ((with_reducible apply l_pick1); exact rfl; ((assumption)); exact rfl; exact rfl) | ((with_reducible apply l_pick2); exact rfl; ((assumption)); exact rfl; exact rfl))) | (first | (with_reducible apply c_seq) | (with_reducible apply c_region) | (with_reducible apply l_nil) | (with_reducible apply q_then) | (with_reducible apply c_skip) | (with_reducible apply c_block) | (with_reducible apply c_ret) | (with_reducible apply q_then_ret) | (with_reducible apply q_block) | (with_reducible apply q_block_ret)) | (first | ((with_reducible apply c_ift); exact rfl; (exact rfl)) | ((with_reducible apply c_ifd); exact rfl; all_goals (intro hb hp; try (exfalso; omega)))) | ((with_reducible apply l_call); exact rfl; exact rfl; exact within_fn _ _ _ _; exact rfl; rintro _ w' ⟨rfl, hS'⟩; replace hS := hS.transA hS'; simp only [appA] at hS; clear hS'))
      all_goals first
        | exact q_count (i + 1) (by repeat (first | exact Fr.sub_nil _ | (apply Fr.sub_cons; exact rfl))) (by omega) (all_take_succ hall hx (by unfold sgOk; rw [decide_eq_true_eq]; omega)) (by omega) hS.drop
        | (((apply q_ret1); (repeat (first | exact ResL.nil | (apply ResL.tmp; exact rfl)))); refine ⟨?_, hS.sub (List.nil_sublist _)⟩; rw [b3 (all_no hx (by unfold sgOk; rw [decide_eq_false_iff_not]; omega))])
    · have hbad : sgsB I = false := all_no hx (by unfold sgOk; rw [decide_eq_false_iff_not]; omega)
      rw [b3 hbad]
      by_cases hp1 : 0 ≤ x.pg ∧ x.pg ≤ 255
      · have q1 : (!decide (0 ≤ x.pg ∧ x.pg ≤ 255)) = false := by rw [decide_eq_true hp1]; rfl
        have q2 : (!decide (1 ≤ x.n ∧ x.n ≤ 255)) = true := by rw [decide_eq_false (fun h => hok1 ⟨hp1, h⟩)]; rfl
        repeat' (first | (first | ((with_reducible apply l_pure tabOk); exact rfl; exact rfl) | ((with_reducible apply l_load); exact rfl; (first | ((with_reducible apply Loads.sc tabOk); exact rfl; ((exact hS.blkC 0 rfl rfl))) | ((with_reducible apply Loads.sl tabOk); exact rfl; ((exact hS.blkC 0 rfl rfl))) | ((with_reducible apply Loads.st tabOk); exact rfl; ((exact hS.roR (by assumption) (by assumption))); exact rfl)); exact rfl) | ((with_reducible apply l_ix tabOk); exact rfl; exact rfl; exact rfl; ((exact rfl)); ((omega)); exact rfl) | ((with_reducible apply l_alloc hS tabOk); exact rfl; exact rfl; exact rfl; intro g w' hS'; clear hS; have hS := hS'; clear hS') | (((with_reducible apply l_store hS tabOk (i := 0)); exact rfl; exact rfl; exact rfl; exact rfl; exact rfl; exact rfl; exact rfl; exact rfl; ((exact (rfl : _ = [_, _, _, _, _]))); intro w' hS'; simp only [List.set] at hS'; clear hS; have hS := hS'; clear hS')) | (first | ((with_reducible apply l_yes); exact rfl; exact rfl; exact rfl; exact rfl; (assumption)) | ((with_reducible apply l_no); exact rfl; exact rfl; exact rfl; exact rfl; (first | exact rfl | assumption); exact rfl) | ((with_reducible apply l_pick1); exact rfl; (first | exact rfl | assumption); exact rfl; exact rfl) | ((with_reducible apply l_pick2); exact rfl; ((assumption)); exact rfl; exact rfl))) | (first | (with_reducible apply c_seq) | (with_reducible apply c_region) | (with_reducible apply l_nil) | (with_reducible apply q_then) | (with_reducible apply c_skip) | (with_reducible apply c_block) | (with_reducible apply c_ret) | (with_reducible apply q_then_ret) | (with_reducible apply q_block_ret)) | (first | ((with_reducible apply c_ift); exact rfl; (exact rfl)) | ((with_reducible apply c_ifd); exact rfl; all_goals (intro hb hp; try (exfalso; omega)))) | ((with_reducible apply l_call); exact rfl; exact rfl; exact within_fn _ _ _ _; exact rfl; rintro _ w' ⟨rfl, hS'⟩; replace hS := hS.transA hS'; simp only [appA] at hS; clear hS'))
        (apply q_ret1); (repeat (first | exact ResL.nil | (apply ResL.tmp; exact rfl)))
        exact ⟨rfl, hS.sub (List.nil_sublist _)⟩
      · have q1 : (!decide (0 ≤ x.pg ∧ x.pg ≤ 255)) = true := by rw [decide_eq_false hp1]; rfl
        repeat' (first | (first | ((with_reducible apply l_pure tabOk); exact rfl; exact rfl) | ((with_reducible apply l_load); exact rfl; (first | ((with_reducible apply Loads.sc tabOk); exact rfl; ((exact hS.blkC 0 rfl rfl))) | ((with_reducible apply Loads.sl tabOk); exact rfl; ((exact hS.blkC 0 rfl rfl))) | ((with_reducible apply Loads.st tabOk); exact rfl; ((exact hS.roR (by assumption) (by assumption))); exact rfl)); exact rfl) | ((with_reducible apply l_ix tabOk); exact rfl; exact rfl; exact rfl; ((exact rfl)); ((omega)); exact rfl) | ((with_reducible apply l_alloc hS tabOk); exact rfl; exact rfl; exact rfl; intro g w' hS'; clear hS; have hS := hS'; clear hS') | (((with_reducible apply l_store hS tabOk (i := 0)); exact rfl; exact rfl; exact rfl; exact rfl; exact rfl; exact rfl; exact rfl; exact rfl; ((exact (rfl : _ = [_, _, _, _, _]))); intro w' hS'; simp only [List.set] at hS'; clear hS; have hS := hS'; clear hS')) | (first | ((with_reducible apply l_no); exact rfl; exact rfl; exact rfl; exact rfl; (first | exact rfl | assumption); exact rfl) | ((with_reducible apply l_pick1); exact rfl; (first | exact rfl | assumption); exact rfl; exact rfl))) | (first | (with_reducible apply c_seq) | (with_reducible apply c_region) | (with_reducible apply l_nil) | (with_reducible apply q_then) | (with_reducible apply c_skip) | (with_reducible apply c_block) | (with_reducible apply c_ret) | (with_reducible apply q_then_ret) | (with_reducible apply q_block_ret)) | (first | ((with_reducible apply c_ift); exact rfl; (exact rfl)) | ((with_reducible apply c_ifd); exact rfl; all_goals (intro hb hp; try (exfalso; omega)))) | ((with_reducible apply l_call); exact rfl; exact rfl; exact within_fn _ _ _ _; exact rfl; rintro _ w' ⟨rfl, hS'⟩; replace hS := hS.transA hS'; simp only [appA] at hS; clear hS'))
        (apply q_ret1); (repeat (first | exact ResL.nil | (apply ResL.tmp; exact rfl)))
        exact ⟨rfl, hS.sub (List.nil_sublist _)⟩
  have hok : sgsB I = true := all_take_all hall (by omega)
  have b4 : aptB I = false → checkIm I = 5 := fun h => by simp [checkIm, h1, h2, hok, h]
  repeat' (first | (first | ((with_reducible apply l_pure tabOk); exact rfl; exact rfl) | ((with_reducible apply l_load); exact rfl; (((with_reducible apply Loads.sl tabOk); exact rfl; ((exact hS.blkC 0 rfl rfl)))); exact rfl)) | (first | (with_reducible apply c_seq) | (with_reducible apply c_region) | (with_reducible apply l_nil) | (with_reducible apply q_then) | (with_reducible apply c_block) | (with_reducible apply c_exit) | (with_reducible apply q_then_exit) | (with_reducible apply q_block_exit)) | (((with_reducible apply c_ifd); exact rfl; all_goals (intro hb hp; try (exfalso; omega)))))
  clear hi hlt hb hp hall c0 b3
  replace hS := hS.addNil 9 1
  rw [show ([] : List (List Value)) = (syN I 0).map stC from rfl] at hS
  refine c_loopK (X := Nat × Option Addr × Nat × Nat) (fun x => [(6, .int .i64 (x.1 : Nat)), (5, .slice x.2.1 x.2.2.1 x.2.2.2)]) [1] rfl (fun x => [.row 9 1 (.slice x.2.1 x.2.2.1 x.2.2.2) ((syN I x.1).map stC)]) (fun x => x.1 ≤ I.syms.length) (fun x => I.syms.length - x.1) (0, none, 0, 0) (by repeat (first | exact Fr.sub_nil _ | (apply Fr.sub_cons; exact rfl))) (by exact Nat.zero_le _) hS ?_
  clear hS
  rintro ⟨j, q1, q2, q3⟩ w1 hi hS
  simp only [List.cons_append, List.nil_append] at hi hS ⊢
  by_cases hlt : j < I.syms.length
  · obtain ⟨x, hx⟩ := lt_get (l := I.syms) (i := j) (by omega)
    have hrow := map_get (f := syC) hx
    obtain ⟨b, off, rfl, hro⟩ := hI.syms.at_ hlt
    have hl1 := syN_len hB j
    repeat' (first | (first | ((with_reducible apply l_add); exact rfl; exact rfl; omega; omega; exact rfl) | ((with_reducible apply l_pure tabOk); exact rfl; exact rfl) | ((with_reducible apply l_load); exact rfl; (first | ((with_reducible apply Loads.sc tabOk); exact rfl; ((exact hS.roC0 (by assumption) (by assumption) rfl))) | ((with_reducible apply Loads.sl tabOk); exact rfl; ((exact hS.blkC 1 rfl rfl)))); exact rfl) | ((with_reducible apply l_ix tabOk); exact rfl; exact rfl; exact rfl; ((exact rfl)); ((omega)); exact rfl) | ((with_reducible apply l_bslice hS tabOk); exact rfl; exact rfl; exact rfl; exact rfl; exact rfl; exact rfl; exact rfl; intro g w' hS'; clear hS; have hS := hS'; clear hS')) | (first | (with_reducible apply c_seq) | (with_reducible apply c_region) | (with_reducible apply l_nil) | (with_reducible apply q_then) | (with_reducible apply c_skip) | (with_reducible apply c_block) | (with_reducible apply q_block)) | (((with_reducible apply c_ifd); exact rfl; all_goals (intro hb hp; try (exfalso; omega)))) | ((with_reducible apply l_append hS tabOk 1); exact rfl; exact rfl; exact rfl; exact rfl; exact hS.rowRo 0 rfl; exact rfl; ((omega)); exact rfl; intro p' cap' w' hS'; simp only [List.set] at hS'; clear hS; have hS := hS'; clear hS'))
    rw [show [[.string ⟨x.name.toArray⟩]] = [stC x.name] from rfl, syN_succ hx] at hS
    refine q_loopK (j + 1, p', _, cap') (by repeat (first | exact Fr.sub_nil _ | (apply Fr.sub_cons; exact rfl))) (by show j + 1 ≤ I.syms.length; omega) ?_ (by show I.syms.length - (j + 1) < I.syms.length - j; omega)
    exact hS.drop
  rw [syN_all (by omega)] at hS
  repeat' (first | (first | ((with_reducible apply l_pure tabOk); exact rfl; exact rfl) | ((with_reducible apply l_load); exact rfl; (((with_reducible apply Loads.sl tabOk); exact rfl; ((exact hS.blkC 1 rfl rfl)))); exact rfl)) | (first | (with_reducible apply c_seq) | (with_reducible apply c_region) | (with_reducible apply l_nil) | (with_reducible apply q_then) | (with_reducible apply c_block) | (with_reducible apply c_exit) | (with_reducible apply q_then_exit) | (with_reducible apply q_block_exit)) | (((with_reducible apply c_ifd); exact rfl; all_goals (intro hb hp; try (exfalso; omega)))))
  clear hi hlt hb hp
  refine c_count hS 7 [1, 5] rfl (I.segs.length + 1) (fun i => 1 ≤ i ∧ ∀ (j : Nat) (a b : Sg), j + 1 < i → I.segs[j]? = some a → I.segs[j + 1]? = some b → a.pg + a.n ≤ b.pg) 1 rfl (by omega) ⟨Nat.le_refl _, by intros; omega⟩ ?_
  rintro i w1 hi ⟨hi1, hall⟩ hS'
  clear hS; have hS := hS'; clear hS'
  by_cases hlt : i < I.segs.length
  · obtain ⟨x, hx⟩ := lt_get (l := I.segs) (i := i) (by omega)
    have hrow := map_get (f := sgC) hx
    obtain ⟨b, off, rfl, hro⟩ := (hI.segs).at_ hlt
    obtain ⟨y, hy⟩ := lt_get (l := I.segs) (i := i - 1) (by omega)
    have hrow2 := map_get (f := sgC) hy
    have hix : ((i - 1 : Nat) : Int) = (i : Int) - 1 := by omega
    obtain ⟨o1, o2, o3, o4, -⟩ := sg_ok hok hx
    obtain ⟨u1, u2, u3, u4, -⟩ := sg_ok hok hy
    repeat' (first | (first | ((with_reducible apply l_add); exact rfl; exact rfl; omega; omega; exact rfl) | ((with_reducible apply l_pure tabOk); exact rfl; exact rfl) | ((with_reducible apply l_load); exact rfl; (((with_reducible apply Loads.sl tabOk); exact rfl; ((exact hS.blkC 1 rfl rfl)))); exact rfl)) | (first | (with_reducible apply c_seq) | (with_reducible apply c_region) | (with_reducible apply l_nil) | (with_reducible apply q_then) | (with_reducible apply c_skip) | (with_reducible apply c_block) | (with_reducible apply c_ret) | (with_reducible apply q_then_ret) | (with_reducible apply q_block) | (with_reducible apply q_block_ret)) | (((with_reducible apply c_ifd); exact rfl; all_goals (intro hb hp; try (exfalso; omega)))) | (focus ((with_reducible apply c_drawAll nF _ _ (by kernel_rfl) (by kernel_rfl) hS); (repeat' ((first | ((with_reducible apply d_add); exact rfl; exact rfl; omega; omega; exact rfl) | ((with_reducible apply d_sub); exact rfl; exact rfl; omega; omega; exact rfl) | ((with_reducible apply d_pure tabOk); exact rfl; exact rfl) | ((with_reducible apply d_load); exact rfl; (intro wd hd; replace hd : St _ _ wd _ := hd; (first | ((with_reducible apply Loads.sc tabOk); exact rfl; (first | exact hd.roC0 (by assumption) (by assumption) rfl | exact hd.roC (by assumption) (by assumption) rfl)) | ((with_reducible apply Loads.sl tabOk); exact rfl; ((exact hd.blkC 1 rfl rfl))))); exact rfl) | ((with_reducible apply d_ix tabOk); exact rfl; exact rfl; exact rfl; (first | exact rfl | assumption); ((omega)); exact rfl)))); all_goals ((with_reducible apply d_nil); intro w' hS'; clear hS; have hS := hS'; clear hS'))))
    · (apply q_ret1); (repeat (first | exact ResL.nil | (apply ResL.tmp; exact rfl)))
      refine ⟨?_, hS.sub (List.nil_sublist _)⟩
      rw [b4 (apt_ch (fun h => by have := h (i - 1) y x hy (by rw [show i - 1 + 1 = i by omega]; exact hx); omega))]
    · refine q_count (i + 1) (by repeat (first | exact Fr.sub_nil _ | (apply Fr.sub_cons; exact rfl))) (by omega) ⟨by omega, fun j a b h1 h2 h3 => ?_⟩ (by omega) hS
      by_cases e : j = i - 1
      · subst e
        rw [show i - 1 + 1 = i by omega] at h3
        rw [hy] at h2
        rw [hx] at h3
        cases h2
        cases h3
        omega
      · exact hall j a b (by omega) h2 h3
  have hch : Ch I.segs := fun j a b h1 h2 => hall j a b (by have := lt_of_getE h2; omega) h1 h2
  repeat' (first | (first | ((with_reducible apply l_pure tabOk); exact rfl; exact rfl) | ((with_reducible apply l_load); exact rfl; (first | ((with_reducible apply Loads.sl tabOk); exact rfl; ((exact hS.blkC 1 rfl rfl))) | ((with_reducible apply Loads.st tabOk); exact rfl; ((exact hS.blkR 1 rfl)); exact rfl)); exact rfl) | (first | ((with_reducible apply l_yes); exact rfl; exact rfl; exact rfl; exact rfl; (assumption)) | ((with_reducible apply l_no); exact rfl; exact rfl; exact rfl; exact rfl; ((assumption)); exact rfl) | ((with_reducible apply l_partd); exact rfl; exact rfl; exact rfl; all_goals (intro hb hp; try (exfalso; omega))) | ((with_reducible apply l_pick1); exact rfl; ((assumption)); exact rfl; exact rfl) | ((with_reducible apply l_pick2); exact rfl; ((assumption)); exact rfl; exact rfl))) | (first | (with_reducible apply c_seq) | (with_reducible apply c_region) | (with_reducible apply l_nil) | (with_reducible apply q_then) | (with_reducible apply c_skip) | (with_reducible apply c_exit) | (with_reducible apply c_ret) | (with_reducible apply q_then_exit) | (with_reducible apply q_then_ret) | (with_reducible apply q_block_exit)) | (first | ((with_reducible apply c_ift); exact rfl; (exact rfl)) | ((with_reducible apply c_ifd); exact rfl; all_goals (intro hb hp; try (exfalso; omega))) | ((with_reducible apply c_ifn); exact rfl; all_goals (intro hb hp; try (exfalso; omega)))) | ((with_reducible apply l_call); exact rfl; exact rfl; exact alike_fn (hS.rowSl 0 rfl); exact rfl; rintro _ w' ⟨rfl, hS'⟩; replace hS := hS.transA hS'; simp only [appA] at hS; clear hS') | ((with_reducible apply l_call); exact rfl; exact rfl; exact alike_fn (hI.needs.now hS); exact rfl; rintro _ w' ⟨rfl, hS'⟩; replace hS := hS.transA hS'; simp only [appA] at hS; clear hS') | ((with_reducible apply l_call); exact rfl; exact rfl; exact placesFine_fn (hI.now hS) hok; exact rfl; rintro _ w' ⟨rfl, hS'⟩; replace hS := hS.transA hS'; simp only [appA] at hS; clear hS'))
  · (apply q_ret1); (repeat (first | exact ResL.nil | (apply ResL.tmp; exact rfl)))
    refine ⟨?_, hS.sub (List.nil_sublist _)⟩
    rw [b4 (apt_sy hp)]
  · (apply q_ret1); (repeat (first | exact ResL.nil | (apply ResL.tmp; exact rfl)))
    refine ⟨?_, hS.sub (List.nil_sublist _)⟩
    rw [b4 (apt_nd hp)]
  · (apply q_ret1); (repeat (first | exact ResL.nil | (apply ResL.tmp; exact rfl)))
    refine ⟨?_, hS.sub (List.nil_sublist _)⟩
    have h4 : aptB I = true := apt_yes hch (by assumption) (by assumption)
    have h5 : plcB I = false := pB_false hp
    simp [checkIm, h1, h2, hok, h4, h5]
  · (apply q_ret1); (repeat (first | exact ResL.nil | (apply ResL.tmp; exact rfl)))
    refine ⟨?_, hS.sub (List.nil_sublist _)⟩
    have h4 : aptB I = true := apt_yes hch (by assumption) (by assumption)
    have h5 : plcB I = true := pB_true hp
    simp [checkIm, h1, h2, hok, h4, h5]
end Go.Proofs.Ytejnpppejalhfab
/- The writers: ink and pen. -/
namespace Go.Proofs.Ytejnpppejalhfab
open Go.RowKit Go.Sort

theorem Put8_fn (n : Int) (w : World) : Fn Try.prog 93 [.int .i64 n, .int .i64 8] w (RBf (.tuple #[.string ⟨(leB n 8).toArray⟩, .int .i64 0]) w) :=
  Fn.of_rb ⟨Try.func93, by kernel_rfl, by kernel_rfl⟩ (rb_below (put_yes n 8 w (by decide) (by decide)))
theorem Bytes8_fn (n : Int) (w : World) : Fn Try.prog 69 [.int .i64 n, .int .i64 8] w (RBf (.string ⟨(leB n 8).toArray⟩) w) :=
  Fn.of_rb ⟨Try.func69, by kernel_rfl, by kernel_rfl⟩ (rb_below (bytes_any n 8 w (by decide)))
theorem leB_len (n : Int) (k : Nat) : (leB n k).length = k := by
  induction k with
  | zero => rfl
  | succ k ih => simp [leB, ih]
/-- one who writes: a variable at g that holds a slice of bytes of one's own -/
def PenA (g : Nat) (p : Option Addr) (m c : Nat) (l : List UInt8) : List Asr := [.blk g [.slice p m c], .row 5 1 (.slice p m c) (bR l)]
def Pens (g : Nat) (p : Option Addr) (m c : Nat) (l l' : List UInt8) (w : World) : Value → World → Prop := fun _ w' => ∃ p' m' c', St (fps (PenA g p m c l)) w w' (PenA g p' m' c' l')
theorem Pens.cat {F : Nat → Prop} {w0 w w' : World} {Γ : List Asr} {g m c m' c' : Nat} {p p' : Option Addr} {l l' : List UInt8} (h : St F w0 w (.blk g [.slice p m c] :: .row 5 1 (.slice p m c) (bR l) :: Γ)) (h2 : St (fps (PenA g p m c l)) w w' (PenA g p' m' c' l')) : St F w0 w' (.blk g [.slice p' m' c'] :: .row 5 1 (.slice p' m' c') (bR l') :: Γ) :=
  St.transM (Θ := PenA g p m c l) h h2
theorem Pens.in_ {F : Nat → Prop} {w0 w : World} {Γ : List Asr} {g m c : Nat} {p : Option Addr} {l : List UInt8} (h : St F w0 w (.blk g [.slice p m c] :: .row 5 1 (.slice p m c) (bR l) :: Γ)) : St F w0 w (PenA g p m c l ++ Γ) := h
/-- a text's bytes -/
def txB (s : List UInt8) : List UInt8 := leB s.length 8 ++ s
def trB (b : Bool) : Int := if b then 1 else 0
/-! the program's -/
theorem itruth_fn (b : Bool) (w : World) : Fn Try.prog 35 [.bool b] w (RBf (.int .i64 (trB b)) w) := by
  refine fn_enter (fn := Try.f35) ⟨Try.func35, by kernel_rfl, by kernel_rfl⟩ (by exact rfl) Try.ntmps35 (by exact rfl) ?_
  have hS := St.start w
  cases b
  · repeat' (first | (((with_reducible apply l_pure tabOk); exact rfl; exact rfl)) | (first | (with_reducible apply c_seq) | (with_reducible apply c_region) | (with_reducible apply l_nil) | (with_reducible apply q_then) | (with_reducible apply c_skip) | (with_reducible apply c_ret)) | (((with_reducible apply c_iff); exact rfl; (exact rfl))))
    (apply q_ret1); (repeat (first | exact ResL.nil | (apply ResL.tmp; exact rfl)))
    exact ⟨rfl, hS⟩
  · repeat' (first | (((with_reducible apply l_pure tabOk); exact rfl; exact rfl)) | (first | (with_reducible apply c_seq) | (with_reducible apply c_region) | (with_reducible apply l_nil) | (with_reducible apply q_then) | (with_reducible apply c_ret) | (with_reducible apply q_then_ret)) | (((with_reducible apply c_ift); exact rfl; (exact rfl))))
    (apply q_ret1); (repeat (first | exact ResL.nil | (apply ResL.tmp; exact rfl)))
    exact ⟨rfl, hS⟩
/-- a row ahead of one who writes is none of the pen's things -/
theorem Pens.row {F : Nat → Prop} {w0 w : World} {Γ : List Asr} {g m c e sz : Nat} {p : Option Addr} {l : List UInt8} {v : Value} {rows : List (List Value)} (h : St F w0 w (.row e sz v rows :: .blk g [.slice p m c] :: .row 5 1 (.slice p m c) (bR l) :: Γ)) : Sl (fps (PenA g p m c l)) w sz v rows := by
  rcases h.rowSl 0 rfl with h1 | ⟨b, off, cap, h1, h2, h3, h4⟩
  · exact Or.inl h1
  · refine Or.inr ⟨b, off, cap, h1, h2, h3, ⟨h4.lt, ?_, h4.len, h4.one, h4.cells⟩⟩
    rintro ⟨A, hA, hA2⟩
    have hp := (List.pairwise_cons.1 h.apart).1
    have hown : (Asr.row e sz v rows).fp = some b := by
      rcases h.rowForm 0 rfl with ⟨h5, _⟩ | ⟨g2, cap2, h5, _⟩
      · rw [h1] at h5; cases h5
      · rw [h1] at h5; cases h5; rw [h1]; rfl
    have hAp : Aprt (.row e sz v rows) A := hp A (by
      unfold PenA at hA
      simp only [List.mem_cons, List.not_mem_nil, or_false] at hA
      rcases hA with rfl | rfl
      · simp
      · simp)
    rcases hAp with h6 | h6
    · rw [hown] at h6; cases h6
    · exact h6 (hown.trans hA2.symm)
/-- the bytes of numbers -/
def nsB : List Int → List UInt8
  | [] => []
  | n :: r => leB n 8 ++ nsB r
theorem nsB_snoc (ns : List Int) (n : Int) : nsB (ns ++ [n]) = nsB ns ++ leB n 8 := by
  induction ns with
  | nil => simp [nsB]
  | cons a r ih => simp [nsB, ih]
theorem nsB_len (ns : List Int) : (nsB ns).length = 8 * ns.length := by
  induction ns with
  | nil => rfl
  | cons a r ih => simp [nsB, ih, leB_len]; omega
set_option maxRecDepth 100000 in
set_option maxHeartbeats 2000000 in
theorem penNums_fn {F : Nat → Prop} {w0 w : World} {Γ : List Asr} {g m c e : Nat} {p : Option Addr} {l : List UInt8} {v : Value} {ns : List Int} (h : St F w0 w (.row e 1 v (ns.map fun n => [.int .i64 n]) :: .blk g [.slice p m c] :: .row 5 1 (.slice p m c) (bR l) :: Γ)) (hl : l.length ≤ 50000000) (hn : ns.length ≤ 100) : Fn Try.prog 34 [.pointer (some ⟨g, 0, none⟩), v] w (Pens g p m c l (l ++ nsB ns) w) := by
  have hsl := Pens.row h
  obtain ⟨pv, cv, hv⟩ := hsl.form
  rw [List.length_map] at hv
  subst hv
  refine fn_enter (fn := Try.f34) ⟨Try.func34, by kernel_rfl, by kernel_rfl⟩ (by exact rfl) Try.ntmps34 (by exact rfl) ?_
  have hS := St.startM (Δ := PenA g p m c l) (Γ := Γ) h.drop
  unfold PenA at hS
  repeat' (first | (((with_reducible apply l_pure tabOk); exact rfl; exact rfl)) | (first | (with_reducible apply c_seq) | (with_reducible apply c_region) | (with_reducible apply l_nil) | (with_reducible apply q_then) | (with_reducible apply c_block)))
  refine c_loopK (X := Nat × Option Addr × Nat × Nat) (fun x => [(10, .int .i64 (x.1 : Nat))]) [0, 8, 9] rfl (fun x => PenA g x.2.1 x.2.2.1 x.2.2.2 (l ++ nsB (ns.take x.1))) (fun x => x.1 ≤ ns.length) (fun x => ns.length - x.1) (Γ := []) (0, p, m, c) (by repeat (first | exact Fr.sub_nil _ | (apply Fr.sub_cons; exact rfl))) (by exact Nat.zero_le _) (by rw [List.append_nil, List.take_zero, show nsB [] = [] from rfl, List.append_nil]; exact hS) ?_
  clear hS
  rintro ⟨i, q1, q2, q3⟩ w1 hi hS
  simp only [PenA, List.cons_append, List.nil_append] at hi hS ⊢
  by_cases hlt : i < ns.length
  · obtain ⟨x, hx⟩ : ∃ x, ns[i]? = some x := ⟨ns[i], by simp [hlt]⟩
    have hrow : (ns.map fun n => [Value.int .i64 n])[i]? = some [.int .i64 x] := by rw [List.getElem?_map, hx]; rfl
    rcases hsl.parts.2 with h2 | ⟨b, off, rfl, _, _, hro⟩
    · have := congrArg List.length h2
      rw [List.length_map, List.length_nil] at this
      omega
    have h8 := leB_len x 8
    have hl2 : (l ++ nsB (ns.take i)).length ≤ 50000800 := by rw [List.length_append, nsB_len, List.length_take]; omega
    repeat' (first | (first | ((with_reducible apply l_add); exact rfl; exact rfl; omega; omega; exact rfl) | ((with_reducible apply l_pure tabOk); exact rfl; exact rfl) | ((with_reducible apply l_load); exact rfl; (first | ((with_reducible apply Loads.sc tabOk); exact rfl; ((exact hS.roC0 (by assumption) (by assumption) rfl))) | ((with_reducible apply Loads.sl tabOk); exact rfl; ((exact hS.blkC 0 rfl rfl)))); exact rfl) | ((with_reducible apply l_ix tabOk); exact rfl; exact rfl; exact rfl; ((exact rfl)); ((omega)); exact rfl) | (((with_reducible apply l_store hS tabOk (i := 0)); exact rfl; exact rfl; exact rfl; exact rfl; exact rfl; exact rfl; exact rfl; exact rfl; ((exact (rfl : _ = [_]))); intro w' hS'; simp only [List.set] at hS'; clear hS; have hS := hS'; clear hS'))) | (first | (with_reducible apply c_seq) | (with_reducible apply c_region) | (with_reducible apply l_nil) | (with_reducible apply q_then) | (with_reducible apply c_skip) | (with_reducible apply c_block) | (with_reducible apply q_block)) | (((with_reducible apply c_ifd); exact rfl; all_goals (intro hb hp; try (exfalso; omega)))) | ((with_reducible apply l_call); exact rfl; exact rfl; exact Put8_fn x _; exact rfl; rintro _ w' ⟨rfl, hS'⟩; replace hS := hS.transA hS'; simp only [appA] at hS; clear hS') | ((with_reducible apply l_appendS hS tabOk 1); exact rfl; exact rfl; exact rfl; exact rfl; exact rfl; exact rfl; (omega); exact rfl; intro p' cap' w' hS'; simp only [List.set] at hS'; clear hS; have hS := hS'; clear hS'))
    rw [show l ++ nsB (ns.take i) ++ leB x 8 = l ++ nsB (ns.take (i + 1)) by rw [List.take_add_one, hx, Option.toList_some, nsB_snoc, List.append_assoc]] at hS
    exact q_loopK (i + 1, p', _, cap') (by repeat (first | exact Fr.sub_nil _ | (apply Fr.sub_cons; exact rfl))) (by show i + 1 ≤ ns.length; omega) hS (by show ns.length - (i + 1) < ns.length - i; omega)
  · rw [List.take_of_length_le (by omega)] at hS
    repeat' (first | (((with_reducible apply l_pure tabOk); exact rfl; exact rfl)) | (first | (with_reducible apply c_seq) | (with_reducible apply c_region) | (with_reducible apply l_nil) | (with_reducible apply q_then) | (with_reducible apply c_exit) | (with_reducible apply q_then_exit) | (with_reducible apply q_block_exit)) | (((with_reducible apply c_ifd); exact rfl; all_goals (intro hb hp; try (exfalso; omega)))))
    (apply q_end0); (repeat ((exact ResL.nil)))
    exact ⟨_, _, _, hS⟩
set_option maxRecDepth 100000 in
set_option maxHeartbeats 2000000 in
theorem penText_fn {F : Nat → Prop} {w0 w : World} {Γ : List Asr} {g m c : Nat} {p : Option Addr} {l : List UInt8} (s : List UInt8) (h : St F w0 w (PenA g p m c l ++ Γ)) (hl : l.length ≤ 40000000) (hs : s.length ≤ 50000000) : Fn Try.prog 33 [.pointer (some ⟨g, 0, none⟩), .string ⟨s.toArray⟩] w (Pens g p m c l (l ++ txB s) w) := by
  refine fn_enter (fn := Try.f33) ⟨Try.func33, by kernel_rfl, by kernel_rfl⟩ (by exact rfl) Try.ntmps33 (by exact rfl) ?_
  have hS := St.startM (Δ := PenA g p m c l) h
  have h8 := leB_len s.length 8
  have e1 : nsB [(s.length : Int)] = leB s.length 8 := by simp [nsB]
  unfold PenA at hS
  have hl2 : (l ++ leB s.length 8).length ≤ 40000008 := by rw [List.length_append, h8]; omega
  repeat' (first | (first | ((with_reducible apply l_pure tabOk); exact rfl; exact rfl) | ((with_reducible apply l_load); exact rfl; (((with_reducible apply Loads.sl tabOk); exact rfl; ((exact hS.blkC 0 rfl rfl)))); exact rfl) | (((with_reducible apply l_store hS tabOk (i := 0)); exact rfl; exact rfl; exact rfl; exact rfl; exact rfl; exact rfl; exact rfl; exact rfl; ((exact (rfl : _ = [_]))); intro w' hS'; simp only [List.set] at hS'; clear hS; have hS := hS'; clear hS')) | ((with_reducible apply l_bslice hS tabOk); exact rfl; exact rfl; exact rfl; exact rfl; exact rfl; exact rfl; exact rfl; intro g w' hS'; clear hS; have hS := hS'; clear hS')) | (first | (with_reducible apply c_seq) | (with_reducible apply c_region) | (with_reducible apply l_nil) | (with_reducible apply q_then)) | ((with_reducible apply l_call); exact rfl; exact rfl; exact penNums_fn (ns := [(s.length : Int)]) hS (by omega) (by simp); exact rfl; rintro _ w' ⟨p2, m2, c2, hS'⟩; replace hS := Pens.cat (St.drop hS) hS'; clear hS') | (rw [e1] at hS; ((with_reducible apply l_appendS hS tabOk 1); exact rfl; exact rfl; exact rfl; exact rfl; exact rfl; exact rfl; (omega); exact rfl; intro p' cap' w' hS'; simp only [List.set] at hS'; clear hS; have hS := hS'; clear hS')))
  (apply q_end0); (repeat ((exact ResL.nil)))
  rw [show l ++ leB s.length 8 ++ s = l ++ txB s by unfold txB; rw [List.append_assoc]] at hS
  exact ⟨_, _, _, hS⟩
end Go.Proofs.Ytejnpppejalhfab
/- An image's bytes; the reference's writer. -/
namespace Go.Proofs.Ytejnpppejalhfab
open Go.RowKit Go.Sort

theorem flatI_len {α : Type} {f : α → List UInt8} {K : Nat} : ∀ (l : List α) (i : Nat), (∀ x ∈ l, (f x).length ≤ K) → ((l.take i).flatMap f).length ≤ K * i := by
  intro l
  induction l with
  | nil => intro i _; simp
  | cons a r ih =>
    intro i h
    cases i with
    | zero => simp
    | succ i =>
      rw [List.take_succ_cons, List.flatMap_cons, List.length_append]
      have h1 := h a List.mem_cons_self
      have h2 := ih i (fun x hx => h x (List.mem_cons_of_mem _ hx))
      rw [Nat.mul_succ]
      omega
theorem flatI_snoc {α : Type} {f : α → List UInt8} {l : List α} {i : Nat} {x : α} (hx : l[i]? = some x) : (l.take (i + 1)).flatMap f = (l.take i).flatMap f ++ f x := by
  rw [List.take_add_one, hx]; simp
theorem txB_len (s : List UInt8) : (txB s).length = 8 + s.length := by unfold txB; rw [List.length_append, leB_len]
def sgB (s : Sg) : List UInt8 := leB s.pg 8 ++ (leB s.n 8 ++ (txB s.data ++ (leB (trB s.wr) 8 ++ leB (trB s.ex) 8)))
def syB (s : Sy) : List UInt8 := txB s.name ++ leB s.at_ 8
def rlB (r : Rl) : List UInt8 := leB r.at_ 8 ++ (txB r.name ++ leB r.add 8)
def b2 (I : Im) : List UInt8 := txB I.name ++ leB I.needs.length 8
def b4 (I : Im) : List UInt8 := b2 I ++ I.needs.flatMap txB ++ leB I.segs.length 8
def b6 (I : Im) : List UInt8 := b4 I ++ I.segs.flatMap sgB ++ leB I.syms.length 8
def b8 (I : Im) : List UInt8 := b6 I ++ I.syms.flatMap syB ++ leB I.rels.length 8
def imB (I : Im) : List UInt8 := b8 I ++ I.rels.flatMap rlB ++ leB I.entry 8
/-- what the check tells of the lengths -/
structure ImL (I : Im) : Prop where
  name : I.name.length ≤ 12
  needs : ∀ s ∈ I.needs, (txB s).length ≤ 20
  segs : ∀ s ∈ I.segs, (sgB s).length ≤ 5000
  syms : ∀ s ∈ I.syms, (syB s).length ≤ 28
  rels : ∀ s ∈ I.rels, (rlB s).length ≤ 36
  n1 : I.needs.length ≤ 4
  n2 : I.segs.length ≤ 6
  n3 : I.syms.length ≤ 12
  n4 : I.rels.length ≤ 16
theorem nm_le {l : List UInt8} (h : nmB l = true) : l.length ≤ 12 := by
  unfold nmB at h
  rw [Bool.and_eq_true, decide_eq_true_eq] at h
  omega
theorem checkIm_zero {I : Im} (h : checkIm I = 0) : nmsB I = true ∧ cntB I = true ∧ sgsB I = true ∧ aptB I = true ∧ plcB I = true := by
  unfold checkIm at h
  cases h1 : nmsB I <;> simp [h1] at h
  cases h2 : cntB I <;> simp [h2] at h
  cases h3 : sgsB I <;> simp [h3] at h
  cases h4 : aptB I <;> simp [h4] at h
  cases h5 : plcB I <;> simp [h5] at h
  exact ⟨rfl, rfl, rfl, rfl, rfl⟩
theorem ImL.of {I : Im} (h : checkIm I = 0) : ImL I := by
  obtain ⟨h1, h2, h3, _, _⟩ := checkIm_zero h
  unfold nmsB at h1
  simp only [Bool.and_eq_true] at h1
  obtain ⟨a1, a2, a3, a4⟩ := h1
  unfold cntB at h2
  rw [decide_eq_true_eq] at h2
  refine ⟨nm_le a1, fun s hs => ?_, fun s hs => ?_, fun s hs => ?_, fun s hs => ?_, by omega, by omega, by omega, by omega⟩
  · have := nm_le (List.all_eq_true.1 a2 s hs)
    rw [txB_len]; omega
  · have h4 := List.all_eq_true.1 h3 s hs
    unfold sgOk at h4
    rw [decide_eq_true_eq] at h4
    simp only [sgB, List.length_append, leB_len, txB_len]
    omega
  · have := nm_le (List.all_eq_true.1 a3 s hs)
    simp only [syB, List.length_append, leB_len, txB_len]
    omega
  · have h4 := List.all_eq_true.1 a4 s hs
    rw [Bool.or_eq_true, decide_eq_true_eq] at h4
    have : s.name.length ≤ 12 := by
      rcases h4 with e | e
      · rw [e]; simp
      · exact nm_le e
    simp only [rlB, List.length_append, leB_len, txB_len]
    omega
theorem St.rot {F : Nat → Prop} {w0 w : World} {Γ : List Asr} {A B S : Asr} (h : St F w0 w (S :: A :: B :: Γ)) : St F w0 w (A :: B :: S :: Γ) := h.perm (((List.Perm.swap A S (B :: Γ))).trans (List.Perm.cons A (List.Perm.swap B S Γ)))
theorem St.unrot {F : Nat → Prop} {w0 w : World} {Γ : List Asr} {A B S : Asr} (h : St F w0 w (A :: B :: S :: Γ)) : St F w0 w (A :: B :: Γ) := h.sub (List.Sublist.cons_cons _ (List.Sublist.cons_cons _ (List.Sublist.cons _ (List.Sublist.refl _))))
end Go.Proofs.Ytejnpppejalhfab
/- image.Write. -/
namespace Go.Proofs.Ytejnpppejalhfab
open Go.RowKit Go.Sort

theorem St.rot1 {F : Nat → Prop} {w0 w : World} {Γ : List Asr} {A B S R : Asr} (h : St F w0 w (R :: S :: A :: B :: Γ)) : St F w0 w (R :: A :: B :: S :: Γ) := h.perm (List.Perm.cons R (((List.Perm.swap A S (B :: Γ))).trans (List.Perm.cons A (List.Perm.swap B S Γ))))
theorem nsB2 (n m : Int) : nsB [n, m] = leB n 8 ++ leB m 8 := by simp [nsB]
theorem c_heldA {P : Program} {n : Nat} {ds : List Deferred} {E : Fr} {w : World} {Q : Exit → Act → World → Prop} {F : Nat → Prop} {w0 : World} {Γ : List Asr} {A : Asr} {id : Nat} {l : List Oper} (i m : Nat) (hi : Γ[i]? = some A) (hl : l.length = m) (hS : St F w0 w Γ) (hm : P.follows .mixedOrders = true) (h : ∀ w1, St F w0 w1 Γ → WA P l.toArray Q (fun w' => A.holds w') m (Array.replicate m false) n ds E w1) : WC P (.region id l.toArray true) Q n ds E w := c_held _ m hl hS hm h
theorem hold_cell {w : World} {g k : Nat} {L : List Value} {v : Value} (h : Asr.holds w (.blk g L)) (hk : L[k]? = some v) : w.cell? ⟨g, k, none⟩ = some v := by rw [HoldL.cell h]; exact hk
theorem nsB1 (n : Int) : nsB [n] = leB n 8 := by simp [nsB]
set_option maxRecDepth 100000 in
set_option maxHeartbeats 4000000 in
theorem Write_fn {I : Im} {w : World} {vn vs vy vr : Value} (hI : ImV w I vn vs vy vr) (hB : ImB I) (hD : ImD I) : Fn Try.prog 9 [imA I vn vs vy vr] w (RBf (.tuple #[.string ⟨(if checkIm I = 0 then imB I else []).toArray⟩, .int .i64 (checkIm I)]) w) := by
  by_cases hc : checkIm I = 0
  rotate_left
  · rw [if_neg hc]
    have hc' : (!decide (checkIm I = 0)) = true := by rw [decide_eq_false hc]; rfl
    refine fn_enter (fn := Try.f9) ⟨Try.func9, by kernel_rfl, by kernel_rfl⟩ (by exact rfl) Try.ntmps9 (by exact rfl) ?_
    have hS := St.start w
    repeat' (first | (first | ((with_reducible apply l_pure tabOk); exact rfl; exact rfl) | ((with_reducible apply l_load); exact rfl; (((with_reducible apply Loads.st tabOk); exact rfl; ((exact hS.blkR 0 rfl)); exact rfl)); exact rfl) | ((with_reducible apply l_box hS); exact rfl; exact rfl; exact rfl; intro g w' hS'; clear hS; have hS := hS'; clear hS')) | (first | (with_reducible apply c_seq) | (with_reducible apply c_region) | (with_reducible apply l_nil) | (with_reducible apply q_then) | (with_reducible apply c_ret) | (with_reducible apply q_then_ret)) | (((with_reducible apply c_ift); exact rfl; (assumption))) | ((with_reducible apply l_call); exact rfl; exact rfl; exact Check_fn (hI.now hS) hB hD; exact rfl; rintro _ w' ⟨rfl, hS'⟩; replace hS := hS.transA hS'; simp only [appA] at hS; clear hS'))
    (apply q_ret2); (repeat (first | exact ResL.nil | (apply ResL.tmp; exact rfl)))
    exact ⟨rfl, hS.sub (List.nil_sublist _)⟩
  rw [if_pos hc]
  have hL := ImL.of hc
  have n0 := hL.name
  have n1 := hL.n1
  have n2 := hL.n2
  have n3 := hL.n3
  have n4 := hL.n4
  have hc' : (!decide (checkIm I = 0)) = false := by rw [decide_eq_true hc]; rfl
  have bn := hI.needs.bound; have bs := hI.segs.bound; have by_ := hI.syms.bound; have br := hI.rels.bound; obtain ⟨pn, cn, rfl⟩ := hI.needs.len; obtain ⟨ps, cs, rfl⟩ := hI.segs.len; obtain ⟨py, cy, rfl⟩ := hI.syms.len; obtain ⟨pr, cr, rfl⟩ := hI.rels.len
  refine fn_enter (fn := Try.f9) ⟨Try.func9, by kernel_rfl, by kernel_rfl⟩ (by exact rfl) Try.ntmps9 (by exact rfl) ?_
  have hS := St.start w
  repeat' (first | (first | ((with_reducible apply l_pure tabOk); exact rfl; exact rfl) | ((with_reducible apply l_load); exact rfl; (first | ((with_reducible apply Loads.sc tabOk); exact rfl; ((exact hS.blkC 1 rfl rfl))) | ((with_reducible apply Loads.st tabOk); exact rfl; ((exact hS.blkR 0 rfl)); exact rfl)); exact rfl) | ((with_reducible apply l_build tabOk); exact rfl; exact rfl; ((exact (rfl : _ = some [_]))); exact rfl) | ((with_reducible apply l_box hS); exact rfl; exact rfl; exact rfl; intro g w' hS'; clear hS; have hS := hS'; clear hS')) | (first | (with_reducible apply c_seq) | (with_reducible apply c_region) | (with_reducible apply l_nil) | (with_reducible apply q_then) | (with_reducible apply c_skip)) | (((with_reducible apply c_iff); exact rfl; (assumption))) | ((with_reducible apply l_call); exact rfl; exact rfl; exact Check_fn (hI.now hS) hB hD; exact rfl; rintro _ w' ⟨rfl, hS'⟩; replace hS := hS.transA hS'; simp only [appA] at hS; clear hS'))
  rename Nat => gp
  replace hS := (hS.addNil 5 1).perm (List.Perm.swap _ _ _)
  replace hS : St _ _ _ (.blk gp [.slice none 0 0] :: .row 5 1 (.slice none 0 0) (bR []) :: _) := hS
  have k1 : ([] ++ txB I.name).length ≤ 20 := by rw [List.nil_append, txB_len]; omega
  repeat' (first | (first | ((with_reducible apply l_pure tabOk); exact rfl; exact rfl) | ((with_reducible apply l_load); exact rfl; (((with_reducible apply Loads.sl tabOk); exact rfl; ((exact hS.blkC 2 rfl rfl)))); exact rfl) | ((with_reducible apply l_bslice hS tabOk); exact rfl; exact rfl; exact rfl; exact rfl; exact rfl; exact rfl; exact rfl; intro g w' hS'; clear hS; have hS := hS'; clear hS')) | (first | (with_reducible apply c_seq) | (with_reducible apply c_region) | (with_reducible apply l_nil) | (with_reducible apply q_then) | (with_reducible apply c_block)) | ((with_reducible apply l_call); exact rfl; exact rfl; exact penText_fn I.name (Pens.in_ hS) (by simp) (by omega); exact rfl; rintro _ w' ⟨p2, m2, c2, hS'⟩; replace hS := Pens.cat hS hS'; clear hS') | ((with_reducible apply l_call); exact rfl; exact rfl; exact penNums_fn (ns := [(I.needs.length : Int)]) hS (by omega) (by simp); exact rfl; rintro _ w' ⟨p2, m2, c2, hS'⟩; replace hS := Pens.cat (St.drop hS) hS'; clear hS'))
  rw [show [] ++ txB I.name ++ nsB [(I.needs.length : Int)] = b2 I ++ (I.needs.take 0).flatMap txB by simp [b2, nsB1]] at hS
  have k2 : (b2 I).length ≤ 28 := by unfold b2; rw [List.length_append, txB_len, leB_len]; omega
  refine c_loopK (X := Nat × Option Addr × Nat × Nat) (fun x => [(34, .int .i64 (x.1 : Nat))]) [1, 5, 32, 33] rfl (fun x => PenA gp x.2.1 x.2.2.1 x.2.2.2 (b2 I ++ (I.needs.take x.1).flatMap txB)) (fun x => x.1 ≤ I.needs.length) (fun x => I.needs.length - x.1) (0, _, _, _) (by repeat (first | exact Fr.sub_nil _ | (apply Fr.sub_cons; exact rfl))) (by exact Nat.zero_le _) hS ?_
  clear hS
  rintro ⟨i, q1, q2, q3⟩ w1 hi hS
  simp only [PenA, List.cons_append, List.nil_append] at hi hS ⊢
  by_cases hlt : i < I.needs.length
  · obtain ⟨x, hx⟩ := lt_get (l := I.needs) (i := i) (by omega)
    have hrow := map_get (f := stC) hx
    obtain ⟨b, off, rfl, hro⟩ := (hI.needs).at_ hlt
    have k3 := flatI_len I.needs i hL.needs
    have k4 : (b2 I ++ (I.needs.take i).flatMap txB).length ≤ 200 := by rw [List.length_append]; omega
    have k5 := hL.needs x (List.mem_of_getElem? hx)
    rw [txB_len] at k5
    repeat' (first | (first | ((with_reducible apply l_add); exact rfl; exact rfl; omega; omega; exact rfl) | ((with_reducible apply l_pure tabOk); exact rfl; exact rfl) | ((with_reducible apply l_load); exact rfl; (((with_reducible apply Loads.sc tabOk); exact rfl; ((exact hS.roC0 (by assumption) (by assumption) rfl)))); exact rfl) | ((with_reducible apply l_ix tabOk); exact rfl; exact rfl; exact rfl; ((exact rfl)); ((omega)); exact rfl)) | (first | (with_reducible apply c_seq) | (with_reducible apply c_region) | (with_reducible apply l_nil) | (with_reducible apply q_then) | (with_reducible apply c_skip) | (with_reducible apply c_block) | (with_reducible apply q_block)) | (((with_reducible apply c_ifd); exact rfl; all_goals (intro hb hp; try (exfalso; omega)))) | ((with_reducible apply l_call); exact rfl; exact rfl; exact penText_fn x (Pens.in_ hS) (by omega) (by omega); exact rfl; rintro _ w' ⟨p2, m2, c2, hS'⟩; replace hS := Pens.cat hS hS'; clear hS'))
    rw [show b2 I ++ (I.needs.take i).flatMap txB ++ txB x = b2 I ++ (I.needs.take (i + 1)).flatMap txB by rw [flatI_snoc hx, List.append_assoc]] at hS
    exact q_loopK (i + 1, _, _, _) (by repeat (first | exact Fr.sub_nil _ | (apply Fr.sub_cons; exact rfl))) (by show i + 1 ≤ I.needs.length; omega) hS (by show I.needs.length - (i + 1) < I.needs.length - i; omega)
  rw [List.take_of_length_le (by omega)] at hS
  have k3 := flatI_len I.needs I.needs.length hL.needs
  rw [List.take_length] at k3
  have k4 : (b2 I ++ I.needs.flatMap txB).length ≤ 200 := by rw [List.length_append]; omega
  repeat' (first | (first | ((with_reducible apply l_pure tabOk); exact rfl; exact rfl) | ((with_reducible apply l_load); exact rfl; (((with_reducible apply Loads.sl tabOk); exact rfl; ((exact hS.blkC 2 rfl rfl)))); exact rfl) | ((with_reducible apply l_bslice hS tabOk); exact rfl; exact rfl; exact rfl; exact rfl; exact rfl; exact rfl; exact rfl; intro g w' hS'; clear hS; have hS := hS'; clear hS')) | (first | (with_reducible apply c_seq) | (with_reducible apply c_region) | (with_reducible apply l_nil) | (with_reducible apply q_then) | (with_reducible apply c_block) | (with_reducible apply c_exit) | (with_reducible apply q_then_exit) | (with_reducible apply q_block_exit)) | (((with_reducible apply c_ifd); exact rfl; all_goals (intro hb hp; try (exfalso; omega)))) | ((with_reducible apply l_call); exact rfl; exact rfl; exact penNums_fn (ns := [(I.segs.length : Int)]) hS (by omega) (by simp); exact rfl; rintro _ w' ⟨p2, m2, c2, hS'⟩; replace hS := Pens.cat (St.drop hS) hS'; clear hS'))
  rw [nsB1, show b2 I ++ I.needs.flatMap txB ++ leB I.segs.length 8 = b4 I ++ (I.segs.take 0).flatMap sgB by simp [b4]] at hS
  have k2 : (b4 I).length ≤ 208 := by unfold b4; rw [List.length_append, leB_len]; omega
  refine c_loopK (X := Nat × Option Addr × Nat × Nat) (fun x => [(51, .int .i64 (x.1 : Nat))]) [1, 5, 49, 50] rfl (fun x => PenA gp x.2.1 x.2.2.1 x.2.2.2 (b4 I ++ (I.segs.take x.1).flatMap sgB)) (fun x => x.1 ≤ I.segs.length) (fun x => I.segs.length - x.1) (0, _, _, _) (by repeat (first | exact Fr.sub_nil _ | (apply Fr.sub_cons; exact rfl))) (by exact Nat.zero_le _) hS ?_
  clear hS
  rintro ⟨i, q1, q2, q3⟩ w1 hi hS
  simp only [PenA, List.cons_append, List.nil_append] at hi hS ⊢
  by_cases hlt : i < I.segs.length
  · obtain ⟨x, hx⟩ := lt_get (l := I.segs) (i := i) (by omega)
    have hrow := map_get (f := sgC) hx
    obtain ⟨b, off, rfl, hro⟩ := (hI.segs).at_ hlt
    have k3 := flatI_len I.segs i hL.segs
    have k4 : (b4 I ++ (I.segs.take i).flatMap sgB).length ≤ 40000 := by rw [List.length_append]; omega
    have k5 := hL.segs x (List.mem_of_getElem? hx)
    simp only [sgB, List.length_append, leB_len, txB_len] at k5
    generalize hz : b4 I ++ (I.segs.take i).flatMap sgB = z at hS k4
    have z2 : (z ++ nsB [x.pg, x.n]).length ≤ 40016 := by rw [List.length_append, nsB_len]; simp; omega
    have z3 : (z ++ nsB [x.pg, x.n] ++ txB x.data).length ≤ 50000 := by rw [List.length_append, txB_len]; omega
    repeat' (first | (first | ((with_reducible apply l_pure tabOk); exact rfl; exact rfl) | ((with_reducible apply l_load); exact rfl; (first | ((with_reducible apply Loads.sc tabOk); exact rfl; ((exact hS.blkC 0 rfl rfl))) | ((with_reducible apply Loads.st tabOk); exact rfl; ((exact hS.roR (by assumption) (by assumption))); exact rfl)); exact rfl) | ((with_reducible apply l_ix tabOk); exact rfl; exact rfl; exact rfl; ((exact rfl)); ((omega)); exact rfl) | ((with_reducible apply l_alloc hS tabOk); exact rfl; exact rfl; exact rfl; intro g w' hS'; clear hS; have hS := hS'; clear hS') | (((with_reducible apply l_store hS tabOk (i := 0)); exact rfl; exact rfl; exact rfl; exact rfl; exact rfl; exact rfl; exact rfl; exact rfl; ((exact (rfl : _ = [_, _, _, _, _]))); intro w' hS'; simp only [List.set] at hS'; clear hS; have hS := hS'; clear hS')) | ((with_reducible apply l_bslice hS tabOk); exact rfl; exact rfl; exact rfl; exact rfl; exact rfl; exact rfl; exact rfl; intro g w' hS'; clear hS; have hS := hS'; clear hS')) | (first | (with_reducible apply c_seq) | (with_reducible apply c_region) | (with_reducible apply l_nil) | (with_reducible apply q_then) | (with_reducible apply c_skip) | (with_reducible apply c_block)) | (((with_reducible apply c_ifd); exact rfl; all_goals (intro hb hp; try (exfalso; omega)))))
    replace hS := St.rot1 hS
    rename_i gs _ _ _ _
    repeat' (first | (first | ((with_reducible apply l_pure tabOk); exact rfl; exact rfl) | ((with_reducible apply l_load); exact rfl; (((with_reducible apply Loads.sc tabOk); exact rfl; ((exact hS.blkC 2 rfl rfl)))); exact rfl)) | (first | (with_reducible apply c_seq) | (with_reducible apply c_region) | (with_reducible apply l_nil) | (with_reducible apply q_then)) | ((with_reducible apply l_call); exact rfl; exact rfl; exact penNums_fn (ns := [x.pg, x.n]) hS (by omega) (by simp); exact rfl; rintro _ w' ⟨p2, m2, c2, hS'⟩; replace hS := Pens.cat (St.drop hS) hS'; clear hS') | ((with_reducible apply l_call); exact rfl; exact rfl; exact penText_fn x.data (Pens.in_ hS) (by omega) (by omega); exact rfl; rintro _ w' ⟨p2, m2, c2, hS'⟩; replace hS := Pens.cat hS hS'; clear hS'))
    refine c_heldA 2 9 rfl rfl hS (by kernel_rfl) ?_
    clear hS
    intro w3 hS
    ((with_reducible apply a_take 0 tabOk); exact rfl; kernel_rfl; kernel_rfl; kernel_rfl; exact (fun _ _ _ h => h); exact hS.at_ (i := 2) rfl; exact rfl; exact rfl)
    ((with_reducible apply a_take 1 tabOk); exact rfl; kernel_rfl; kernel_rfl; kernel_rfl; exact (fun _ _ _ h => h); exact hS.at_ (i := 2) rfl; exact rfl; exact rfl)
    ((with_reducible apply a_take 4 tabOk); exact rfl; kernel_rfl; kernel_rfl; kernel_rfl; exact (fun _ _ _ h => h); exact hS.at_ (i := 2) rfl; exact rfl; exact rfl)
    ((with_reducible apply a_takeL 2); exact rfl; kernel_rfl; kernel_rfl; kernel_rfl; exact (fun _ _ _ h => h); exact hS.at_ (i := 2) rfl; exact rfl; (intro w2 hw2; (with_reducible apply Loads.sc tabOk); exact rfl; exact hold_cell hw2 rfl); exact rfl)
    ((with_reducible apply a_takeL 5); exact rfl; kernel_rfl; kernel_rfl; kernel_rfl; exact (fun _ _ _ h => h); exact hS.at_ (i := 2) rfl; exact rfl; (intro w2 hw2; (with_reducible apply Loads.sc tabOk); exact rfl; exact hold_cell hw2 rfl); exact rfl)
    refine a_one (i := 3) (by kernel_rfl) ?_
    refine o_gets rfl (g_call (first := []) (caps := []) rfl rfl (itruth_fn _ _)) rfl ?_
    rintro _ w' ⟨rfl, hS'⟩
    replace hS := hS.transA hS'
    simp only [appA] at hS
    clear hS'
    refine ⟨hS.at_ (i := 2) rfl, ?_⟩
    refine a_one (i := 6) (by kernel_rfl) ?_
    refine o_gets rfl (g_call (first := []) (caps := []) rfl rfl (itruth_fn _ _)) rfl ?_
    rintro _ w' ⟨rfl, hS'⟩
    replace hS := hS.transA hS'
    simp only [appA] at hS
    clear hS'
    refine ⟨hS.at_ (i := 2) rfl, ?_⟩
    refine a_one (i := 7) (by kernel_rfl) ?_
    refine o_gets rfl (g_bslice hS tabOk rfl rfl rfl rfl rfl rfl) rfl ?_
    rintro _ w' ⟨g9, rfl, hS'⟩
    clear hS; have hS := hS'; clear hS'
    refine ⟨hS.at_ (i := 3) rfl, ?_⟩
    refine a_one (i := 8) (by kernel_rfl) ?_
    refine o_gets rfl (g_call (first := []) (caps := []) rfl rfl (penNums_fn (ns := [trB x.wr, trB x.ex]) hS (by omega) (by simp))) rfl ?_
    rintro _ w' ⟨p2, m2, c2, hS'⟩
    replace hS := Pens.cat (St.drop hS) hS'
    clear hS'
    refine ⟨hS.at_ (i := 2) rfl, ?_⟩
    refine a_done (by kernel_rfl) ?_
    rw [show z ++ nsB [x.pg, x.n] ++ txB x.data ++ nsB [trB x.wr, trB x.ex] = b4 I ++ (I.segs.take (i + 1)).flatMap sgB by rw [← hz, flatI_snoc hx]; simp [sgB, nsB2]] at hS
    repeat' (first | (first | ((with_reducible apply l_add); exact rfl; exact rfl; omega; omega; exact rfl) | ((with_reducible apply l_pure tabOk); exact rfl; exact rfl)) | (first | (with_reducible apply c_region) | (with_reducible apply l_nil) | (with_reducible apply q_then) | (with_reducible apply q_block)))
    exact q_loopK (i + 1, _, _, _) (by repeat (first | exact Fr.sub_nil _ | (apply Fr.sub_cons; exact rfl))) (by show i + 1 ≤ I.segs.length; omega) (St.unrot hS) (by show I.segs.length - (i + 1) < I.segs.length - i; omega)
  rw [List.take_of_length_le (by omega)] at hS
  have k3 := flatI_len I.segs I.segs.length hL.segs
  rw [List.take_length] at k3
  have k4 : (b4 I ++ I.segs.flatMap sgB).length ≤ 40000 := by rw [List.length_append]; omega
  repeat' (first | (first | ((with_reducible apply l_pure tabOk); exact rfl; exact rfl) | ((with_reducible apply l_load); exact rfl; (((with_reducible apply Loads.sl tabOk); exact rfl; ((exact hS.blkC 2 rfl rfl)))); exact rfl) | ((with_reducible apply l_bslice hS tabOk); exact rfl; exact rfl; exact rfl; exact rfl; exact rfl; exact rfl; exact rfl; intro g w' hS'; clear hS; have hS := hS'; clear hS')) | (first | (with_reducible apply c_seq) | (with_reducible apply c_region) | (with_reducible apply l_nil) | (with_reducible apply q_then) | (with_reducible apply c_block) | (with_reducible apply c_exit) | (with_reducible apply q_then_exit) | (with_reducible apply q_block_exit)) | (((with_reducible apply c_ifd); exact rfl; all_goals (intro hb hp; try (exfalso; omega)))) | ((with_reducible apply l_call); exact rfl; exact rfl; exact penNums_fn (ns := [(I.syms.length : Int)]) hS (by omega) (by simp); exact rfl; rintro _ w' ⟨p2, m2, c2, hS'⟩; replace hS := Pens.cat (St.drop hS) hS'; clear hS'))
  rw [nsB1, show b4 I ++ I.segs.flatMap sgB ++ leB I.syms.length 8 = b6 I ++ (I.syms.take 0).flatMap syB by simp [b6]] at hS
  have k2 : (b6 I).length ≤ 40008 := by unfold b6; rw [List.length_append, leB_len]; omega
  refine c_loopK (X := Nat × Option Addr × Nat × Nat) (fun x => [(85, .int .i64 (x.1 : Nat))]) [1, 5, 83, 84] rfl (fun x => PenA gp x.2.1 x.2.2.1 x.2.2.2 (b6 I ++ (I.syms.take x.1).flatMap syB)) (fun x => x.1 ≤ I.syms.length) (fun x => I.syms.length - x.1) (0, _, _, _) (by repeat (first | exact Fr.sub_nil _ | (apply Fr.sub_cons; exact rfl))) (by exact Nat.zero_le _) hS ?_
  clear hS
  rintro ⟨i, q1, q2, q3⟩ w1 hi hS
  simp only [PenA, List.cons_append, List.nil_append] at hi hS ⊢
  by_cases hlt : i < I.syms.length
  · obtain ⟨x, hx⟩ := lt_get (l := I.syms) (i := i) (by omega)
    have hrow := map_get (f := syC) hx
    obtain ⟨b, off, rfl, hro⟩ := (hI.syms).at_ hlt
    have k3 := flatI_len I.syms i hL.syms
    have k4 : (b6 I ++ (I.syms.take i).flatMap syB).length ≤ 41000 := by rw [List.length_append]; omega
    have k5 := hL.syms x (List.mem_of_getElem? hx)
    simp only [syB, List.length_append, leB_len, txB_len] at k5
    generalize hz : b6 I ++ (I.syms.take i).flatMap syB = z at hS k4
    have z1 : (z ++ txB x.name).length ≤ 42000 := by rw [List.length_append, txB_len]; omega
    repeat' (first | (first | ((with_reducible apply l_pure tabOk); exact rfl; exact rfl) | ((with_reducible apply l_load); exact rfl; (first | ((with_reducible apply Loads.sc tabOk); exact rfl; ((exact hS.blkC 0 rfl rfl))) | ((with_reducible apply Loads.st tabOk); exact rfl; ((exact hS.roR (by assumption) (by assumption))); exact rfl)); exact rfl) | ((with_reducible apply l_ix tabOk); exact rfl; exact rfl; exact rfl; ((exact rfl)); ((omega)); exact rfl) | ((with_reducible apply l_alloc hS tabOk); exact rfl; exact rfl; exact rfl; intro g w' hS'; clear hS; have hS := hS'; clear hS') | (((with_reducible apply l_store hS tabOk (i := 0)); exact rfl; exact rfl; exact rfl; exact rfl; exact rfl; exact rfl; exact rfl; exact rfl; ((exact (rfl : _ = [_, _]))); intro w' hS'; simp only [List.set] at hS'; clear hS; have hS := hS'; clear hS'))) | (first | (with_reducible apply c_seq) | (with_reducible apply c_region) | (with_reducible apply l_nil) | (with_reducible apply q_then) | (with_reducible apply c_skip) | (with_reducible apply c_block)) | (((with_reducible apply c_ifd); exact rfl; all_goals (intro hb hp; try (exfalso; omega)))))
    replace hS := St.rot hS
    repeat' (first | (first | ((with_reducible apply l_add); exact rfl; exact rfl; omega; omega; exact rfl) | ((with_reducible apply l_pure tabOk); exact rfl; exact rfl) | ((with_reducible apply l_load); exact rfl; (((with_reducible apply Loads.sc tabOk); exact rfl; ((exact hS.blkC 2 rfl rfl)))); exact rfl) | ((with_reducible apply l_bslice hS tabOk); exact rfl; exact rfl; exact rfl; exact rfl; exact rfl; exact rfl; exact rfl; intro g w' hS'; clear hS; have hS := hS'; clear hS')) | (first | (with_reducible apply c_region) | (with_reducible apply l_nil) | (with_reducible apply q_then) | (with_reducible apply q_block)) | ((with_reducible apply l_call); exact rfl; exact rfl; exact penText_fn x.name (Pens.in_ hS) (by omega) (by omega); exact rfl; rintro _ w' ⟨p2, m2, c2, hS'⟩; replace hS := Pens.cat hS hS'; clear hS') | ((with_reducible apply l_call); exact rfl; exact rfl; exact penNums_fn (ns := [x.at_]) hS (by omega) (by simp); exact rfl; rintro _ w' ⟨p2, m2, c2, hS'⟩; replace hS := Pens.cat (St.drop hS) hS'; clear hS'))
    rw [nsB1, show z ++ txB x.name ++ leB x.at_ 8 = b6 I ++ (I.syms.take (i + 1)).flatMap syB by rw [← hz, flatI_snoc hx]; simp [syB]] at hS
    exact q_loopK (i + 1, _, _, _) (by repeat (first | exact Fr.sub_nil _ | (apply Fr.sub_cons; exact rfl))) (by show i + 1 ≤ I.syms.length; omega) (St.unrot hS) (by show I.syms.length - (i + 1) < I.syms.length - i; omega)
  rw [List.take_of_length_le (by omega)] at hS
  have k3 := flatI_len I.syms I.syms.length hL.syms
  rw [List.take_length] at k3
  have k4 : (b6 I ++ I.syms.flatMap syB).length ≤ 41000 := by rw [List.length_append]; omega
  repeat' (first | (first | ((with_reducible apply l_pure tabOk); exact rfl; exact rfl) | ((with_reducible apply l_load); exact rfl; (((with_reducible apply Loads.sl tabOk); exact rfl; ((exact hS.blkC 2 rfl rfl)))); exact rfl) | ((with_reducible apply l_bslice hS tabOk); exact rfl; exact rfl; exact rfl; exact rfl; exact rfl; exact rfl; exact rfl; intro g w' hS'; clear hS; have hS := hS'; clear hS')) | (first | (with_reducible apply c_seq) | (with_reducible apply c_region) | (with_reducible apply l_nil) | (with_reducible apply q_then) | (with_reducible apply c_block) | (with_reducible apply c_exit) | (with_reducible apply q_then_exit) | (with_reducible apply q_block_exit)) | (((with_reducible apply c_ifd); exact rfl; all_goals (intro hb hp; try (exfalso; omega)))) | ((with_reducible apply l_call); exact rfl; exact rfl; exact penNums_fn (ns := [(I.rels.length : Int)]) hS (by omega) (by simp); exact rfl; rintro _ w' ⟨p2, m2, c2, hS'⟩; replace hS := Pens.cat (St.drop hS) hS'; clear hS'))
  rw [nsB1, show b6 I ++ I.syms.flatMap syB ++ leB I.rels.length 8 = b8 I ++ (I.rels.take 0).flatMap rlB by simp [b8]] at hS
  have k2 : (b8 I).length ≤ 41008 := by unfold b8; rw [List.length_append, leB_len]; omega
  refine c_loopK (X := Nat × Option Addr × Nat × Nat) (fun x => [(108, .int .i64 (x.1 : Nat))]) [1, 5, 106, 107] rfl (fun x => PenA gp x.2.1 x.2.2.1 x.2.2.2 (b8 I ++ (I.rels.take x.1).flatMap rlB)) (fun x => x.1 ≤ I.rels.length) (fun x => I.rels.length - x.1) (0, _, _, _) (by repeat (first | exact Fr.sub_nil _ | (apply Fr.sub_cons; exact rfl))) (by exact Nat.zero_le _) hS ?_
  clear hS
  rintro ⟨i, q1, q2, q3⟩ w1 hi hS
  simp only [PenA, List.cons_append, List.nil_append] at hi hS ⊢
  by_cases hlt : i < I.rels.length
  · obtain ⟨x, hx⟩ := lt_get (l := I.rels) (i := i) (by omega)
    have hrow := map_get (f := rlC) hx
    obtain ⟨b, off, rfl, hro⟩ := (hI.rels).at_ hlt
    have k3 := flatI_len I.rels i hL.rels
    have k4 : (b8 I ++ (I.rels.take i).flatMap rlB).length ≤ 43000 := by rw [List.length_append]; omega
    have k5 := hL.rels x (List.mem_of_getElem? hx)
    simp only [rlB, List.length_append, leB_len, txB_len] at k5
    generalize hz : b8 I ++ (I.rels.take i).flatMap rlB = z at hS k4
    have z1 : (z ++ nsB [x.at_]).length ≤ 43008 := by rw [nsB1, List.length_append, leB_len]; omega
    have z2 : (z ++ nsB [x.at_] ++ txB x.name).length ≤ 44000 := by rw [List.length_append, txB_len]; omega
    repeat' (first | (first | ((with_reducible apply l_pure tabOk); exact rfl; exact rfl) | ((with_reducible apply l_load); exact rfl; (first | ((with_reducible apply Loads.sc tabOk); exact rfl; ((exact hS.blkC 0 rfl rfl))) | ((with_reducible apply Loads.st tabOk); exact rfl; ((exact hS.roR (by assumption) (by assumption))); exact rfl)); exact rfl) | ((with_reducible apply l_ix tabOk); exact rfl; exact rfl; exact rfl; ((exact rfl)); ((omega)); exact rfl) | ((with_reducible apply l_alloc hS tabOk); exact rfl; exact rfl; exact rfl; intro g w' hS'; clear hS; have hS := hS'; clear hS') | (((with_reducible apply l_store hS tabOk (i := 0)); exact rfl; exact rfl; exact rfl; exact rfl; exact rfl; exact rfl; exact rfl; exact rfl; ((exact (rfl : _ = [_, _, _]))); intro w' hS'; simp only [List.set] at hS'; clear hS; have hS := hS'; clear hS')) | ((with_reducible apply l_bslice hS tabOk); exact rfl; exact rfl; exact rfl; exact rfl; exact rfl; exact rfl; exact rfl; intro g w' hS'; clear hS; have hS := hS'; clear hS')) | (first | (with_reducible apply c_seq) | (with_reducible apply c_region) | (with_reducible apply l_nil) | (with_reducible apply q_then) | (with_reducible apply c_skip) | (with_reducible apply c_block)) | (((with_reducible apply c_ifd); exact rfl; all_goals (intro hb hp; try (exfalso; omega)))))
    replace hS := St.rot1 hS
    repeat' (first | (first | ((with_reducible apply l_add); exact rfl; exact rfl; omega; omega; exact rfl) | ((with_reducible apply l_pure tabOk); exact rfl; exact rfl) | ((with_reducible apply l_load); exact rfl; (((with_reducible apply Loads.sc tabOk); exact rfl; ((exact hS.blkC 2 rfl rfl)))); exact rfl) | ((with_reducible apply l_bslice hS tabOk); exact rfl; exact rfl; exact rfl; exact rfl; exact rfl; exact rfl; exact rfl; intro g w' hS'; clear hS; have hS := hS'; clear hS')) | (first | (with_reducible apply c_seq) | (with_reducible apply c_region) | (with_reducible apply l_nil) | (with_reducible apply q_then) | (with_reducible apply q_block)) | ((with_reducible apply l_call); exact rfl; exact rfl; exact penNums_fn (ns := [x.at_]) hS (by omega) (by simp); exact rfl; rintro _ w' ⟨p2, m2, c2, hS'⟩; replace hS := Pens.cat (St.drop hS) hS'; clear hS') | ((with_reducible apply l_call); exact rfl; exact rfl; exact penText_fn x.name (Pens.in_ hS) (by omega) (by omega); exact rfl; rintro _ w' ⟨p2, m2, c2, hS'⟩; replace hS := Pens.cat hS hS'; clear hS') | ((with_reducible apply l_call); exact rfl; exact rfl; exact penNums_fn (ns := [x.add]) hS (by omega) (by simp); exact rfl; rintro _ w' ⟨p2, m2, c2, hS'⟩; replace hS := Pens.cat (St.drop hS) hS'; clear hS'))
    rw [show z ++ nsB [x.at_] ++ txB x.name ++ nsB [x.add] = b8 I ++ (I.rels.take (i + 1)).flatMap rlB by rw [← hz, flatI_snoc hx]; simp [rlB, nsB1]] at hS
    exact q_loopK (i + 1, _, _, _) (by repeat (first | exact Fr.sub_nil _ | (apply Fr.sub_cons; exact rfl))) (by show i + 1 ≤ I.rels.length; omega) (St.unrot hS) (by show I.rels.length - (i + 1) < I.rels.length - i; omega)
  rw [List.take_of_length_le (by omega)] at hS
  have k3 := flatI_len I.rels I.rels.length hL.rels
  rw [List.take_length] at k3
  have k4 : (b8 I ++ I.rels.flatMap rlB).length ≤ 43000 := by rw [List.length_append]; omega
  have k6 : 0 < (imB I).length := by unfold imB; rw [List.length_append, leB_len]; omega
  repeat' (first | (first | ((with_reducible apply l_pure tabOk); exact rfl; exact rfl) | ((with_reducible apply l_load); exact rfl; (first | ((with_reducible apply Loads.sc tabOk); exact rfl; ((exact hS.blkC 2 rfl rfl))) | ((with_reducible apply Loads.sl tabOk); exact rfl; ((exact hS.blkC 0 rfl rfl)))); exact rfl) | ((with_reducible apply l_bslice hS tabOk); exact rfl; exact rfl; exact rfl; exact rfl; exact rfl; exact rfl; exact rfl; intro g w' hS'; clear hS; have hS := hS'; clear hS')) | (first | (with_reducible apply c_seq) | (with_reducible apply c_region) | (with_reducible apply l_nil) | (with_reducible apply q_then) | (with_reducible apply c_exit) | (with_reducible apply c_ret) | (with_reducible apply q_then_exit) | (with_reducible apply q_block_exit)) | (((with_reducible apply c_ifd); exact rfl; all_goals (intro hb hp; try (exfalso; omega)))) | ((with_reducible apply l_call); exact rfl; exact rfl; exact penNums_fn (ns := [I.entry]) hS (by omega) (by simp); exact rfl; rintro _ w' ⟨p2, m2, c2, hS'⟩; replace hS := Pens.cat (St.drop hS) hS'; clear hS') | (rw [nsB1, show b8 I ++ I.rels.flatMap rlB ++ leB I.entry 8 = imB I from rfl] at hS; (with_reducible apply l_convS hS tabOk 1); exact rfl; exact rfl; exact rfl; exact rfl; exact rfl; exact k6; exact rfl))
  (apply q_ret2); (repeat (first | exact ResL.nil | (apply ResL.tmp; exact rfl)))
  exact ⟨by rw [hc], hS.sub (List.nil_sublist _)⟩
end Go.Proofs.Ytejnpppejalhfab
/- image.Read. -/
namespace Go.Proofs.Ytejnpppejalhfab
open Go.RowKit Go.Sort
def zI : List Value := [.string ⟨#[]⟩, .slice none 0 0, .slice none 0 0, .slice none 0 0, .slice none 0 0, .int .i64 0]
theorem has_args {args : List Value} {X : Array Value} {n : Nat} (hn : args.length + X.size = n) : Has n [] { tmps := args.toArray ++ X, defers := [] } (argFr 0 args) := by
  refine ⟨by simpa using hn, rfl, fun t v ht => ?_⟩
  obtain ⟨_, h2⟩ := argFr_get ht
  have hlt := lt_of_getE h2
  rw [Nat.sub_zero] at h2 hlt
  rw [Array.getD_eq_getD_getElem?, Array.getElem?_append_left (by simpa using hlt)]
  simp [h2]
theorem catch_panic {F : Nat → Prop} {w0 w : World} {Γ : List Asr} {gi ge : Nat} {L : List Value} {x : Value} (hL : L.length = 6) (hS0 : St F w0 w (.blk gi L :: .blk ge [x] :: Γ)) :
    DefP Try.prog 36 [gPt gi, gPt ge] brV w (fun w' => St (fps [.blk gi L, .blk ge [x]]) w w' [.blk gi zI, .blk ge [.int .i64 1]]) := by
  refine ⟨⟨Try.f36, Try.func36, by kernel_rfl, by kernel_rfl⟩, ?_⟩
  refine callsD_of_wpS Try.func36 rfl fun c₀ cs hu => ?_
  apply wpS_seq
  apply wpS_region
  simp [wpOpsS, go_sem, recoverD, hu, Try.ntmps36, Exit.thenS, brV]
  refine wpS_cond (t := true) (by simp [Act.eval, Array.replicate]) ?_
  simp only [if_true]
  refine wpS_of_wp ?_
  have hS := St.startM (Δ := [.blk gi L, .blk ge [x]]) hS0
  obtain ⟨a, b, c, d, e, f, rfl⟩ : ∃ a b c d e f, L = [a, b, c, d, e, f] := by
    match L, hL with
    | [a, b, c, d, e, f], _ => exact ⟨a, b, c, d, e, f, rfl⟩
  refine (show WC Try.prog _ _ 5 [] (argFr 0 [gPt gi, gPt ge]) w from ?_) _ (has_args (by simp))
  repeat' (first | (first | ((with_reducible apply l_build tabOk); exact rfl; exact rfl; ((exact (rfl : _ = some [_, _, _, _, _, _]))); exact rfl) | (first | ((with_reducible apply l_store hS tabOk (i := 0)); exact rfl; exact rfl; exact rfl; exact rfl; exact rfl; exact rfl; exact rfl; exact rfl; ((exact (rfl : _ = [_, _, _, _, _, _]))); intro w' hS'; simp only [List.set] at hS'; clear hS; have hS := hS'; clear hS') | ((with_reducible apply l_store hS tabOk (i := 1)); exact rfl; exact rfl; exact rfl; exact rfl; exact rfl; exact rfl; exact rfl; exact rfl; ((exact (rfl : _ = [_]))); intro w' hS'; simp only [List.set] at hS'; clear hS; have hS := hS'; clear hS'))) | (first | (with_reducible apply c_region) | (with_reducible apply l_nil)))
  intro a ha
  exact ⟨ha.defers, _, rfl, _, results_of (vs := []) rfl ResL.nil rfl ha, ⟨_, rfl⟩, rfl, hS⟩
theorem catch_idle {gi ge : Nat} {w : World} :
    DefR Try.prog 36 [gPt gi, gPt ge] w (fun w' => w' = w) := by
  refine ⟨⟨Try.f36, Try.func36, by kernel_rfl, by kernel_rfl⟩, ?_⟩
  refine callsD_of_wpS Try.func36 rfl fun c₀ cs hu => ?_
  apply wpS_seq
  apply wpS_region
  simp [wpOpsS, go_sem, recoverD, hu, Try.ntmps36, Exit.thenS]
  refine wpS_cond (t := false) (by simp [Act.eval, Array.replicate]) ?_
  simp only [Bool.false_eq_true, if_false]
  refine wpS_of_wp (wp_skip ?_)
  cases c₀
  simp_all [bodyPostS, results, Try.f36]
def Im0 : Im := ⟨[], [], [], [], [], 0⟩
/-- what Read comes to -/
def RdPost (s : Bs8) (w : World) : Value → World → Prop := fun v w' =>
  (∃ I pn cn ps cs py cy pr cr, imFrom s = some I ∧ v = .tuple #[imA I (.slice pn I.needs.length cn) (.slice ps I.segs.length cs) (.slice py I.syms.length cy) (.slice pr I.rels.length cr), .int .i64 0] ∧
    St nF w w' [.row 9 1 (.slice pn I.needs.length cn) (I.needs.map stC), .row 82 5 (.slice ps I.segs.length cs) (I.segs.map sgC), .row 85 2 (.slice py I.syms.length cy) (I.syms.map syC), .row 87 3 (.slice pr I.rels.length cr) (I.rels.map rlC)]) ∨
  (imFrom s = none ∧ v = .tuple #[.agg zI.toArray, .int .i64 1] ∧ St nF w w' [])
def ReadErr (gi ge : Nat) (w : World) : World → Prop := fun w' => ∃ L, L.length = 6 ∧ St nF w w' [.blk gi L, .blk ge [.int .i64 0]]
theorem imFrom_none {s : Bs8} (h : rdIm s = none) : imFrom s = none := by unfold imFrom; rw [h]
theorem imFrom_more {s : Bs8} {I : Im} {r : Bs8} (h : rdIm s = some (I, r)) (hr : r ≠ []) : imFrom s = none := by
  unfold imFrom
  rw [h]
  cases r with
  | nil => exact absurd rfl hr
  | cons b r => rfl
theorem imFrom_at {s : Bs8} {I : Im} (h : rdIm s = some (I, [])) : imFrom s = if checkIm I = 0 then some I else none := by unfold imFrom; rw [h]
theorem rdSg_data {n : Nat} {l r : Bs8} {xs : List Sg} (h : rdMany rdSg n l = some (xs, r)) : ∀ x ∈ xs, x.data.length ≤ l.length := by
  induction n generalizing l r xs with
  | zero => simp only [rdMany, Option.some.injEq, Prod.mk.injEq] at h; obtain ⟨rfl, rfl⟩ := h; simp
  | succ n ih =>
    simp only [rdMany] at h
    obtain ⟨p, h1, h⟩ := Option.bind_eq_some_iff.1 h
    obtain ⟨q, h2, h⟩ := Option.bind_eq_some_iff.1 h
    cases h
    intro x hx
    have he := eats_sg _ _ _ h1
    rcases List.mem_cons.1 hx with rfl | hx
    · unfold rdSg at h1
      obtain ⟨a, k1, h1⟩ := Option.bind_eq_some_iff.1 h1
      obtain ⟨b, k2, h1⟩ := Option.bind_eq_some_iff.1 h1
      obtain ⟨c, k3, h1⟩ := Option.bind_eq_some_iff.1 h1
      obtain ⟨d, k4, h1⟩ := Option.bind_eq_some_iff.1 h1
      obtain ⟨e, k5, h1⟩ := Option.bind_eq_some_iff.1 h1
      cases h1
      have := rdNum_len k1
      have := rdNum_len k2
      have := rdText_len k3
      show c.1.length ≤ _
      omega
    · have := ih h2 x hx
      omega
theorem rdList_len {α : Type} {one : Bs8 → Option (α × Bs8)} (he : Eats one) {l r : Bs8} {xs : List α} (h : rdList one l = some (xs, r)) : r.length + 8 * xs.length + 8 ≤ l.length := by
  unfold rdList rdCnt at h
  obtain ⟨p, h1, h⟩ := Option.bind_eq_some_iff.1 h
  obtain ⟨q, h2, h3⟩ := Option.bind_eq_some_iff.1 h1
  split at h3
  · cases h3
    have := rdNum_len h2
    have := rdMany_len he h
    omega
  · cases h3
theorem rdList_data {l r : Bs8} {xs : List Sg} (h : rdList rdSg l = some (xs, r)) : ∀ x ∈ xs, x.data.length ≤ l.length := by
  unfold rdList rdCnt at h
  obtain ⟨p, h1, h⟩ := Option.bind_eq_some_iff.1 h
  obtain ⟨q, h2, h3⟩ := Option.bind_eq_some_iff.1 h1
  split at h3
  · cases h3
    intro x hx
    have := rdNum_len h2
    have := rdSg_data h x hx
    omega
  · cases h3
theorem read_caught {s : Bs8} {w w1 : World} {E : Fr} {gi ge : Nat} (h2 : E.get 2 = some (gPt gi)) (h3 : E.get 3 = some (gPt ge)) (hs : imFrom s = none) (h : ReadErr gi ge w w1) :
    WQ (bodyPostD Try.prog Try.f10 (RV (RdPost s w))) (.panic brk) 40 [{ target := .fn (.func 36) #[gPt gi, gPt ge], args := ([] ++ [] : List Value).toArray }] E w1 := by
  obtain ⟨L, hL, hS⟩ := h
  refine q_dpanic (catch_panic hL hS) ?_
  intro w' hS'
  replace hS := hS.transAll hS'
  refine ⟨[.agg zI.toArray, .int .i64 1], _, ?_, rfl, Or.inr ⟨hs, rfl, hS.sub (List.nil_sublist _)⟩⟩
  refine ResL.cell h2 ?_ (ResL.cell h3 ?_ ResL.nil)
  · ((with_reducible apply Loads.st tabOk); exact rfl; ((exact hS.blkR 0 rfl)); exact rfl)
  · ((with_reducible apply Loads.sc tabOk); exact rfl; ((exact hS.blkC 1 rfl rfl)))
set_option maxRecDepth 100000 in
set_option maxHeartbeats 8000000 in
theorem Read_fn (s : Bs8) (w : World) (hs : s.length ≤ 1048576) : Fn Try.prog 10 [.string ⟨s.toArray⟩] w (RdPost s w) := by
  refine fn_enterD (fn := Try.f10) ⟨Try.func10, by kernel_rfl, by kernel_rfl⟩ (by exact rfl) Try.ntmps10 (by exact rfl) ?_
  have hS := St.start w
  repeat' (first | (first | ((with_reducible apply l_pure tabOk); exact rfl; exact rfl) | ((with_reducible apply l_load); exact rfl; (((with_reducible apply Loads.sc tabOk); exact rfl; ((exact hS.blkC 0 rfl rfl)))); exact rfl) | ((with_reducible apply l_build tabOk); exact rfl; exact rfl; ((exact (rfl : _ = some [_]))); exact rfl) | ((with_reducible apply l_box hS); exact rfl; exact rfl; exact rfl; intro g w' hS'; clear hS; have hS := hS'; clear hS') | ((with_reducible apply l_alloc hS tabOk); exact rfl; exact rfl; exact rfl; intro g w' hS'; clear hS; have hS := hS'; clear hS') | (((with_reducible apply l_store hS tabOk (i := 0)); exact rfl; exact rfl; exact rfl; exact rfl; exact rfl; exact rfl; exact rfl; exact rfl; ((exact (rfl : _ = [_]))); intro w' hS'; simp only [List.set] at hS'; clear hS; have hS := hS'; clear hS'))) | (first | (with_reducible apply c_seq) | (with_reducible apply c_region) | (with_reducible apply l_nil) | (with_reducible apply q_then)) | ((with_reducible apply l_defer); exact rfl; exact rfl))
  rename_i gi _ ge _ gs _ _
  rename Nat => gr
  replace hS : St nF w _ [.blk gr [gPt gs], .blk gs [.string ⟨s.toArray⟩], .blk ge [.int .i64 0], .blk gi zI] := hS
  simp only [zI] at hS
  replace hS := St.reorder [1, 3, 0, 2] hS (by decide) rfl
  repeat' (first | (first | ((with_reducible apply l_pure tabOk); exact rfl; exact rfl) | ((with_reducible apply l_load); exact rfl; (((with_reducible apply Loads.sc tabOk); exact rfl; ((exact hS.blkC 2 rfl rfl)))); exact rfl) | (((with_reducible apply l_store hS tabOk (i := 1)); exact rfl; exact rfl; exact rfl; exact rfl; exact rfl; exact rfl; exact rfl; exact rfl; ((exact (rfl : _ = [_, _, _, _, _, _]))); intro w' hS'; simp only [List.set] at hS'; clear hS; have hS := hS'; clear hS'))) | (first | (with_reducible apply c_seq) | (with_reducible apply c_region) | (with_reducible apply l_nil) | (with_reducible apply q_then)) | ((with_reducible apply l_callQ); exact rfl; exact rfl; exact text_fn (l := s) hS hs; exact rfl; (rintro w' ⟨hno, r, hS'⟩; (repeat' ((with_reducible apply q_then_panic))); exact read_caught rfl rfl (imFrom_none (by unfold rdIm; rw [hno]; rfl)) ⟨_, rfl, (hS.transM1 hS').reorder [1, 3] (by decide) rfl⟩); rintro _ w' ⟨r1, ⟨nm, hn1, rfl⟩, hS'⟩; replace hS := hS.transM1 hS'; simp only [appA] at hS; clear hS'))
  have l1 := rdText_len hn1
  replace hS := hS.addNil 9 1
  replace hS := St.reorder [1, 2, 0, 3, 4] hS (by decide) rfl
  replace hS : St nF w _ (RdD gs gi gr 9 1 (LfN (.string ⟨nm.toArray⟩) (.slice none 0 0) (.slice none 0 0) (.slice none 0 0) (.int .i64 0)) stC r1 [] none 0 ++ [.blk ge [.int .i64 0]]) := hS
  repeat' (first | (first | ((with_reducible apply l_pure tabOk); exact rfl; exact rfl) | ((with_reducible apply l_load); exact rfl; (((with_reducible apply Loads.sc tabOk); exact rfl; ((exact hS.blkC 3 rfl rfl)))); exact rfl)) | (first | (with_reducible apply c_seq) | (with_reducible apply c_region) | (with_reducible apply l_nil) | (with_reducible apply q_then)) | ((with_reducible apply l_callQ); exact rfl; exact rfl; exact each_fn (Γ := [.blk ge [.int .i64 0]]) eats_text read2_ok (by omega) hS; exact rfl; (rintro w' ⟨hno, r, xs, p, c, hS'⟩; (repeat' ((with_reducible apply q_then_panic))); exact read_caught rfl rfl (imFrom_none (by unfold rdIm; simp only [Option.bind_some, Option.bind_none, *])) ⟨_, rfl, (St.transM (Γ := [.blk ge [.int .i64 0]]) hS hS').reorder [1, 4] (by decide) rfl⟩); rintro _ w' ⟨ns, r2, pn, cn, hn2, hS'⟩; replace hS := St.transM (Γ := [.blk ge [.int .i64 0]]) hS hS'; simp only [RdD, LfN, List.cons_append, List.nil_append] at hS; clear hS'))
  have l2 := rdList_len eats_text hn2
  replace hS := hS.addNil 82 5
  replace hS := St.reorder [1, 2, 0, 4, 5, 3] hS (by decide) rfl
  replace hS : St nF w _ (RdD gs gi gr 82 5 (LfS (.string ⟨nm.toArray⟩) (.slice pn ns.length cn) (.slice none 0 0) (.slice none 0 0) (.int .i64 0)) sgC r2 [] none 0 ++ [.blk ge [.int .i64 0], .row 9 1 (.slice pn ns.length cn) (ns.map stC)]) := hS
  repeat' (first | (first | ((with_reducible apply l_pure tabOk); exact rfl; exact rfl) | ((with_reducible apply l_load); exact rfl; (((with_reducible apply Loads.sc tabOk); exact rfl; ((exact hS.blkC 3 rfl rfl)))); exact rfl)) | (first | (with_reducible apply c_seq) | (with_reducible apply c_region) | (with_reducible apply l_nil) | (with_reducible apply q_then)) | ((with_reducible apply l_callQ); exact rfl; exact rfl; exact each_fn (Γ := [.blk ge [.int .i64 0], .row 9 1 (.slice pn ns.length cn) (ns.map stC)]) eats_sg read3_ok (by omega) hS; exact rfl; (rintro w' ⟨hno, r, xs, p, c, hS'⟩; (repeat' ((with_reducible apply q_then_panic))); exact read_caught rfl rfl (imFrom_none (by unfold rdIm; simp only [Option.bind_some, Option.bind_none, *])) ⟨_, rfl, (St.transM (Γ := [.blk ge [.int .i64 0], .row 9 1 (.slice pn ns.length cn) (ns.map stC)]) hS hS').reorder [1, 4] (by decide) rfl⟩); rintro _ w' ⟨ss, r3, ps, cs, hn3, hS'⟩; replace hS := St.transM (Γ := [.blk ge [.int .i64 0], .row 9 1 (.slice pn ns.length cn) (ns.map stC)]) hS hS'; simp only [RdD, LfS, List.cons_append, List.nil_append] at hS; clear hS'))
  have l3 := rdList_len eats_sg hn3
  have l3' := rdList_data hn3
  replace hS := hS.addNil 85 2
  replace hS := St.reorder [1, 2, 0, 4, 5, 6, 3] hS (by decide) rfl
  replace hS : St nF w _ (RdD gs gi gr 85 2 (LfY (.string ⟨nm.toArray⟩) (.slice pn ns.length cn) (.slice ps ss.length cs) (.slice none 0 0) (.int .i64 0)) syC r3 [] none 0 ++ [.blk ge [.int .i64 0], .row 9 1 (.slice pn ns.length cn) (ns.map stC), .row 82 5 (.slice ps ss.length cs) (ss.map sgC)]) := hS
  repeat' (first | (first | ((with_reducible apply l_pure tabOk); exact rfl; exact rfl) | ((with_reducible apply l_load); exact rfl; (((with_reducible apply Loads.sc tabOk); exact rfl; ((exact hS.blkC 3 rfl rfl)))); exact rfl)) | (first | (with_reducible apply c_seq) | (with_reducible apply c_region) | (with_reducible apply l_nil) | (with_reducible apply q_then)) | ((with_reducible apply l_callQ); exact rfl; exact rfl; exact each_fn (Γ := [.blk ge [.int .i64 0], .row 9 1 (.slice pn ns.length cn) (ns.map stC), .row 82 5 (.slice ps ss.length cs) (ss.map sgC)]) eats_sy read4_ok (by omega) hS; exact rfl; (rintro w' ⟨hno, r, xs, p, c, hS'⟩; (repeat' ((with_reducible apply q_then_panic))); exact read_caught rfl rfl (imFrom_none (by unfold rdIm; simp only [Option.bind_some, Option.bind_none, *])) ⟨_, rfl, (St.transM (Γ := [.blk ge [.int .i64 0], .row 9 1 (.slice pn ns.length cn) (ns.map stC), .row 82 5 (.slice ps ss.length cs) (ss.map sgC)]) hS hS').reorder [1, 4] (by decide) rfl⟩); rintro _ w' ⟨ys, r4, py, cy, hn4, hS'⟩; replace hS := St.transM (Γ := [.blk ge [.int .i64 0], .row 9 1 (.slice pn ns.length cn) (ns.map stC), .row 82 5 (.slice ps ss.length cs) (ss.map sgC)]) hS hS'; simp only [RdD, LfY, List.cons_append, List.nil_append] at hS; clear hS'))
  have l4 := rdList_len eats_sy hn4
  replace hS := hS.addNil 87 3
  replace hS := St.reorder [1, 2, 0, 4, 5, 6, 7, 3] hS (by decide) rfl
  replace hS : St nF w _ (RdD gs gi gr 87 3 (LfR (.string ⟨nm.toArray⟩) (.slice pn ns.length cn) (.slice ps ss.length cs) (.slice py ys.length cy) (.int .i64 0)) rlC r4 [] none 0 ++ [.blk ge [.int .i64 0], .row 9 1 (.slice pn ns.length cn) (ns.map stC), .row 82 5 (.slice ps ss.length cs) (ss.map sgC), .row 85 2 (.slice py ys.length cy) (ys.map syC)]) := hS
  repeat' (first | (((with_reducible apply l_load); exact rfl; (((with_reducible apply Loads.sc tabOk); exact rfl; ((exact hS.blkC 3 rfl rfl)))); exact rfl)) | (first | (with_reducible apply c_seq) | (with_reducible apply c_region) | (with_reducible apply l_nil) | (with_reducible apply q_then)) | ((with_reducible apply l_callQ); exact rfl; exact rfl; exact each_fn (Γ := [.blk ge [.int .i64 0], .row 9 1 (.slice pn ns.length cn) (ns.map stC), .row 82 5 (.slice ps ss.length cs) (ss.map sgC), .row 85 2 (.slice py ys.length cy) (ys.map syC)]) eats_rl read5_ok (by omega) hS; exact rfl; (rintro w' ⟨hno, r, xs, p, c, hS'⟩; (repeat' ((with_reducible apply q_then_panic))); exact read_caught rfl rfl (imFrom_none (by unfold rdIm; simp only [Option.bind_some, Option.bind_none, *])) ⟨_, rfl, (St.transM (Γ := [.blk ge [.int .i64 0], .row 9 1 (.slice pn ns.length cn) (ns.map stC), .row 82 5 (.slice ps ss.length cs) (ss.map sgC), .row 85 2 (.slice py ys.length cy) (ys.map syC)]) hS hS').reorder [1, 4] (by decide) rfl⟩); rintro _ w' ⟨rs, r5, pr, cr, hn5, hS'⟩; replace hS := St.transM (Γ := [.blk ge [.int .i64 0], .row 9 1 (.slice pn ns.length cn) (ns.map stC), .row 82 5 (.slice ps ss.length cs) (ss.map sgC), .row 85 2 (.slice py ys.length cy) (ys.map syC)]) hS hS'; simp only [RdD, LfR, List.cons_append, List.nil_append] at hS; clear hS'))
  have l5 := rdList_len eats_rl hn5
  repeat' (first | (first | ((with_reducible apply l_pure tabOk); exact rfl; exact rfl) | ((with_reducible apply l_load); exact rfl; (first | ((with_reducible apply Loads.sc tabOk); exact rfl; (first | exact hS.blkC 0 rfl rfl | exact hS.blkC 3 rfl rfl)) | ((with_reducible apply Loads.st tabOk); exact rfl; ((exact hS.blkR 1 rfl)); exact rfl)); exact rfl) | ((with_reducible apply l_build tabOk); exact rfl; exact rfl; ((exact rfl)); exact rfl) | (((with_reducible apply l_store hS tabOk (i := 1)); exact rfl; exact rfl; exact rfl; exact rfl; exact rfl; exact rfl; exact rfl; exact rfl; ((exact (rfl : _ = [_, _, _, _, _, _]))); intro w' hS'; simp only [List.set] at hS'; clear hS; have hS := hS'; clear hS')) | (first | ((with_reducible apply l_yes); exact rfl; exact rfl; exact rfl; exact rfl; (assumption)) | ((with_reducible apply l_no); exact rfl; exact rfl; exact rfl; exact rfl; ((assumption)); exact rfl) | ((with_reducible apply l_partn); exact rfl; exact rfl; exact rfl; all_goals (intro hb hp; try (exfalso; omega))) | ((with_reducible apply l_pick1); exact rfl; ((assumption)); exact rfl; exact rfl))) | (first | (with_reducible apply c_seq) | (with_reducible apply c_region) | (with_reducible apply l_nil) | (with_reducible apply q_then)) | (((with_reducible apply c_ift); exact rfl; (exact rfl))) | ((with_reducible apply l_callQ); exact rfl; exact rfl; exact number_fn (l := r5) hS (by omega); exact rfl; (rintro w' ⟨hno, r, hS'⟩; (repeat' ((with_reducible apply q_then_panic))); exact read_caught rfl rfl (imFrom_none (by unfold rdIm; simp only [Option.bind_some, Option.bind_none, *])) ⟨_, rfl, (hS.transM1 hS').reorder [1, 4] (by decide) rfl⟩); rintro _ w' ⟨r6, ⟨en, hn6, rfl⟩, hS'⟩; replace hS := hS.transM1 hS'; simp only [appA] at hS; clear hS'))
  all_goals have hIm : rdIm s = some (⟨nm, ns, ss, ys, rs, en⟩, r6) := by unfold rdIm; simp only [Option.bind_some, *]
  · repeat' (first | ((with_reducible apply l_iface (by kernel_rfl)); exact rfl; exact rfl) | ((with_reducible apply l_panic); exact rfl) | (with_reducible apply q_then_panic))
    exact read_caught rfl rfl (imFrom_more hIm hp) ⟨_, rfl, hS.reorder [1, 4] (by decide) rfl⟩
  · subst hp
    have hV : ImV _ ⟨nm, ns, ss, ys, rs, en⟩ (.slice pn ns.length cn) (.slice ps ss.length cs) (.slice py ys.length cy) (.slice pr rs.length cr) := ⟨hS.rowSl 5 rfl, hS.rowSl 6 rfl, hS.rowSl 7 rfl, hS.rowSl 2 rfl⟩
    have hB : ImB ⟨nm, ns, ss, ys, rs, en⟩ := ⟨by show ns.length ≤ _; omega, by show ss.length ≤ _; omega, by show ys.length ≤ _; omega, by show rs.length ≤ _; omega⟩
    have hD : ImD ⟨nm, ns, ss, ys, rs, en⟩ := fun x hx => by have := l3' x hx; omega
    by_cases hc : checkIm ⟨nm, ns, ss, ys, rs, en⟩ = 0
    · have hc' : (!decide (checkIm ⟨nm, ns, ss, ys, rs, en⟩ = 0)) = false := by rw [decide_eq_true hc]; rfl
      repeat' (first | (first | ((with_reducible apply l_pure tabOk); exact rfl; exact rfl) | ((with_reducible apply l_load); exact rfl; (((with_reducible apply Loads.st tabOk); exact rfl; ((exact hS.blkR 1 rfl)); exact rfl)); exact rfl) | (first | ((with_reducible apply l_store hS tabOk (i := 1)); exact rfl; exact rfl; exact rfl; exact rfl; exact rfl; exact rfl; exact rfl; exact rfl; ((exact (rfl : _ = [_, _, _, _, _, _]))); intro w' hS'; simp only [List.set] at hS'; clear hS; have hS := hS'; clear hS') | ((with_reducible apply l_store hS tabOk (i := 4)); exact rfl; exact rfl; exact rfl; exact rfl; exact rfl; exact rfl; exact rfl; exact rfl; ((exact (rfl : _ = [_]))); intro w' hS'; simp only [List.set] at hS'; clear hS; have hS := hS'; clear hS')) | (first | ((with_reducible apply l_yes); exact rfl; exact rfl; exact rfl; exact rfl; (exact rfl)) | ((with_reducible apply l_pick2); exact rfl; ((exact rfl)); exact rfl; exact rfl))) | (first | (with_reducible apply c_seq) | (with_reducible apply c_region) | (with_reducible apply l_nil) | (with_reducible apply q_then) | (with_reducible apply c_skip) | (with_reducible apply c_ret)) | (((with_reducible apply c_iff); exact rfl; (assumption))) | ((with_reducible apply l_call); exact rfl; exact rfl; exact Check_fn hV hB hD; exact rfl; rintro _ w' ⟨rfl, hS'⟩; replace hS := hS.transA hS'; simp only [appA] at hS; clear hS'))
      refine q_dret (Or.inl rfl) catch_idle ?_
      rintro w9 rfl
      refine ⟨[imA ⟨nm, ns, ss, ys, rs, en⟩ (.slice pn ns.length cn) (.slice ps ss.length cs) (.slice py ys.length cy) (.slice pr rs.length cr), .int .i64 0], _, ?_, rfl, Or.inl ⟨⟨nm, ns, ss, ys, rs, en⟩, pn, cn, ps, cs, py, cy, pr, cr, by rw [imFrom_at hIm, if_pos hc], rfl, hS.reorder [5, 6, 7, 2] (by decide) rfl⟩⟩
      refine ResL.cell rfl ?_ (ResL.cell rfl ?_ ResL.nil)
      · unfold imA
        ((with_reducible apply Loads.st tabOk); exact rfl; ((exact hS.blkR 1 rfl)); exact rfl)
      · ((with_reducible apply Loads.sc tabOk); exact rfl; ((exact hS.blkC 4 rfl rfl)))
    · have hc' : (!decide (checkIm ⟨nm, ns, ss, ys, rs, en⟩ = 0)) = true := by rw [decide_eq_false hc]; rfl
      repeat' (first | (first | ((with_reducible apply l_pure tabOk); exact rfl; exact rfl) | ((with_reducible apply l_build tabOk); exact rfl; exact rfl; ((exact rfl)); exact rfl) | (first | ((with_reducible apply l_yes); exact rfl; exact rfl; exact rfl; exact rfl; (exact rfl)) | ((with_reducible apply l_pick2); exact rfl; ((exact rfl)); exact rfl; exact rfl))) | (first | (with_reducible apply c_region) | (with_reducible apply l_nil) | (with_reducible apply q_then)) | (((with_reducible apply c_ift); exact rfl; (assumption))) | ((with_reducible apply l_call); exact rfl; exact rfl; exact Check_fn hV hB hD; exact rfl; rintro _ w' ⟨rfl, hS'⟩; replace hS := hS.transA hS'; simp only [appA] at hS; clear hS') | ((with_reducible apply l_iface (by kernel_rfl)); exact rfl; exact rfl) | ((with_reducible apply l_panic); exact rfl) | (with_reducible apply q_then_panic))
      exact read_caught rfl rfl (by rw [imFrom_at hIm, if_neg hc]) ⟨_, rfl, hS.reorder [1, 4] (by decide) rfl⟩
end Go.Proofs.Ytejnpppejalhfab
/- The reference's SameImages. -/
namespace Go.Proofs.Ytejnpppejalhfab
open Go.RowKit Go.Sort
theorem eqSg (a b : Sg) : EqIs Try.prog 82 (sgC a) (sgC b) (decide (a = b)) := by
  refine ⟨fun w => ?_, by kernel_rfl⟩
  cases a
  cases b
  unfold sgC
  simp [go_sem]
  repeat' split
  all_goals simp_all
theorem eqSy (a b : Sy) : EqIs Try.prog 85 (syC a) (syC b) (decide (a = b)) := by
  refine ⟨fun w => ?_, by kernel_rfl⟩
  cases a
  cases b
  unfold syC
  simp [go_sem]
  repeat' split
  all_goals simp_all
theorem eqRl (a b : Rl) : EqIs Try.prog 87 (rlC a) (rlC b) (decide (a = b)) := by
  refine ⟨fun w => ?_, by kernel_rfl⟩
  cases a
  cases b
  unfold rlC
  simp [go_sem]
  repeat' split
  all_goals simp_all
theorem same_take {α : Type} {A B : List α} (hl : A.length = B.length) {i : Nat} (h : A.take i = B.take i) (hi : A.length ≤ i) : A = B := by
  rwa [List.take_of_length_le hi, List.take_of_length_le (by omega)] at h
theorem same_next {α : Type} {A B : List α} {i : Nat} {x : α} (h : A.take i = B.take i) (hx : A[i]? = some x) (hy : B[i]? = some x) : A.take (i + 1) = B.take (i + 1) := by
  rw [List.take_add_one, List.take_add_one, h, hx, hy]
theorem not_same {α : Type} {A B : List α} {i : Nat} {x y : α} (hx : A[i]? = some x) (hy : B[i]? = some y) (hne : ¬ x = y) : A ≠ B := by
  rintro rfl
  rw [hx] at hy
  exact hne (Option.some.inj hy)
set_option maxRecDepth 100000 in
set_option maxHeartbeats 8000000 in
theorem SameImages_fn {I J : Im} {w : World} {vn vs vy vr un us uy ur : Value} (hI : ImV w I vn vs vy vr) (hJ : ImV w J un us uy ur) : Fn Try.prog 11 [imA I vn vs vy vr, imA J un us uy ur] w (RBf (.bool (decide (I = J))) w) := by
  obtain ⟨nm, ns, ss, ys, rs, en⟩ := I
  obtain ⟨nm2, ns2, ss2, ys2, rs2, en2⟩ := J
  have jn := hJ.needs.len
  have js := hJ.segs.len
  have jy := hJ.syms.len
  have jr := hJ.rels.len
  obtain ⟨qn, dn, rfl⟩ := jn
  obtain ⟨qs, dcs, rfl⟩ := js
  obtain ⟨qy, dy, rfl⟩ := jy
  obtain ⟨qr, dr, rfl⟩ := jr
  have bn := hI.needs.bound; have bs := hI.segs.bound; have by_ := hI.syms.bound; have br := hI.rels.bound; obtain ⟨pn, cn, rfl⟩ := hI.needs.len; obtain ⟨ps, cs, rfl⟩ := hI.segs.len; obtain ⟨py, cy, rfl⟩ := hI.syms.len; obtain ⟨pr, cr, rfl⟩ := hI.rels.len
  dsimp only at *
  refine fn_enter (fn := Try.f11) ⟨Try.func11, by kernel_rfl, by kernel_rfl⟩ (by exact rfl) Try.ntmps11 (by exact rfl) ?_
  have hS := St.start w
  repeat' (first | (first | ((with_reducible apply l_pure tabOk); exact rfl; exact rfl) | ((with_reducible apply l_load); exact rfl; (first | ((with_reducible apply Loads.sc tabOk); exact rfl; (first | exact hS.blkC 0 rfl rfl | exact hS.blkC 1 rfl rfl)) | ((with_reducible apply Loads.sl tabOk); exact rfl; (first | exact hS.blkC 0 rfl rfl | exact hS.blkC 1 rfl rfl))); exact rfl) | ((with_reducible apply l_box hS); exact rfl; exact rfl; exact rfl; intro g w' hS'; clear hS; have hS := hS'; clear hS') | (first | ((with_reducible apply l_yes); exact rfl; exact rfl; exact rfl; exact rfl; (assumption)) | ((with_reducible apply l_no); exact rfl; exact rfl; exact rfl; exact rfl; (first | exact rfl | assumption); exact rfl) | ((with_reducible apply l_partn); exact rfl; exact rfl; exact rfl; all_goals (intro hb hp; try (exfalso; omega))) | ((with_reducible apply l_pick1); exact rfl; (first | exact rfl | assumption); exact rfl; exact rfl) | ((with_reducible apply l_pick2); exact rfl; ((assumption)); exact rfl; exact rfl))) | (first | (with_reducible apply c_seq) | (with_reducible apply c_region) | (with_reducible apply l_nil) | (with_reducible apply q_then) | (with_reducible apply c_skip) | (with_reducible apply c_block) | (with_reducible apply c_ret) | (with_reducible apply q_then_ret)) | (first | ((with_reducible apply c_ift); exact rfl; (exact rfl)) | ((with_reducible apply c_ifn); exact rfl; all_goals (intro hb hp; try (exfalso; omega)))))
  all_goals try dsimp only at hp
  all_goals first
    | (((apply q_ret1); (repeat (first | exact ResL.nil | (apply ResL.tmp; exact rfl)))); refine ⟨congrArg Value.bool (Eq.symm (decide_eq_false (fun e => ?_))), hS.sub (List.nil_sublist _)⟩; injection e with i1 i2 i3 i4 i5 i6; first | exact hp i1 | exact hp i6 | exact hp (by rw [i2]) | exact hp (by rw [i3]) | exact hp (by rw [i4]) | exact hp (by rw [i5]))
    | skip
  rename_i hb1 hp1 hb2 hp2 hb3 hp3 hb4 hp4 hb5 hp5
  dsimp only at *
  subst hp1 hp2
  refine c_count hS 5 [0, 1, 2, 3] rfl (ns.length) (fun i => ns.take i = ns2.take i) 0 rfl (Nat.zero_le _) (by (rfl)) ?_
  rintro i w1 hi hall hS'
  clear hS; have hS := hS'; clear hS'
  by_cases hlt : i < ns.length
  · obtain ⟨x, hx⟩ := lt_get (l := ns) (i := i) (by omega)
    obtain ⟨y, hy⟩ := lt_get (l := ns2) (i := i) (by omega)
    have hrow := map_get (f := stC) hx
    have hrow2 := map_get (f := stC) hy
    obtain ⟨b, off, rfl, hro⟩ := (hI.needs).at_ hlt
    obtain ⟨b2, off2, rfl, hro2⟩ := (hJ.needs).at_ (i := i) (show i < (ns2).length by omega)
    by_cases hxy : x = y
    · subst hxy
      have hd : (!decide (x = x)) = false := by simp
      repeat' (first | (first | ((with_reducible apply l_pure tabOk); exact rfl; exact rfl) | ((with_reducible apply l_load); exact rfl; (((with_reducible apply Loads.sl tabOk); exact rfl; ((exact hS.blkC 1 rfl rfl)))); exact rfl)) | (first | (with_reducible apply c_seq) | (with_reducible apply c_region) | (with_reducible apply l_nil) | (with_reducible apply q_then) | (with_reducible apply c_skip) | (with_reducible apply c_block)) | (((with_reducible apply c_ifd); exact rfl; all_goals (intro hb hp; try (exfalso; omega)))))
      (focus ((with_reducible apply c_drawAll nF _ _ (by kernel_rfl) (by kernel_rfl) hS); (repeat' ((first | ((with_reducible apply d_pure tabOk); exact rfl; exact rfl) | ((with_reducible apply d_load); exact rfl; (intro wd hd; replace hd : St _ _ wd _ := hd; (first | ((with_reducible apply Loads.sc tabOk); exact rfl; ((exact hd.roC0 (by assumption) (by assumption) rfl))) | ((with_reducible apply Loads.sl tabOk); exact rfl; (first | exact hd.blkC 0 rfl rfl | exact hd.blkC 1 rfl rfl)))); exact rfl) | ((with_reducible apply d_ix tabOk); exact rfl; exact rfl; exact rfl; ((exact rfl)); ((omega)); exact rfl)))); all_goals ((with_reducible apply d_nil); intro w' hS'; clear hS; have hS := hS'; clear hS')))
      repeat' (first | (first | ((with_reducible apply l_add); exact rfl; exact rfl; omega; omega; exact rfl) | ((with_reducible apply l_pure tabOk); exact rfl; exact rfl)) | (first | (with_reducible apply c_region) | (with_reducible apply l_nil) | (with_reducible apply q_then) | (with_reducible apply c_skip) | (with_reducible apply q_block)) | (((with_reducible apply c_iff); exact rfl; (assumption))))
      exact q_count (i + 1) (by repeat (first | exact Fr.sub_nil _ | (apply Fr.sub_cons; exact rfl))) (by omega) (same_next hall hx hy) (by omega) hS
    · have hd : (!decide (x = y)) = true := by simpa using hxy
      repeat' (first | (first | ((with_reducible apply l_pure tabOk); exact rfl; exact rfl) | ((with_reducible apply l_load); exact rfl; (((with_reducible apply Loads.sl tabOk); exact rfl; ((exact hS.blkC 1 rfl rfl)))); exact rfl)) | (first | (with_reducible apply c_seq) | (with_reducible apply c_region) | (with_reducible apply l_nil) | (with_reducible apply q_then) | (with_reducible apply c_skip) | (with_reducible apply c_block)) | (((with_reducible apply c_ifd); exact rfl; all_goals (intro hb hp; try (exfalso; omega)))))
      (focus ((with_reducible apply c_drawAll nF _ _ (by kernel_rfl) (by kernel_rfl) hS); (repeat' ((first | ((with_reducible apply d_pure tabOk); exact rfl; exact rfl) | ((with_reducible apply d_load); exact rfl; (intro wd hd; replace hd : St _ _ wd _ := hd; (first | ((with_reducible apply Loads.sc tabOk); exact rfl; ((exact hd.roC0 (by assumption) (by assumption) rfl))) | ((with_reducible apply Loads.sl tabOk); exact rfl; (first | exact hd.blkC 0 rfl rfl | exact hd.blkC 1 rfl rfl)))); exact rfl) | ((with_reducible apply d_ix tabOk); exact rfl; exact rfl; exact rfl; ((exact rfl)); ((omega)); exact rfl)))); all_goals ((with_reducible apply d_nil); intro w' hS'; clear hS; have hS := hS'; clear hS')))
      repeat' (first | (((with_reducible apply l_pure tabOk); exact rfl; exact rfl)) | (first | (with_reducible apply c_seq) | (with_reducible apply c_region) | (with_reducible apply l_nil) | (with_reducible apply q_then) | (with_reducible apply c_ret) | (with_reducible apply q_then_ret) | (with_reducible apply q_block_ret)) | (((with_reducible apply c_ift); exact rfl; (assumption))))
      (apply q_ret1); (repeat (first | exact ResL.nil | (apply ResL.tmp; exact rfl)))
      refine ⟨congrArg Value.bool (Eq.symm (decide_eq_false (fun e => ?_))), hS.sub (List.nil_sublist _)⟩
      injection e with i1 i2 i3 i4 i5 i6
      exact not_same hx hy hxy i2
  have en : ns = ns2 := same_take (by omega) hall (by omega)
  subst en
  clear hall
  repeat' (first | (first | ((with_reducible apply l_pure tabOk); exact rfl; exact rfl) | ((with_reducible apply l_load); exact rfl; (((with_reducible apply Loads.sl tabOk); exact rfl; ((exact hS.blkC 1 rfl rfl)))); exact rfl)) | (first | (with_reducible apply c_seq) | (with_reducible apply c_region) | (with_reducible apply l_nil) | (with_reducible apply q_then) | (with_reducible apply c_block) | (with_reducible apply c_exit) | (with_reducible apply q_then_exit) | (with_reducible apply q_block_exit)) | (((with_reducible apply c_ifd); exact rfl; all_goals (intro hb hp; try (exfalso; omega)))))
  refine c_count hS 6 [0, 1, 2, 3] rfl (ss.length) (fun i => ss.take i = ss2.take i) 0 rfl (Nat.zero_le _) (by (rfl)) ?_
  rintro i w1 hi hall hS'
  clear hS; have hS := hS'; clear hS'
  by_cases hlt : i < ss.length
  · obtain ⟨x, hx⟩ := lt_get (l := ss) (i := i) (by omega)
    obtain ⟨y, hy⟩ := lt_get (l := ss2) (i := i) (by omega)
    have hrow := map_get (f := sgC) hx
    have hrow2 := map_get (f := sgC) hy
    obtain ⟨b, off, rfl, hro⟩ := (hI.segs).at_ hlt
    obtain ⟨b2, off2, rfl, hro2⟩ := (hJ.segs).at_ (i := i) (show i < (ss2).length by omega)
    by_cases hxy : x = y
    · subst hxy
      have hd : (!decide (x = x)) = false := by simp
      repeat' (first | (first | ((with_reducible apply l_pure tabOk); exact rfl; exact rfl) | ((with_reducible apply l_load); exact rfl; (((with_reducible apply Loads.sl tabOk); exact rfl; ((exact hS.blkC 1 rfl rfl)))); exact rfl)) | (first | (with_reducible apply c_seq) | (with_reducible apply c_region) | (with_reducible apply l_nil) | (with_reducible apply q_then) | (with_reducible apply c_skip) | (with_reducible apply c_block)) | (((with_reducible apply c_ifd); exact rfl; all_goals (intro hb hp; try (exfalso; omega)))))
      (focus ((with_reducible apply c_drawAll nF _ _ (by kernel_rfl) (by kernel_rfl) hS); (repeat' (first | (first | ((with_reducible apply d_pure tabOk); exact rfl; exact rfl) | ((with_reducible apply d_load); exact rfl; (intro wd hd; replace hd : St _ _ wd _ := hd; (first | ((with_reducible apply Loads.sl tabOk); exact rfl; (first | exact hd.blkC 0 rfl rfl | exact hd.blkC 1 rfl rfl)) | ((with_reducible apply Loads.st tabOk); exact rfl; ((exact hd.roR (by assumption) (by assumption))); exact rfl))); exact rfl) | ((with_reducible apply d_ix tabOk); exact rfl; exact rfl; exact rfl; ((exact rfl)); ((omega)); exact rfl)) | ((with_reducible apply d_nes); exact rfl; exact rfl; exact eqSg x x; exact rfl))); all_goals ((with_reducible apply d_nil); intro w' hS'; clear hS; have hS := hS'; clear hS')))
      repeat' (first | (first | ((with_reducible apply l_add); exact rfl; exact rfl; omega; omega; exact rfl) | ((with_reducible apply l_pure tabOk); exact rfl; exact rfl)) | (first | (with_reducible apply c_region) | (with_reducible apply l_nil) | (with_reducible apply q_then) | (with_reducible apply c_skip) | (with_reducible apply q_block)) | (((with_reducible apply c_iff); exact rfl; (assumption))))
      exact q_count (i + 1) (by repeat (first | exact Fr.sub_nil _ | (apply Fr.sub_cons; exact rfl))) (by omega) (same_next hall hx hy) (by omega) hS
    · have hd : (!decide (x = y)) = true := by simpa using hxy
      repeat' (first | (first | ((with_reducible apply l_pure tabOk); exact rfl; exact rfl) | ((with_reducible apply l_load); exact rfl; (((with_reducible apply Loads.sl tabOk); exact rfl; ((exact hS.blkC 1 rfl rfl)))); exact rfl)) | (first | (with_reducible apply c_seq) | (with_reducible apply c_region) | (with_reducible apply l_nil) | (with_reducible apply q_then) | (with_reducible apply c_skip) | (with_reducible apply c_block)) | (((with_reducible apply c_ifd); exact rfl; all_goals (intro hb hp; try (exfalso; omega)))))
      (focus ((with_reducible apply c_drawAll nF _ _ (by kernel_rfl) (by kernel_rfl) hS); (repeat' (first | (first | ((with_reducible apply d_pure tabOk); exact rfl; exact rfl) | ((with_reducible apply d_load); exact rfl; (intro wd hd; replace hd : St _ _ wd _ := hd; (first | ((with_reducible apply Loads.sl tabOk); exact rfl; (first | exact hd.blkC 0 rfl rfl | exact hd.blkC 1 rfl rfl)) | ((with_reducible apply Loads.st tabOk); exact rfl; ((exact hd.roR (by assumption) (by assumption))); exact rfl))); exact rfl) | ((with_reducible apply d_ix tabOk); exact rfl; exact rfl; exact rfl; ((exact rfl)); ((omega)); exact rfl)) | ((with_reducible apply d_nes); exact rfl; exact rfl; exact eqSg x y; exact rfl))); all_goals ((with_reducible apply d_nil); intro w' hS'; clear hS; have hS := hS'; clear hS')))
      repeat' (first | (((with_reducible apply l_pure tabOk); exact rfl; exact rfl)) | (first | (with_reducible apply c_seq) | (with_reducible apply c_region) | (with_reducible apply l_nil) | (with_reducible apply q_then) | (with_reducible apply c_ret) | (with_reducible apply q_then_ret) | (with_reducible apply q_block_ret)) | (((with_reducible apply c_ift); exact rfl; (assumption))))
      (apply q_ret1); (repeat (first | exact ResL.nil | (apply ResL.tmp; exact rfl)))
      refine ⟨congrArg Value.bool (Eq.symm (decide_eq_false (fun e => ?_))), hS.sub (List.nil_sublist _)⟩
      injection e with i1 i2 i3 i4 i5 i6
      exact not_same hx hy hxy i3
  have es : ss = ss2 := same_take (by omega) hall (by omega)
  subst es
  clear hall
  repeat' (first | (first | ((with_reducible apply l_pure tabOk); exact rfl; exact rfl) | ((with_reducible apply l_load); exact rfl; (((with_reducible apply Loads.sl tabOk); exact rfl; ((exact hS.blkC 1 rfl rfl)))); exact rfl)) | (first | (with_reducible apply c_seq) | (with_reducible apply c_region) | (with_reducible apply l_nil) | (with_reducible apply q_then) | (with_reducible apply c_block) | (with_reducible apply c_exit) | (with_reducible apply q_then_exit) | (with_reducible apply q_block_exit)) | (((with_reducible apply c_ifd); exact rfl; all_goals (intro hb hp; try (exfalso; omega)))))
  refine c_count hS 7 [0, 1, 2, 3] rfl (ys.length) (fun i => ys.take i = ys2.take i) 0 rfl (Nat.zero_le _) (by (rfl)) ?_
  rintro i w1 hi hall hS'
  clear hS; have hS := hS'; clear hS'
  by_cases hlt : i < ys.length
  · obtain ⟨x, hx⟩ := lt_get (l := ys) (i := i) (by omega)
    obtain ⟨y, hy⟩ := lt_get (l := ys2) (i := i) (by omega)
    have hrow := map_get (f := syC) hx
    have hrow2 := map_get (f := syC) hy
    obtain ⟨b, off, rfl, hro⟩ := (hI.syms).at_ hlt
    obtain ⟨b2, off2, rfl, hro2⟩ := (hJ.syms).at_ (i := i) (show i < (ys2).length by omega)
    by_cases hxy : x = y
    · subst hxy
      have hd : (!decide (x = x)) = false := by simp
      repeat' (first | (first | ((with_reducible apply l_pure tabOk); exact rfl; exact rfl) | ((with_reducible apply l_load); exact rfl; (((with_reducible apply Loads.sl tabOk); exact rfl; ((exact hS.blkC 1 rfl rfl)))); exact rfl)) | (first | (with_reducible apply c_seq) | (with_reducible apply c_region) | (with_reducible apply l_nil) | (with_reducible apply q_then) | (with_reducible apply c_skip) | (with_reducible apply c_block)) | (((with_reducible apply c_ifd); exact rfl; all_goals (intro hb hp; try (exfalso; omega)))))
      (focus ((with_reducible apply c_drawAll nF _ _ (by kernel_rfl) (by kernel_rfl) hS); (repeat' (first | (first | ((with_reducible apply d_pure tabOk); exact rfl; exact rfl) | ((with_reducible apply d_load); exact rfl; (intro wd hd; replace hd : St _ _ wd _ := hd; (first | ((with_reducible apply Loads.sl tabOk); exact rfl; (first | exact hd.blkC 0 rfl rfl | exact hd.blkC 1 rfl rfl)) | ((with_reducible apply Loads.st tabOk); exact rfl; ((exact hd.roR (by assumption) (by assumption))); exact rfl))); exact rfl) | ((with_reducible apply d_ix tabOk); exact rfl; exact rfl; exact rfl; ((exact rfl)); ((omega)); exact rfl)) | ((with_reducible apply d_nes); exact rfl; exact rfl; exact eqSy x x; exact rfl))); all_goals ((with_reducible apply d_nil); intro w' hS'; clear hS; have hS := hS'; clear hS')))
      repeat' (first | (first | ((with_reducible apply l_add); exact rfl; exact rfl; omega; omega; exact rfl) | ((with_reducible apply l_pure tabOk); exact rfl; exact rfl)) | (first | (with_reducible apply c_region) | (with_reducible apply l_nil) | (with_reducible apply q_then) | (with_reducible apply c_skip) | (with_reducible apply q_block)) | (((with_reducible apply c_iff); exact rfl; (assumption))))
      exact q_count (i + 1) (by repeat (first | exact Fr.sub_nil _ | (apply Fr.sub_cons; exact rfl))) (by omega) (same_next hall hx hy) (by omega) hS
    · have hd : (!decide (x = y)) = true := by simpa using hxy
      repeat' (first | (first | ((with_reducible apply l_pure tabOk); exact rfl; exact rfl) | ((with_reducible apply l_load); exact rfl; (((with_reducible apply Loads.sl tabOk); exact rfl; ((exact hS.blkC 1 rfl rfl)))); exact rfl)) | (first | (with_reducible apply c_seq) | (with_reducible apply c_region) | (with_reducible apply l_nil) | (with_reducible apply q_then) | (with_reducible apply c_skip) | (with_reducible apply c_block)) | (((with_reducible apply c_ifd); exact rfl; all_goals (intro hb hp; try (exfalso; omega)))))
      (focus ((with_reducible apply c_drawAll nF _ _ (by kernel_rfl) (by kernel_rfl) hS); (repeat' (first | (first | ((with_reducible apply d_pure tabOk); exact rfl; exact rfl) | ((with_reducible apply d_load); exact rfl; (intro wd hd; replace hd : St _ _ wd _ := hd; (first | ((with_reducible apply Loads.sl tabOk); exact rfl; (first | exact hd.blkC 0 rfl rfl | exact hd.blkC 1 rfl rfl)) | ((with_reducible apply Loads.st tabOk); exact rfl; ((exact hd.roR (by assumption) (by assumption))); exact rfl))); exact rfl) | ((with_reducible apply d_ix tabOk); exact rfl; exact rfl; exact rfl; ((exact rfl)); ((omega)); exact rfl)) | ((with_reducible apply d_nes); exact rfl; exact rfl; exact eqSy x y; exact rfl))); all_goals ((with_reducible apply d_nil); intro w' hS'; clear hS; have hS := hS'; clear hS')))
      repeat' (first | (((with_reducible apply l_pure tabOk); exact rfl; exact rfl)) | (first | (with_reducible apply c_seq) | (with_reducible apply c_region) | (with_reducible apply l_nil) | (with_reducible apply q_then) | (with_reducible apply c_ret) | (with_reducible apply q_then_ret) | (with_reducible apply q_block_ret)) | (((with_reducible apply c_ift); exact rfl; (assumption))))
      (apply q_ret1); (repeat (first | exact ResL.nil | (apply ResL.tmp; exact rfl)))
      refine ⟨congrArg Value.bool (Eq.symm (decide_eq_false (fun e => ?_))), hS.sub (List.nil_sublist _)⟩
      injection e with i1 i2 i3 i4 i5 i6
      exact not_same hx hy hxy i4
  have ey : ys = ys2 := same_take (by omega) hall (by omega)
  subst ey
  clear hall
  repeat' (first | (first | ((with_reducible apply l_pure tabOk); exact rfl; exact rfl) | ((with_reducible apply l_load); exact rfl; (((with_reducible apply Loads.sl tabOk); exact rfl; ((exact hS.blkC 1 rfl rfl)))); exact rfl)) | (first | (with_reducible apply c_seq) | (with_reducible apply c_region) | (with_reducible apply l_nil) | (with_reducible apply q_then) | (with_reducible apply c_block) | (with_reducible apply c_exit) | (with_reducible apply q_then_exit) | (with_reducible apply q_block_exit)) | (((with_reducible apply c_ifd); exact rfl; all_goals (intro hb hp; try (exfalso; omega)))))
  refine c_count hS 8 [0, 1, 2, 3] rfl (rs.length) (fun i => rs.take i = rs2.take i) 0 rfl (Nat.zero_le _) (by (rfl)) ?_
  rintro i w1 hi hall hS'
  clear hS; have hS := hS'; clear hS'
  by_cases hlt : i < rs.length
  · obtain ⟨x, hx⟩ := lt_get (l := rs) (i := i) (by omega)
    obtain ⟨y, hy⟩ := lt_get (l := rs2) (i := i) (by omega)
    have hrow := map_get (f := rlC) hx
    have hrow2 := map_get (f := rlC) hy
    obtain ⟨b, off, rfl, hro⟩ := (hI.rels).at_ hlt
    obtain ⟨b2, off2, rfl, hro2⟩ := (hJ.rels).at_ (i := i) (show i < (rs2).length by omega)
    by_cases hxy : x = y
    · subst hxy
      have hd : (!decide (x = x)) = false := by simp
      repeat' (first | (first | ((with_reducible apply l_pure tabOk); exact rfl; exact rfl) | ((with_reducible apply l_load); exact rfl; (((with_reducible apply Loads.sl tabOk); exact rfl; ((exact hS.blkC 1 rfl rfl)))); exact rfl)) | (first | (with_reducible apply c_seq) | (with_reducible apply c_region) | (with_reducible apply l_nil) | (with_reducible apply q_then) | (with_reducible apply c_skip) | (with_reducible apply c_block)) | (((with_reducible apply c_ifd); exact rfl; all_goals (intro hb hp; try (exfalso; omega)))))
      (focus ((with_reducible apply c_drawAll nF _ _ (by kernel_rfl) (by kernel_rfl) hS); (repeat' (first | (first | ((with_reducible apply d_pure tabOk); exact rfl; exact rfl) | ((with_reducible apply d_load); exact rfl; (intro wd hd; replace hd : St _ _ wd _ := hd; (first | ((with_reducible apply Loads.sl tabOk); exact rfl; (first | exact hd.blkC 0 rfl rfl | exact hd.blkC 1 rfl rfl)) | ((with_reducible apply Loads.st tabOk); exact rfl; ((exact hd.roR (by assumption) (by assumption))); exact rfl))); exact rfl) | ((with_reducible apply d_ix tabOk); exact rfl; exact rfl; exact rfl; ((exact rfl)); ((omega)); exact rfl)) | ((with_reducible apply d_nes); exact rfl; exact rfl; exact eqRl x x; exact rfl))); all_goals ((with_reducible apply d_nil); intro w' hS'; clear hS; have hS := hS'; clear hS')))
      repeat' (first | (first | ((with_reducible apply l_add); exact rfl; exact rfl; omega; omega; exact rfl) | ((with_reducible apply l_pure tabOk); exact rfl; exact rfl)) | (first | (with_reducible apply c_region) | (with_reducible apply l_nil) | (with_reducible apply q_then) | (with_reducible apply c_skip) | (with_reducible apply q_block)) | (((with_reducible apply c_iff); exact rfl; (assumption))))
      exact q_count (i + 1) (by repeat (first | exact Fr.sub_nil _ | (apply Fr.sub_cons; exact rfl))) (by omega) (same_next hall hx hy) (by omega) hS
    · have hd : (!decide (x = y)) = true := by simpa using hxy
      repeat' (first | (first | ((with_reducible apply l_pure tabOk); exact rfl; exact rfl) | ((with_reducible apply l_load); exact rfl; (((with_reducible apply Loads.sl tabOk); exact rfl; ((exact hS.blkC 1 rfl rfl)))); exact rfl)) | (first | (with_reducible apply c_seq) | (with_reducible apply c_region) | (with_reducible apply l_nil) | (with_reducible apply q_then) | (with_reducible apply c_skip) | (with_reducible apply c_block)) | (((with_reducible apply c_ifd); exact rfl; all_goals (intro hb hp; try (exfalso; omega)))))
      (focus ((with_reducible apply c_drawAll nF _ _ (by kernel_rfl) (by kernel_rfl) hS); (repeat' (first | (first | ((with_reducible apply d_pure tabOk); exact rfl; exact rfl) | ((with_reducible apply d_load); exact rfl; (intro wd hd; replace hd : St _ _ wd _ := hd; (first | ((with_reducible apply Loads.sl tabOk); exact rfl; (first | exact hd.blkC 0 rfl rfl | exact hd.blkC 1 rfl rfl)) | ((with_reducible apply Loads.st tabOk); exact rfl; ((exact hd.roR (by assumption) (by assumption))); exact rfl))); exact rfl) | ((with_reducible apply d_ix tabOk); exact rfl; exact rfl; exact rfl; ((exact rfl)); ((omega)); exact rfl)) | ((with_reducible apply d_nes); exact rfl; exact rfl; exact eqRl x y; exact rfl))); all_goals ((with_reducible apply d_nil); intro w' hS'; clear hS; have hS := hS'; clear hS')))
      repeat' (first | (((with_reducible apply l_pure tabOk); exact rfl; exact rfl)) | (first | (with_reducible apply c_seq) | (with_reducible apply c_region) | (with_reducible apply l_nil) | (with_reducible apply q_then) | (with_reducible apply c_ret) | (with_reducible apply q_then_ret) | (with_reducible apply q_block_ret)) | (((with_reducible apply c_ift); exact rfl; (assumption))))
      (apply q_ret1); (repeat (first | exact ResL.nil | (apply ResL.tmp; exact rfl)))
      refine ⟨congrArg Value.bool (Eq.symm (decide_eq_false (fun e => ?_))), hS.sub (List.nil_sublist _)⟩
      injection e with i1 i2 i3 i4 i5 i6
      exact not_same hx hy hxy i5
  have er : rs = rs2 := same_take (by omega) hall (by omega)
  subst er
  repeat' (first | (first | ((with_reducible apply l_pure tabOk); exact rfl; exact rfl) | ((with_reducible apply l_load); exact rfl; (((with_reducible apply Loads.sl tabOk); exact rfl; ((exact hS.blkC 1 rfl rfl)))); exact rfl)) | (first | (with_reducible apply c_seq) | (with_reducible apply c_region) | (with_reducible apply l_nil) | (with_reducible apply q_then) | (with_reducible apply c_exit) | (with_reducible apply c_ret) | (with_reducible apply q_then_exit) | (with_reducible apply q_block_exit)) | (((with_reducible apply c_ifd); exact rfl; all_goals (intro hb hp; try (exfalso; omega)))))
  (apply q_ret1); (repeat (first | exact ResL.nil | (apply ResL.tmp; exact rfl)))
  exact ⟨by simp, hS.sub (List.nil_sublist _)⟩
end Go.Proofs.Ytejnpppejalhfab
