/- Texts that the proof stands on, one behind the other: Im7, Im8, Im9, Im10, Im11, Im12. -/
import Derived.Test.YtejnpppejalhfabPImageBack4
/- An image: places. -/
namespace Go.Proofs.Ytejnpppejalhfab
open Go.RowKit Go.Sort

theorem at_eq {I : Im} {w : World} {vn vs vy vr : Value} {x0 : Int} {o : Option Sg} (e : own I.segs x0 = o) (hI : ImV w I vn vs vy vr) (hok : sgsB I = true) : Fn Try.prog 125 [imA I vn vs vy vr, .int .i64 x0] w (RBf (.tuple #[.agg (sgC (o.getD zeroSg)).toArray, .bool o.isSome]) w) := by
  subst e
  exact at_fn x0 hI hok
theorem own_pos {I : Im} (hok : sgsB I = true) {x : Int} {s : Sg} (h : own I.segs x = some s) : 0 ≤ x := by
  have h1 := List.find?_some h
  have h2 := List.mem_of_find?_eq_some h
  obtain ⟨k, hk⟩ := List.mem_iff_getElem?.1 h2
  obtain ⟨o1, o2, o3, o4, -⟩ := sg_ok hok hk
  unfold inSg at h1
  rw [decide_eq_true_eq] at h1
  omega
/-- what the first i relocations have shown -/
structure PlR (I : Im) (i : Nat) : Prop where
  rels : ∀ (k : Nat) (r : Rl), k < i → I.rels[k]? = some r → (0 ≤ r.at_ ∧ r.at_ ≤ 4080) ∧ ∀ b : Int, 0 ≤ b → b < 8 → (own I.segs (r.at_ + b)).isSome = true
  step : ∀ (k : Nat) (q r : Rl), k + 1 < i → I.rels[k]? = some q → I.rels[k + 1]? = some r → q.at_ + 8 ≤ r.at_
theorem PlR.zero (I : Im) : PlR I 0 := ⟨by intros; omega, by intros; omega⟩
theorem PlR.succ {I : Im} {i : Nat} {x : Rl} (h : PlR I i) (hx : I.rels[i]? = some x) (h1 : 0 ≤ x.at_ ∧ x.at_ ≤ 4080) (h2 : ∀ b : Int, 0 ≤ b → b < 8 → (own I.segs (x.at_ + b)).isSome = true) (h3 : ∀ q, 0 < i → I.rels[i - 1]? = some q → q.at_ + 8 ≤ x.at_) : PlR I (i + 1) where
  rels k r hk hr := by
    by_cases e : k = i
    · subst e; rw [hx] at hr; cases hr; exact ⟨h1, h2⟩
    · exact h.rels k r (by omega) hr
  step k q r hk hq hr := by
    by_cases e : k + 1 = i
    · subst e; rw [hx] at hr; cases hr; exact h3 q (by omega) (by simpa using hq)
    · exact h.step k q r (by omega) hq hr
theorem isSome_not {α : Type} {o : Option α} (h : (!o.isSome) = false) : o.isSome = true := by simpa using h
set_option maxRecDepth 100000 in
set_option maxHeartbeats 4000000 in
theorem places_fn {I : Im} {w : World} {vn vs vy vr : Value} (hI : ImV w I vn vs vy vr) (hok : sgsB I = true) : Fn Try.prog 92 [imA I vn vs vy vr] w (RBf (.int .i64 (if plcB I = true then 0 else 6)) w) := by
  have bn := hI.needs.bound; have bs := hI.segs.bound; have by_ := hI.syms.bound; have br := hI.rels.bound; obtain ⟨pn, cn, rfl⟩ := hI.needs.len; obtain ⟨ps, cs, rfl⟩ := hI.segs.len; obtain ⟨py, cy, rfl⟩ := hI.syms.len; obtain ⟨pr, cr, rfl⟩ := hI.rels.len
  refine fn_enter (fn := Try.f92) ⟨Try.func92, by kernel_rfl, by kernel_rfl⟩ (by exact rfl) Try.ntmps92 (by exact rfl) ?_
  have hS := St.start w
  have no : ¬ Plc I → (if plcB I = true then (0 : Int) else 6) = 6 := fun h => if_neg (by rw [plcB, pB_false h]; simp)
  repeat' (first | (first | ((with_reducible apply l_pure tabOk); exact rfl; exact rfl) | ((with_reducible apply l_load); exact rfl; (((with_reducible apply Loads.sl tabOk); exact rfl; ((exact hS.blkC 0 rfl rfl)))); exact rfl) | ((with_reducible apply l_box hS); exact rfl; exact rfl; exact rfl; intro g w' hS'; clear hS; have hS := hS'; clear hS')) | (first | (with_reducible apply c_seq) | (with_reducible apply c_region) | (with_reducible apply l_nil) | (with_reducible apply q_then) | (with_reducible apply c_block)))
  refine c_count hS 17 [1, 15, 16] rfl (I.syms.length) (fun i => (I.syms.take i).all (fun s => (own I.segs s.at_).isSome) = true) 0 rfl (Nat.zero_le _) (by (rfl)) ?_
  rintro i w1 hi hall hS'
  clear hS; have hS := hS'; clear hS'
  by_cases hlt : i < I.syms.length
  · obtain ⟨x, hx⟩ := lt_get (l := I.syms) (i := i) (by omega)
    have hrow := map_get (f := syC) hx
    obtain ⟨b, off, rfl, hro⟩ := (hI.syms).at_ hlt
    repeat' (first | (first | ((with_reducible apply l_add); exact rfl; exact rfl; omega; omega; exact rfl) | ((with_reducible apply l_pure tabOk); exact rfl; exact rfl) | ((with_reducible apply l_load); exact rfl; (first | ((with_reducible apply Loads.sc tabOk); exact rfl; ((exact hS.blkC 0 rfl rfl))) | ((with_reducible apply Loads.st tabOk); exact rfl; (first | exact hS.blkR 1 rfl | exact hS.roR (by assumption) (by assumption)); exact rfl)); exact rfl) | ((with_reducible apply l_ix tabOk); exact rfl; exact rfl; exact rfl; ((exact rfl)); ((omega)); exact rfl) | ((with_reducible apply l_alloc hS tabOk); exact rfl; exact rfl; exact rfl; intro g w' hS'; clear hS; have hS := hS'; clear hS') | (((with_reducible apply l_store hS tabOk (i := 0)); exact rfl; exact rfl; exact rfl; exact rfl; exact rfl; exact rfl; exact rfl; exact rfl; (first | exact (rfl : _ = [_, _]) | exact (rfl : _ = [_, _, _, _, _])); intro w' hS'; simp only [List.set] at hS'; clear hS; have hS := hS'; clear hS'))) | (first | (with_reducible apply c_seq) | (with_reducible apply c_region) | (with_reducible apply l_nil) | (with_reducible apply q_then) | (with_reducible apply c_skip) | (with_reducible apply c_block) | (with_reducible apply c_ret) | (with_reducible apply q_then_ret) | (with_reducible apply q_block) | (with_reducible apply q_block_ret)) | (first | ((with_reducible apply c_ifd); exact rfl; all_goals (intro hb hp; try (exfalso; omega))) | ((with_reducible apply c_ifp); exact rfl; all_goals (intro hb hp; try (exfalso; omega)))) | ((with_reducible apply l_call); exact rfl; exact rfl; exact at_fn x.at_ (hI.now hS) hok; exact rfl; rintro _ w' ⟨rfl, hS'⟩; replace hS := hS.transA hS'; simp only [appA] at hS; clear hS'))
    · (apply q_ret1); (repeat (first | exact ResL.nil | (apply ResL.tmp; exact rfl)))
      refine ⟨?_, hS.sub (List.nil_sublist _)⟩
      rw [no fun h => by have := h.syms x (List.mem_of_getElem? hx); rw [this] at hb; cases hb]
    · exact q_count (i + 1) (by repeat (first | exact Fr.sub_nil _ | (apply Fr.sub_cons; exact rfl))) (by omega) (all_take_succ hall hx (isSome_not hb)) (by omega) hS.drop.drop
  have hsy := all_take_all hall (by omega)
  repeat' (first | (first | ((with_reducible apply l_pure tabOk); exact rfl; exact rfl) | ((with_reducible apply l_load); exact rfl; (((with_reducible apply Loads.sl tabOk); exact rfl; ((exact hS.blkC 0 rfl rfl)))); exact rfl)) | (first | (with_reducible apply c_seq) | (with_reducible apply c_region) | (with_reducible apply l_nil) | (with_reducible apply q_then) | (with_reducible apply c_block) | (with_reducible apply c_exit) | (with_reducible apply q_then_exit) | (with_reducible apply q_block_exit)) | (((with_reducible apply c_ifd); exact rfl; all_goals (intro hb hp; try (exfalso; omega)))))
  clear hall hi hlt hb hp
  refine c_count hS 34 [1, 32, 33] rfl I.rels.length (fun i => PlR I i) 0 rfl (Nat.zero_le _) (PlR.zero I) ?_
  rintro i w1 hi hall hS'
  clear hS; have hS := hS'; clear hS'
  by_cases hlt : i < I.rels.length
  · obtain ⟨x, hx⟩ := lt_get (l := I.rels) (i := i) (by omega)
    have hrow := map_get (f := rlC) hx
    obtain ⟨b, off, rfl, hro⟩ := (hI.rels).at_ hlt
    by_cases hk0 : i = 0
    · repeat' (first | (first | ((with_reducible apply l_pure tabOk); exact rfl; exact rfl) | ((with_reducible apply l_load); exact rfl; (((with_reducible apply Loads.st tabOk); exact rfl; ((exact hS.roR (by assumption) (by assumption))); exact rfl)); exact rfl) | ((with_reducible apply l_ix tabOk); exact rfl; exact rfl; exact rfl; ((exact rfl)); ((omega)); exact rfl) | ((with_reducible apply l_alloc hS tabOk); exact rfl; exact rfl; exact rfl; intro g w' hS'; clear hS; have hS := hS'; clear hS') | (((with_reducible apply l_store hS tabOk (i := 0)); exact rfl; exact rfl; exact rfl; exact rfl; exact rfl; exact rfl; exact rfl; exact rfl; ((exact (rfl : _ = [_, _, _]))); intro w' hS'; simp only [List.set] at hS'; clear hS; have hS := hS'; clear hS'))) | (first | (with_reducible apply c_seq) | (with_reducible apply c_region) | (with_reducible apply l_nil) | (with_reducible apply q_then) | (with_reducible apply c_skip) | (with_reducible apply c_block) | (with_reducible apply c_ret) | (with_reducible apply q_then_ret) | (with_reducible apply q_block_ret)) | (first | ((with_reducible apply c_ift); exact rfl; (exact rfl)) | ((with_reducible apply c_iff); exact rfl; (exact rfl)) | ((with_reducible apply c_ifd); exact rfl; all_goals (intro hb hp; try (exfalso; omega)))) | (focus ((with_reducible apply c_drawAll nF _ _ (by kernel_rfl) (by kernel_rfl) hS); (repeat' ((first | ((with_reducible apply d_pure tabOk); exact rfl; exact rfl) | ((with_reducible apply d_load); exact rfl; (intro wd hd; replace hd : St _ _ wd _ := hd; (((with_reducible apply Loads.sc tabOk); exact rfl; ((exact hd.blkC 0 rfl rfl))))); exact rfl) | (first | ((with_reducible apply d_yes); exact rfl; exact rfl; exact rfl; exact rfl; (assumption)) | ((with_reducible apply d_no); exact rfl; exact rfl; exact rfl; exact rfl; (first | exact rfl | assumption); exact rfl) | ((with_reducible apply d_undef); exact rfl; exact rfl; exact rfl; exact rfl; exact rfl) | ((with_reducible apply d_partd); exact rfl; exact rfl; exact rfl; all_goals (intro hb hp; try (exfalso; omega))) | ((with_reducible apply d_pick1); exact rfl; (first | exact rfl | assumption); exact rfl; exact rfl) | ((with_reducible apply d_pick2); exact rfl; ((assumption)); exact rfl; exact rfl))))); all_goals ((with_reducible apply d_nil); intro w' hS'; clear hS; have hS := hS'; clear hS'))))
      · (apply q_ret1); (repeat (first | exact ResL.nil | (apply ResL.tmp; exact rfl)))
        refine ⟨?_, hS.sub (List.nil_sublist _)⟩
        rw [no fun h => by have := (h.rels i x hx).1; omega]
      · (apply q_ret1); (repeat (first | exact ResL.nil | (apply ResL.tmp; exact rfl)))
        refine ⟨?_, hS.sub (List.nil_sublist _)⟩
        rw [no fun h => by have := (h.rels i x hx).1; omega]
      · have hst : ∀ q, 0 < i → I.rels[i - 1]? = some q → q.at_ + 8 ≤ x.at_ := fun q h => by omega
        refine c_count hS 64 [1, 8, 34, 32, 33] rfl 8 (fun b => ∀ c : Int, 0 ≤ c → c < b → (own I.segs (x.at_ + c)).isSome = true) 0 rfl (by omega) (by intros; omega) ?_
        rintro b2 w1 hi2 hall2 hS'
        clear hS; have hS := hS'; clear hS'
        by_cases hlt2 : b2 < 8
        · repeat' (first | (first | ((with_reducible apply l_add); exact rfl; exact rfl; omega; omega; exact rfl) | ((with_reducible apply l_pure tabOk); exact rfl; exact rfl) | ((with_reducible apply l_load); exact rfl; (first | ((with_reducible apply Loads.sc tabOk); exact rfl; ((exact hS.blkC 0 rfl rfl))) | ((with_reducible apply Loads.st tabOk); exact rfl; ((exact hS.blkR 1 rfl)); exact rfl)); exact rfl) | ((with_reducible apply l_alloc hS tabOk); exact rfl; exact rfl; exact rfl; intro g w' hS'; clear hS; have hS := hS'; clear hS') | (((with_reducible apply l_store hS tabOk (i := 0)); exact rfl; exact rfl; exact rfl; exact rfl; exact rfl; exact rfl; exact rfl; exact rfl; ((exact (rfl : _ = [_, _, _, _, _]))); intro w' hS'; simp only [List.set] at hS'; clear hS; have hS := hS'; clear hS'))) | (first | (with_reducible apply c_seq) | (with_reducible apply c_region) | (with_reducible apply l_nil) | (with_reducible apply q_then) | (with_reducible apply c_skip) | (with_reducible apply c_block) | (with_reducible apply c_ret) | (with_reducible apply q_then_ret) | (with_reducible apply q_block) | (with_reducible apply q_block_ret)) | (first | ((with_reducible apply c_ifd); exact rfl; all_goals (intro hb hp; try (exfalso; omega))) | ((with_reducible apply c_ifp); exact rfl; all_goals (intro hb hp; try (exfalso; omega)))) | ((with_reducible apply l_call); exact rfl; exact rfl; exact at_fn (x.at_ + b2) (hI.now hS) hok; exact rfl; rintro _ w' ⟨rfl, hS'⟩; replace hS := hS.transA hS'; simp only [appA] at hS; clear hS'))
          · (apply q_ret1); (repeat (first | exact ResL.nil | (apply ResL.tmp; exact rfl)))
            refine ⟨?_, hS.sub (List.nil_sublist _)⟩
            rw [no fun h => by have := (h.rels i x hx).2 b2 (by omega) (by omega); rw [this] at hb; cases hb]
          · refine q_count (b2 + 1) (by repeat (first | exact Fr.sub_nil _ | (apply Fr.sub_cons; exact rfl))) (by omega) (fun c h1 h2 => ?_) (by omega) hS.drop
            by_cases e : c = b2
            · subst e; exact isSome_not hb
            · exact hall2 c h1 (by omega)
        · repeat' (first | (first | ((with_reducible apply l_add); exact rfl; exact rfl; omega; omega; exact rfl) | ((with_reducible apply l_pure tabOk); exact rfl; exact rfl)) | (first | (with_reducible apply c_seq) | (with_reducible apply c_region) | (with_reducible apply l_nil) | (with_reducible apply q_then) | (with_reducible apply c_exit) | (with_reducible apply q_then_exit) | (with_reducible apply q_block) | (with_reducible apply q_block_exit)) | (((with_reducible apply c_ifd); exact rfl; all_goals (intro hb hp; try (exfalso; omega)))))
          exact q_count (i + 1) (by repeat (first | exact Fr.sub_nil _ | (apply Fr.sub_cons; exact rfl))) (by omega) (hall.succ hx (by omega) (fun c h1 h2 => hall2 c h1 (by omega)) hst) (by omega) hS.drop
    · obtain ⟨y, hy⟩ := lt_get (l := I.rels) (i := i - 1) (by omega)
      have hrow2 := map_get (f := rlC) hy
      have hix : ((i - 1 : Nat) : Int) = (i : Int) - 1 := by omega
      obtain ⟨⟨y1, y2⟩, -⟩ := hall.rels (i - 1) y (by omega) hy
      repeat' (first | (first | ((with_reducible apply l_pure tabOk); exact rfl; exact rfl) | ((with_reducible apply l_load); exact rfl; (((with_reducible apply Loads.st tabOk); exact rfl; ((exact hS.roR (by assumption) (by assumption))); exact rfl)); exact rfl) | ((with_reducible apply l_ix tabOk); exact rfl; exact rfl; exact rfl; ((exact rfl)); ((omega)); exact rfl) | ((with_reducible apply l_alloc hS tabOk); exact rfl; exact rfl; exact rfl; intro g w' hS'; clear hS; have hS := hS'; clear hS') | (((with_reducible apply l_store hS tabOk (i := 0)); exact rfl; exact rfl; exact rfl; exact rfl; exact rfl; exact rfl; exact rfl; exact rfl; ((exact (rfl : _ = [_, _, _]))); intro w' hS'; simp only [List.set] at hS'; clear hS; have hS := hS'; clear hS'))) | (first | (with_reducible apply c_seq) | (with_reducible apply c_region) | (with_reducible apply l_nil) | (with_reducible apply q_then) | (with_reducible apply c_skip) | (with_reducible apply c_block) | (with_reducible apply c_ret) | (with_reducible apply q_then_ret) | (with_reducible apply q_block_ret)) | (first | ((with_reducible apply c_ift); exact rfl; (exact rfl)) | ((with_reducible apply c_ifd); exact rfl; all_goals (intro hb hp; try (exfalso; omega)))) | (focus ((with_reducible apply c_drawAll nF _ _ (by kernel_rfl) (by kernel_rfl) hS); (repeat' ((first | ((with_reducible apply d_add); exact rfl; exact rfl; omega; omega; exact rfl) | ((with_reducible apply d_sub); exact rfl; exact rfl; omega; omega; exact rfl) | ((with_reducible apply d_pure tabOk); exact rfl; exact rfl) | ((with_reducible apply d_load); exact rfl; (intro wd hd; replace hd : St _ _ wd _ := hd; (first | ((with_reducible apply Loads.sc tabOk); exact rfl; (first | exact hd.blkC 0 rfl rfl | exact hd.roC0 (by assumption) (by assumption) rfl)) | ((with_reducible apply Loads.sl tabOk); exact rfl; ((exact hd.blkC 1 rfl rfl))))); exact rfl) | ((with_reducible apply d_ix tabOk); exact rfl; exact rfl; exact rfl; ((assumption)); ((omega)); exact rfl) | (first | ((with_reducible apply d_yes); exact rfl; exact rfl; exact rfl; exact rfl; (assumption)) | ((with_reducible apply d_no); exact rfl; exact rfl; exact rfl; exact rfl; (first | exact rfl | assumption); exact rfl) | ((with_reducible apply d_undef); exact rfl; exact rfl; exact rfl; exact rfl; exact rfl) | ((with_reducible apply d_partd); exact rfl; exact rfl; exact rfl; all_goals (intro hb hp; try (exfalso; omega))) | ((with_reducible apply d_pick1); exact rfl; (first | exact rfl | assumption); exact rfl; exact rfl) | ((with_reducible apply d_pick2); exact rfl; ((assumption)); exact rfl; exact rfl))))); all_goals ((with_reducible apply d_nil); intro w' hS'; clear hS; have hS := hS'; clear hS'))))
      · (apply q_ret1); (repeat (first | exact ResL.nil | (apply ResL.tmp; exact rfl)))
        refine ⟨?_, hS.sub (List.nil_sublist _)⟩
        rw [no fun h => by have := (h.rels i x hx).1; omega]
      · (apply q_ret1); (repeat (first | exact ResL.nil | (apply ResL.tmp; exact rfl)))
        refine ⟨?_, hS.sub (List.nil_sublist _)⟩
        rw [no fun h => by have := (h.rels i x hx).1; omega]
      · (apply q_ret1); (repeat (first | exact ResL.nil | (apply ResL.tmp; exact rfl)))
        refine ⟨?_, hS.sub (List.nil_sublist _)⟩
        rw [no fun h => by have := h.step (i - 1) y x hy (by rw [show i - 1 + 1 = i by omega]; exact hx); omega]
      · have hst : ∀ q, 0 < i → I.rels[i - 1]? = some q → q.at_ + 8 ≤ x.at_ := fun q _ h => by rw [hy] at h; cases h; omega
        refine c_count hS 64 [1, 8, 34, 32, 33] rfl 8 (fun b => ∀ c : Int, 0 ≤ c → c < b → (own I.segs (x.at_ + c)).isSome = true) 0 rfl (by omega) (by intros; omega) ?_
        rintro b2 w1 hi2 hall2 hS'
        clear hS; have hS := hS'; clear hS'
        by_cases hlt2 : b2 < 8
        · repeat' (first | (first | ((with_reducible apply l_add); exact rfl; exact rfl; omega; omega; exact rfl) | ((with_reducible apply l_pure tabOk); exact rfl; exact rfl) | ((with_reducible apply l_load); exact rfl; (first | ((with_reducible apply Loads.sc tabOk); exact rfl; ((exact hS.blkC 0 rfl rfl))) | ((with_reducible apply Loads.st tabOk); exact rfl; ((exact hS.blkR 1 rfl)); exact rfl)); exact rfl) | ((with_reducible apply l_alloc hS tabOk); exact rfl; exact rfl; exact rfl; intro g w' hS'; clear hS; have hS := hS'; clear hS') | (((with_reducible apply l_store hS tabOk (i := 0)); exact rfl; exact rfl; exact rfl; exact rfl; exact rfl; exact rfl; exact rfl; exact rfl; ((exact (rfl : _ = [_, _, _, _, _]))); intro w' hS'; simp only [List.set] at hS'; clear hS; have hS := hS'; clear hS'))) | (first | (with_reducible apply c_seq) | (with_reducible apply c_region) | (with_reducible apply l_nil) | (with_reducible apply q_then) | (with_reducible apply c_skip) | (with_reducible apply c_block) | (with_reducible apply c_ret) | (with_reducible apply q_then_ret) | (with_reducible apply q_block) | (with_reducible apply q_block_ret)) | (first | ((with_reducible apply c_ifd); exact rfl; all_goals (intro hb hp; try (exfalso; omega))) | ((with_reducible apply c_ifp); exact rfl; all_goals (intro hb hp; try (exfalso; omega)))) | ((with_reducible apply l_call); exact rfl; exact rfl; exact at_fn (x.at_ + b2) (hI.now hS) hok; exact rfl; rintro _ w' ⟨rfl, hS'⟩; replace hS := hS.transA hS'; simp only [appA] at hS; clear hS'))
          · (apply q_ret1); (repeat (first | exact ResL.nil | (apply ResL.tmp; exact rfl)))
            refine ⟨?_, hS.sub (List.nil_sublist _)⟩
            rw [no fun h => by have := (h.rels i x hx).2 b2 (by omega) (by omega); rw [this] at hb; cases hb]
          · refine q_count (b2 + 1) (by repeat (first | exact Fr.sub_nil _ | (apply Fr.sub_cons; exact rfl))) (by omega) (fun c h1 h2 => ?_) (by omega) hS.drop
            by_cases e : c = b2
            · subst e; exact isSome_not hb
            · exact hall2 c h1 (by omega)
        · repeat' (first | (first | ((with_reducible apply l_add); exact rfl; exact rfl; omega; omega; exact rfl) | ((with_reducible apply l_pure tabOk); exact rfl; exact rfl)) | (first | (with_reducible apply c_seq) | (with_reducible apply c_region) | (with_reducible apply l_nil) | (with_reducible apply q_then) | (with_reducible apply c_exit) | (with_reducible apply q_then_exit) | (with_reducible apply q_block) | (with_reducible apply q_block_exit)) | (((with_reducible apply c_ifd); exact rfl; all_goals (intro hb hp; try (exfalso; omega)))))
          exact q_count (i + 1) (by repeat (first | exact Fr.sub_nil _ | (apply Fr.sub_cons; exact rfl))) (by omega) (hall.succ hx (by omega) (fun c h1 h2 => hall2 c h1 (by omega)) hst) (by omega) hS.drop
  · have hall' : PlR I I.rels.length := by rw [show I.rels.length = i by omega]; exact hall
    cases ho : own I.segs I.entry with
    | none =>
      repeat' (first | (first | ((with_reducible apply l_pure tabOk); exact rfl; exact rfl) | ((with_reducible apply l_load); exact rfl; (first | ((with_reducible apply Loads.sc tabOk); exact rfl; ((exact hS.blkC 0 rfl rfl))) | ((with_reducible apply Loads.st tabOk); exact rfl; ((exact hS.blkR 0 rfl)); exact rfl)); exact rfl) | ((with_reducible apply l_alloc hS tabOk); exact rfl; exact rfl; exact rfl; intro g w' hS'; clear hS; have hS := hS'; clear hS') | (((with_reducible apply l_store hS tabOk (i := 0)); exact rfl; exact rfl; exact rfl; exact rfl; exact rfl; exact rfl; exact rfl; exact rfl; ((exact (rfl : _ = [_, _, _, _, _]))); intro w' hS'; simp only [List.set] at hS'; clear hS; have hS := hS'; clear hS')) | (first | ((with_reducible apply l_no); exact rfl; exact rfl; exact rfl; exact rfl; ((exact rfl)); exact rfl) | ((with_reducible apply l_pick1); exact rfl; ((exact rfl)); exact rfl; exact rfl))) | (first | (with_reducible apply c_seq) | (with_reducible apply c_region) | (with_reducible apply l_nil) | (with_reducible apply q_then) | (with_reducible apply c_exit) | (with_reducible apply c_ret) | (with_reducible apply q_then_exit) | (with_reducible apply q_then_ret) | (with_reducible apply q_block_exit)) | (first | ((with_reducible apply c_ift); exact rfl; (exact rfl)) | ((with_reducible apply c_ifd); exact rfl; all_goals (intro hb hp; try (exfalso; omega)))) | ((with_reducible apply l_call); exact rfl; exact rfl; exact at_eq ho (hI.now hS) hok; exact rfl; rintro _ w' ⟨rfl, hS'⟩; replace hS := hS.transA hS'; simp only [appA] at hS; clear hS'))
      (apply q_ret1); (repeat (first | exact ResL.nil | (apply ResL.tmp; exact rfl)))
      refine ⟨?_, hS.sub (List.nil_sublist _)⟩
      rw [no fun h => by obtain ⟨s, hs, _⟩ := h.entry; rw [ho] at hs; cases hs]
    | some s =>
      have hpos := own_pos hok ho
      repeat' (first | (first | ((with_reducible apply l_pure tabOk); exact rfl; exact rfl) | ((with_reducible apply l_load); exact rfl; (first | ((with_reducible apply Loads.sc tabOk); exact rfl; (first | exact hS.blkC 0 rfl rfl | exact hS.blkC 1 rfl rfl)) | ((with_reducible apply Loads.st tabOk); exact rfl; ((exact hS.blkR 0 rfl)); exact rfl)); exact rfl) | ((with_reducible apply l_alloc hS tabOk); exact rfl; exact rfl; exact rfl; intro g w' hS'; clear hS; have hS := hS'; clear hS') | (((with_reducible apply l_store hS tabOk (i := 0)); exact rfl; exact rfl; exact rfl; exact rfl; exact rfl; exact rfl; exact rfl; exact rfl; ((exact (rfl : _ = [_, _, _, _, _]))); intro w' hS'; simp only [List.set] at hS'; clear hS; have hS := hS'; clear hS')) | (first | ((with_reducible apply l_yes); exact rfl; exact rfl; exact rfl; exact rfl; first | exact rfl | assumption) | ((with_reducible apply l_no); exact rfl; exact rfl; exact rfl; exact rfl; ((assumption)); exact rfl) | ((with_reducible apply l_partp); exact rfl; exact rfl; exact rfl; all_goals (intro hb hp; try (exfalso; omega))) | ((with_reducible apply l_pick1); exact rfl; ((assumption)); exact rfl; exact rfl) | ((with_reducible apply l_pick2); exact rfl; (first | exact rfl | assumption); exact rfl; exact rfl))) | (first | (with_reducible apply c_seq) | (with_reducible apply c_region) | (with_reducible apply l_nil) | (with_reducible apply q_then) | (with_reducible apply c_skip) | (with_reducible apply c_exit) | (with_reducible apply c_ret) | (with_reducible apply q_then_exit) | (with_reducible apply q_then_ret) | (with_reducible apply q_block_exit)) | (first | ((with_reducible apply c_ift); exact rfl; (exact rfl)) | ((with_reducible apply c_ifd); exact rfl; all_goals (intro hb hp; try (exfalso; omega))) | ((with_reducible apply c_ifn); exact rfl; all_goals (intro hb hp; try (exfalso; omega)))) | ((with_reducible apply l_call); exact rfl; exact rfl; exact at_eq ho (hI.now hS) hok; exact rfl; rintro _ w' ⟨rfl, hS'⟩; replace hS := hS.transA hS'; simp only [appA] at hS; clear hS') | ((with_reducible apply l_remT); exact rfl; exact rfl; omega; exact rfl))
      · (apply q_ret1); (repeat (first | exact ResL.nil | (apply ResL.tmp; exact rfl)))
        refine ⟨?_, hS.sub (List.nil_sublist _)⟩
        rw [no fun h => by obtain ⟨s', hs, he⟩ := h.entry; rw [ho] at hs; cases hs; have hb' : (!s.ex) = true := hb; rw [he] at hb'; cases hb']
      · (apply q_ret1); (repeat (first | exact ResL.nil | (apply ResL.tmp; exact rfl)))
        refine ⟨?_, hS.sub (List.nil_sublist _)⟩
        rw [no fun h => hp h.by8]
      · (apply q_ret1); (repeat (first | exact ResL.nil | (apply ResL.tmp; exact rfl)))
        refine ⟨?_, hS.sub (List.nil_sublist _)⟩
        rw [if_pos]
        refine pB_true ⟨fun s hs => List.all_eq_true.1 hsy s hs, fun k r hr => hall'.rels k r (lt_of_getE hr) hr, fun k q r hq hr => hall'.step k q r (lt_of_getE hr) hq hr, ⟨s, ho, ?_⟩, hp⟩
        rename_i hb1 hp1
        have hb2 : (!s.ex) = false := hb1
        simpa using hb2
end Go.Proofs.Ytejnpppejalhfab
/- image.Check, and the reference's. -/
namespace Go.Proofs.Ytejnpppejalhfab
open Go.RowKit Go.Sort

theorem Fn.eqv {P : Program} {f : FuncId} {args : List Value} {x y : Value} {w : World} (e : x = y) (h : Fn P f args w (RBf x w)) : Fn P f args w (RBf y w) := e ▸ h
theorem ev_pos {p : Bool} {a b : Int} (h : p = true) : Value.int .i64 (if p = true then a else b) = .int .i64 a := by rw [if_pos h]
theorem ev_neg {p : Bool} {a b : Int} (h : p = false) : Value.int .i64 (if p = true then a else b) = .int .i64 b := by rw [if_neg (by rw [h]; simp)]
def ImD (I : Im) : Prop := ∀ s ∈ I.segs, (s.data.length : Int) ≤ 9223372036854775807
set_option maxRecDepth 100000 in
set_option maxHeartbeats 4000000 in
theorem Check_fn {I : Im} {w : World} {vn vs vy vr : Value} (hI : ImV w I vn vs vy vr) (hB : ImB I) (hD : ImD I) : Fn Try.prog 32 [imA I vn vs vy vr] w (RBf (.int .i64 (checkIm I)) w) := by
  refine fn_enter (fn := Try.f32) ⟨Try.func32, by kernel_rfl, by kernel_rfl⟩ (by exact rfl) Try.ntmps32 (by exact rfl) ?_
  have hS := St.start w
  repeat' (first | (first | ((with_reducible apply l_pure tabOk); exact rfl; exact rfl) | ((with_reducible apply l_box hS); exact rfl; exact rfl; exact rfl; intro g w' hS'; clear hS; have hS := hS'; clear hS') | ((with_reducible apply l_bslice hS tabOk); exact rfl; exact rfl; exact rfl; exact rfl; exact rfl; exact rfl; exact rfl; intro g w' hS'; clear hS; have hS := hS'; clear hS')) | (first | (with_reducible apply c_seq) | (with_reducible apply c_region) | (with_reducible apply l_nil) | (with_reducible apply q_then) | (with_reducible apply c_block)))
  refine c_rounds 6 ?_
  cases h1 : nmsB I
  · repeat' (first | (first | ((with_reducible apply l_pure tabOk); exact rfl; exact rfl) | ((with_reducible apply l_load); exact rfl; (((with_reducible apply Loads.st tabOk); exact rfl; ((exact hS.blkR 1 rfl)); exact rfl)); exact rfl) | ((with_reducible apply l_ix tabOk); exact rfl; exact rfl; exact rfl; ((exact rfl)); ((simp only [List.length_map, List.length_cons, List.length_nil, List.length_append]; omega)); exact rfl)) | (first | (with_reducible apply c_seq) | (with_reducible apply c_region) | (with_reducible apply l_nil) | (with_reducible apply q_then) | (with_reducible apply c_skip) | (with_reducible apply c_block) | (with_reducible apply c_ret) | (with_reducible apply q_then_ret) | (with_reducible apply q_block_ret)) | (((with_reducible apply c_ift); exact rfl; (exact rfl))) | (with_reducible apply wr_succ) | ((with_reducible apply l_load); exact rfl; ((with_reducible apply Loads.sc tabOk); exact rfl; (exact hS.rowC0 0 rfl rfl rfl)); exact rfl) | ((with_reducible apply l_call); exact rfl; exact rfl; exact Fn.eqv (ev_neg h1) (names_fn (hI.now hS) hB); exact rfl; rintro _ w' ⟨rfl, hS'⟩; replace hS := hS.transA hS'; simp only [appA] at hS; clear hS'))
    (apply q_ret1); (repeat (first | exact ResL.nil | (apply ResL.tmp; exact rfl)))
    exact ⟨by rw [checkIm, if_pos h1], hS.sub (List.nil_sublist _)⟩
  cases h2 : cntB I
  · repeat' (first | (first | ((with_reducible apply l_add); exact rfl; exact rfl; omega; omega; exact rfl) | ((with_reducible apply l_pure tabOk); exact rfl; exact rfl) | ((with_reducible apply l_load); exact rfl; (((with_reducible apply Loads.st tabOk); exact rfl; ((exact hS.blkR 1 rfl)); exact rfl)); exact rfl) | ((with_reducible apply l_ix tabOk); exact rfl; exact rfl; exact rfl; ((exact rfl)); ((simp only [List.length_map, List.length_cons, List.length_nil, List.length_append]; omega)); exact rfl)) | (first | (with_reducible apply c_seq) | (with_reducible apply c_region) | (with_reducible apply l_nil) | (with_reducible apply q_then) | (with_reducible apply c_skip) | (with_reducible apply c_block) | (with_reducible apply c_ret) | (with_reducible apply q_then_ret) | (with_reducible apply q_block) | (with_reducible apply q_block_ret)) | (first | ((with_reducible apply c_ift); exact rfl; (exact rfl)) | ((with_reducible apply c_iff); exact rfl; (exact rfl))) | with_reducible apply q_rounds | (with_reducible apply wr_succ) | ((with_reducible apply l_load); exact rfl; ((with_reducible apply Loads.sc tabOk); exact rfl; (exact hS.rowC0 0 rfl rfl rfl)); exact rfl) | ((with_reducible apply l_call); exact rfl; exact rfl; exact Fn.eqv (ev_pos h1) (names_fn (hI.now hS) hB); exact rfl; rintro _ w' ⟨rfl, hS'⟩; replace hS := hS.transA hS'; simp only [appA] at hS; clear hS') | ((with_reducible apply l_call); exact rfl; exact rfl; exact Fn.eqv (ev_neg h2) (counts_fn (hI.now hS)); exact rfl; rintro _ w' ⟨rfl, hS'⟩; replace hS := hS.transA hS'; simp only [appA] at hS; clear hS'))
    (apply q_ret1); (repeat (first | exact ResL.nil | (apply ResL.tmp; exact rfl)))
    exact ⟨by simp [checkIm, h1, h2], hS.sub (List.nil_sublist _)⟩
  cases h3 : sgsB I
  · repeat' (first | (first | ((with_reducible apply l_add); exact rfl; exact rfl; omega; omega; exact rfl) | ((with_reducible apply l_pure tabOk); exact rfl; exact rfl) | ((with_reducible apply l_load); exact rfl; (((with_reducible apply Loads.st tabOk); exact rfl; ((exact hS.blkR 1 rfl)); exact rfl)); exact rfl) | ((with_reducible apply l_ix tabOk); exact rfl; exact rfl; exact rfl; ((exact rfl)); ((simp only [List.length_map, List.length_cons, List.length_nil, List.length_append]; omega)); exact rfl)) | (first | (with_reducible apply c_seq) | (with_reducible apply c_region) | (with_reducible apply l_nil) | (with_reducible apply q_then) | (with_reducible apply c_skip) | (with_reducible apply c_block) | (with_reducible apply c_ret) | (with_reducible apply q_then_ret) | (with_reducible apply q_block) | (with_reducible apply q_block_ret)) | (first | ((with_reducible apply c_ift); exact rfl; (exact rfl)) | ((with_reducible apply c_iff); exact rfl; (exact rfl))) | with_reducible apply q_rounds | (with_reducible apply wr_succ) | ((with_reducible apply l_load); exact rfl; ((with_reducible apply Loads.sc tabOk); exact rfl; (exact hS.rowC0 0 rfl rfl rfl)); exact rfl) | ((with_reducible apply l_call); exact rfl; exact rfl; exact Fn.eqv (ev_pos h1) (names_fn (hI.now hS) hB); exact rfl; rintro _ w' ⟨rfl, hS'⟩; replace hS := hS.transA hS'; simp only [appA] at hS; clear hS') | ((with_reducible apply l_call); exact rfl; exact rfl; exact Fn.eqv (ev_pos h2) (counts_fn (hI.now hS)); exact rfl; rintro _ w' ⟨rfl, hS'⟩; replace hS := hS.transA hS'; simp only [appA] at hS; clear hS') | ((with_reducible apply l_call); exact rfl; exact rfl; exact Fn.eqv (ev_neg h3) (segments_fn (hI.now hS) hD); exact rfl; rintro _ w' ⟨rfl, hS'⟩; replace hS := hS.transA hS'; simp only [appA] at hS; clear hS'))
    (apply q_ret1); (repeat (first | exact ResL.nil | (apply ResL.tmp; exact rfl)))
    exact ⟨by simp [checkIm, h1, h2, h3], hS.sub (List.nil_sublist _)⟩
  cases h4 : aptB I
  · repeat' (first | (first | ((with_reducible apply l_add); exact rfl; exact rfl; omega; omega; exact rfl) | ((with_reducible apply l_pure tabOk); exact rfl; exact rfl) | ((with_reducible apply l_load); exact rfl; (((with_reducible apply Loads.st tabOk); exact rfl; ((exact hS.blkR 1 rfl)); exact rfl)); exact rfl) | ((with_reducible apply l_ix tabOk); exact rfl; exact rfl; exact rfl; ((exact rfl)); ((simp only [List.length_map, List.length_cons, List.length_nil, List.length_append]; omega)); exact rfl)) | (first | (with_reducible apply c_seq) | (with_reducible apply c_region) | (with_reducible apply l_nil) | (with_reducible apply q_then) | (with_reducible apply c_skip) | (with_reducible apply c_block) | (with_reducible apply c_ret) | (with_reducible apply q_then_ret) | (with_reducible apply q_block) | (with_reducible apply q_block_ret)) | (first | ((with_reducible apply c_ift); exact rfl; (exact rfl)) | ((with_reducible apply c_iff); exact rfl; (exact rfl))) | with_reducible apply q_rounds | (with_reducible apply wr_succ) | ((with_reducible apply l_load); exact rfl; ((with_reducible apply Loads.sc tabOk); exact rfl; (exact hS.rowC0 0 rfl rfl rfl)); exact rfl) | ((with_reducible apply l_call); exact rfl; exact rfl; exact Fn.eqv (ev_pos h1) (names_fn (hI.now hS) hB); exact rfl; rintro _ w' ⟨rfl, hS'⟩; replace hS := hS.transA hS'; simp only [appA] at hS; clear hS') | ((with_reducible apply l_call); exact rfl; exact rfl; exact Fn.eqv (ev_pos h2) (counts_fn (hI.now hS)); exact rfl; rintro _ w' ⟨rfl, hS'⟩; replace hS := hS.transA hS'; simp only [appA] at hS; clear hS') | ((with_reducible apply l_call); exact rfl; exact rfl; exact Fn.eqv (ev_pos h3) (segments_fn (hI.now hS) hD); exact rfl; rintro _ w' ⟨rfl, hS'⟩; replace hS := hS.transA hS'; simp only [appA] at hS; clear hS') | ((with_reducible apply l_call); exact rfl; exact rfl; exact Fn.eqv (ev_neg h4) (apart_fn (hI.now hS) hB h3); exact rfl; rintro _ w' ⟨rfl, hS'⟩; replace hS := hS.transA hS'; simp only [appA] at hS; clear hS'))
    (apply q_ret1); (repeat (first | exact ResL.nil | (apply ResL.tmp; exact rfl)))
    exact ⟨by simp [checkIm, h1, h2, h3, h4], hS.sub (List.nil_sublist _)⟩
  cases h5 : plcB I
  · repeat' (first | (first | ((with_reducible apply l_add); exact rfl; exact rfl; omega; omega; exact rfl) | ((with_reducible apply l_pure tabOk); exact rfl; exact rfl) | ((with_reducible apply l_load); exact rfl; (((with_reducible apply Loads.st tabOk); exact rfl; ((exact hS.blkR 1 rfl)); exact rfl)); exact rfl) | ((with_reducible apply l_ix tabOk); exact rfl; exact rfl; exact rfl; ((exact rfl)); ((simp only [List.length_map, List.length_cons, List.length_nil, List.length_append]; omega)); exact rfl)) | (first | (with_reducible apply c_seq) | (with_reducible apply c_region) | (with_reducible apply l_nil) | (with_reducible apply q_then) | (with_reducible apply c_skip) | (with_reducible apply c_block) | (with_reducible apply c_ret) | (with_reducible apply q_then_ret) | (with_reducible apply q_block) | (with_reducible apply q_block_ret)) | (first | ((with_reducible apply c_ift); exact rfl; (exact rfl)) | ((with_reducible apply c_iff); exact rfl; (exact rfl))) | with_reducible apply q_rounds | (with_reducible apply wr_succ) | ((with_reducible apply l_load); exact rfl; ((with_reducible apply Loads.sc tabOk); exact rfl; (exact hS.rowC0 0 rfl rfl rfl)); exact rfl) | ((with_reducible apply l_call); exact rfl; exact rfl; exact Fn.eqv (ev_pos h1) (names_fn (hI.now hS) hB); exact rfl; rintro _ w' ⟨rfl, hS'⟩; replace hS := hS.transA hS'; simp only [appA] at hS; clear hS') | ((with_reducible apply l_call); exact rfl; exact rfl; exact Fn.eqv (ev_pos h2) (counts_fn (hI.now hS)); exact rfl; rintro _ w' ⟨rfl, hS'⟩; replace hS := hS.transA hS'; simp only [appA] at hS; clear hS') | ((with_reducible apply l_call); exact rfl; exact rfl; exact Fn.eqv (ev_pos h3) (segments_fn (hI.now hS) hD); exact rfl; rintro _ w' ⟨rfl, hS'⟩; replace hS := hS.transA hS'; simp only [appA] at hS; clear hS') | ((with_reducible apply l_call); exact rfl; exact rfl; exact Fn.eqv (ev_pos h4) (apart_fn (hI.now hS) hB h3); exact rfl; rintro _ w' ⟨rfl, hS'⟩; replace hS := hS.transA hS'; simp only [appA] at hS; clear hS') | ((with_reducible apply l_call); exact rfl; exact rfl; exact Fn.eqv (ev_neg h5) (places_fn (hI.now hS) h3); exact rfl; rintro _ w' ⟨rfl, hS'⟩; replace hS := hS.transA hS'; simp only [appA] at hS; clear hS'))
    (apply q_ret1); (repeat (first | exact ResL.nil | (apply ResL.tmp; exact rfl)))
    exact ⟨by simp [checkIm, h1, h2, h3, h4, h5], hS.sub (List.nil_sublist _)⟩
  · repeat' (first | (first | ((with_reducible apply l_add); exact rfl; exact rfl; omega; omega; exact rfl) | ((with_reducible apply l_pure tabOk); exact rfl; exact rfl) | ((with_reducible apply l_load); exact rfl; (((with_reducible apply Loads.st tabOk); exact rfl; ((exact hS.blkR 1 rfl)); exact rfl)); exact rfl) | ((with_reducible apply l_ix tabOk); exact rfl; exact rfl; exact rfl; ((exact rfl)); ((simp only [List.length_map, List.length_cons, List.length_nil, List.length_append]; omega)); exact rfl)) | (first | (with_reducible apply c_seq) | (with_reducible apply c_region) | (with_reducible apply l_nil) | (with_reducible apply q_then) | (with_reducible apply c_skip) | (with_reducible apply c_block) | (with_reducible apply c_exit) | (with_reducible apply c_ret) | (with_reducible apply q_then_exit) | (with_reducible apply q_block) | (with_reducible apply q_block_exit)) | (first | ((with_reducible apply c_ift); exact rfl; (exact rfl)) | ((with_reducible apply c_iff); exact rfl; (exact rfl))) | with_reducible apply q_rounds | (with_reducible apply wr_succ) | ((with_reducible apply l_load); exact rfl; ((with_reducible apply Loads.sc tabOk); exact rfl; (exact hS.rowC0 0 rfl rfl rfl)); exact rfl) | ((with_reducible apply l_call); exact rfl; exact rfl; exact Fn.eqv (ev_pos h1) (names_fn (hI.now hS) hB); exact rfl; rintro _ w' ⟨rfl, hS'⟩; replace hS := hS.transA hS'; simp only [appA] at hS; clear hS') | ((with_reducible apply l_call); exact rfl; exact rfl; exact Fn.eqv (ev_pos h2) (counts_fn (hI.now hS)); exact rfl; rintro _ w' ⟨rfl, hS'⟩; replace hS := hS.transA hS'; simp only [appA] at hS; clear hS') | ((with_reducible apply l_call); exact rfl; exact rfl; exact Fn.eqv (ev_pos h3) (segments_fn (hI.now hS) hD); exact rfl; rintro _ w' ⟨rfl, hS'⟩; replace hS := hS.transA hS'; simp only [appA] at hS; clear hS') | ((with_reducible apply l_call); exact rfl; exact rfl; exact Fn.eqv (ev_pos h4) (apart_fn (hI.now hS) hB h3); exact rfl; rintro _ w' ⟨rfl, hS'⟩; replace hS := hS.transA hS'; simp only [appA] at hS; clear hS') | ((with_reducible apply l_call); exact rfl; exact rfl; exact Fn.eqv (ev_pos h5) (places_fn (hI.now hS) h3); exact rfl; rintro _ w' ⟨rfl, hS'⟩; replace hS := hS.transA hS'; simp only [appA] at hS; clear hS'))
    (apply q_ret1); (repeat (first | exact ResL.nil | (apply ResL.tmp; exact rfl)))
    exact ⟨by simp [checkIm, h1, h2, h3, h4, h5], hS.sub (List.nil_sublist _)⟩
end Go.Proofs.Ytejnpppejalhfab
/- An image: the reference's places, and its check. -/
namespace Go.Proofs.Ytejnpppejalhfab
open Go.RowKit Go.Sort

theorem own_neg {l : List Sg} {x : Int} (h : ownI l x < 0) : own l x = none := by
  rcases ownI_own l x with ⟨_, h2⟩ | ⟨i, s, h1, _⟩
  · exact h2
  · omega
theorem own_ge {l : List Sg} {x : Int} (h : ¬ ownI l x < 0) : (own l x).isSome = true := by
  rcases ownI_own l x with ⟨h1, _⟩ | ⟨i, s, _, _, h2⟩
  · exact (h h1).elim
  · rw [h2]; rfl
set_option maxRecDepth 100000 in
set_option maxHeartbeats 4000000 in
theorem placesFine_fn {I : Im} {w : World} {vn vs vy vr : Value} (hI : ImV w I vn vs vy vr) (hok : sgsB I = true) : Fn Try.prog 104 [imA I vn vs vy vr] w (RBf (.bool (plcB I)) w) := by
  have bn := hI.needs.bound; have bs := hI.segs.bound; have by_ := hI.syms.bound; have br := hI.rels.bound; obtain ⟨pn, cn, rfl⟩ := hI.needs.len; obtain ⟨ps, cs, rfl⟩ := hI.segs.len; obtain ⟨py, cy, rfl⟩ := hI.syms.len; obtain ⟨pr, cr, rfl⟩ := hI.rels.len
  refine fn_enter (fn := Try.f104) ⟨Try.func104, by kernel_rfl, by kernel_rfl⟩ (by exact rfl) Try.ntmps104 (by exact rfl) ?_
  have hS := St.start w
  have no : ¬ Plc I → plcB I = false := fun h => pB_false h
  repeat' (first | (first | ((with_reducible apply l_pure tabOk); exact rfl; exact rfl) | ((with_reducible apply l_box hS); exact rfl; exact rfl; exact rfl; intro g w' hS'; clear hS; have hS := hS'; clear hS')) | (first | (with_reducible apply c_seq) | (with_reducible apply c_region) | (with_reducible apply l_nil) | (with_reducible apply q_then) | (with_reducible apply c_block)))
  refine c_count hS 3 [1] rfl (I.syms.length) (fun i => (I.syms.take i).all (fun s => (own I.segs s.at_).isSome) = true) 0 rfl (Nat.zero_le _) (by (rfl)) ?_
  rintro i w1 hi hall hS'
  clear hS; have hS := hS'; clear hS'
  by_cases hlt : i < I.syms.length
  · obtain ⟨x, hx⟩ := lt_get (l := I.syms) (i := i) (by omega)
    have hrow := map_get (f := syC) hx
    obtain ⟨b, off, rfl, hro⟩ := (hI.syms).at_ hlt
    repeat' (first | (first | ((with_reducible apply l_add); exact rfl; exact rfl; omega; omega; exact rfl) | ((with_reducible apply l_pure tabOk); exact rfl; exact rfl) | ((with_reducible apply l_load); exact rfl; (((with_reducible apply Loads.sl tabOk); exact rfl; ((exact hS.blkC 0 rfl rfl)))); exact rfl)) | (first | (with_reducible apply c_seq) | (with_reducible apply c_region) | (with_reducible apply l_nil) | (with_reducible apply q_then) | (with_reducible apply c_skip) | (with_reducible apply c_block) | (with_reducible apply c_ret) | (with_reducible apply q_then_ret) | (with_reducible apply q_block) | (with_reducible apply q_block_ret)) | (((with_reducible apply c_ifd); exact rfl; all_goals (intro hb hp; try (exfalso; omega)))) | (focus ((with_reducible apply c_drawAll nF _ _ (by kernel_rfl) (by kernel_rfl) hS); (repeat' (first | (first | ((with_reducible apply d_pure tabOk); exact rfl; exact rfl) | ((with_reducible apply d_load); exact rfl; (intro wd hd; replace hd : St _ _ wd _ := hd; (first | ((with_reducible apply Loads.sc tabOk); exact rfl; ((exact hd.roC (by assumption) (by assumption) rfl))) | ((with_reducible apply Loads.sl tabOk); exact rfl; ((exact hd.blkC 0 rfl rfl))) | ((with_reducible apply Loads.st tabOk); exact rfl; ((exact hd.blkR 0 rfl)); exact rfl))); exact rfl) | ((with_reducible apply d_ix tabOk); exact rfl; exact rfl; exact rfl; ((exact rfl)); ((omega)); exact rfl)) | ((with_reducible apply d_call); exact rfl; exact rfl; (intro wd hd; replace hd : St _ _ wd _ := hd; exact owner_fn _ (hI.now hd) hok); exact rfl))); all_goals ((with_reducible apply d_nil); intro w' hS'; clear hS; have hS := hS'; clear hS'))))
    · (apply q_ret1); (repeat (first | exact ResL.nil | (apply ResL.tmp; exact rfl)))
      refine ⟨?_, hS.sub (List.nil_sublist _)⟩
      rw [no fun h => by have := h.syms x (List.mem_of_getElem? hx); rw [own_neg hp] at this; cases this]
    · exact q_count (i + 1) (by repeat (first | exact Fr.sub_nil _ | (apply Fr.sub_cons; exact rfl))) (by omega) (all_take_succ hall hx (own_ge hp)) (by omega) hS
  have hsy := all_take_all hall (by omega)
  repeat' (first | (first | ((with_reducible apply l_pure tabOk); exact rfl; exact rfl) | ((with_reducible apply l_load); exact rfl; (((with_reducible apply Loads.sl tabOk); exact rfl; ((exact hS.blkC 0 rfl rfl)))); exact rfl)) | (first | (with_reducible apply c_seq) | (with_reducible apply c_region) | (with_reducible apply l_nil) | (with_reducible apply q_then) | (with_reducible apply c_block) | (with_reducible apply c_exit) | (with_reducible apply q_then_exit) | (with_reducible apply q_block_exit)) | (((with_reducible apply c_ifd); exact rfl; all_goals (intro hb hp; try (exfalso; omega)))))
  clear hall hi hlt hb hp
  refine c_count hS 4 [1] rfl I.rels.length (fun i => PlR I i) 0 rfl (Nat.zero_le _) (PlR.zero I) ?_
  rintro i w1 hi hall hS'
  clear hS; have hS := hS'; clear hS'
  by_cases hlt : i < I.rels.length
  · obtain ⟨x, hx⟩ := lt_get (l := I.rels) (i := i) (by omega)
    have hrow := map_get (f := rlC) hx
    obtain ⟨b, off, rfl, hro⟩ := (hI.rels).at_ hlt
    by_cases hin : 0 ≤ x.at_ ∧ x.at_ ≤ 4080
    · have hin' : (!decide (0 ≤ x.at_ ∧ x.at_ ≤ 4080)) = false := by rw [decide_eq_true hin]; rfl
      obtain ⟨in1, in2⟩ := hin
      by_cases hk0 : i = 0
      · repeat' (first | (first | ((with_reducible apply l_pure tabOk); exact rfl; exact rfl) | ((with_reducible apply l_load); exact rfl; (first | ((with_reducible apply Loads.sc tabOk); exact rfl; ((exact hS.roC0 (by assumption) (by assumption) rfl))) | ((with_reducible apply Loads.sl tabOk); exact rfl; ((exact hS.blkC 0 rfl rfl)))); exact rfl) | ((with_reducible apply l_ix tabOk); exact rfl; exact rfl; exact rfl; ((exact rfl)); ((omega)); exact rfl) | (first | ((with_reducible apply l_yes); exact rfl; exact rfl; exact rfl; exact rfl; (assumption)) | ((with_reducible apply l_no); exact rfl; exact rfl; exact rfl; exact rfl; ((assumption)); exact rfl) | ((with_reducible apply l_partd); exact rfl; exact rfl; exact rfl; all_goals (intro hb hp; try (exfalso; omega))) | ((with_reducible apply l_pick2); exact rfl; ((assumption)); exact rfl; exact rfl))) | (first | (with_reducible apply c_seq) | (with_reducible apply c_region) | (with_reducible apply l_nil) | (with_reducible apply q_then) | (with_reducible apply c_skip) | (with_reducible apply c_block)) | (first | ((with_reducible apply c_iff); exact rfl; (exact rfl)) | ((with_reducible apply c_ifd); exact rfl; all_goals (intro hb hp; try (exfalso; omega)))) | ((with_reducible apply l_call); exact rfl; exact rfl; exact within_fn _ _ _ _; exact rfl; rintro _ w' ⟨rfl, hS'⟩; replace hS := hS.transA hS'; simp only [appA] at hS; clear hS'))
        have hst : ∀ q, 0 < i → I.rels[i - 1]? = some q → q.at_ + 8 ≤ x.at_ := fun q h => by omega
        refine c_count hS 6 [1, 4, 5] rfl 8 (fun b => ∀ c : Int, 0 ≤ c → c < b → (own I.segs (x.at_ + c)).isSome = true) 0 rfl (by omega) (by intros; omega) ?_
        rintro b2 w1 hi2 hall2 hS'
        clear hS; have hS := hS'; clear hS'
        by_cases hlt2 : b2 < 8
        · repeat' (first | (first | ((with_reducible apply l_add); exact rfl; exact rfl; omega; omega; exact rfl) | ((with_reducible apply l_pure tabOk); exact rfl; exact rfl) | ((with_reducible apply l_load); exact rfl; (((with_reducible apply Loads.st tabOk); exact rfl; ((exact hS.blkR 0 rfl)); exact rfl)); exact rfl)) | (first | (with_reducible apply c_seq) | (with_reducible apply c_region) | (with_reducible apply l_nil) | (with_reducible apply q_then) | (with_reducible apply c_skip) | (with_reducible apply c_block) | (with_reducible apply c_ret) | (with_reducible apply q_then_ret) | (with_reducible apply q_block) | (with_reducible apply q_block_ret)) | (((with_reducible apply c_ifd); exact rfl; all_goals (intro hb hp; try (exfalso; omega)))) | ((with_reducible apply l_call); exact rfl; exact rfl; exact owner_fn (x.at_ + b2) (hI.now hS) hok; exact rfl; rintro _ w' ⟨rfl, hS'⟩; replace hS := hS.transA hS'; simp only [appA] at hS; clear hS'))
          · (apply q_ret1); (repeat (first | exact ResL.nil | (apply ResL.tmp; exact rfl)))
            refine ⟨?_, hS.sub (List.nil_sublist _)⟩
            rw [no fun h => by have := (h.rels i x hx).2 b2 (by omega) (by omega); rw [own_neg hp] at this; cases this]
          · refine q_count (b2 + 1) (by repeat (first | exact Fr.sub_nil _ | (apply Fr.sub_cons; exact rfl))) (by omega) (fun c h1 h2 => ?_) (by omega) hS
            by_cases e : c = b2
            · subst e; exact own_ge hp
            · exact hall2 c h1 (by omega)
        · repeat' (first | (first | ((with_reducible apply l_add); exact rfl; exact rfl; omega; omega; exact rfl) | ((with_reducible apply l_pure tabOk); exact rfl; exact rfl)) | (first | (with_reducible apply c_seq) | (with_reducible apply c_region) | (with_reducible apply l_nil) | (with_reducible apply q_then) | (with_reducible apply c_exit) | (with_reducible apply q_then_exit) | (with_reducible apply q_block) | (with_reducible apply q_block_exit)) | (((with_reducible apply c_ifd); exact rfl; all_goals (intro hb hp; try (exfalso; omega)))))
          exact q_count (i + 1) (by repeat (first | exact Fr.sub_nil _ | (apply Fr.sub_cons; exact rfl))) (by omega) (hall.succ hx (by omega) (fun c h1 h2 => hall2 c h1 (by omega)) hst) (by omega) hS
      · obtain ⟨y, hy⟩ := lt_get (l := I.rels) (i := i - 1) (by omega)
        have hrow2 := map_get (f := rlC) hy
        have hix : ((i - 1 : Nat) : Int) = (i : Int) - 1 := by omega
        repeat' (first | (first | ((with_reducible apply l_sub); exact rfl; exact rfl; omega; omega; exact rfl) | ((with_reducible apply l_pure tabOk); exact rfl; exact rfl) | ((with_reducible apply l_load); exact rfl; (first | ((with_reducible apply Loads.sc tabOk); exact rfl; ((exact hS.roC0 (by assumption) (by assumption) rfl))) | ((with_reducible apply Loads.sl tabOk); exact rfl; ((exact hS.blkC 0 rfl rfl)))); exact rfl) | ((with_reducible apply l_ix tabOk); exact rfl; exact rfl; exact rfl; (first | exact rfl | assumption); ((omega)); exact rfl) | (first | ((with_reducible apply l_yes); exact rfl; exact rfl; exact rfl; exact rfl; (assumption)) | ((with_reducible apply l_partd); exact rfl; exact rfl; exact rfl; all_goals (intro hb hp; try (exfalso; omega))) | ((with_reducible apply l_pick1); exact rfl; ((assumption)); exact rfl; exact rfl) | ((with_reducible apply l_pick2); exact rfl; ((assumption)); exact rfl; exact rfl))) | (first | (with_reducible apply c_seq) | (with_reducible apply c_region) | (with_reducible apply l_nil) | (with_reducible apply q_then) | (with_reducible apply c_skip) | (with_reducible apply c_block) | (with_reducible apply c_ret) | (with_reducible apply q_then_ret) | (with_reducible apply q_block_ret)) | (((with_reducible apply c_ifd); exact rfl; all_goals (intro hb hp; try (exfalso; omega)))) | ((with_reducible apply l_call); exact rfl; exact rfl; exact within_fn _ _ _ _; exact rfl; rintro _ w' ⟨rfl, hS'⟩; replace hS := hS.transA hS'; simp only [appA] at hS; clear hS'))
        · (apply q_ret1); (repeat (first | exact ResL.nil | (apply ResL.tmp; exact rfl)))
          refine ⟨?_, hS.sub (List.nil_sublist _)⟩
          rw [no fun h => by have := h.step (i - 1) y x hy (by rw [show i - 1 + 1 = i by omega]; exact hx); omega]
        · have hst : ∀ q, 0 < i → I.rels[i - 1]? = some q → q.at_ + 8 ≤ x.at_ := fun q _ h => by rw [hy] at h; cases h; omega
          refine c_count hS 6 [1, 4, 5] rfl 8 (fun b => ∀ c : Int, 0 ≤ c → c < b → (own I.segs (x.at_ + c)).isSome = true) 0 rfl (by omega) (by intros; omega) ?_
          rintro b2 w1 hi2 hall2 hS'
          clear hS; have hS := hS'; clear hS'
          by_cases hlt2 : b2 < 8
          · repeat' (first | (first | ((with_reducible apply l_add); exact rfl; exact rfl; omega; omega; exact rfl) | ((with_reducible apply l_pure tabOk); exact rfl; exact rfl) | ((with_reducible apply l_load); exact rfl; (((with_reducible apply Loads.st tabOk); exact rfl; ((exact hS.blkR 0 rfl)); exact rfl)); exact rfl)) | (first | (with_reducible apply c_seq) | (with_reducible apply c_region) | (with_reducible apply l_nil) | (with_reducible apply q_then) | (with_reducible apply c_skip) | (with_reducible apply c_block) | (with_reducible apply c_ret) | (with_reducible apply q_then_ret) | (with_reducible apply q_block) | (with_reducible apply q_block_ret)) | (((with_reducible apply c_ifd); exact rfl; all_goals (intro hb hp; try (exfalso; omega)))) | ((with_reducible apply l_call); exact rfl; exact rfl; exact owner_fn (x.at_ + b2) (hI.now hS) hok; exact rfl; rintro _ w' ⟨rfl, hS'⟩; replace hS := hS.transA hS'; simp only [appA] at hS; clear hS'))
            · (apply q_ret1); (repeat (first | exact ResL.nil | (apply ResL.tmp; exact rfl)))
              refine ⟨?_, hS.sub (List.nil_sublist _)⟩
              rw [no fun h => by have := (h.rels i x hx).2 b2 (by omega) (by omega); rw [own_neg hp] at this; cases this]
            · refine q_count (b2 + 1) (by repeat (first | exact Fr.sub_nil _ | (apply Fr.sub_cons; exact rfl))) (by omega) (fun c h1 h2 => ?_) (by omega) hS
              by_cases e : c = b2
              · subst e; exact own_ge hp
              · exact hall2 c h1 (by omega)
          · repeat' (first | (first | ((with_reducible apply l_add); exact rfl; exact rfl; omega; omega; exact rfl) | ((with_reducible apply l_pure tabOk); exact rfl; exact rfl)) | (first | (with_reducible apply c_seq) | (with_reducible apply c_region) | (with_reducible apply l_nil) | (with_reducible apply q_then) | (with_reducible apply c_exit) | (with_reducible apply q_then_exit) | (with_reducible apply q_block) | (with_reducible apply q_block_exit)) | (((with_reducible apply c_ifd); exact rfl; all_goals (intro hb hp; try (exfalso; omega)))))
            exact q_count (i + 1) (by repeat (first | exact Fr.sub_nil _ | (apply Fr.sub_cons; exact rfl))) (by omega) (hall.succ hx (by omega) (fun c h1 h2 => hall2 c h1 (by omega)) hst) (by omega) hS
    · have hin' : (!decide (0 ≤ x.at_ ∧ x.at_ ≤ 4080)) = true := by rw [decide_eq_false hin]; rfl
      repeat' (first | (first | ((with_reducible apply l_pure tabOk); exact rfl; exact rfl) | ((with_reducible apply l_load); exact rfl; (first | ((with_reducible apply Loads.sc tabOk); exact rfl; ((exact hS.roC0 (by assumption) (by assumption) rfl))) | ((with_reducible apply Loads.sl tabOk); exact rfl; ((exact hS.blkC 0 rfl rfl)))); exact rfl) | ((with_reducible apply l_ix tabOk); exact rfl; exact rfl; exact rfl; ((exact rfl)); ((omega)); exact rfl) | (first | ((with_reducible apply l_no); exact rfl; exact rfl; exact rfl; exact rfl; ((assumption)); exact rfl) | ((with_reducible apply l_undef); exact rfl; exact rfl; exact rfl; exact rfl; exact rfl) | ((with_reducible apply l_pick1); exact rfl; ((assumption)); exact rfl; exact rfl))) | (first | (with_reducible apply c_seq) | (with_reducible apply c_region) | (with_reducible apply l_nil) | (with_reducible apply q_then) | (with_reducible apply c_skip) | (with_reducible apply c_block) | (with_reducible apply c_ret) | (with_reducible apply q_then_ret) | (with_reducible apply q_block_ret)) | (first | ((with_reducible apply c_ift); exact rfl; (exact rfl)) | ((with_reducible apply c_ifd); exact rfl; all_goals (intro hb hp; try (exfalso; omega)))) | ((with_reducible apply l_call); exact rfl; exact rfl; exact within_fn _ _ _ _; exact rfl; rintro _ w' ⟨rfl, hS'⟩; replace hS := hS.transA hS'; simp only [appA] at hS; clear hS'))
      (apply q_ret1); (repeat (first | exact ResL.nil | (apply ResL.tmp; exact rfl)))
      refine ⟨?_, hS.sub (List.nil_sublist _)⟩
      rw [no fun h => hin (h.rels i x hx).1]
  · have hall' : PlR I I.rels.length := by rw [show I.rels.length = i by omega]; exact hall
    rcases ownI_own I.segs I.entry with ⟨ho, hn⟩ | ⟨k, s, ho, hs, hf⟩
    · have nope : plcB I = false := no fun h => by obtain ⟨s, hs, _⟩ := h.entry; rw [hn] at hs; cases hs
      rw [nope]
      repeat' (first | (first | ((with_reducible apply l_pure tabOk); exact rfl; exact rfl) | ((with_reducible apply l_load); exact rfl; (first | ((with_reducible apply Loads.sc tabOk); exact rfl; ((exact hS.blkC 0 rfl rfl))) | ((with_reducible apply Loads.sl tabOk); exact rfl; ((exact hS.blkC 0 rfl rfl))) | ((with_reducible apply Loads.st tabOk); exact rfl; ((exact hS.blkR 0 rfl)); exact rfl)); exact rfl) | (first | ((with_reducible apply l_yes); exact rfl; exact rfl; exact rfl; exact rfl; (assumption)) | ((with_reducible apply l_no); exact rfl; exact rfl; exact rfl; exact rfl; (first | exact rfl | assumption); exact rfl) | ((with_reducible apply l_partd); exact rfl; exact rfl; exact rfl; all_goals (intro hb hp; try (exfalso; omega))) | ((with_reducible apply l_pick1); exact rfl; ((assumption)); exact rfl; exact rfl) | ((with_reducible apply l_pick2); exact rfl; (first | exact rfl | assumption); exact rfl; exact rfl))) | (first | (with_reducible apply c_seq) | (with_reducible apply c_region) | (with_reducible apply l_nil) | (with_reducible apply q_then) | (with_reducible apply c_exit) | (with_reducible apply c_ret) | (with_reducible apply q_then_exit) | (with_reducible apply q_block_exit)) | (((with_reducible apply c_ifd); exact rfl; all_goals (intro hb hp; try (exfalso; omega)))) | ((with_reducible apply l_call); exact rfl; exact rfl; exact owner_fn I.entry (hI.now hS) hok; exact rfl; rintro _ w' ⟨rfl, hS'⟩; replace hS := hS.transA hS'; simp only [appA] at hS; clear hS') | ((with_reducible apply l_remT); exact rfl; exact rfl; omega; exact rfl))
      all_goals (apply q_ret1); (repeat (first | exact ResL.nil | (apply ResL.tmp; exact rfl)))
      all_goals exact ⟨rfl, hS.sub (List.nil_sublist _)⟩
    · have hrow := map_get (f := sgC) hs
      have hlt3 := lt_of_getE hs
      obtain ⟨b, off, rfl, hro⟩ := hI.segs.at_ hlt3
      repeat' (first | (first | ((with_reducible apply l_pure tabOk); exact rfl; exact rfl) | ((with_reducible apply l_load); exact rfl; (first | ((with_reducible apply Loads.sc tabOk); exact rfl; (first | exact hS.blkC 0 rfl rfl | exact hS.roC (by assumption) (by assumption) rfl)) | ((with_reducible apply Loads.sl tabOk); exact rfl; ((exact hS.blkC 0 rfl rfl))) | ((with_reducible apply Loads.st tabOk); exact rfl; ((exact hS.blkR 0 rfl)); exact rfl)); exact rfl) | ((with_reducible apply l_ix tabOk); exact rfl; exact rfl; exact rfl; ((exact rfl)); ((omega)); exact rfl) | (first | ((with_reducible apply l_yes); exact rfl; exact rfl; exact rfl; exact rfl; first | exact rfl | assumption) | ((with_reducible apply l_no); exact rfl; exact rfl; exact rfl; exact rfl; (first | exact rfl | assumption); exact rfl) | ((with_reducible apply l_partd); exact rfl; exact rfl; exact rfl; all_goals (intro hb hp; try (exfalso; omega))) | ((with_reducible apply l_pick1); exact rfl; (first | exact rfl | assumption); exact rfl; exact rfl) | ((with_reducible apply l_pick2); exact rfl; (first | exact rfl | assumption); exact rfl; exact rfl))) | (first | (with_reducible apply c_seq) | (with_reducible apply c_region) | (with_reducible apply l_nil) | (with_reducible apply q_then) | (with_reducible apply c_exit) | (with_reducible apply c_ret) | (with_reducible apply q_then_exit) | (with_reducible apply q_block_exit)) | (((with_reducible apply c_ifd); exact rfl; all_goals (intro hb hp; try (exfalso; omega)))) | ((with_reducible apply l_call); exact rfl; exact rfl; exact Fn.eqv (congrArg (Value.int .i64) ho) (owner_fn I.entry (hI.now hS) hok); exact rfl; rintro _ w' ⟨rfl, hS'⟩; replace hS := hS.transA hS'; simp only [appA] at hS; clear hS') | ((with_reducible apply l_remT); exact rfl; exact rfl; omega; exact rfl))
      · (apply q_ret1); (repeat (first | exact ResL.nil | (apply ResL.tmp; exact rfl)))
        refine ⟨?_, hS.sub (List.nil_sublist _)⟩
        cases he : s.ex with
        | false => rw [no fun h => by obtain ⟨s', hs', he'⟩ := h.entry; rw [hf] at hs'; cases hs'; rw [he] at he'; cases he']
        | true => rw [show plcB I = true from pB_true ⟨fun s hs => List.all_eq_true.1 hsy s hs, fun k r hr => hall'.rels k r (lt_of_getE hr) hr, fun k q r hq hr => hall'.step k q r (lt_of_getE hr) hq hr, ⟨s, hf, he⟩, hp⟩]
      · (apply q_ret1); (repeat (first | exact ResL.nil | (apply ResL.tmp; exact rfl)))
        refine ⟨?_, hS.sub (List.nil_sublist _)⟩
        rw [no fun h => hp h.by8]
end Go.Proofs.Ytejnpppejalhfab
/- The reference's check of an image. -/
namespace Go.Proofs.Ytejnpppejalhfab
open Go.RowKit Go.Sort

theorem eb (b : Bool) {c : Bool} (h : b = c) : Value.bool b = .bool c := by rw [h]
theorem nb {b c : Bool} (h : b = c) : (!b) = !c := by rw [h]
set_option maxRecDepth 100000 in
set_option maxHeartbeats 4000000 in
theorem CheckImage_fn {I : Im} {w : World} {vn vs vy vr : Value} (hI : ImV w I vn vs vy vr) (hB : ImB I) (hD : ImD I) : Fn Try.prog 49 [imA I vn vs vy vr] w (RBf (.int .i64 (checkIm I)) w) := by
  have bn := hI.needs.bound; have bs := hI.segs.bound; have by_ := hI.syms.bound; have br := hI.rels.bound; obtain ⟨pn, cn, rfl⟩ := hI.needs.len; obtain ⟨ps, cs, rfl⟩ := hI.segs.len; obtain ⟨py, cy, rfl⟩ := hI.syms.len; obtain ⟨pr, cr, rfl⟩ := hI.rels.len
  refine fn_enter (fn := Try.f49) ⟨Try.func49, by kernel_rfl, by kernel_rfl⟩ (by exact rfl) Try.ntmps49 (by exact rfl) ?_
  have hS := St.start w
  have hb2 := hB.syms
  cases h1 : nmsB I
  · repeat' (first | (first | ((with_reducible apply l_pure tabOk); exact rfl; exact rfl) | ((with_reducible apply l_load); exact rfl; (((with_reducible apply Loads.st tabOk); exact rfl; ((exact hS.blkR 0 rfl)); exact rfl)); exact rfl) | ((with_reducible apply l_box hS); exact rfl; exact rfl; exact rfl; intro g w' hS'; clear hS; have hS := hS'; clear hS')) | (first | (with_reducible apply c_seq) | (with_reducible apply c_region) | (with_reducible apply l_nil) | (with_reducible apply q_then) | (with_reducible apply c_ret) | (with_reducible apply q_then_ret)) | (((with_reducible apply c_ift); exact rfl; (exact rfl))) | ((with_reducible apply l_call); exact rfl; exact rfl; exact Fn.eqv (eb _ h1) (namesFine_fn (hI.now hS)); exact rfl; rintro _ w' ⟨rfl, hS'⟩; replace hS := hS.transA hS'; simp only [appA] at hS; clear hS'))
    (apply q_ret1); (repeat (first | exact ResL.nil | (apply ResL.tmp; exact rfl)))
    exact ⟨by rw [checkIm, if_pos h1], hS.sub (List.nil_sublist _)⟩
  by_cases hc : 1 ≤ (I.segs.length : Int) ∧ (I.segs.length : Int) ≤ 6 ∧ (I.needs.length : Int) ≤ 4 ∧ (I.syms.length : Int) ≤ 12 ∧ (I.rels.length : Int) ≤ 16
  rotate_left
  · have h2 : cntB I = false := by unfold cntB; rw [decide_eq_false_iff_not]; exact hc
    repeat' (first | (first | ((with_reducible apply l_pure tabOk); exact rfl; exact rfl) | ((with_reducible apply l_load); exact rfl; (first | ((with_reducible apply Loads.sl tabOk); exact rfl; ((exact hS.blkC 0 rfl rfl))) | ((with_reducible apply Loads.st tabOk); exact rfl; ((exact hS.blkR 0 rfl)); exact rfl)); exact rfl) | ((with_reducible apply l_box hS); exact rfl; exact rfl; exact rfl; intro g w' hS'; clear hS; have hS := hS'; clear hS') | (first | ((with_reducible apply l_yes); exact rfl; exact rfl; exact rfl; exact rfl; (assumption)) | ((with_reducible apply l_no); exact rfl; exact rfl; exact rfl; exact rfl; (first | exact rfl | assumption); exact rfl) | ((with_reducible apply l_partd); exact rfl; exact rfl; exact rfl; all_goals (intro hb hp; try (exfalso; omega))) | ((with_reducible apply l_partn); exact rfl; exact rfl; exact rfl; all_goals (intro hb hp; try (exfalso; omega))) | ((with_reducible apply l_pick1); exact rfl; (first | exact rfl | assumption); exact rfl; exact rfl) | ((with_reducible apply l_pick2); exact rfl; ((assumption)); exact rfl; exact rfl))) | (first | (with_reducible apply c_seq) | (with_reducible apply c_region) | (with_reducible apply l_nil) | (with_reducible apply q_then) | (with_reducible apply c_skip) | (with_reducible apply c_ret) | (with_reducible apply q_then_ret)) | (first | ((with_reducible apply c_ift); exact rfl; (exact rfl)) | ((with_reducible apply c_iff); exact rfl; (exact rfl)) | ((with_reducible apply c_ifd); exact rfl; all_goals (intro hb hp; try (exfalso; omega)))) | ((with_reducible apply l_call); exact rfl; exact rfl; exact Fn.eqv (eb _ h1) (namesFine_fn (hI.now hS)); exact rfl; rintro _ w' ⟨rfl, hS'⟩; replace hS := hS.transA hS'; simp only [appA] at hS; clear hS') | ((with_reducible apply l_call); exact rfl; exact rfl; exact within_fn _ _ _ _; exact rfl; rintro _ w' ⟨rfl, hS'⟩; replace hS := hS.transA hS'; simp only [appA] at hS; clear hS'))
    all_goals (apply q_ret1); (repeat (first | exact ResL.nil | (apply ResL.tmp; exact rfl)))
    all_goals exact ⟨by simp [checkIm, h1, h2], hS.sub (List.nil_sublist _)⟩
  have h2 : cntB I = true := by unfold cntB; rw [decide_eq_true_eq]; exact hc
  obtain ⟨c1, c2, c3, c4, c5⟩ := hc
  have c0 : (!decide (1 ≤ (I.segs.length : Int) ∧ (I.segs.length : Int) ≤ 6)) = false := by rw [decide_eq_true ⟨c1, c2⟩]; rfl
  have b3 : sgsB I = false → checkIm I = 3 := fun h => by simp [checkIm, h1, h2, h]
  repeat' (first | (first | ((with_reducible apply l_pure tabOk); exact rfl; exact rfl) | ((with_reducible apply l_load); exact rfl; (first | ((with_reducible apply Loads.sl tabOk); exact rfl; ((exact hS.blkC 0 rfl rfl))) | ((with_reducible apply Loads.st tabOk); exact rfl; ((exact hS.blkR 0 rfl)); exact rfl)); exact rfl) | ((with_reducible apply l_box hS); exact rfl; exact rfl; exact rfl; intro g w' hS'; clear hS; have hS := hS'; clear hS') | (first | ((with_reducible apply l_yes); exact rfl; exact rfl; exact rfl; exact rfl; (assumption)) | ((with_reducible apply l_partd); exact rfl; exact rfl; exact rfl; all_goals (intro hb hp; try (exfalso; omega))) | ((with_reducible apply l_pick2); exact rfl; ((assumption)); exact rfl; exact rfl))) | (first | (with_reducible apply c_seq) | (with_reducible apply c_region) | (with_reducible apply l_nil) | (with_reducible apply q_then) | (with_reducible apply c_skip) | (with_reducible apply c_block)) | (first | ((with_reducible apply c_iff); exact rfl; (exact rfl)) | ((with_reducible apply c_ifd); exact rfl; all_goals (intro hb hp; try (exfalso; omega)))) | ((with_reducible apply l_call); exact rfl; exact rfl; exact Fn.eqv (eb _ h1) (namesFine_fn (hI.now hS)); exact rfl; rintro _ w' ⟨rfl, hS'⟩; replace hS := hS.transA hS'; simp only [appA] at hS; clear hS') | ((with_reducible apply l_call); exact rfl; exact rfl; exact within_fn _ _ _ _; exact rfl; rintro _ w' ⟨rfl, hS'⟩; replace hS := hS.transA hS'; simp only [appA] at hS; clear hS'))
  refine c_count hS 3 [1] rfl (I.segs.length) (fun i => (I.segs.take i).all sgOk = true) 0 rfl (Nat.zero_le _) (by (rfl)) ?_
  rintro i w1 hi hall hS'
  clear hS; have hS := hS'; clear hS'
  by_cases hlt : i < I.segs.length
  · obtain ⟨x, hx⟩ := lt_get (l := I.segs) (i := i) (by omega)
    have hrow := map_get (f := sgC) hx
    obtain ⟨b, off, rfl, hro⟩ := (hI.segs).at_ hlt
    have hdx := hD x (List.mem_of_getElem? hx)
    by_cases hok1 : (0 ≤ x.pg ∧ x.pg ≤ 255) ∧ (1 ≤ x.n ∧ x.n ≤ 255)
    · have q1 : (!decide (0 ≤ x.pg ∧ x.pg ≤ 255)) = false := by rw [decide_eq_true hok1.1]; rfl
      have q2 : (!decide (1 ≤ x.n ∧ x.n ≤ 255)) = false := by rw [decide_eq_true hok1.2]; rfl
      obtain ⟨⟨o1, o2⟩, o3, o4⟩ := hok1
      repeat' (first | (first | ((with_reducible apply l_add); exact rfl; exact rfl; omega; omega; exact rfl) | ((with_reducible apply l_mul); exact rfl; exact rfl; omega; omega; exact rfl) | ((with_reducible apply l_pure tabOk); exact rfl; exact rfl) | ((with_reducible apply l_load); exact rfl; (first | ((with_reducible apply Loads.sc tabOk); exact rfl; ((exact hS.blkC 0 rfl rfl))) | ((with_reducible apply Loads.sl tabOk); exact rfl; ((exact hS.blkC 0 rfl rfl))) | ((with_reducible apply Loads.st tabOk); exact rfl; ((exact hS.roR (by assumption) (by assumption))); exact rfl)); exact rfl) | ((with_reducible apply l_ix tabOk); exact rfl; exact rfl; exact rfl; ((exact rfl)); ((omega)); exact rfl) | ((with_reducible apply l_alloc hS tabOk); exact rfl; exact rfl; exact rfl; intro g w' hS'; clear hS; have hS := hS'; clear hS') | (((with_reducible apply l_store hS tabOk (i := 0)); exact rfl; exact rfl; exact rfl; exact rfl; exact rfl; exact rfl; exact rfl; exact rfl; ((exact (rfl : _ = [_, _, _, _, _]))); intro w' hS'; simp only [List.set] at hS'; clear hS; have hS := hS'; clear hS')) | (first | ((with_reducible apply l_yes); exact rfl; exact rfl; exact rfl; exact rfl; (assumption)) | ((with_reducible apply l_no); exact rfl; exact rfl; exact rfl; exact rfl; ((assumption)); exact rfl) | ((with_reducible apply l_partd); exact rfl; exact rfl; exact rfl; all_goals (intro hb hp; try (exfalso; omega))) | ((with_reducible apply l_pick1); exact rfl; ((assumption)); exact rfl; exact rfl) | ((with_reducible apply l_pick2); exact rfl; ((assumption)); exact rfl; exact rfl))) | (first | (with_reducible apply c_seq) | (with_reducible apply c_region) | (with_reducible apply l_nil) | (with_reducible apply q_then) | (with_reducible apply c_skip) | (with_reducible apply c_block) | (with_reducible apply c_ret) | (with_reducible apply q_then_ret) | (with_reducible apply q_block) | (with_reducible apply q_block_ret)) | (first | ((with_reducible apply c_ift); exact rfl; (exact rfl)) | ((with_reducible apply c_ifd); exact rfl; all_goals (intro hb hp; try (exfalso; omega)))) | ((with_reducible apply l_call); exact rfl; exact rfl; exact within_fn _ _ _ _; exact rfl; rintro _ w' ⟨rfl, hS'⟩; replace hS := hS.transA hS'; simp only [appA] at hS; clear hS'))
      all_goals first
        | exact q_count (i + 1) (by repeat (first | exact Fr.sub_nil _ | (apply Fr.sub_cons; exact rfl))) (by omega) (all_take_succ hall hx (by unfold sgOk; rw [decide_eq_true_eq]; omega)) (by omega) hS.drop
        | (((apply q_ret1); (repeat (first | exact ResL.nil | (apply ResL.tmp; exact rfl)))); refine ⟨?_, hS.sub (List.nil_sublist _)⟩; rw [b3 (all_no hx (by unfold sgOk; rw [decide_eq_false_iff_not]; omega))])
    · have hbad : sgsB I = false := all_no hx (by unfold sgOk; rw [decide_eq_false_iff_not]; omega)
      rw [b3 hbad]
      by_cases hp1 : 0 ≤ x.pg ∧ x.pg ≤ 255
      · have q1 : (!decide (0 ≤ x.pg ∧ x.pg ≤ 255)) = false := by rw [decide_eq_true hp1]; rfl
        have q2 : (!decide (1 ≤ x.n ∧ x.n ≤ 255)) = true := by rw [decide_eq_false (fun h => hok1 ⟨hp1, h⟩)]; rfl
        repeat' (first | (first | ((with_reducible apply l_pure tabOk); exact rfl; exact rfl) | ((with_reducible apply l_load); exact rfl; (first | ((with_reducible apply Loads.sc tabOk); exact rfl; ((exact hS.blkC 0 rfl rfl))) | ((with_reducible apply Loads.sl tabOk); exact rfl; ((exact hS.blkC 0 rfl rfl))) | ((with_reducible apply Loads.st tabOk); exact rfl; ((exact hS.roR (by assumption) (by assumption))); exact rfl)); exact rfl) | ((with_reducible apply l_ix tabOk); exact rfl; exact rfl; exact rfl; ((exact rfl)); ((omega)); exact rfl) | ((with_reducible apply l_alloc hS tabOk); exact rfl; exact rfl; exact rfl; intro g w' hS'; clear hS; have hS := hS'; clear hS') | (((with_reducible apply l_store hS tabOk (i := 0)); exact rfl; exact rfl; exact rfl; exact rfl; exact rfl; exact rfl; exact rfl; exact rfl; ((exact (rfl : _ = [_, _, _, _, _]))); intro w' hS'; simp only [List.set] at hS'; clear hS; have hS := hS'; clear hS')) | (first | ((with_reducible apply l_yes); exact rfl; exact rfl; exact rfl; exact rfl; (assumption)) | ((with_reducible apply l_no); exact rfl; exact rfl; exact rfl; exact rfl; (first | exact rfl | assumption); exact rfl) | ((with_reducible apply l_pick1); exact rfl; (first | exact rfl | assumption); exact rfl; exact rfl) | ((with_reducible apply l_pick2); exact rfl; ((assumption)); exact rfl; exact rfl))) | (first | (with_reducible apply c_seq) | (with_reducible apply c_region) | (with_reducible apply l_nil) | (with_reducible apply q_then) | (with_reducible apply c_skip) | (with_reducible apply c_block) | (with_reducible apply c_ret) | (with_reducible apply q_then_ret) | (with_reducible apply q_block_ret)) | (first | ((with_reducible apply c_ift); exact rfl; (exact rfl)) | ((with_reducible apply c_ifd); exact rfl; all_goals (intro hb hp; try (exfalso; omega)))) | ((with_reducible apply l_call); exact rfl; exact rfl; exact within_fn _ _ _ _; exact rfl; rintro _ w' ⟨rfl, hS'⟩; replace hS := hS.transA hS'; simp only [appA] at hS; clear hS'))
        (apply q_ret1); (repeat (first | exact ResL.nil | (apply ResL.tmp; exact rfl)))
        exact ⟨rfl, hS.sub (List.nil_sublist _)⟩
      · have q1 : (!decide (0 ≤ x.pg ∧ x.pg ≤ 255)) = true := by rw [decide_eq_false hp1]; rfl
        repeat' (first | (first | ((with_reducible apply l_pure tabOk); exact rfl; exact rfl) | ((with_reducible apply l_load); exact rfl; (first | ((with_reducible apply Loads.sc tabOk); exact rfl; ((exact hS.blkC 0 rfl rfl))) | ((with_reducible apply Loads.sl tabOk); exact rfl; ((exact hS.blkC 0 rfl rfl))) | ((with_reducible apply Loads.st tabOk); exact rfl; ((exact hS.roR (by assumption) (by assumption))); exact rfl)); exact rfl) | ((with_reducible apply l_ix tabOk); exact rfl; exact rfl; exact rfl; ((exact rfl)); ((omega)); exact rfl) | ((with_reducible apply l_alloc hS tabOk); exact rfl; exact rfl; exact rfl; intro g w' hS'; clear hS; have hS := hS'; clear hS') | (((with_reducible apply l_store hS tabOk (i := 0)); exact rfl; exact rfl; exact rfl; exact rfl; exact rfl; exact rfl; exact rfl; exact rfl; ((exact (rfl : _ = [_, _, _, _, _]))); intro w' hS'; simp only [List.set] at hS'; clear hS; have hS := hS'; clear hS')) | (first | ((with_reducible apply l_no); exact rfl; exact rfl; exact rfl; exact rfl; (first | exact rfl | assumption); exact rfl) | ((with_reducible apply l_pick1); exact rfl; (first | exact rfl | assumption); exact rfl; exact rfl))) | (first | (with_reducible apply c_seq) | (with_reducible apply c_region) | (with_reducible apply l_nil) | (with_reducible apply q_then) | (with_reducible apply c_skip) | (with_reducible apply c_block) | (with_reducible apply c_ret) | (with_reducible apply q_then_ret) | (with_reducible apply q_block_ret)) | (first | ((with_reducible apply c_ift); exact rfl; (exact rfl)) | ((with_reducible apply c_ifd); exact rfl; all_goals (intro hb hp; try (exfalso; omega)))) | ((with_reducible apply l_call); exact rfl; exact rfl; exact within_fn _ _ _ _; exact rfl; rintro _ w' ⟨rfl, hS'⟩; replace hS := hS.transA hS'; simp only [appA] at hS; clear hS'))
        (apply q_ret1); (repeat (first | exact ResL.nil | (apply ResL.tmp; exact rfl)))
        exact ⟨rfl, hS.sub (List.nil_sublist _)⟩
  have hok : sgsB I = true := all_take_all hall (by omega)
  have b4 : aptB I = false → checkIm I = 5 := fun h => by simp [checkIm, h1, h2, hok, h]
  repeat' (first | (first | ((with_reducible apply l_pure tabOk); exact rfl; exact rfl) | ((with_reducible apply l_load); exact rfl; (((with_reducible apply Loads.sl tabOk); exact rfl; ((exact hS.blkC 0 rfl rfl)))); exact rfl)) | (first | (with_reducible apply c_seq) | (with_reducible apply c_region) | (with_reducible apply l_nil) | (with_reducible apply q_then) | (with_reducible apply c_block) | (with_reducible apply c_exit) | (with_reducible apply q_then_exit) | (with_reducible apply q_block_exit)) | (((with_reducible apply c_ifd); exact rfl; all_goals (intro hb hp; try (exfalso; omega)))))
  clear hi hlt hb hp hall c0 b3
  replace hS := hS.addNil 9 1
  rw [show ([] : List (List Value)) = (syN I 0).map stC from rfl] at hS
  refine c_loopK (X := Nat × Option Addr × Nat × Nat) (fun x => [(6, .int .i64 (x.1 : Nat)), (5, .slice x.2.1 x.2.2.1 x.2.2.2)]) [1] rfl (fun x => [.row 9 1 (.slice x.2.1 x.2.2.1 x.2.2.2) ((syN I x.1).map stC)]) (fun x => x.1 ≤ I.syms.length) (fun x => I.syms.length - x.1) (0, none, 0, 0) (by repeat (first | exact Fr.sub_nil _ | (apply Fr.sub_cons; exact rfl))) (by exact Nat.zero_le _) hS ?_
  clear hS
  rintro ⟨j, q1, q2, q3⟩ w1 hi hS
  simp only [List.cons_append, List.nil_append] at hi hS ⊢
  by_cases hlt : j < I.syms.length
  · obtain ⟨x, hx⟩ := lt_get (l := I.syms) (i := j) (by omega)
    have hrow := map_get (f := syC) hx
    obtain ⟨b, off, rfl, hro⟩ := hI.syms.at_ hlt
    have hl1 := syN_len hB j
    repeat' (first | (first | ((with_reducible apply l_add); exact rfl; exact rfl; omega; omega; exact rfl) | ((with_reducible apply l_pure tabOk); exact rfl; exact rfl) | ((with_reducible apply l_load); exact rfl; (first | ((with_reducible apply Loads.sc tabOk); exact rfl; ((exact hS.roC0 (by assumption) (by assumption) rfl))) | ((with_reducible apply Loads.sl tabOk); exact rfl; ((exact hS.blkC 1 rfl rfl)))); exact rfl) | ((with_reducible apply l_ix tabOk); exact rfl; exact rfl; exact rfl; ((exact rfl)); ((omega)); exact rfl) | ((with_reducible apply l_bslice hS tabOk); exact rfl; exact rfl; exact rfl; exact rfl; exact rfl; exact rfl; exact rfl; intro g w' hS'; clear hS; have hS := hS'; clear hS')) | (first | (with_reducible apply c_seq) | (with_reducible apply c_region) | (with_reducible apply l_nil) | (with_reducible apply q_then) | (with_reducible apply c_skip) | (with_reducible apply c_block) | (with_reducible apply q_block)) | (((with_reducible apply c_ifd); exact rfl; all_goals (intro hb hp; try (exfalso; omega)))) | ((with_reducible apply l_append hS tabOk 1); exact rfl; exact rfl; exact rfl; exact rfl; exact hS.rowRo 0 rfl; exact rfl; ((omega)); exact rfl; intro p' cap' w' hS'; simp only [List.set] at hS'; clear hS; have hS := hS'; clear hS'))
    rw [show [[.string ⟨x.name.toArray⟩]] = [stC x.name] from rfl, syN_succ hx] at hS
    refine q_loopK (j + 1, p', _, cap') (by repeat (first | exact Fr.sub_nil _ | (apply Fr.sub_cons; exact rfl))) (by show j + 1 ≤ I.syms.length; omega) ?_ (by show I.syms.length - (j + 1) < I.syms.length - j; omega)
    exact hS.drop
  rw [syN_all (by omega)] at hS
  repeat' (first | (first | ((with_reducible apply l_pure tabOk); exact rfl; exact rfl) | ((with_reducible apply l_load); exact rfl; (((with_reducible apply Loads.sl tabOk); exact rfl; ((exact hS.blkC 1 rfl rfl)))); exact rfl)) | (first | (with_reducible apply c_seq) | (with_reducible apply c_region) | (with_reducible apply l_nil) | (with_reducible apply q_then) | (with_reducible apply c_block) | (with_reducible apply c_exit) | (with_reducible apply q_then_exit) | (with_reducible apply q_block_exit)) | (((with_reducible apply c_ifd); exact rfl; all_goals (intro hb hp; try (exfalso; omega)))))
  clear hi hlt hb hp
  refine c_count hS 7 [1, 5] rfl (I.segs.length + 1) (fun i => 1 ≤ i ∧ ∀ (j : Nat) (a b : Sg), j + 1 < i → I.segs[j]? = some a → I.segs[j + 1]? = some b → a.pg + a.n ≤ b.pg) 1 rfl (by omega) ⟨Nat.le_refl _, by intros; omega⟩ ?_
  rintro i w1 hi ⟨hi1, hall⟩ hS'
  clear hS; have hS := hS'; clear hS'
  by_cases hlt : i < I.segs.length
  · obtain ⟨x, hx⟩ := lt_get (l := I.segs) (i := i) (by omega)
    have hrow := map_get (f := sgC) hx
    obtain ⟨b, off, rfl, hro⟩ := (hI.segs).at_ hlt
    obtain ⟨y, hy⟩ := lt_get (l := I.segs) (i := i - 1) (by omega)
    have hrow2 := map_get (f := sgC) hy
    have hix : ((i - 1 : Nat) : Int) = (i : Int) - 1 := by omega
    obtain ⟨o1, o2, o3, o4, -⟩ := sg_ok hok hx
    obtain ⟨u1, u2, u3, u4, -⟩ := sg_ok hok hy
    repeat' (first | (first | ((with_reducible apply l_add); exact rfl; exact rfl; omega; omega; exact rfl) | ((with_reducible apply l_pure tabOk); exact rfl; exact rfl) | ((with_reducible apply l_load); exact rfl; (((with_reducible apply Loads.sl tabOk); exact rfl; ((exact hS.blkC 1 rfl rfl)))); exact rfl)) | (first | (with_reducible apply c_seq) | (with_reducible apply c_region) | (with_reducible apply l_nil) | (with_reducible apply q_then) | (with_reducible apply c_skip) | (with_reducible apply c_block) | (with_reducible apply c_ret) | (with_reducible apply q_then_ret) | (with_reducible apply q_block) | (with_reducible apply q_block_ret)) | (((with_reducible apply c_ifd); exact rfl; all_goals (intro hb hp; try (exfalso; omega)))) | (focus ((with_reducible apply c_drawAll nF _ _ (by kernel_rfl) (by kernel_rfl) hS); (repeat' ((first | ((with_reducible apply d_add); exact rfl; exact rfl; omega; omega; exact rfl) | ((with_reducible apply d_sub); exact rfl; exact rfl; omega; omega; exact rfl) | ((with_reducible apply d_pure tabOk); exact rfl; exact rfl) | ((with_reducible apply d_load); exact rfl; (intro wd hd; replace hd : St _ _ wd _ := hd; (first | ((with_reducible apply Loads.sc tabOk); exact rfl; (first | exact hd.roC0 (by assumption) (by assumption) rfl | exact hd.roC (by assumption) (by assumption) rfl)) | ((with_reducible apply Loads.sl tabOk); exact rfl; ((exact hd.blkC 1 rfl rfl))))); exact rfl) | ((with_reducible apply d_ix tabOk); exact rfl; exact rfl; exact rfl; (first | exact rfl | assumption); ((omega)); exact rfl)))); all_goals ((with_reducible apply d_nil); intro w' hS'; clear hS; have hS := hS'; clear hS'))))
    · (apply q_ret1); (repeat (first | exact ResL.nil | (apply ResL.tmp; exact rfl)))
      refine ⟨?_, hS.sub (List.nil_sublist _)⟩
      rw [b4 (apt_ch (fun h => by have := h (i - 1) y x hy (by rw [show i - 1 + 1 = i by omega]; exact hx); omega))]
    · refine q_count (i + 1) (by repeat (first | exact Fr.sub_nil _ | (apply Fr.sub_cons; exact rfl))) (by omega) ⟨by omega, fun j a b h1 h2 h3 => ?_⟩ (by omega) hS
      by_cases e : j = i - 1
      · subst e
        rw [show i - 1 + 1 = i by omega] at h3
        rw [hy] at h2
        rw [hx] at h3
        cases h2
        cases h3
        omega
      · exact hall j a b (by omega) h2 h3
  have hch : Ch I.segs := fun j a b h1 h2 => hall j a b (by have := lt_of_getE h2; omega) h1 h2
  repeat' (first | (first | ((with_reducible apply l_pure tabOk); exact rfl; exact rfl) | ((with_reducible apply l_load); exact rfl; (first | ((with_reducible apply Loads.sl tabOk); exact rfl; ((exact hS.blkC 1 rfl rfl))) | ((with_reducible apply Loads.st tabOk); exact rfl; ((exact hS.blkR 1 rfl)); exact rfl)); exact rfl) | (first | ((with_reducible apply l_yes); exact rfl; exact rfl; exact rfl; exact rfl; (assumption)) | ((with_reducible apply l_no); exact rfl; exact rfl; exact rfl; exact rfl; ((assumption)); exact rfl) | ((with_reducible apply l_partd); exact rfl; exact rfl; exact rfl; all_goals (intro hb hp; try (exfalso; omega))) | ((with_reducible apply l_pick1); exact rfl; ((assumption)); exact rfl; exact rfl) | ((with_reducible apply l_pick2); exact rfl; ((assumption)); exact rfl; exact rfl))) | (first | (with_reducible apply c_seq) | (with_reducible apply c_region) | (with_reducible apply l_nil) | (with_reducible apply q_then) | (with_reducible apply c_skip) | (with_reducible apply c_exit) | (with_reducible apply c_ret) | (with_reducible apply q_then_exit) | (with_reducible apply q_then_ret) | (with_reducible apply q_block_exit)) | (first | ((with_reducible apply c_ift); exact rfl; (exact rfl)) | ((with_reducible apply c_ifd); exact rfl; all_goals (intro hb hp; try (exfalso; omega))) | ((with_reducible apply c_ifn); exact rfl; all_goals (intro hb hp; try (exfalso; omega)))) | ((with_reducible apply l_call); exact rfl; exact rfl; exact alike_fn (hS.rowSl 0 rfl); exact rfl; rintro _ w' ⟨rfl, hS'⟩; replace hS := hS.transA hS'; simp only [appA] at hS; clear hS') | ((with_reducible apply l_call); exact rfl; exact rfl; exact alike_fn (hI.needs.now hS); exact rfl; rintro _ w' ⟨rfl, hS'⟩; replace hS := hS.transA hS'; simp only [appA] at hS; clear hS') | ((with_reducible apply l_call); exact rfl; exact rfl; exact placesFine_fn (hI.now hS) hok; exact rfl; rintro _ w' ⟨rfl, hS'⟩; replace hS := hS.transA hS'; simp only [appA] at hS; clear hS'))
  · (apply q_ret1); (repeat (first | exact ResL.nil | (apply ResL.tmp; exact rfl)))
    refine ⟨?_, hS.sub (List.nil_sublist _)⟩
    rw [b4 (apt_sy hp)]
  · (apply q_ret1); (repeat (first | exact ResL.nil | (apply ResL.tmp; exact rfl)))
    refine ⟨?_, hS.sub (List.nil_sublist _)⟩
    rw [b4 (apt_nd hp)]
  · (apply q_ret1); (repeat (first | exact ResL.nil | (apply ResL.tmp; exact rfl)))
    refine ⟨?_, hS.sub (List.nil_sublist _)⟩
    have h4 : aptB I = true := apt_yes hch (by assumption) (by assumption)
    have h5 : plcB I = false := pB_false hp
    simp [checkIm, h1, h2, hok, h4, h5]
  · (apply q_ret1); (repeat (first | exact ResL.nil | (apply ResL.tmp; exact rfl)))
    refine ⟨?_, hS.sub (List.nil_sublist _)⟩
    have h4 : aptB I = true := apt_yes hch (by assumption) (by assumption)
    have h5 : plcB I = true := pB_true hp
    simp [checkIm, h1, h2, hok, h4, h5]
end Go.Proofs.Ytejnpppejalhfab
/- The writers: ink and pen. -/
namespace Go.Proofs.Ytejnpppejalhfab
open Go.RowKit Go.Sort

theorem Put8_fn (n : Int) (w : World) : Fn Try.prog 93 [.int .i64 n, .int .i64 8] w (RBf (.tuple #[.string ⟨(leB n 8).toArray⟩, .int .i64 0]) w) :=
  Fn.of_rb ⟨Try.func93, by kernel_rfl, by kernel_rfl⟩ (rb_below (put_yes n 8 w (by decide) (by decide)))
theorem Bytes8_fn (n : Int) (w : World) : Fn Try.prog 69 [.int .i64 n, .int .i64 8] w (RBf (.string ⟨(leB n 8).toArray⟩) w) :=
  Fn.of_rb ⟨Try.func69, by kernel_rfl, by kernel_rfl⟩ (rb_below (bytes_any n 8 w (by decide)))
theorem leB_len (n : Int) (k : Nat) : (leB n k).length = k := by
  induction k with
  | zero => rfl
  | succ k ih => simp [leB, ih]
/-- one who writes: a variable at g that holds a slice of bytes of one's own -/
def PenA (g : Nat) (p : Option Addr) (m c : Nat) (l : List UInt8) : List Asr := [.blk g [.slice p m c], .row 5 1 (.slice p m c) (bR l)]
def Pens (g : Nat) (p : Option Addr) (m c : Nat) (l l' : List UInt8) (w : World) : Value → World → Prop := fun _ w' => ∃ p' m' c', St (fps (PenA g p m c l)) w w' (PenA g p' m' c' l')
theorem Pens.cat {F : Nat → Prop} {w0 w w' : World} {Γ : List Asr} {g m c m' c' : Nat} {p p' : Option Addr} {l l' : List UInt8} (h : St F w0 w (.blk g [.slice p m c] :: .row 5 1 (.slice p m c) (bR l) :: Γ)) (h2 : St (fps (PenA g p m c l)) w w' (PenA g p' m' c' l')) : St F w0 w' (.blk g [.slice p' m' c'] :: .row 5 1 (.slice p' m' c') (bR l') :: Γ) :=
  St.transM (Θ := PenA g p m c l) h h2
theorem Pens.in_ {F : Nat → Prop} {w0 w : World} {Γ : List Asr} {g m c : Nat} {p : Option Addr} {l : List UInt8} (h : St F w0 w (.blk g [.slice p m c] :: .row 5 1 (.slice p m c) (bR l) :: Γ)) : St F w0 w (PenA g p m c l ++ Γ) := h
/-- a text's bytes -/
def txB (s : List UInt8) : List UInt8 := leB s.length 8 ++ s
def trB (b : Bool) : Int := if b then 1 else 0
/-! the program's -/
theorem itruth_fn (b : Bool) (w : World) : Fn Try.prog 35 [.bool b] w (RBf (.int .i64 (trB b)) w) := by
  refine fn_enter (fn := Try.f35) ⟨Try.func35, by kernel_rfl, by kernel_rfl⟩ (by exact rfl) Try.ntmps35 (by exact rfl) ?_
  have hS := St.start w
  cases b
  · repeat' (first | (((with_reducible apply l_pure tabOk); exact rfl; exact rfl)) | (first | (with_reducible apply c_seq) | (with_reducible apply c_region) | (with_reducible apply l_nil) | (with_reducible apply q_then) | (with_reducible apply c_skip) | (with_reducible apply c_ret)) | (((with_reducible apply c_iff); exact rfl; (exact rfl))))
    (apply q_ret1); (repeat (first | exact ResL.nil | (apply ResL.tmp; exact rfl)))
    exact ⟨rfl, hS⟩
  · repeat' (first | (((with_reducible apply l_pure tabOk); exact rfl; exact rfl)) | (first | (with_reducible apply c_seq) | (with_reducible apply c_region) | (with_reducible apply l_nil) | (with_reducible apply q_then) | (with_reducible apply c_ret) | (with_reducible apply q_then_ret)) | (((with_reducible apply c_ift); exact rfl; (exact rfl))))
    (apply q_ret1); (repeat (first | exact ResL.nil | (apply ResL.tmp; exact rfl)))
    exact ⟨rfl, hS⟩
/-- a row ahead of one who writes is none of the pen's things -/
theorem Pens.row {F : Nat → Prop} {w0 w : World} {Γ : List Asr} {g m c e sz : Nat} {p : Option Addr} {l : List UInt8} {v : Value} {rows : List (List Value)} (h : St F w0 w (.row e sz v rows :: .blk g [.slice p m c] :: .row 5 1 (.slice p m c) (bR l) :: Γ)) : Sl (fps (PenA g p m c l)) w sz v rows := by
  rcases h.rowSl 0 rfl with h1 | ⟨b, off, cap, h1, h2, h3, h4⟩
  · exact Or.inl h1
  · refine Or.inr ⟨b, off, cap, h1, h2, h3, ⟨h4.lt, ?_, h4.len, h4.one, h4.cells⟩⟩
    rintro ⟨A, hA, hA2⟩
    have hp := (List.pairwise_cons.1 h.apart).1
    have hown : (Asr.row e sz v rows).fp = some b := by
      rcases h.rowForm 0 rfl with ⟨h5, _⟩ | ⟨g2, cap2, h5, _⟩
      · rw [h1] at h5; cases h5
      · rw [h1] at h5; cases h5; rw [h1]; rfl
    have hAp : Aprt (.row e sz v rows) A := hp A (by
      unfold PenA at hA
      simp only [List.mem_cons, List.not_mem_nil, or_false] at hA
      rcases hA with rfl | rfl
      · simp
      · simp)
    rcases hAp with h6 | h6
    · rw [hown] at h6; cases h6
    · exact h6 (hown.trans hA2.symm)
/-- the bytes of numbers -/
def nsB : List Int → List UInt8
  | [] => []
  | n :: r => leB n 8 ++ nsB r
theorem nsB_snoc (ns : List Int) (n : Int) : nsB (ns ++ [n]) = nsB ns ++ leB n 8 := by
  induction ns with
  | nil => simp [nsB]
  | cons a r ih => simp [nsB, ih]
theorem nsB_len (ns : List Int) : (nsB ns).length = 8 * ns.length := by
  induction ns with
  | nil => rfl
  | cons a r ih => simp [nsB, ih, leB_len]; omega
set_option maxRecDepth 100000 in
set_option maxHeartbeats 2000000 in
theorem penNums_fn {F : Nat → Prop} {w0 w : World} {Γ : List Asr} {g m c e : Nat} {p : Option Addr} {l : List UInt8} {v : Value} {ns : List Int} (h : St F w0 w (.row e 1 v (ns.map fun n => [.int .i64 n]) :: .blk g [.slice p m c] :: .row 5 1 (.slice p m c) (bR l) :: Γ)) (hl : l.length ≤ 50000000) (hn : ns.length ≤ 100) : Fn Try.prog 34 [.pointer (some ⟨g, 0, none⟩), v] w (Pens g p m c l (l ++ nsB ns) w) := by
  have hsl := Pens.row h
  obtain ⟨pv, cv, hv⟩ := hsl.form
  rw [List.length_map] at hv
  subst hv
  refine fn_enter (fn := Try.f34) ⟨Try.func34, by kernel_rfl, by kernel_rfl⟩ (by exact rfl) Try.ntmps34 (by exact rfl) ?_
  have hS := St.startM (Δ := PenA g p m c l) (Γ := Γ) h.drop
  unfold PenA at hS
  repeat' (first | (((with_reducible apply l_pure tabOk); exact rfl; exact rfl)) | (first | (with_reducible apply c_seq) | (with_reducible apply c_region) | (with_reducible apply l_nil) | (with_reducible apply q_then) | (with_reducible apply c_block)))
  refine c_loopK (X := Nat × Option Addr × Nat × Nat) (fun x => [(10, .int .i64 (x.1 : Nat))]) [0, 8, 9] rfl (fun x => PenA g x.2.1 x.2.2.1 x.2.2.2 (l ++ nsB (ns.take x.1))) (fun x => x.1 ≤ ns.length) (fun x => ns.length - x.1) (Γ := []) (0, p, m, c) (by repeat (first | exact Fr.sub_nil _ | (apply Fr.sub_cons; exact rfl))) (by exact Nat.zero_le _) (by rw [List.append_nil, List.take_zero, show nsB [] = [] from rfl, List.append_nil]; exact hS) ?_
  clear hS
  rintro ⟨i, q1, q2, q3⟩ w1 hi hS
  simp only [PenA, List.cons_append, List.nil_append] at hi hS ⊢
  by_cases hlt : i < ns.length
  · obtain ⟨x, hx⟩ : ∃ x, ns[i]? = some x := ⟨ns[i], by simp [hlt]⟩
    have hrow : (ns.map fun n => [Value.int .i64 n])[i]? = some [.int .i64 x] := by rw [List.getElem?_map, hx]; rfl
    rcases hsl.parts.2 with h2 | ⟨b, off, rfl, _, _, hro⟩
    · have := congrArg List.length h2
      rw [List.length_map, List.length_nil] at this
      omega
    have h8 := leB_len x 8
    have hl2 : (l ++ nsB (ns.take i)).length ≤ 50000800 := by rw [List.length_append, nsB_len, List.length_take]; omega
    repeat' (first | (first | ((with_reducible apply l_add); exact rfl; exact rfl; omega; omega; exact rfl) | ((with_reducible apply l_pure tabOk); exact rfl; exact rfl) | ((with_reducible apply l_load); exact rfl; (first | ((with_reducible apply Loads.sc tabOk); exact rfl; ((exact hS.roC0 (by assumption) (by assumption) rfl))) | ((with_reducible apply Loads.sl tabOk); exact rfl; ((exact hS.blkC 0 rfl rfl)))); exact rfl) | ((with_reducible apply l_ix tabOk); exact rfl; exact rfl; exact rfl; ((exact rfl)); ((omega)); exact rfl) | (((with_reducible apply l_store hS tabOk (i := 0)); exact rfl; exact rfl; exact rfl; exact rfl; exact rfl; exact rfl; exact rfl; exact rfl; ((exact (rfl : _ = [_]))); intro w' hS'; simp only [List.set] at hS'; clear hS; have hS := hS'; clear hS'))) | (first | (with_reducible apply c_seq) | (with_reducible apply c_region) | (with_reducible apply l_nil) | (with_reducible apply q_then) | (with_reducible apply c_skip) | (with_reducible apply c_block) | (with_reducible apply q_block)) | (((with_reducible apply c_ifd); exact rfl; all_goals (intro hb hp; try (exfalso; omega)))) | ((with_reducible apply l_call); exact rfl; exact rfl; exact Put8_fn x _; exact rfl; rintro _ w' ⟨rfl, hS'⟩; replace hS := hS.transA hS'; simp only [appA] at hS; clear hS') | ((with_reducible apply l_appendS hS tabOk 1); exact rfl; exact rfl; exact rfl; exact rfl; exact rfl; exact rfl; (omega); exact rfl; intro p' cap' w' hS'; simp only [List.set] at hS'; clear hS; have hS := hS'; clear hS'))
    rw [show l ++ nsB (ns.take i) ++ leB x 8 = l ++ nsB (ns.take (i + 1)) by rw [List.take_add_one, hx, Option.toList_some, nsB_snoc, List.append_assoc]] at hS
    exact q_loopK (i + 1, p', _, cap') (by repeat (first | exact Fr.sub_nil _ | (apply Fr.sub_cons; exact rfl))) (by show i + 1 ≤ ns.length; omega) hS (by show ns.length - (i + 1) < ns.length - i; omega)
  · rw [List.take_of_length_le (by omega)] at hS
    repeat' (first | (((with_reducible apply l_pure tabOk); exact rfl; exact rfl)) | (first | (with_reducible apply c_seq) | (with_reducible apply c_region) | (with_reducible apply l_nil) | (with_reducible apply q_then) | (with_reducible apply c_exit) | (with_reducible apply q_then_exit) | (with_reducible apply q_block_exit)) | (((with_reducible apply c_ifd); exact rfl; all_goals (intro hb hp; try (exfalso; omega)))))
    (apply q_end0); (repeat ((exact ResL.nil)))
    exact ⟨_, _, _, hS⟩
set_option maxRecDepth 100000 in
set_option maxHeartbeats 2000000 in
theorem penText_fn {F : Nat → Prop} {w0 w : World} {Γ : List Asr} {g m c : Nat} {p : Option Addr} {l : List UInt8} (s : List UInt8) (h : St F w0 w (PenA g p m c l ++ Γ)) (hl : l.length ≤ 40000000) (hs : s.length ≤ 50000000) : Fn Try.prog 33 [.pointer (some ⟨g, 0, none⟩), .string ⟨s.toArray⟩] w (Pens g p m c l (l ++ txB s) w) := by
  refine fn_enter (fn := Try.f33) ⟨Try.func33, by kernel_rfl, by kernel_rfl⟩ (by exact rfl) Try.ntmps33 (by exact rfl) ?_
  have hS := St.startM (Δ := PenA g p m c l) h
  have h8 := leB_len s.length 8
  have e1 : nsB [(s.length : Int)] = leB s.length 8 := by simp [nsB]
  unfold PenA at hS
  have hl2 : (l ++ leB s.length 8).length ≤ 40000008 := by rw [List.length_append, h8]; omega
  repeat' (first | (first | ((with_reducible apply l_pure tabOk); exact rfl; exact rfl) | ((with_reducible apply l_load); exact rfl; (((with_reducible apply Loads.sl tabOk); exact rfl; ((exact hS.blkC 0 rfl rfl)))); exact rfl) | (((with_reducible apply l_store hS tabOk (i := 0)); exact rfl; exact rfl; exact rfl; exact rfl; exact rfl; exact rfl; exact rfl; exact rfl; ((exact (rfl : _ = [_]))); intro w' hS'; simp only [List.set] at hS'; clear hS; have hS := hS'; clear hS')) | ((with_reducible apply l_bslice hS tabOk); exact rfl; exact rfl; exact rfl; exact rfl; exact rfl; exact rfl; exact rfl; intro g w' hS'; clear hS; have hS := hS'; clear hS')) | (first | (with_reducible apply c_seq) | (with_reducible apply c_region) | (with_reducible apply l_nil) | (with_reducible apply q_then)) | ((with_reducible apply l_call); exact rfl; exact rfl; exact penNums_fn (ns := [(s.length : Int)]) hS (by omega) (by simp); exact rfl; rintro _ w' ⟨p2, m2, c2, hS'⟩; replace hS := Pens.cat (St.drop hS) hS'; clear hS') | (rw [e1] at hS; ((with_reducible apply l_appendS hS tabOk 1); exact rfl; exact rfl; exact rfl; exact rfl; exact rfl; exact rfl; (omega); exact rfl; intro p' cap' w' hS'; simp only [List.set] at hS'; clear hS; have hS := hS'; clear hS')))
  (apply q_end0); (repeat ((exact ResL.nil)))
  rw [show l ++ leB s.length 8 ++ s = l ++ txB s by unfold txB; rw [List.append_assoc]] at hS
  exact ⟨_, _, _, hS⟩
end Go.Proofs.Ytejnpppejalhfab
/- An image's bytes; the reference's writer. -/
namespace Go.Proofs.Ytejnpppejalhfab
open Go.RowKit Go.Sort

theorem flat_len {α : Type} {f : α → List UInt8} {K : Nat} : ∀ (l : List α) (i : Nat), (∀ x ∈ l, (f x).length ≤ K) → ((l.take i).flatMap f).length ≤ K * i := by
  intro l
  induction l with
  | nil => intro i _; simp
  | cons a r ih =>
    intro i h
    cases i with
    | zero => simp
    | succ i =>
      rw [List.take_succ_cons, List.flatMap_cons, List.length_append]
      have h1 := h a List.mem_cons_self
      have h2 := ih i (fun x hx => h x (List.mem_cons_of_mem _ hx))
      rw [Nat.mul_succ]
      omega
theorem flat_snoc {α : Type} {f : α → List UInt8} {l : List α} {i : Nat} {x : α} (hx : l[i]? = some x) : (l.take (i + 1)).flatMap f = (l.take i).flatMap f ++ f x := by
  rw [List.take_add_one, hx]; simp
theorem txB_len (s : List UInt8) : (txB s).length = 8 + s.length := by unfold txB; rw [List.length_append, leB_len]
def sgB (s : Sg) : List UInt8 := leB s.pg 8 ++ (leB s.n 8 ++ (txB s.data ++ (leB (trB s.wr) 8 ++ leB (trB s.ex) 8)))
def syB (s : Sy) : List UInt8 := txB s.name ++ leB s.at_ 8
def rlB (r : Rl) : List UInt8 := leB r.at_ 8 ++ (txB r.name ++ leB r.add 8)
def b2 (I : Im) : List UInt8 := txB I.name ++ leB I.needs.length 8
def b4 (I : Im) : List UInt8 := b2 I ++ I.needs.flatMap txB ++ leB I.segs.length 8
def b6 (I : Im) : List UInt8 := b4 I ++ I.segs.flatMap sgB ++ leB I.syms.length 8
def b8 (I : Im) : List UInt8 := b6 I ++ I.syms.flatMap syB ++ leB I.rels.length 8
def imB (I : Im) : List UInt8 := b8 I ++ I.rels.flatMap rlB ++ leB I.entry 8
/-- what the check tells of the lengths -/
structure ImL (I : Im) : Prop where
  name : I.name.length ≤ 12
  needs : ∀ s ∈ I.needs, (txB s).length ≤ 20
  segs : ∀ s ∈ I.segs, (sgB s).length ≤ 5000
  syms : ∀ s ∈ I.syms, (syB s).length ≤ 28
  rels : ∀ s ∈ I.rels, (rlB s).length ≤ 36
  n1 : I.needs.length ≤ 4
  n2 : I.segs.length ≤ 6
  n3 : I.syms.length ≤ 12
  n4 : I.rels.length ≤ 16
theorem nm_le {l : List UInt8} (h : nmB l = true) : l.length ≤ 12 := by
  unfold nmB at h
  rw [Bool.and_eq_true, decide_eq_true_eq] at h
  omega
theorem checkIm_zero {I : Im} (h : checkIm I = 0) : nmsB I = true ∧ cntB I = true ∧ sgsB I = true ∧ aptB I = true ∧ plcB I = true := by
  unfold checkIm at h
  cases h1 : nmsB I <;> simp [h1] at h
  cases h2 : cntB I <;> simp [h2] at h
  cases h3 : sgsB I <;> simp [h3] at h
  cases h4 : aptB I <;> simp [h4] at h
  cases h5 : plcB I <;> simp [h5] at h
  exact ⟨rfl, rfl, rfl, rfl, rfl⟩
theorem ImL.of {I : Im} (h : checkIm I = 0) : ImL I := by
  obtain ⟨h1, h2, h3, _, _⟩ := checkIm_zero h
  unfold nmsB at h1
  simp only [Bool.and_eq_true] at h1
  obtain ⟨a1, a2, a3, a4⟩ := h1
  unfold cntB at h2
  rw [decide_eq_true_eq] at h2
  refine ⟨nm_le a1, fun s hs => ?_, fun s hs => ?_, fun s hs => ?_, fun s hs => ?_, by omega, by omega, by omega, by omega⟩
  · have := nm_le (List.all_eq_true.1 a2 s hs)
    rw [txB_len]; omega
  · have h4 := List.all_eq_true.1 h3 s hs
    unfold sgOk at h4
    rw [decide_eq_true_eq] at h4
    simp only [sgB, List.length_append, leB_len, txB_len]
    omega
  · have := nm_le (List.all_eq_true.1 a3 s hs)
    simp only [syB, List.length_append, leB_len, txB_len]
    omega
  · have h4 := List.all_eq_true.1 a4 s hs
    rw [Bool.or_eq_true, decide_eq_true_eq] at h4
    have : s.name.length ≤ 12 := by
      rcases h4 with e | e
      · rw [e]; simp
      · exact nm_le e
    simp only [rlB, List.length_append, leB_len, txB_len]
    omega
theorem St.rot {F : Nat → Prop} {w0 w : World} {Γ : List Asr} {A B S : Asr} (h : St F w0 w (S :: A :: B :: Γ)) : St F w0 w (A :: B :: S :: Γ) := h.perm (((List.Perm.swap A S (B :: Γ))).trans (List.Perm.cons A (List.Perm.swap B S Γ)))
theorem St.unrot {F : Nat → Prop} {w0 w : World} {Γ : List Asr} {A B S : Asr} (h : St F w0 w (A :: B :: S :: Γ)) : St F w0 w (A :: B :: Γ) := h.sub (List.Sublist.cons_cons _ (List.Sublist.cons_cons _ (List.Sublist.cons _ (List.Sublist.refl _))))
end Go.Proofs.Ytejnpppejalhfab
