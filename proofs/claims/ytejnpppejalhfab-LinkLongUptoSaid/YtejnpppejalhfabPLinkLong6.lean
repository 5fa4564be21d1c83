/- Texts that the proof stands on, one behind the other: Im3, Im4, Sc13, Im5, Im6, Im7, Im8. -/
import Derived.Test.YtejnpppejalhfabPLinkLong5
/- image.names. -/
namespace Go.Proofs.Ytejnpppejalhfab
open Go.RowKit Go.Sort

/-- lengths that a machine can hold -/
structure ImB (I : Im) : Prop where
  needs : I.needs.length ≤ 1048576
  segs : I.segs.length ≤ 1048576
  syms : I.syms.length ≤ 1048576
  rels : I.rels.length ≤ 1048576
def nl0 (I : Im) : List (List UInt8) := I.name :: I.needs
def nl1 (I : Im) (i : Nat) : List (List UInt8) := nl0 I ++ (I.syms.take i).map (·.name)
def nl2 (I : Im) (i : Nat) : List (List UInt8) := nl1 I I.syms.length ++ ((I.rels.take i).filter (fun r => !decide (r.name = []))).map (·.name)
theorem take_snoc {α : Type} {l : List α} {i : Nat} {x : α} (hx : l[i]? = some x) : l.take (i + 1) = l.take i ++ [x] := by
  rw [List.take_add_one, hx]; rfl
theorem nl1_succ {I : Im} {i : Nat} {x : Sy} (hx : I.syms[i]? = some x) : (nl1 I i).map stC ++ [stC x.name] = (nl1 I (i + 1)).map stC := by
  unfold nl1; rw [take_snoc hx]; simp
theorem nl2_succ {I : Im} {i : Nat} {x : Rl} (hx : I.rels[i]? = some x) (hn : ¬ x.name = []) : (nl2 I i).map stC ++ [stC x.name] = (nl2 I (i + 1)).map stC := by
  unfold nl2; rw [take_snoc hx]; simp [hn]
theorem nl2_same {I : Im} {i : Nat} {x : Rl} (hx : I.rels[i]? = some x) (hn : x.name = []) : nl2 I i = nl2 I (i + 1) := by
  unfold nl2; rw [take_snoc hx]; simp [hn]
theorem nl1_len {I : Im} (h : ImB I) (i : Nat) : ((nl1 I i).map stC).length ≤ 2097153 := by
  have h1 := h.needs
  have h2 := h.syms
  simp only [nl1, nl0, List.length_map, List.length_append, List.length_cons, List.length_take]; omega
theorem nl2_len {I : Im} (h : ImB I) (i : Nat) : ((nl2 I i).map stC).length ≤ 4194304 := by
  have h1 := h.needs
  have h2 := h.syms
  have h3 := h.rels
  have h4 := List.length_filter_le (fun r : Rl => !decide (r.name = [])) (I.rels.take i)
  rw [List.length_take] at h4
  simp only [nl2, nl1, nl0, List.length_map, List.length_append, List.length_cons, List.length_take]; omega
theorem nl2_all (I : Im) : (nl2 I I.rels.length).all nmB = nmsB I := by
  unfold nl2 nl1 nl0 nmsB
  rw [List.take_length, List.take_length]
  rw [Bool.eq_iff_iff]
  simp only [List.all_eq_true, List.cons_append, List.mem_cons, List.mem_append, List.mem_map, List.mem_filter, Bool.and_eq_true, Bool.or_eq_true, decide_eq_true_eq, Bool.not_eq_true', decide_eq_false_iff_not]
  constructor
  · intro h
    refine ⟨h _ (Or.inl rfl), fun s hs => h _ (Or.inr (Or.inl (Or.inl hs))), fun s hs => h _ (Or.inr (Or.inl (Or.inr ⟨s, hs, rfl⟩))), fun r hr => ?_⟩
    by_cases e : r.name = []
    · exact Or.inl e
    · exact Or.inr (h _ (Or.inr (Or.inr ⟨r, ⟨hr, e⟩, rfl⟩)))
  · rintro ⟨h1, h2, h3, h4⟩ x (rfl | (hx | ⟨s, hs, rfl⟩) | ⟨r, ⟨hr, e⟩, rfl⟩)
    · exact h1
    · exact h2 x hx
    · exact h3 s hs
    · exact (h4 r hr).resolve_left e
set_option maxRecDepth 100000 in
set_option maxHeartbeats 2000000 in
theorem names_fn {I : Im} {w : World} {vn vs vy vr : Value} (hI : ImV w I vn vs vy vr) (hB : ImB I) : Fn Try.prog 88 [imA I vn vs vy vr] w (RBf (.int .i64 (if nmsB I = true then 0 else 4)) w) := by
  have bn := hI.needs.bound; have bs := hI.segs.bound; have by_ := hI.syms.bound; have br := hI.rels.bound; obtain ⟨pn, cn, rfl⟩ := hI.needs.len; obtain ⟨ps, cs, rfl⟩ := hI.segs.len; obtain ⟨py, cy, rfl⟩ := hI.syms.len; obtain ⟨pr, cr, rfl⟩ := hI.rels.len
  refine fn_enter (fn := Try.f88) ⟨Try.func88, by kernel_rfl, by kernel_rfl⟩ (by exact rfl) Try.ntmps88 (by exact rfl) ?_
  have hS := St.start w
  have hb1 := hB.needs
  have hb2 := hB.syms
  have hb3 := hB.rels
  repeat' (first | (first | ((with_reducible apply l_pure tabOk); exact rfl; exact rfl) | ((with_reducible apply l_load); exact rfl; (first | ((with_reducible apply Loads.sc tabOk); exact rfl; ((exact hS.blkC 0 rfl rfl))) | ((with_reducible apply Loads.sl tabOk); exact rfl; ((exact hS.blkC 1 rfl rfl)))); exact rfl) | ((with_reducible apply l_box hS); exact rfl; exact rfl; exact rfl; intro g w' hS'; clear hS; have hS := hS'; clear hS') | ((with_reducible apply l_bslice hS tabOk); exact rfl; exact rfl; exact rfl; exact rfl; exact rfl; exact rfl; exact rfl; intro g w' hS'; clear hS; have hS := hS'; clear hS')) | (first | (with_reducible apply c_seq) | (with_reducible apply c_region) | (with_reducible apply l_nil) | (with_reducible apply q_then) | (with_reducible apply c_block)) | ((with_reducible apply l_appendSl hS tabOk 0); exact rfl; exact rfl; exact rfl; exact rfl; exact hI.needs.now hS; ((simp only [List.length_map, List.length_cons, List.length_nil, List.length_append]; omega)); exact rfl; intro p' cap' w' hS'; simp only [List.set] at hS'; clear hS; have hS := hS'; clear hS'))
  have e1 : [[.string ⟨I.name.toArray⟩]] ++ I.needs.map stC = (nl1 I 0).map stC := by simp [nl1, nl0, stC]
  rw [e1] at hS
  refine c_loopK (X := Nat × Option Addr × Nat × Nat) (fun x => [(19, .int .i64 (x.1 : Nat)), (3, .slice x.2.1 x.2.2.1 x.2.2.2)]) [1, 17, 18] rfl (fun x => [.row 9 1 (.slice x.2.1 x.2.2.1 x.2.2.2) ((nl1 I x.1).map stC)]) (fun x => x.1 ≤ I.syms.length) (fun x => I.syms.length - x.1) (0, p', _, cap') (by repeat (first | exact Fr.sub_nil _ | (apply Fr.sub_cons; exact rfl))) (by exact Nat.zero_le _) hS ?_
  rintro ⟨i, q1, q2, q3⟩ w1 hi hS'
  simp only [List.cons_append, List.nil_append] at hi hS' ⊢
  clear hS; have hS := hS'; clear hS'
  by_cases hlt : i < I.syms.length
  · obtain ⟨x, hx⟩ := lt_get (l := I.syms) (i := i) (by omega)
    have hrow := map_get (f := syC) hx
    obtain ⟨b, off, rfl, hro⟩ := (hI.syms).at_ hlt
    have hl1 := nl1_len hB i
    repeat' (first | (first | ((with_reducible apply l_add); exact rfl; exact rfl; omega; omega; exact rfl) | ((with_reducible apply l_pure tabOk); exact rfl; exact rfl) | ((with_reducible apply l_load); exact rfl; (first | ((with_reducible apply Loads.sc tabOk); exact rfl; ((exact hS.blkC 0 rfl rfl))) | ((with_reducible apply Loads.st tabOk); exact rfl; ((exact hS.roR (by assumption) (by assumption))); exact rfl)); exact rfl) | ((with_reducible apply l_ix tabOk); exact rfl; exact rfl; exact rfl; ((exact rfl)); ((omega)); exact rfl) | ((with_reducible apply l_alloc hS tabOk); exact rfl; exact rfl; exact rfl; intro g w' hS'; clear hS; have hS := hS'; clear hS') | (((with_reducible apply l_store hS tabOk (i := 0)); exact rfl; exact rfl; exact rfl; exact rfl; exact rfl; exact rfl; exact rfl; exact rfl; ((exact (rfl : _ = [_, _]))); intro w' hS'; simp only [List.set] at hS'; clear hS; have hS := hS'; clear hS')) | ((with_reducible apply l_bslice hS tabOk); exact rfl; exact rfl; exact rfl; exact rfl; exact rfl; exact rfl; exact rfl; intro g w' hS'; clear hS; have hS := hS'; clear hS')) | (first | (with_reducible apply c_seq) | (with_reducible apply c_region) | (with_reducible apply l_nil) | (with_reducible apply q_then) | (with_reducible apply c_skip) | (with_reducible apply c_block) | (with_reducible apply q_block)) | (((with_reducible apply c_ifd); exact rfl; all_goals (intro hb hp; try (exfalso; omega)))) | ((with_reducible apply l_append hS tabOk 2); exact rfl; exact rfl; exact rfl; exact rfl; exact hS.rowRo 0 rfl; exact rfl; ((omega)); exact rfl; intro p' cap' w' hS'; simp only [List.set] at hS'; clear hS; have hS := hS'; clear hS'))
    rw [show [[.string ⟨x.name.toArray⟩]] = [stC x.name] from rfl, nl1_succ hx] at hS
    refine q_loopK (i + 1, p', _, cap') (by repeat (first | exact Fr.sub_nil _ | (apply Fr.sub_cons; exact rfl))) (by show i + 1 ≤ I.syms.length; omega) ?_ (by show I.syms.length - (i + 1) < I.syms.length - i; omega)
    exact (hS.drop.drop)
  have e2 := List.take_of_length_le (l := I.syms) (i := i) (by omega)
  have e3 : nl1 I i = nl1 I I.syms.length := by unfold nl1; rw [e2, List.take_length]
  have e4 : (nl1 I i).map stC = (nl2 I 0).map stC := by unfold nl2; rw [e3]; simp
  repeat' (first | (first | ((with_reducible apply l_pure tabOk); exact rfl; exact rfl) | ((with_reducible apply l_load); exact rfl; (((with_reducible apply Loads.sl tabOk); exact rfl; ((exact hS.blkC 1 rfl rfl)))); exact rfl)) | (first | (with_reducible apply c_seq) | (with_reducible apply c_region) | (with_reducible apply l_nil) | (with_reducible apply q_then) | (with_reducible apply c_block) | (with_reducible apply c_exit) | (with_reducible apply q_then_exit) | (with_reducible apply q_block_exit)) | (((with_reducible apply c_ifd); exact rfl; all_goals (intro hb hp; try (exfalso; omega)))))
  rw [e4] at hS
  refine c_loopK (X := Nat × Option Addr × Nat × Nat) (fun x => [(32, .int .i64 (x.1 : Nat)), (3, .slice x.2.1 x.2.2.1 x.2.2.2)]) [1, 30, 31] rfl (fun x => [.row 9 1 (.slice x.2.1 x.2.2.1 x.2.2.2) ((nl2 I x.1).map stC)]) (fun x => x.1 ≤ I.rels.length) (fun x => I.rels.length - x.1) (0, q1, _, q3) (by repeat (first | exact Fr.sub_nil _ | (apply Fr.sub_cons; exact rfl))) (by exact Nat.zero_le _) hS ?_
  clear hi hlt hb hp e2 e3 e4 hS
  rintro ⟨j, q4, q5, q6⟩ w1 hi hS
  simp only [List.cons_append, List.nil_append] at hi hS ⊢
  by_cases hlt : j < I.rels.length
  · obtain ⟨x, hx⟩ := lt_get (l := I.rels) (i := j) (by omega)
    have hrow := map_get (f := rlC) hx
    obtain ⟨b, off, rfl, hro⟩ := hI.rels.at_ hlt
    have hl1 := nl2_len hB j
    repeat' (first | (first | ((with_reducible apply l_add); exact rfl; exact rfl; omega; omega; exact rfl) | ((with_reducible apply l_pure tabOk); exact rfl; exact rfl) | ((with_reducible apply l_load); exact rfl; (first | ((with_reducible apply Loads.sc tabOk); exact rfl; ((exact hS.blkC 0 rfl rfl))) | ((with_reducible apply Loads.st tabOk); exact rfl; ((exact hS.roR (by assumption) (by assumption))); exact rfl)); exact rfl) | ((with_reducible apply l_ix tabOk); exact rfl; exact rfl; exact rfl; ((exact rfl)); ((omega)); exact rfl) | ((with_reducible apply l_alloc hS tabOk); exact rfl; exact rfl; exact rfl; intro g w' hS'; clear hS; have hS := hS'; clear hS') | (((with_reducible apply l_store hS tabOk (i := 0)); exact rfl; exact rfl; exact rfl; exact rfl; exact rfl; exact rfl; exact rfl; exact rfl; ((exact (rfl : _ = [_, _, _]))); intro w' hS'; simp only [List.set] at hS'; clear hS; have hS := hS'; clear hS')) | ((with_reducible apply l_bslice hS tabOk); exact rfl; exact rfl; exact rfl; exact rfl; exact rfl; exact rfl; exact rfl; intro g w' hS'; clear hS; have hS := hS'; clear hS')) | (first | (with_reducible apply c_seq) | (with_reducible apply c_region) | (with_reducible apply l_nil) | (with_reducible apply q_then) | (with_reducible apply c_skip) | (with_reducible apply c_block) | (with_reducible apply q_block)) | (first | ((with_reducible apply c_ifd); exact rfl; all_goals (intro hb hp; try (exfalso; omega))) | ((with_reducible apply c_ifn); exact rfl; all_goals (intro hb hp; try (exfalso; omega)))) | ((with_reducible apply l_append hS tabOk 2); exact rfl; exact rfl; exact rfl; exact rfl; exact hS.rowRo 0 rfl; exact rfl; ((omega)); exact rfl; intro p' cap' w' hS'; simp only [List.set] at hS'; clear hS; have hS := hS'; clear hS'))
    · rw [show [[.string ⟨x.name.toArray⟩]] = [stC x.name] from rfl, nl2_succ hx (by simpa using hp)] at hS
      refine q_loopK (j + 1, p', _, cap') (by repeat (first | exact Fr.sub_nil _ | (apply Fr.sub_cons; exact rfl))) (by show j + 1 ≤ I.rels.length; omega) ?_ (by show I.rels.length - (j + 1) < I.rels.length - j; omega)
      exact (hS.drop.drop)
    · rw [nl2_same hx (by simpa using hp)] at hS
      refine q_loopK (j + 1, q4, _, q6) (by repeat (first | exact Fr.sub_nil _ | (apply Fr.sub_cons; exact rfl))) (by show j + 1 ≤ I.rels.length; omega) ?_ (by show I.rels.length - (j + 1) < I.rels.length - j; omega)
      exact hS.drop
  have e5 : nl2 I j = nl2 I I.rels.length := by unfold nl2; rw [List.take_of_length_le (l := I.rels) (i := j) (by omega), List.take_length]
  rw [e5] at hS
  have hl2 := nl2_len hB I.rels.length
  rw [List.length_map] at hl2
  have hm := hS.rowLen 0 rfl
  rw [List.length_map] at hm
  subst hm
  repeat' (first | (((with_reducible apply l_pure tabOk); exact rfl; exact rfl)) | (first | (with_reducible apply c_seq) | (with_reducible apply c_region) | (with_reducible apply l_nil) | (with_reducible apply q_then) | (with_reducible apply c_block) | (with_reducible apply c_exit) | (with_reducible apply q_then_exit) | (with_reducible apply q_block_exit)) | (((with_reducible apply c_ifd); exact rfl; all_goals (intro hb hp; try (exfalso; omega)))))
  refine c_count hS 47 [1, 45, 46] rfl ((nl2 I I.rels.length).length) (fun i => ((nl2 I I.rels.length).take i).all nmB = true) 0 rfl (Nat.zero_le _) (by (rfl)) ?_
  rintro i w1 hi hall hS'
  clear hS; have hS := hS'; clear hS'
  by_cases hlt : i < (nl2 I I.rels.length).length
  · obtain ⟨x, hx⟩ := lt_get (l := nl2 I I.rels.length) (i := i) (by omega)
    have hrow := map_get (f := stC) hx
    obtain ⟨g2, rfl⟩ := hS.rowSome 0 rfl (by omega)
    repeat' (first | (first | ((with_reducible apply l_add); exact rfl; exact rfl; omega; omega; exact rfl) | ((with_reducible apply l_pure tabOk); exact rfl; exact rfl) | ((with_reducible apply l_load); exact rfl; (((with_reducible apply Loads.sc tabOk); exact rfl; ((exact hS.rowC0 0 rfl (by assumption) rfl)))); exact rfl) | ((with_reducible apply l_ix tabOk); exact rfl; exact rfl; exact rfl; ((exact rfl)); ((omega)); exact rfl)) | (first | (with_reducible apply c_seq) | (with_reducible apply c_region) | (with_reducible apply l_nil) | (with_reducible apply q_then) | (with_reducible apply c_skip) | (with_reducible apply c_block) | (with_reducible apply c_ret) | (with_reducible apply q_then_ret) | (with_reducible apply q_block) | (with_reducible apply q_block_ret)) | (first | ((with_reducible apply c_ifd); exact rfl; all_goals (intro hb hp; try (exfalso; omega))) | ((with_reducible apply c_ifp); exact rfl; all_goals (intro hb hp; try (exfalso; omega)))) | ((with_reducible apply l_call); exact rfl; exact rfl; exact name_fn _ _; exact rfl; rintro _ w' ⟨rfl, hS'⟩; replace hS := hS.transA hS'; simp only [appA] at hS; clear hS'))
    · (apply q_ret1); (repeat (first | exact ResL.nil | (apply ResL.tmp; exact rfl)))
      refine ⟨?_, hS.sub (List.nil_sublist _)⟩
      rw [if_neg (by rw [← nl2_all, all_no hx (by simpa using hb)]; simp)]
    · exact q_count (i + 1) (by repeat (first | exact Fr.sub_nil _ | (apply Fr.sub_cons; exact rfl))) (by omega) (all_take_succ hall hx (by simpa using hb)) (by omega) hS
  · repeat' (first | (((with_reducible apply l_pure tabOk); exact rfl; exact rfl)) | (first | (with_reducible apply c_seq) | (with_reducible apply c_region) | (with_reducible apply l_nil) | (with_reducible apply q_then) | (with_reducible apply c_exit) | (with_reducible apply c_ret) | (with_reducible apply q_then_exit) | (with_reducible apply q_block_exit)) | (((with_reducible apply c_ifd); exact rfl; all_goals (intro hb hp; try (exfalso; omega)))))
    (apply q_ret1); (repeat (first | exact ResL.nil | (apply ResL.tmp; exact rfl)))
    refine ⟨?_, hS.sub (List.nil_sublist _)⟩
    rw [if_pos (by rw [← nl2_all]; exact all_take_all hall (by omega))]
end Go.Proofs.Ytejnpppejalhfab
/- An image's counts, segments; the segment of an address. -/
namespace Go.Proofs.Ytejnpppejalhfab
open Go.RowKit Go.Sort

set_option maxRecDepth 100000 in
set_option maxHeartbeats 2000000 in
theorem counts_fn {I : Im} {w : World} {vn vs vy vr : Value} (hI : ImV w I vn vs vy vr) : Fn Try.prog 89 [imA I vn vs vy vr] w (RBf (.int .i64 (if cntB I = true then 0 else 2)) w) := by
  have bn := hI.needs.bound; have bs := hI.segs.bound; have by_ := hI.syms.bound; have br := hI.rels.bound; obtain ⟨pn, cn, rfl⟩ := hI.needs.len; obtain ⟨ps, cs, rfl⟩ := hI.segs.len; obtain ⟨py, cy, rfl⟩ := hI.syms.len; obtain ⟨pr, cr, rfl⟩ := hI.rels.len
  refine fn_enter (fn := Try.f89) ⟨Try.func89, by kernel_rfl, by kernel_rfl⟩ (by exact rfl) Try.ntmps89 (by exact rfl) ?_
  have hS := St.start w
  repeat' (first | (first | ((with_reducible apply l_pure tabOk); exact rfl; exact rfl) | ((with_reducible apply l_load); exact rfl; (((with_reducible apply Loads.sl tabOk); exact rfl; ((exact hS.blkC 0 rfl rfl)))); exact rfl) | ((with_reducible apply l_box hS); exact rfl; exact rfl; exact rfl; intro g w' hS'; clear hS; have hS := hS'; clear hS') | (first | ((with_reducible apply l_yes); exact rfl; exact rfl; exact rfl; exact rfl; (assumption)) | ((with_reducible apply l_no); exact rfl; exact rfl; exact rfl; exact rfl; (first | exact rfl | assumption); exact rfl) | ((with_reducible apply l_partd); exact rfl; exact rfl; exact rfl; all_goals (intro hb hp; try (exfalso; omega))) | ((with_reducible apply l_pick1); exact rfl; (first | exact rfl | assumption); exact rfl; exact rfl) | ((with_reducible apply l_pick2); exact rfl; ((assumption)); exact rfl; exact rfl))) | (first | (with_reducible apply c_seq) | (with_reducible apply c_region) | (with_reducible apply l_nil) | (with_reducible apply q_then) | (with_reducible apply c_skip) | (with_reducible apply c_ret) | (with_reducible apply q_then_ret)) | (first | ((with_reducible apply c_ift); exact rfl; (exact rfl)) | ((with_reducible apply c_ifd); exact rfl; all_goals (intro hb hp; try (exfalso; omega)))))
  all_goals (apply q_ret1); (repeat (first | exact ResL.nil | (apply ResL.tmp; exact rfl)))
  all_goals refine ⟨?_, hS.sub (List.nil_sublist _)⟩
  all_goals first
    | (rw [if_neg (by unfold cntB; rw [decide_eq_true_eq]; omega)]; done)
    | (rw [if_pos (by unfold cntB; rw [decide_eq_true_eq]; omega)]; done)
set_option maxRecDepth 100000 in
set_option maxHeartbeats 2000000 in
theorem segments_fn {I : Im} {w : World} {vn vs vy vr : Value} (hI : ImV w I vn vs vy vr) (hd : ∀ s ∈ I.segs, (s.data.length : Int) ≤ 9223372036854775807) : Fn Try.prog 90 [imA I vn vs vy vr] w (RBf (.int .i64 (if sgsB I = true then 0 else 3)) w) := by
  have bn := hI.needs.bound; have bs := hI.segs.bound; have by_ := hI.syms.bound; have br := hI.rels.bound; obtain ⟨pn, cn, rfl⟩ := hI.needs.len; obtain ⟨ps, cs, rfl⟩ := hI.segs.len; obtain ⟨py, cy, rfl⟩ := hI.syms.len; obtain ⟨pr, cr, rfl⟩ := hI.rels.len
  refine fn_enter (fn := Try.f90) ⟨Try.func90, by kernel_rfl, by kernel_rfl⟩ (by exact rfl) Try.ntmps90 (by exact rfl) ?_
  have hS := St.start w
  repeat' (first | (first | ((with_reducible apply l_pure tabOk); exact rfl; exact rfl) | ((with_reducible apply l_load); exact rfl; (((with_reducible apply Loads.sl tabOk); exact rfl; ((exact hS.blkC 0 rfl rfl)))); exact rfl) | ((with_reducible apply l_box hS); exact rfl; exact rfl; exact rfl; intro g w' hS'; clear hS; have hS := hS'; clear hS')) | (first | (with_reducible apply c_seq) | (with_reducible apply c_region) | (with_reducible apply l_nil) | (with_reducible apply q_then) | (with_reducible apply c_block)))
  refine c_count hS 8 [1, 6, 7] rfl (I.segs.length) (fun i => (I.segs.take i).all sgOk = true) 0 rfl (Nat.zero_le _) (by (rfl)) ?_
  rintro i w1 hi hall hS'
  clear hS; have hS := hS'; clear hS'
  by_cases hlt : i < I.segs.length
  · obtain ⟨x, hx⟩ := lt_get (l := I.segs) (i := i) (by omega)
    have hrow := map_get (f := sgC) hx
    obtain ⟨b, off, rfl, hro⟩ := (hI.segs).at_ hlt
    have hdx := hd x (List.mem_of_getElem? hx)
    repeat' (first | (first | ((with_reducible apply l_add); exact rfl; exact rfl; omega; omega; exact rfl) | ((with_reducible apply l_sub); exact rfl; exact rfl; omega; omega; exact rfl) | ((with_reducible apply l_mul); exact rfl; exact rfl; omega; omega; exact rfl) | ((with_reducible apply l_pure tabOk); exact rfl; exact rfl) | ((with_reducible apply l_load); exact rfl; (first | ((with_reducible apply Loads.sc tabOk); exact rfl; ((exact hS.blkC 0 rfl rfl))) | ((with_reducible apply Loads.st tabOk); exact rfl; ((exact hS.roR (by assumption) (by assumption))); exact rfl)); exact rfl) | ((with_reducible apply l_ix tabOk); exact rfl; exact rfl; exact rfl; ((exact rfl)); ((omega)); exact rfl) | ((with_reducible apply l_alloc hS tabOk); exact rfl; exact rfl; exact rfl; intro g w' hS'; clear hS; have hS := hS'; clear hS') | (((with_reducible apply l_store hS tabOk (i := 0)); exact rfl; exact rfl; exact rfl; exact rfl; exact rfl; exact rfl; exact rfl; exact rfl; ((exact (rfl : _ = [_, _, _, _, _]))); intro w' hS'; simp only [List.set] at hS'; clear hS; have hS := hS'; clear hS')) | (first | ((with_reducible apply l_yes); exact rfl; exact rfl; exact rfl; exact rfl; (assumption)) | ((with_reducible apply l_no); exact rfl; exact rfl; exact rfl; exact rfl; (first | exact rfl | assumption); exact rfl) | ((with_reducible apply l_partd); exact rfl; exact rfl; exact rfl; all_goals (intro hb hp; try (exfalso; omega))) | ((with_reducible apply l_pick1); exact rfl; (first | exact rfl | assumption); exact rfl; exact rfl) | ((with_reducible apply l_pick2); exact rfl; ((assumption)); exact rfl; exact rfl))) | (first | (with_reducible apply c_seq) | (with_reducible apply c_region) | (with_reducible apply l_nil) | (with_reducible apply q_then) | (with_reducible apply c_skip) | (with_reducible apply c_block) | (with_reducible apply c_ret) | (with_reducible apply q_then_ret) | (with_reducible apply q_block) | (with_reducible apply q_block_ret)) | (first | ((with_reducible apply c_ift); exact rfl; (exact rfl)) | ((with_reducible apply c_ifd); exact rfl; all_goals (intro hb hp; try (exfalso; omega)))))
    all_goals first
      | exact q_count (i + 1) (by repeat (first | exact Fr.sub_nil _ | (apply Fr.sub_cons; exact rfl))) (by omega) (all_take_succ hall hx (by unfold sgOk; rw [decide_eq_true_eq]; omega)) (by omega) hS.drop
      | (((apply q_ret1); (repeat (first | exact ResL.nil | (apply ResL.tmp; exact rfl)))); refine ⟨?_, hS.sub (List.nil_sublist _)⟩; rw [if_neg (by rw [sgsB, all_no hx (by unfold sgOk; rw [decide_eq_false_iff_not]; omega)]; simp)])
  · repeat' (first | (((with_reducible apply l_pure tabOk); exact rfl; exact rfl)) | (first | (with_reducible apply c_seq) | (with_reducible apply c_region) | (with_reducible apply l_nil) | (with_reducible apply q_then) | (with_reducible apply c_exit) | (with_reducible apply c_ret) | (with_reducible apply q_then_exit) | (with_reducible apply q_block_exit)) | (((with_reducible apply c_ifd); exact rfl; all_goals (intro hb hp; try (exfalso; omega)))))
    (apply q_ret1); (repeat (first | exact ResL.nil | (apply ResL.tmp; exact rfl)))
    refine ⟨?_, hS.sub (List.nil_sublist _)⟩
    rw [if_pos (show sgsB I = true from all_take_all hall (by omega))]
theorem notB {b : Bool} (h : b = false) : (!b) = true := by rw [h]; rfl
set_option maxRecDepth 100000 in
set_option maxHeartbeats 2000000 in
/-- the program's: the segment of an address -/
theorem at_fn {I : Im} {w : World} {vn vs vy vr : Value} (x0 : Int) (hI : ImV w I vn vs vy vr) (hok : sgsB I = true) : Fn Try.prog 125 [imA I vn vs vy vr, .int .i64 x0] w (RBf (.tuple #[.agg (sgC ((own I.segs x0).getD zeroSg)).toArray, .bool (own I.segs x0).isSome]) w) := by
  have bn := hI.needs.bound; have bs := hI.segs.bound; have by_ := hI.syms.bound; have br := hI.rels.bound; obtain ⟨pn, cn, rfl⟩ := hI.needs.len; obtain ⟨ps, cs, rfl⟩ := hI.segs.len; obtain ⟨py, cy, rfl⟩ := hI.syms.len; obtain ⟨pr, cr, rfl⟩ := hI.rels.len
  refine fn_enter (fn := Try.f125) ⟨Try.func125, by kernel_rfl, by kernel_rfl⟩ (by exact rfl) Try.ntmps125 (by exact rfl) ?_
  have hS := St.start w
  repeat' (first | (first | ((with_reducible apply l_pure tabOk); exact rfl; exact rfl) | ((with_reducible apply l_load); exact rfl; (((with_reducible apply Loads.sl tabOk); exact rfl; ((exact hS.blkC 1 rfl rfl)))); exact rfl) | ((with_reducible apply l_box hS); exact rfl; exact rfl; exact rfl; intro g w' hS'; clear hS; have hS := hS'; clear hS') | ((with_reducible apply l_alloc hS tabOk); exact rfl; exact rfl; exact rfl; intro g w' hS'; clear hS; have hS := hS'; clear hS')) | (first | (with_reducible apply c_seq) | (with_reducible apply c_region) | (with_reducible apply l_nil) | (with_reducible apply q_then) | (with_reducible apply c_block)))
  refine c_count hS 11 [1, 2, 4, 9, 10] rfl (I.segs.length) (fun i => (I.segs.take i).all (fun s => !inSg x0 s) = true) 0 rfl (Nat.zero_le _) (by (rfl)) ?_
  rintro i w1 hi hall hS'
  clear hS; have hS := hS'; clear hS'
  by_cases hlt : i < I.segs.length
  · obtain ⟨x, hx⟩ := lt_get (l := I.segs) (i := i) (by omega)
    have hrow := map_get (f := sgC) hx
    obtain ⟨b, off, rfl, hro⟩ := (hI.segs).at_ hlt
    obtain ⟨o1, o2, o3, o4, -⟩ := sg_ok hok hx
    repeat' (first | (first | ((with_reducible apply l_add); exact rfl; exact rfl; omega; omega; exact rfl) | ((with_reducible apply l_mul); exact rfl; exact rfl; omega; omega; exact rfl) | ((with_reducible apply l_pure tabOk); exact rfl; exact rfl) | ((with_reducible apply l_load); exact rfl; (first | ((with_reducible apply Loads.sc tabOk); exact rfl; ((exact hS.blkC 0 rfl rfl))) | ((with_reducible apply Loads.st tabOk); exact rfl; (first | exact hS.blkR 0 rfl | exact hS.roR (by assumption) (by assumption)); exact rfl)); exact rfl) | ((with_reducible apply l_ix tabOk); exact rfl; exact rfl; exact rfl; ((exact rfl)); ((omega)); exact rfl) | ((with_reducible apply l_alloc hS tabOk); exact rfl; exact rfl; exact rfl; intro g w' hS'; clear hS; have hS := hS'; clear hS') | (first | ((with_reducible apply l_store hS tabOk (i := 0)); exact rfl; exact rfl; exact rfl; exact rfl; exact rfl; exact rfl; exact rfl; exact rfl; ((exact (rfl : _ = [_, _, _, _, _]))); intro w' hS'; simp only [List.set] at hS'; clear hS; have hS := hS'; clear hS') | ((with_reducible apply l_store hS tabOk (i := 1)); exact rfl; exact rfl; exact rfl; exact rfl; exact rfl; exact rfl; exact rfl; exact rfl; ((exact (rfl : _ = [_, _, _, _, _]))); intro w' hS'; simp only [List.set] at hS'; clear hS; have hS := hS'; clear hS')) | (first | ((with_reducible apply l_yes); exact rfl; exact rfl; exact rfl; exact rfl; (assumption)) | ((with_reducible apply l_no); exact rfl; exact rfl; exact rfl; exact rfl; ((assumption)); exact rfl) | ((with_reducible apply l_partd); exact rfl; exact rfl; exact rfl; all_goals (intro hb hp; try (exfalso; omega))) | ((with_reducible apply l_pick1); exact rfl; ((assumption)); exact rfl; exact rfl) | ((with_reducible apply l_pick2); exact rfl; ((assumption)); exact rfl; exact rfl))) | (first | (with_reducible apply c_seq) | (with_reducible apply c_region) | (with_reducible apply l_nil) | (with_reducible apply q_then) | (with_reducible apply c_skip) | (with_reducible apply c_block) | (with_reducible apply c_ret) | (with_reducible apply q_then_ret) | (with_reducible apply q_block) | (with_reducible apply q_block_ret)) | (first | ((with_reducible apply c_iff); exact rfl; (exact rfl)) | ((with_reducible apply c_ifd); exact rfl; all_goals (intro hb hp; try (exfalso; omega)))))
    all_goals first
      | exact q_count (i + 1) (by repeat (first | exact Fr.sub_nil _ | (apply Fr.sub_cons; exact rfl))) (by omega) (all_take_succ hall hx (notB (by unfold inSg; rw [decide_eq_false_iff_not]; omega))) (by omega) hS.drop
      | skip
    (apply q_ret2); (repeat (first | exact ResL.nil | (apply ResL.tmp; exact rfl) | (apply ResL.cell; exact rfl; (((with_reducible apply Loads.st tabOk); exact rfl; ((exact hS.blkR 1 rfl)); exact rfl)))))
    refine ⟨?_, hS.sub (List.nil_sublist _)⟩
    rw [find_at hall hx (by unfold inSg; rw [decide_eq_true_eq]; omega)]
    rfl
  · repeat' (first | (first | ((with_reducible apply l_pure tabOk); exact rfl; exact rfl) | ((with_reducible apply l_build tabOk); exact rfl; exact rfl; ((exact (rfl : _ = some [_, _, _, _, _]))); exact rfl) | (((with_reducible apply l_store hS tabOk (i := 0)); exact rfl; exact rfl; exact rfl; exact rfl; exact rfl; exact rfl; exact rfl; exact rfl; ((exact (rfl : _ = [_, _, _, _, _]))); intro w' hS'; simp only [List.set] at hS'; clear hS; have hS := hS'; clear hS'))) | (first | (with_reducible apply c_seq) | (with_reducible apply c_region) | (with_reducible apply l_nil) | (with_reducible apply q_then) | (with_reducible apply c_exit) | (with_reducible apply c_ret) | (with_reducible apply q_then_exit) | (with_reducible apply q_block_exit)) | (((with_reducible apply c_ifd); exact rfl; all_goals (intro hb hp; try (exfalso; omega)))))
    (apply q_ret2); (repeat (first | exact ResL.nil | (apply ResL.tmp; exact rfl) | (apply ResL.cell; exact rfl; (((with_reducible apply Loads.st tabOk); exact rfl; ((exact hS.blkR 0 rfl)); exact rfl)))))
    refine ⟨?_, hS.sub (List.nil_sublist _)⟩
    rw [find_none hall (by omega)]
    rfl
end Go.Proofs.Ytejnpppejalhfab
/- THE STEP CALCULUS, part 13: maps of numbers by strings, of the call's own. -/
namespace Go.Proofs.Ytejnpppejalhfab
open Go.RowKit Go.Sort Go.MapKept

structure MapN (es : Array MapEntry) (L : List (List UInt8 × Int)) : Prop where
  held : es.toList.map (fun e => (e.key, e.val)) = L.map fun p => (Value.string ⟨p.1.toArray⟩, Value.int .i64 p.2)
  once : (L.map (·.1)).Nodup
theorem MapN.nil : MapN #[] [] := ⟨rfl, by simp⟩
theorem str_inj {a b : List UInt8} (h : Value.string ⟨a.toArray⟩ = Value.string ⟨b.toArray⟩) : a = b := by
  simpa using h
theorem MapN.at_ {w : World} {r c : Nat} {es : Array MapEntry} {L : List (List UInt8 × Int)} (h : MapN es L) (hr : w.heap[r]? = some (.map es c)) : MapAt .string w r (L.map fun p => (Value.string ⟨p.1.toArray⟩, Value.int .i64 p.2)) := by
  refine ⟨⟨es, c, hr, h.held⟩, fun p hp => ?_, ?_⟩
  · obtain ⟨q, _, rfl⟩ := List.mem_map.1 hp
    trivial
  · rw [List.map_map]
    have : (Prod.fst ∘ fun p : List UInt8 × Int => (Value.string ⟨p.1.toArray⟩, Value.int .i64 p.2)) = (fun x : List UInt8 => Value.string ⟨x.toArray⟩) ∘ (·.1) := rfl
    rw [this, ← List.map_map]
    exact List.Pairwise.map _ (fun a b hab e => hab (str_inj e)) h.once
section
variable {P : Program} {n : Nat} {ds : List Deferred} {E : Fr} {w : World} {Q : Exit → Act → World → Prop} {ops : Array Oper} {rest : List Oper} {d : Nat} {ty : TypeId} {pos : String} {after : Array Edge} {F : Nat → Prop} {w0 : World} {Γ : List Asr} {T : Tab}
theorem l_makeMap (hS : St F w0 w Γ) {t : TypeId} (hd : Nat.blt d n = true) (k : ∀ r w', St F w0 w' (.obj r (.map #[] 0) :: Γ) → WL P ops Q rest n ds ((d, .map (some r)) :: E) w') : WL P ops Q (⟨some d, .makeMap t none, ty, pos, after, none⟩ :: rest) n ds E w :=
  l_gets (Φ := fun v w' => ∃ r, v = .map (some r) ∧ St F w0 w' (.obj r (.map #[] 0) :: Γ)) hd (fun a ha K Q k => by
    have hex : (execOp a.eval ⟨some d, .makeMap t none, ty, pos, after, none⟩).run P w = .ok (.value (.map (some w.heap.size))) (w.alloc (.map #[] 0)) := by
      simp only [execOp]
      rfl
    unfold Oper.wp
    rw [hex]
    exact k _ _ ⟨_, rfl, hS.new (World.grownBy_alloc w _ none) ⟨(heap_alloc w _).1, rfl⟩ (by simp [Asr.fp])⟩) (by rintro _ w' ⟨r, rfl, h⟩; exact k r w' h)
theorem l_look (hS : St F w0 w Γ) (hT : TabOk P T) {t Kt Et : TypeId} {m x : Operand} {r c : Nat} (i : Nat) {es : Array MapEntry} {L : List (List UInt8 × Int)} {s : List UInt8} {u : Int} (ht : P.underlying t = some (.map Kt Et)) (hK : P.underlying Kt = some .string) (hE : T.get Et = some (.sc (.int .i64) 1 (.int .i64 0))) (hm : E.ev m = some (.map (some r))) (hx : E.ev x = some (.string ⟨s.toArray⟩)) (hi : Γ[i]? = some (.obj r (.map es c))) (hL : MapN es L)
    (hv : (s, u) ∈ L ∨ ((∀ v, (s, v) ∉ L) ∧ u = 0)) (hd : Nat.blt d n = true) (k : WL P ops Q rest n ds ((d, .int .i64 u) :: E) w) : WL P ops Q (⟨some d, .lookup t m x false, ty, pos, after, none⟩ :: rest) n ds E w :=
  l_gets (Φ := fun v w' => v = .int .i64 u ∧ w' = w) hd (Gets.of_at fun a ha => by
    have hat := hL.at_ (hS.at_ hi).1
    obtain ⟨zi, _, _, hzi, _, hz, _⟩ := hT.sc hE
    have hz' : (zeroValue Et).run P w = .ok (.int .i64 0) w := by simp [zeroValue, typeInfo, hzi, hz]
    have hrun : (Instr.lookup t (.map (some r)) (.string ⟨s.toArray⟩) false).run P w = .ok (.int .i64 u) w := by
      rcases hv with hv | ⟨hv, rfl⟩
      · exact run_lookup_hit (k := .string ⟨s.toArray⟩) (v := .int .i64 u) ht hK hat trivial (List.mem_map.2 ⟨(s, u), hv, rfl⟩) false
      · refine run_lookup_miss (k := .string ⟨s.toArray⟩) ht hK hat trivial (fun v hv' => ?_) hz' false
        obtain ⟨q, hq, e⟩ := List.mem_map.1 hv'
        simp only [Prod.mk.injEq] at e
        have := str_inj e.1
        exact hv q.2 (by rw [← this]; exact hq)
    simp only [execOp, ha.ev hm, ha.ev hx, Sem.run_bind, hrun, Result.andThen_ok, Sem.run_pure]) (by rintro _ _ ⟨rfl, rfl⟩; exact k)
theorem upd_old {t Kt Et : TypeId} {r c : Nat} {es : Array MapEntry} {L : List (List UInt8 × Int)} {s : List UInt8} {u v : Int} (ht : P.underlying t = some (.map Kt Et)) (hK : P.underlying Kt = some .string) (hr : w.heap[r]? = some (.map es c)) (hL : MapN es L) (hm : (s, u) ∈ L) :
    ∃ es', (Instr.mapUpdate t (.map (some r)) (.string ⟨s.toArray⟩) (.int .i64 v)).run P w = .ok () { w with heap := w.heap.setIfInBounds r (.map es' c) } ∧ ∃ L', MapN es' L' ∧ (s, v) ∈ L' := by
  have hat := hL.at_ hr
  have hk : IsKey .string (Value.string ⟨s.toArray⟩) := trivial
  have hkeys : ∀ e ∈ es.toList, IsKey .string e.key := fun e he => hat.keys (e.key, e.val) (by rw [← hL.held]; exact List.mem_map.2 ⟨e, he, rfl⟩)
  have hnd : (es.toList.map (·.key)).Nodup := by
    have := hat.once
    rw [← hL.held, List.map_map] at this
    exact this
  have hmem : ∃ e ∈ es.toList, e.key = .string ⟨s.toArray⟩ ∧ e.val = .int .i64 u := by
    have : ((Value.string ⟨s.toArray⟩, Value.int .i64 u) : Value × Value) ∈ es.toList.map (fun e => (e.key, e.val)) := by
      rw [hL.held]; exact List.mem_map.2 ⟨(s, u), hm, rfl⟩
    obtain ⟨e, he, h2⟩ := List.mem_map.1 this
    simp only [Prod.mk.injEq] at h2
    exact ⟨e, he, h2⟩
  obtain ⟨j, hj, hf, hkj⟩ := findNow_hit (v := .int .i64 u) hk es.toList 0 hkeys hnd hmem
  rw [Nat.zero_add] at hf
  have h1 := run_checkKey (P := P) (w := w) hK hk false 9999
  have h2 := run_findKey (P := P) (w := w) hK hf
  have hjs : j < es.size := by simpa using hj
  have hkj' : (es[j]?.map (·.key)).getD (Value.string ⟨s.toArray⟩) = .string ⟨s.toArray⟩ := by
    rw [show es[j]? = es.toList[j]? by simp, hkj]; rfl
  have h3 := run_keyThatStays (P := P) (w := w) hk
  refine ⟨es.modify j fun e => { e with key := .string ⟨s.toArray⟩, val := .int .i64 v }, ?_, L.set j (s, v), ⟨?_, ?_⟩, ?_⟩
  · simp only [Instr.mapUpdate, run_underlying ht, Go.MapKept.run_getObj_map hr, h1, h2, Result.andThen_ok, Sem.run_bind, hkj', h3, run_setObj_map _ hr]
  · refine List.ext_getElem? fun m => ?_
    rw [List.map_set, ← hL.held, Array.toList_modify, List.getElem?_map, List.getElem?_modify, List.getElem?_set, List.getElem?_map, List.length_map]
    by_cases e : j = m
    · subst e
      have : es.toList[j]? = some es[j] := by simp [hjs]
      rw [this, if_pos rfl, if_pos hj]
      simp
    · simp [e]
  · have hLj : ∃ q, L[j]? = some q ∧ q.1 = s := by
      have h4 := congrArg (fun l => l[j]?) hL.held
      simp only [List.getElem?_map] at h4
      cases hq : L[j]? with
      | none => rw [hq] at h4; simp [hjs] at h4
      | some q =>
        refine ⟨q, rfl, ?_⟩
        rw [hq] at h4
        have h5 : es.toList[j]? = some es[j] := by simp [hjs]
        rw [h5] at h4 hkj
        simp only [Option.map_some, Option.some.injEq, Prod.mk.injEq] at h4 hkj
        exact str_inj (h4.1.symm.trans hkj)
    obtain ⟨q, hq, hqs⟩ := hLj
    rw [List.map_set]
    have : (L.map (·.1)).set j s = L.map (·.1) := by
      refine List.ext_getElem? fun m => ?_
      rw [List.getElem?_set]
      split
      · rename_i e
        subst e
        simp only [List.length_map, List.getElem?_map, hq, Option.map_some, hqs]
        rw [if_pos (lt_of_getE hq)]
      · rfl
    rw [show (s, v).1 = s from rfl, this]
    exact hL.once
  · have : j < L.length := by have := congrArg List.length hL.held; rw [List.length_map, List.length_map] at this; omega
    exact List.mem_iff_getElem?.2 ⟨j, by simp [this]⟩
theorem upd_new {t Kt Et : TypeId} {r c : Nat} {es : Array MapEntry} {L : List (List UInt8 × Int)} {s : List UInt8} {v : Int} (ht : P.underlying t = some (.map Kt Et)) (hK : P.underlying Kt = some .string) (hr : w.heap[r]? = some (.map es c)) (hL : MapN es L) (hm : ∀ v, (s, v) ∉ L) :
    ∃ es' c', (Instr.mapUpdate t (.map (some r)) (.string ⟨s.toArray⟩) (.int .i64 v)).run P w = .ok () { w with heap := w.heap.setIfInBounds r (.map es' c') } ∧ MapN es' (L ++ [(s, v)]) := by
  have hat := hL.at_ hr
  have hk : IsKey .string (Value.string ⟨s.toArray⟩) := trivial
  have hkeys : ∀ e ∈ es.toList, IsKey .string e.key := fun e he => hat.keys (e.key, e.val) (by rw [← hL.held]; exact List.mem_map.2 ⟨e, he, rfl⟩)
  have hno : ∀ e ∈ es.toList, e.key ≠ .string ⟨s.toArray⟩ := fun e he hek => by
    have : (e.key, e.val) ∈ L.map fun p => (Value.string ⟨p.1.toArray⟩, Value.int .i64 p.2) := by rw [← hL.held]; exact List.mem_map.2 ⟨e, he, rfl⟩
    obtain ⟨q, hq, h2⟩ := List.mem_map.1 this
    simp only [Prod.mk.injEq] at h2
    exact hm q.2 (by rw [← str_inj (h2.1.trans hek)]; exact hq)
  have hf := findNow_miss hk es.toList 0 hkeys hno
  have h1 := run_checkKey (P := P) (w := w) hK hk false 9999
  have h2 := run_findKey (P := P) (w := w) hK hf
  refine ⟨es.push { key := .string ⟨s.toArray⟩, val := .int .i64 v, born := c }, c + 1, ?_, ?_, ?_⟩
  · simp only [Instr.mapUpdate, run_underlying ht, Go.MapKept.run_getObj_map hr, h1, h2, Result.andThen_ok, Sem.run_bind, run_setObj_map _ hr]
  · simp [hL.held]
  · rw [List.map_append, List.nodup_append]
    refine ⟨hL.once, by simp, fun a ha b hb' => ?_⟩
    have : b = s := by simpa using hb'
    subst this
    rintro rfl
    obtain ⟨p, hp, hpk⟩ := List.mem_map.1 ha
    exact hm p.2 (by rw [← hpk]; exact hp)
theorem l_upd (hS : St F w0 w Γ) {t Kt Et : TypeId} {m x y : Operand} {r c : Nat} (i : Nat) {es : Array MapEntry} {L : List (List UInt8 × Int)} {s : List UInt8} {v : Int} (ht : P.underlying t = some (.map Kt Et)) (hK : P.underlying Kt = some .string) (hm : E.ev m = some (.map (some r))) (hx : E.ev x = some (.string ⟨s.toArray⟩)) (hy : E.ev y = some (.int .i64 v)) (hi : Γ[i]? = some (.obj r (.map es c))) (hL : MapN es L)
    (k1 : (∃ u, (s, u) ∈ L) → ∀ es' c' L' w', MapN es' L' → (s, v) ∈ L' → St F w0 w' (Γ.set i (.obj r (.map es' c'))) → WL P ops Q rest n ds E w')
    (k2 : (∀ u, (s, u) ∉ L) → ∀ es' c' w', MapN es' (L ++ [(s, v)]) → St F w0 w' (Γ.set i (.obj r (.map es' c'))) → WL P ops Q rest n ds E w') : WL P ops Q (⟨none, .mapUpdate t m x y, ty, pos, after, none⟩ :: rest) n ds E w := by
  have hr := (hS.at_ hi).1
  have hst : ∀ (es' : Array MapEntry) (c' : Nat), St F w0 { w with heap := w.heap.setIfInBounds r (.map es' c') } (Γ.set i (.obj r (.map es' c'))) := fun es' c' => by
    have hset := heap_set (o' := Obj.map es' c') hr
    exact hS.upd hi ⟨rfl, rfl, rfl, by simp, fun g _ hg => hset.2 g (fun e => hg (by simp [Asr.fp, e]))⟩ ⟨hset.1, rfl⟩ (fun q hq => Or.inl hq)
  have go : ∀ (es' : Array MapEntry) (c' : Nat), (Instr.mapUpdate t (.map (some r)) (.string ⟨s.toArray⟩) (.int .i64 v)).run P w = .ok () { w with heap := w.heap.setIfInBounds r (.map es' c') } → (∀ w', St F w0 w' (Γ.set i (.obj r (.map es' c'))) → WL P ops Q rest n ds E w') → WL P ops Q (⟨none, .mapUpdate t m x y, ty, pos, after, none⟩ :: rest) n ds E w := fun es' c' hrun k =>
    l_gets0 (Φ := fun _ w' => St F w0 w' (Γ.set i (.obj r (.map es' c')))) (fun a ha K Q kk => by
      have hex : (execOp a.eval ⟨none, .mapUpdate t m x y, ty, pos, after, none⟩).run P w = .ok .skip { w with heap := w.heap.setIfInBounds r (.map es' c') } := by
        simp only [execOp, ha.ev hm, ha.ev hx, ha.ev hy, Sem.run_bind, hrun, Result.andThen_ok, Sem.run_pure]
      unfold Oper.wp
      rw [hex]
      exact kk undef _ (hst es' c')) (fun _ w' h => k w' h)
  by_cases hex : ∃ u, (s, u) ∈ L
  · obtain ⟨u, hu⟩ := hex
    obtain ⟨es', hrun, L', h1, h2⟩ := upd_old (v := v) ht hK hr hL hu
    exact go es' c hrun (fun w' h => k1 ⟨u, hu⟩ es' c L' w' h1 h2 h)
  · have hno : ∀ u, (s, u) ∉ L := fun u hu => hex ⟨u, hu⟩
    obtain ⟨es', c', hrun, h1⟩ := upd_new (v := v) ht hK hr hL hno
    exact go es' c' hrun (fun w' h => k2 hno es' c' w' h1 h)
end
end Go.Proofs.Ytejnpppejalhfab
/- Does a name stand twice? -/
namespace Go.Proofs.Ytejnpppejalhfab
open Go.RowKit Go.Sort

def ones (l : List (List UInt8)) (i : Nat) : List (List UInt8 × Int) := (l.take i).map fun s => (s, 1)
theorem ones_mem {l : List (List UInt8)} {i : Nat} {x : List UInt8} {u : Int} : (x, u) ∈ ones l i ↔ x ∈ l.take i ∧ u = 1 := by
  unfold ones
  rw [List.mem_map]
  constructor
  · rintro ⟨y, h1, h2⟩; cases h2; exact ⟨h1, rfl⟩
  · rintro ⟨h1, rfl⟩; exact ⟨x, h1, rfl⟩
set_option maxRecDepth 100000 in
set_option maxHeartbeats 2000000 in
theorem twice_fn {l : List (List UInt8)} {w : World} {v : Value} (hl : Sl nF w 1 v (l.map stC)) : Fn Try.prog 124 [v] w (RBf (.bool (pB (Dup l))) w) := by
  have bl := hl.bound
  obtain ⟨pl, cl, rfl⟩ := hl.len
  refine fn_enter (fn := Try.f124) ⟨Try.func124, by kernel_rfl, by kernel_rfl⟩ (by exact rfl) Try.ntmps124 (by exact rfl) ?_
  have hS := St.start w
  repeat' (first | (((with_reducible apply l_pure tabOk); exact rfl; exact rfl)) | (first | (with_reducible apply c_seq) | (with_reducible apply c_region) | (with_reducible apply l_nil) | (with_reducible apply q_then) | (with_reducible apply c_block)) | ((with_reducible apply l_makeMap hS); exact rfl; intro r w' hS'; clear hS; have hS := hS'; clear hS'))
  refine c_loopK (X := Nat × Array MapEntry × Nat) (fun x => [(9, .int .i64 (x.1 : Nat))]) [3, 7, 8] rfl (fun x => [.obj r (.map x.2.1 x.2.2)]) (fun x => x.1 ≤ l.length ∧ MapN x.2.1 (ones l x.1)) (fun x => l.length - x.1) (0, #[], 0) (by repeat (first | exact Fr.sub_nil _ | (apply Fr.sub_cons; exact rfl))) ⟨Nat.zero_le _, MapN.nil⟩ hS ?_
  clear hS
  rintro ⟨i, es, c⟩ w1 ⟨hi, hL⟩ hS
  simp only [List.cons_append, List.nil_append] at hi hL hS ⊢
  by_cases hlt : i < l.length
  · obtain ⟨x, hx⟩ := lt_get (l := l) (i := i) (by omega)
    have hrow := map_get (f := stC) hx
    obtain ⟨b, off, rfl, hro⟩ := hl.at_ hlt
    by_cases hin : x ∈ l.take i
    · have hv : (x, (1 : Int)) ∈ ones l i ∨ ((∀ v, (x, v) ∉ ones l i) ∧ (1 : Int) = 0) := Or.inl (ones_mem.2 ⟨hin, rfl⟩)
      repeat' (first | (first | ((with_reducible apply l_add); exact rfl; exact rfl; omega; omega; exact rfl) | ((with_reducible apply l_pure tabOk); exact rfl; exact rfl) | ((with_reducible apply l_load); exact rfl; (((with_reducible apply Loads.sc tabOk); exact rfl; ((exact hS.roC0 (by assumption) (by assumption) rfl)))); exact rfl) | ((with_reducible apply l_ix tabOk); exact rfl; exact rfl; exact rfl; ((exact rfl)); ((omega)); exact rfl)) | (first | (with_reducible apply c_seq) | (with_reducible apply c_region) | (with_reducible apply l_nil) | (with_reducible apply q_then) | (with_reducible apply c_skip) | (with_reducible apply c_block) | (with_reducible apply c_ret) | (with_reducible apply q_then_ret) | (with_reducible apply q_block_ret)) | (first | ((with_reducible apply c_ift); exact rfl; (exact rfl)) | ((with_reducible apply c_ifd); exact rfl; all_goals (intro hb hp; try (exfalso; omega)))) | ((with_reducible apply l_look hS tabOk 0 (u := 1) (ht := Try.underlying99) (hK := Try.underlying9) (hL := hL)); exact rfl; exact rfl; exact rfl; exact rfl; exact hv; exact rfl) | ((with_reducible apply l_upd hS 0 (ht := Try.underlying99) (hK := Try.underlying9) (hL := hL)); exact rfl; exact rfl; exact rfl; exact rfl; (intro hex es2 c2 L2 w' hL2 hin2 hS'; simp only [List.set] at hS'; clear hS; have hS := hS'; clear hS'); rotate_left; (intro hex es2 c2 w' hL2 hS'; simp only [List.set] at hS'; clear hS; have hS := hS'; clear hS'); rotate_left) | ((with_reducible apply l_look hS tabOk 0 (u := (1 + 1 : Int)) (ht := Try.underlying99) (hK := Try.underlying9) (hL := hL2)); exact rfl; exact rfl; exact rfl; exact rfl; (left; assumption); exact rfl))
      · (apply q_ret1); (repeat (first | exact ResL.nil | (apply ResL.tmp; exact rfl)))
        refine ⟨?_, hS.sub (List.nil_sublist _)⟩
        obtain ⟨j, hj⟩ := List.mem_iff_getElem?.1 hin
        have hji := lt_of_getE hj
        rw [List.length_take] at hji
        rw [List.getElem?_take, if_pos (by omega)] at hj
        rw [pB_true ⟨i, j, x, by omega, hx, hj⟩]
      · exact (hex 1 (ones_mem.2 ⟨hin, rfl⟩)).elim
    · have hv : (x, (0 : Int)) ∈ ones l i ∨ ((∀ v, (x, v) ∉ ones l i) ∧ (0 : Int) = 0) := Or.inr ⟨fun v hv => hin (ones_mem.1 hv).1, rfl⟩
      have hin3 : (x, (0 + 1 : Int)) ∈ ones l i ++ [(x, (0 + 1 : Int))] := by simp
      repeat' (first | (first | ((with_reducible apply l_add); exact rfl; exact rfl; omega; omega; exact rfl) | ((with_reducible apply l_pure tabOk); exact rfl; exact rfl) | ((with_reducible apply l_load); exact rfl; (((with_reducible apply Loads.sc tabOk); exact rfl; ((exact hS.roC0 (by assumption) (by assumption) rfl)))); exact rfl) | ((with_reducible apply l_ix tabOk); exact rfl; exact rfl; exact rfl; ((exact rfl)); ((omega)); exact rfl)) | (first | (with_reducible apply c_seq) | (with_reducible apply c_region) | (with_reducible apply l_nil) | (with_reducible apply q_then) | (with_reducible apply c_skip) | (with_reducible apply c_block) | (with_reducible apply q_block)) | (first | ((with_reducible apply c_iff); exact rfl; (exact rfl)) | ((with_reducible apply c_ifd); exact rfl; all_goals (intro hb hp; try (exfalso; omega)))) | ((with_reducible apply l_look hS tabOk 0 (u := 0) (ht := Try.underlying99) (hK := Try.underlying9) (hL := hL)); exact rfl; exact rfl; exact rfl; exact rfl; exact hv; exact rfl) | ((with_reducible apply l_upd hS 0 (ht := Try.underlying99) (hK := Try.underlying9) (hL := hL)); exact rfl; exact rfl; exact rfl; exact rfl; (intro hex es2 c2 L2 w' hL2 hin2 hS'; simp only [List.set] at hS'; clear hS; have hS := hS'; clear hS'); rotate_left; (intro hex es2 c2 w' hL2 hS'; simp only [List.set] at hS'; clear hS; have hS := hS'; clear hS'); rotate_left) | ((with_reducible apply l_look hS tabOk 0 (u := (0 + 1 : Int)) (ht := Try.underlying99) (hK := Try.underlying9) (hL := hL2)); exact rfl; exact rfl; exact rfl; exact rfl; (left; assumption); exact rfl))
      · obtain ⟨u, hu⟩ := hex
        exact (hin (ones_mem.1 hu).1).elim
      · rw [show ones l i ++ [(x, (0 + 1 : Int))] = ones l (i + 1) by unfold ones; rw [take_snoc hx]; simp] at hL2
        exact q_loopK (i + 1, es2, c2) (by repeat (first | exact Fr.sub_nil _ | (apply Fr.sub_cons; exact rfl))) ⟨by show i + 1 ≤ l.length; omega, hL2⟩ hS (by show l.length - (i + 1) < l.length - i; omega)
  · repeat' (first | (((with_reducible apply l_pure tabOk); exact rfl; exact rfl)) | (first | (with_reducible apply c_seq) | (with_reducible apply c_region) | (with_reducible apply l_nil) | (with_reducible apply q_then) | (with_reducible apply c_exit) | (with_reducible apply c_ret) | (with_reducible apply q_then_exit) | (with_reducible apply q_block_exit)) | (((with_reducible apply c_ifd); exact rfl; all_goals (intro hb hp; try (exfalso; omega)))))
    (apply q_ret1); (repeat (first | exact ResL.nil | (apply ResL.tmp; exact rfl)))
    refine ⟨?_, hS.sub (List.nil_sublist _)⟩
    rw [pB_false]
    rintro ⟨a, b, x, h1, h2, h3⟩
    have hn := hL.once
    unfold ones at hn
    rw [List.take_of_length_le (by omega), List.map_map] at hn
    have : ((fun p : List UInt8 × Int => p.1) ∘ fun s => (s, 1)) = (id : List UInt8 → List UInt8) := rfl
    rw [show ((fun p : List UInt8 × Int => p.1) ∘ fun s => (s, (1 : Int))) = (id : List UInt8 → List UInt8) from rfl, List.map_id] at hn
    obtain ⟨ha, ea⟩ := List.getElem?_eq_some_iff.1 h2
    obtain ⟨hb, eb⟩ := List.getElem?_eq_some_iff.1 h3
    exact (List.pairwise_iff_getElem.1 hn b a hb ha h1) (eb.trans ea.symm)
end Go.Proofs.Ytejnpppejalhfab
/- An image: what lies apart. -/
namespace Go.Proofs.Ytejnpppejalhfab
open Go.RowKit Go.Sort

theorem apt_yes {I : Im} (h1 : Ch I.segs) (h2 : ¬ Dup (I.syms.map (·.name))) (h3 : ¬ Dup I.needs) : aptB I = true := pB_true ⟨h1, h2, h3⟩
theorem apt_ch {I : Im} (h1 : ¬ Ch I.segs) : aptB I = false := pB_false fun h => h1 h.1
theorem apt_sy {I : Im} (h2 : Dup (I.syms.map (·.name))) : aptB I = false := pB_false fun h => h.2.1 h2
theorem apt_nd {I : Im} (h2 : Dup I.needs) : aptB I = false := pB_false fun h => h.2.2 h2
def syN (I : Im) (i : Nat) : List (List UInt8) := (I.syms.take i).map (·.name)
theorem syN_succ {I : Im} {i : Nat} {x : Sy} (hx : I.syms[i]? = some x) : (syN I i).map stC ++ [stC x.name] = (syN I (i + 1)).map stC := by
  unfold syN; rw [take_snoc hx]; simp
theorem syN_len {I : Im} (h : ImB I) (i : Nat) : ((syN I i).map stC).length ≤ 1048576 := by
  have h2 := h.syms
  simp only [syN, List.length_map, List.length_take]; omega
theorem syN_all {I : Im} {i : Nat} (h : I.syms.length ≤ i) : syN I i = I.syms.map (·.name) := by unfold syN; rw [List.take_of_length_le h]
set_option maxRecDepth 100000 in
set_option maxHeartbeats 2000000 in
theorem apart_fn {I : Im} {w : World} {vn vs vy vr : Value} (hI : ImV w I vn vs vy vr) (hB : ImB I) (hok : sgsB I = true) : Fn Try.prog 91 [imA I vn vs vy vr] w (RBf (.int .i64 (if aptB I = true then 0 else 5)) w) := by
  have bn := hI.needs.bound; have bs := hI.segs.bound; have by_ := hI.syms.bound; have br := hI.rels.bound; obtain ⟨pn, cn, rfl⟩ := hI.needs.len; obtain ⟨ps, cs, rfl⟩ := hI.segs.len; obtain ⟨py, cy, rfl⟩ := hI.syms.len; obtain ⟨pr, cr, rfl⟩ := hI.rels.len
  refine fn_enter (fn := Try.f91) ⟨Try.func91, by kernel_rfl, by kernel_rfl⟩ (by exact rfl) Try.ntmps91 (by exact rfl) ?_
  have hS := St.start w
  have hb2 := hB.syms
  repeat' (first | (first | ((with_reducible apply l_pure tabOk); exact rfl; exact rfl) | ((with_reducible apply l_box hS); exact rfl; exact rfl; exact rfl; intro g w' hS'; clear hS; have hS := hS'; clear hS')) | (first | (with_reducible apply c_seq) | (with_reducible apply c_region) | (with_reducible apply l_nil) | (with_reducible apply q_then) | (with_reducible apply c_block)))
  refine c_count hS 3 [1] rfl (I.segs.length + 1) (fun i => 1 ≤ i ∧ ∀ (j : Nat) (a b : Sg), j + 1 < i → I.segs[j]? = some a → I.segs[j + 1]? = some b → a.pg + a.n ≤ b.pg) 1 rfl (by omega) ⟨Nat.le_refl _, by intros; omega⟩ ?_
  rintro i w1 hi ⟨hi1, hall⟩ hS'
  clear hS; have hS := hS'; clear hS'
  by_cases hlt : i < I.segs.length
  · obtain ⟨x, hx⟩ := lt_get (l := I.segs) (i := i) (by omega)
    have hrow := map_get (f := sgC) hx
    obtain ⟨b, off, rfl, hro⟩ := (hI.segs).at_ hlt
    obtain ⟨y, hy⟩ := lt_get (l := I.segs) (i := i - 1) (by omega)
    have hrow2 := map_get (f := sgC) hy
    have hix : ((i - 1 : Nat) : Int) = (i : Int) - 1 := by omega
    obtain ⟨o1, o2, o3, o4, -⟩ := sg_ok hok hx
    obtain ⟨u1, u2, u3, u4, -⟩ := sg_ok hok hy
    repeat' (first | (first | ((with_reducible apply l_add); exact rfl; exact rfl; omega; omega; exact rfl) | ((with_reducible apply l_pure tabOk); exact rfl; exact rfl) | ((with_reducible apply l_load); exact rfl; (((with_reducible apply Loads.sl tabOk); exact rfl; ((exact hS.blkC 0 rfl rfl)))); exact rfl)) | (first | (with_reducible apply c_seq) | (with_reducible apply c_region) | (with_reducible apply l_nil) | (with_reducible apply q_then) | (with_reducible apply c_skip) | (with_reducible apply c_block) | (with_reducible apply c_ret) | (with_reducible apply q_then_ret) | (with_reducible apply q_block) | (with_reducible apply q_block_ret)) | (((with_reducible apply c_ifd); exact rfl; all_goals (intro hb hp; try (exfalso; omega)))) | (focus ((with_reducible apply c_drawAll nF _ _ (by kernel_rfl) (by kernel_rfl) hS); (repeat' ((first | ((with_reducible apply d_add); exact rfl; exact rfl; omega; omega; exact rfl) | ((with_reducible apply d_sub); exact rfl; exact rfl; omega; omega; exact rfl) | ((with_reducible apply d_pure tabOk); exact rfl; exact rfl) | ((with_reducible apply d_load); exact rfl; (intro wd hd; replace hd : St _ _ wd _ := hd; (first | ((with_reducible apply Loads.sc tabOk); exact rfl; (first | exact hd.roC0 (by assumption) (by assumption) rfl | exact hd.roC (by assumption) (by assumption) rfl)) | ((with_reducible apply Loads.sl tabOk); exact rfl; ((exact hd.blkC 0 rfl rfl))))); exact rfl) | ((with_reducible apply d_ix tabOk); exact rfl; exact rfl; exact rfl; (first | exact rfl | assumption); ((omega)); exact rfl)))); all_goals ((with_reducible apply d_nil); intro w' hS'; clear hS; have hS := hS'; clear hS'))))
    · (apply q_ret1); (repeat (first | exact ResL.nil | (apply ResL.tmp; exact rfl)))
      refine ⟨?_, hS.sub (List.nil_sublist _)⟩
      rw [if_neg (by rw [apt_ch (fun h => by have := h (i - 1) y x hy (by rw [show i - 1 + 1 = i by omega]; exact hx); omega)]; simp)]
    · refine q_count (i + 1) (by repeat (first | exact Fr.sub_nil _ | (apply Fr.sub_cons; exact rfl))) (by omega) ⟨by omega, fun j a b h1 h2 h3 => ?_⟩ (by omega) hS
      by_cases e : j = i - 1
      · subst e
        rw [show i - 1 + 1 = i by omega] at h3
        rw [hy] at h2
        rw [hx] at h3
        cases h2
        cases h3
        omega
      · exact hall j a b (by omega) h2 h3
  have hch : Ch I.segs := fun j a b h1 h2 => hall j a b (by have := lt_of_getE h2; omega) h1 h2
  repeat' (first | (first | ((with_reducible apply l_pure tabOk); exact rfl; exact rfl) | ((with_reducible apply l_load); exact rfl; (((with_reducible apply Loads.sl tabOk); exact rfl; ((exact hS.blkC 0 rfl rfl)))); exact rfl)) | (first | (with_reducible apply c_seq) | (with_reducible apply c_region) | (with_reducible apply l_nil) | (with_reducible apply q_then) | (with_reducible apply c_block) | (with_reducible apply c_exit) | (with_reducible apply q_then_exit) | (with_reducible apply q_block_exit)) | (((with_reducible apply c_ifd); exact rfl; all_goals (intro hb hp; try (exfalso; omega)))))
  replace hS := hS.addNil 9 1
  rw [show ([] : List (List Value)) = (syN I 0).map stC from rfl] at hS
  refine c_loopK (X := Nat × Option Addr × Nat × Nat) (fun x => [(39, .int .i64 (x.1 : Nat)), (4, .slice x.2.1 x.2.2.1 x.2.2.2)]) [1, 37, 38] rfl (fun x => [.row 9 1 (.slice x.2.1 x.2.2.1 x.2.2.2) ((syN I x.1).map stC)]) (fun x => x.1 ≤ I.syms.length) (fun x => I.syms.length - x.1) (0, none, 0, 0) (by repeat (first | exact Fr.sub_nil _ | (apply Fr.sub_cons; exact rfl))) (by exact Nat.zero_le _) hS ?_
  clear hi hlt hb hp hall hi1 hS
  rintro ⟨j, q1, q2, q3⟩ w1 hi hS
  simp only [List.cons_append, List.nil_append] at hi hS ⊢
  by_cases hlt : j < I.syms.length
  · obtain ⟨x, hx⟩ := lt_get (l := I.syms) (i := j) (by omega)
    have hrow := map_get (f := syC) hx
    obtain ⟨b, off, rfl, hro⟩ := hI.syms.at_ hlt
    have hl1 := syN_len hB j
    repeat' (first | (first | ((with_reducible apply l_add); exact rfl; exact rfl; omega; omega; exact rfl) | ((with_reducible apply l_pure tabOk); exact rfl; exact rfl) | ((with_reducible apply l_load); exact rfl; (first | ((with_reducible apply Loads.sc tabOk); exact rfl; ((exact hS.blkC 0 rfl rfl))) | ((with_reducible apply Loads.st tabOk); exact rfl; ((exact hS.roR (by assumption) (by assumption))); exact rfl)); exact rfl) | ((with_reducible apply l_ix tabOk); exact rfl; exact rfl; exact rfl; ((exact rfl)); ((omega)); exact rfl) | ((with_reducible apply l_alloc hS tabOk); exact rfl; exact rfl; exact rfl; intro g w' hS'; clear hS; have hS := hS'; clear hS') | (((with_reducible apply l_store hS tabOk (i := 0)); exact rfl; exact rfl; exact rfl; exact rfl; exact rfl; exact rfl; exact rfl; exact rfl; ((exact (rfl : _ = [_, _]))); intro w' hS'; simp only [List.set] at hS'; clear hS; have hS := hS'; clear hS')) | ((with_reducible apply l_bslice hS tabOk); exact rfl; exact rfl; exact rfl; exact rfl; exact rfl; exact rfl; exact rfl; intro g w' hS'; clear hS; have hS := hS'; clear hS')) | (first | (with_reducible apply c_seq) | (with_reducible apply c_region) | (with_reducible apply l_nil) | (with_reducible apply q_then) | (with_reducible apply c_skip) | (with_reducible apply c_block) | (with_reducible apply q_block)) | (((with_reducible apply c_ifd); exact rfl; all_goals (intro hb hp; try (exfalso; omega)))) | ((with_reducible apply l_append hS tabOk 2); exact rfl; exact rfl; exact rfl; exact rfl; exact hS.rowRo 0 rfl; exact rfl; ((omega)); exact rfl; intro p' cap' w' hS'; simp only [List.set] at hS'; clear hS; have hS := hS'; clear hS'))
    rw [show [[.string ⟨x.name.toArray⟩]] = [stC x.name] from rfl, syN_succ hx] at hS
    refine q_loopK (j + 1, p', _, cap') (by repeat (first | exact Fr.sub_nil _ | (apply Fr.sub_cons; exact rfl))) (by show j + 1 ≤ I.syms.length; omega) ?_ (by show I.syms.length - (j + 1) < I.syms.length - j; omega)
    exact (hS.drop.drop)
  rw [syN_all (by omega)] at hS
  repeat' (first | (first | ((with_reducible apply l_pure tabOk); exact rfl; exact rfl) | ((with_reducible apply l_load); exact rfl; (((with_reducible apply Loads.sl tabOk); exact rfl; ((exact hS.blkC 1 rfl rfl)))); exact rfl) | (first | ((with_reducible apply l_yes); exact rfl; exact rfl; exact rfl; exact rfl; (assumption)) | ((with_reducible apply l_no); exact rfl; exact rfl; exact rfl; exact rfl; ((assumption)); exact rfl) | ((with_reducible apply l_partd); exact rfl; exact rfl; exact rfl; all_goals (intro hb hp; try (exfalso; omega))) | ((with_reducible apply l_pick1); exact rfl; ((assumption)); exact rfl; exact rfl) | ((with_reducible apply l_pick2); exact rfl; ((assumption)); exact rfl; exact rfl))) | (first | (with_reducible apply c_seq) | (with_reducible apply c_region) | (with_reducible apply l_nil) | (with_reducible apply q_then) | (with_reducible apply c_skip) | (with_reducible apply c_exit) | (with_reducible apply c_ret) | (with_reducible apply q_then_exit) | (with_reducible apply q_then_ret) | (with_reducible apply q_block_exit)) | (first | ((with_reducible apply c_ift); exact rfl; (exact rfl)) | ((with_reducible apply c_ifd); exact rfl; all_goals (intro hb hp; try (exfalso; omega)))) | ((with_reducible apply l_call); exact rfl; exact rfl; exact twice_fn (hS.rowSl 0 rfl); exact rfl; rintro _ w' ⟨rfl, hS'⟩; replace hS := hS.transA hS'; simp only [appA] at hS; clear hS') | ((with_reducible apply l_call); exact rfl; exact rfl; exact twice_fn (hI.needs.now hS); exact rfl; rintro _ w' ⟨rfl, hS'⟩; replace hS := hS.transA hS'; simp only [appA] at hS; clear hS'))
  all_goals (apply q_ret1); (repeat (first | exact ResL.nil | (apply ResL.tmp; exact rfl)))
  all_goals refine ⟨?_, hS.sub (List.nil_sublist _)⟩
  · rw [if_neg (by rw [apt_sy hp]; simp)]
  · rw [if_neg (by rw [apt_nd hp]; simp)]
  · rw [if_pos (apt_yes hch (by assumption) hp)]
end Go.Proofs.Ytejnpppejalhfab
/- An image: places. -/
namespace Go.Proofs.Ytejnpppejalhfab
open Go.RowKit Go.Sort

theorem at_eq {I : Im} {w : World} {vn vs vy vr : Value} {x0 : Int} {o : Option Sg} (e : own I.segs x0 = o) (hI : ImV w I vn vs vy vr) (hok : sgsB I = true) : Fn Try.prog 125 [imA I vn vs vy vr, .int .i64 x0] w (RBf (.tuple #[.agg (sgC (o.getD zeroSg)).toArray, .bool o.isSome]) w) := by
  subst e
  exact at_fn x0 hI hok
theorem own_pos {I : Im} (hok : sgsB I = true) {x : Int} {s : Sg} (h : own I.segs x = some s) : 0 ≤ x := by
  have h1 := List.find?_some h
  have h2 := List.mem_of_find?_eq_some h
  obtain ⟨k, hk⟩ := List.mem_iff_getElem?.1 h2
  obtain ⟨o1, o2, o3, o4, -⟩ := sg_ok hok hk
  unfold inSg at h1
  rw [decide_eq_true_eq] at h1
  omega
/-- what the first i relocations have shown -/
structure PlR (I : Im) (i : Nat) : Prop where
  rels : ∀ (k : Nat) (r : Rl), k < i → I.rels[k]? = some r → (0 ≤ r.at_ ∧ r.at_ ≤ 4080) ∧ ∀ b : Int, 0 ≤ b → b < 8 → (own I.segs (r.at_ + b)).isSome = true
  step : ∀ (k : Nat) (q r : Rl), k + 1 < i → I.rels[k]? = some q → I.rels[k + 1]? = some r → q.at_ + 8 ≤ r.at_
theorem PlR.zero (I : Im) : PlR I 0 := ⟨by intros; omega, by intros; omega⟩
theorem PlR.succ {I : Im} {i : Nat} {x : Rl} (h : PlR I i) (hx : I.rels[i]? = some x) (h1 : 0 ≤ x.at_ ∧ x.at_ ≤ 4080) (h2 : ∀ b : Int, 0 ≤ b → b < 8 → (own I.segs (x.at_ + b)).isSome = true) (h3 : ∀ q, 0 < i → I.rels[i - 1]? = some q → q.at_ + 8 ≤ x.at_) : PlR I (i + 1) where
  rels k r hk hr := by
    by_cases e : k = i
    · subst e; rw [hx] at hr; cases hr; exact ⟨h1, h2⟩
    · exact h.rels k r (by omega) hr
  step k q r hk hq hr := by
    by_cases e : k + 1 = i
    · subst e; rw [hx] at hr; cases hr; exact h3 q (by omega) (by simpa using hq)
    · exact h.step k q r (by omega) hq hr
theorem isSome_not {α : Type} {o : Option α} (h : (!o.isSome) = false) : o.isSome = true := by simpa using h
set_option maxRecDepth 100000 in
set_option maxHeartbeats 4000000 in
theorem places_fn {I : Im} {w : World} {vn vs vy vr : Value} (hI : ImV w I vn vs vy vr) (hok : sgsB I = true) : Fn Try.prog 92 [imA I vn vs vy vr] w (RBf (.int .i64 (if plcB I = true then 0 else 6)) w) := by
  have bn := hI.needs.bound; have bs := hI.segs.bound; have by_ := hI.syms.bound; have br := hI.rels.bound; obtain ⟨pn, cn, rfl⟩ := hI.needs.len; obtain ⟨ps, cs, rfl⟩ := hI.segs.len; obtain ⟨py, cy, rfl⟩ := hI.syms.len; obtain ⟨pr, cr, rfl⟩ := hI.rels.len
  refine fn_enter (fn := Try.f92) ⟨Try.func92, by kernel_rfl, by kernel_rfl⟩ (by exact rfl) Try.ntmps92 (by exact rfl) ?_
  have hS := St.start w
  have no : ¬ Plc I → (if plcB I = true then (0 : Int) else 6) = 6 := fun h => if_neg (by rw [plcB, pB_false h]; simp)
  repeat' (first | (first | ((with_reducible apply l_pure tabOk); exact rfl; exact rfl) | ((with_reducible apply l_load); exact rfl; (((with_reducible apply Loads.sl tabOk); exact rfl; ((exact hS.blkC 0 rfl rfl)))); exact rfl) | ((with_reducible apply l_box hS); exact rfl; exact rfl; exact rfl; intro g w' hS'; clear hS; have hS := hS'; clear hS')) | (first | (with_reducible apply c_seq) | (with_reducible apply c_region) | (with_reducible apply l_nil) | (with_reducible apply q_then) | (with_reducible apply c_block)))
  refine c_count hS 17 [1, 15, 16] rfl (I.syms.length) (fun i => (I.syms.take i).all (fun s => (own I.segs s.at_).isSome) = true) 0 rfl (Nat.zero_le _) (by (rfl)) ?_
  rintro i w1 hi hall hS'
  clear hS; have hS := hS'; clear hS'
  by_cases hlt : i < I.syms.length
  · obtain ⟨x, hx⟩ := lt_get (l := I.syms) (i := i) (by omega)
    have hrow := map_get (f := syC) hx
    obtain ⟨b, off, rfl, hro⟩ := (hI.syms).at_ hlt
    repeat' (first | (first | ((with_reducible apply l_add); exact rfl; exact rfl; omega; omega; exact rfl) | ((with_reducible apply l_pure tabOk); exact rfl; exact rfl) | ((with_reducible apply l_load); exact rfl; (first | ((with_reducible apply Loads.sc tabOk); exact rfl; ((exact hS.blkC 0 rfl rfl))) | ((with_reducible apply Loads.st tabOk); exact rfl; (first | exact hS.blkR 1 rfl | exact hS.roR (by assumption) (by assumption)); exact rfl)); exact rfl) | ((with_reducible apply l_ix tabOk); exact rfl; exact rfl; exact rfl; ((exact rfl)); ((omega)); exact rfl) | ((with_reducible apply l_alloc hS tabOk); exact rfl; exact rfl; exact rfl; intro g w' hS'; clear hS; have hS := hS'; clear hS') | (((with_reducible apply l_store hS tabOk (i := 0)); exact rfl; exact rfl; exact rfl; exact rfl; exact rfl; exact rfl; exact rfl; exact rfl; (first | exact (rfl : _ = [_, _]) | exact (rfl : _ = [_, _, _, _, _])); intro w' hS'; simp only [List.set] at hS'; clear hS; have hS := hS'; clear hS'))) | (first | (with_reducible apply c_seq) | (with_reducible apply c_region) | (with_reducible apply l_nil) | (with_reducible apply q_then) | (with_reducible apply c_skip) | (with_reducible apply c_block) | (with_reducible apply c_ret) | (with_reducible apply q_then_ret) | (with_reducible apply q_block) | (with_reducible apply q_block_ret)) | (first | ((with_reducible apply c_ifd); exact rfl; all_goals (intro hb hp; try (exfalso; omega))) | ((with_reducible apply c_ifp); exact rfl; all_goals (intro hb hp; try (exfalso; omega)))) | ((with_reducible apply l_call); exact rfl; exact rfl; exact at_fn x.at_ (hI.now hS) hok; exact rfl; rintro _ w' ⟨rfl, hS'⟩; replace hS := hS.transA hS'; simp only [appA] at hS; clear hS'))
    · (apply q_ret1); (repeat (first | exact ResL.nil | (apply ResL.tmp; exact rfl)))
      refine ⟨?_, hS.sub (List.nil_sublist _)⟩
      rw [no fun h => by have := h.syms x (List.mem_of_getElem? hx); rw [this] at hb; cases hb]
    · exact q_count (i + 1) (by repeat (first | exact Fr.sub_nil _ | (apply Fr.sub_cons; exact rfl))) (by omega) (all_take_succ hall hx (isSome_not hb)) (by omega) hS.drop.drop
  have hsy := all_take_all hall (by omega)
  repeat' (first | (first | ((with_reducible apply l_pure tabOk); exact rfl; exact rfl) | ((with_reducible apply l_load); exact rfl; (((with_reducible apply Loads.sl tabOk); exact rfl; ((exact hS.blkC 0 rfl rfl)))); exact rfl)) | (first | (with_reducible apply c_seq) | (with_reducible apply c_region) | (with_reducible apply l_nil) | (with_reducible apply q_then) | (with_reducible apply c_block) | (with_reducible apply c_exit) | (with_reducible apply q_then_exit) | (with_reducible apply q_block_exit)) | (((with_reducible apply c_ifd); exact rfl; all_goals (intro hb hp; try (exfalso; omega)))))
  clear hall hi hlt hb hp
  refine c_count hS 34 [1, 32, 33] rfl I.rels.length (fun i => PlR I i) 0 rfl (Nat.zero_le _) (PlR.zero I) ?_
  rintro i w1 hi hall hS'
  clear hS; have hS := hS'; clear hS'
  by_cases hlt : i < I.rels.length
  · obtain ⟨x, hx⟩ := lt_get (l := I.rels) (i := i) (by omega)
    have hrow := map_get (f := rlC) hx
    obtain ⟨b, off, rfl, hro⟩ := (hI.rels).at_ hlt
    by_cases hk0 : i = 0
    · repeat' (first | (first | ((with_reducible apply l_pure tabOk); exact rfl; exact rfl) | ((with_reducible apply l_load); exact rfl; (((with_reducible apply Loads.st tabOk); exact rfl; ((exact hS.roR (by assumption) (by assumption))); exact rfl)); exact rfl) | ((with_reducible apply l_ix tabOk); exact rfl; exact rfl; exact rfl; ((exact rfl)); ((omega)); exact rfl) | ((with_reducible apply l_alloc hS tabOk); exact rfl; exact rfl; exact rfl; intro g w' hS'; clear hS; have hS := hS'; clear hS') | (((with_reducible apply l_store hS tabOk (i := 0)); exact rfl; exact rfl; exact rfl; exact rfl; exact rfl; exact rfl; exact rfl; exact rfl; ((exact (rfl : _ = [_, _, _]))); intro w' hS'; simp only [List.set] at hS'; clear hS; have hS := hS'; clear hS'))) | (first | (with_reducible apply c_seq) | (with_reducible apply c_region) | (with_reducible apply l_nil) | (with_reducible apply q_then) | (with_reducible apply c_skip) | (with_reducible apply c_block) | (with_reducible apply c_ret) | (with_reducible apply q_then_ret) | (with_reducible apply q_block_ret)) | (first | ((with_reducible apply c_ift); exact rfl; (exact rfl)) | ((with_reducible apply c_iff); exact rfl; (exact rfl)) | ((with_reducible apply c_ifd); exact rfl; all_goals (intro hb hp; try (exfalso; omega)))) | (focus ((with_reducible apply c_drawAll nF _ _ (by kernel_rfl) (by kernel_rfl) hS); (repeat' ((first | ((with_reducible apply d_pure tabOk); exact rfl; exact rfl) | ((with_reducible apply d_load); exact rfl; (intro wd hd; replace hd : St _ _ wd _ := hd; (((with_reducible apply Loads.sc tabOk); exact rfl; ((exact hd.blkC 0 rfl rfl))))); exact rfl) | (first | ((with_reducible apply d_yes); exact rfl; exact rfl; exact rfl; exact rfl; (assumption)) | ((with_reducible apply d_no); exact rfl; exact rfl; exact rfl; exact rfl; (first | exact rfl | assumption); exact rfl) | ((with_reducible apply d_undef); exact rfl; exact rfl; exact rfl; exact rfl; exact rfl) | ((with_reducible apply d_partd); exact rfl; exact rfl; exact rfl; all_goals (intro hb hp; try (exfalso; omega))) | ((with_reducible apply d_pick1); exact rfl; (first | exact rfl | assumption); exact rfl; exact rfl) | ((with_reducible apply d_pick2); exact rfl; ((assumption)); exact rfl; exact rfl))))); all_goals ((with_reducible apply d_nil); intro w' hS'; clear hS; have hS := hS'; clear hS'))))
      · (apply q_ret1); (repeat (first | exact ResL.nil | (apply ResL.tmp; exact rfl)))
        refine ⟨?_, hS.sub (List.nil_sublist _)⟩
        rw [no fun h => by have := (h.rels i x hx).1; omega]
      · (apply q_ret1); (repeat (first | exact ResL.nil | (apply ResL.tmp; exact rfl)))
        refine ⟨?_, hS.sub (List.nil_sublist _)⟩
        rw [no fun h => by have := (h.rels i x hx).1; omega]
      · have hst : ∀ q, 0 < i → I.rels[i - 1]? = some q → q.at_ + 8 ≤ x.at_ := fun q h => by omega
        refine c_count hS 64 [1, 8, 34, 32, 33] rfl 8 (fun b => ∀ c : Int, 0 ≤ c → c < b → (own I.segs (x.at_ + c)).isSome = true) 0 rfl (by omega) (by intros; omega) ?_
        rintro b2 w1 hi2 hall2 hS'
        clear hS; have hS := hS'; clear hS'
        by_cases hlt2 : b2 < 8
        · repeat' (first | (first | ((with_reducible apply l_add); exact rfl; exact rfl; omega; omega; exact rfl) | ((with_reducible apply l_pure tabOk); exact rfl; exact rfl) | ((with_reducible apply l_load); exact rfl; (first | ((with_reducible apply Loads.sc tabOk); exact rfl; ((exact hS.blkC 0 rfl rfl))) | ((with_reducible apply Loads.st tabOk); exact rfl; ((exact hS.blkR 1 rfl)); exact rfl)); exact rfl) | ((with_reducible apply l_alloc hS tabOk); exact rfl; exact rfl; exact rfl; intro g w' hS'; clear hS; have hS := hS'; clear hS') | (((with_reducible apply l_store hS tabOk (i := 0)); exact rfl; exact rfl; exact rfl; exact rfl; exact rfl; exact rfl; exact rfl; exact rfl; ((exact (rfl : _ = [_, _, _, _, _]))); intro w' hS'; simp only [List.set] at hS'; clear hS; have hS := hS'; clear hS'))) | (first | (with_reducible apply c_seq) | (with_reducible apply c_region) | (with_reducible apply l_nil) | (with_reducible apply q_then) | (with_reducible apply c_skip) | (with_reducible apply c_block) | (with_reducible apply c_ret) | (with_reducible apply q_then_ret) | (with_reducible apply q_block) | (with_reducible apply q_block_ret)) | (first | ((with_reducible apply c_ifd); exact rfl; all_goals (intro hb hp; try (exfalso; omega))) | ((with_reducible apply c_ifp); exact rfl; all_goals (intro hb hp; try (exfalso; omega)))) | ((with_reducible apply l_call); exact rfl; exact rfl; exact at_fn (x.at_ + b2) (hI.now hS) hok; exact rfl; rintro _ w' ⟨rfl, hS'⟩; replace hS := hS.transA hS'; simp only [appA] at hS; clear hS'))
          · (apply q_ret1); (repeat (first | exact ResL.nil | (apply ResL.tmp; exact rfl)))
            refine ⟨?_, hS.sub (List.nil_sublist _)⟩
            rw [no fun h => by have := (h.rels i x hx).2 b2 (by omega) (by omega); rw [this] at hb; cases hb]
          · refine q_count (b2 + 1) (by repeat (first | exact Fr.sub_nil _ | (apply Fr.sub_cons; exact rfl))) (by omega) (fun c h1 h2 => ?_) (by omega) hS.drop
            by_cases e : c = b2
            · subst e; exact isSome_not hb
            · exact hall2 c h1 (by omega)
        · repeat' (first | (first | ((with_reducible apply l_add); exact rfl; exact rfl; omega; omega; exact rfl) | ((with_reducible apply l_pure tabOk); exact rfl; exact rfl)) | (first | (with_reducible apply c_seq) | (with_reducible apply c_region) | (with_reducible apply l_nil) | (with_reducible apply q_then) | (with_reducible apply c_exit) | (with_reducible apply q_then_exit) | (with_reducible apply q_block) | (with_reducible apply q_block_exit)) | (((with_reducible apply c_ifd); exact rfl; all_goals (intro hb hp; try (exfalso; omega)))))
          exact q_count (i + 1) (by repeat (first | exact Fr.sub_nil _ | (apply Fr.sub_cons; exact rfl))) (by omega) (hall.succ hx (by omega) (fun c h1 h2 => hall2 c h1 (by omega)) hst) (by omega) hS.drop
    · obtain ⟨y, hy⟩ := lt_get (l := I.rels) (i := i - 1) (by omega)
      have hrow2 := map_get (f := rlC) hy
      have hix : ((i - 1 : Nat) : Int) = (i : Int) - 1 := by omega
      obtain ⟨⟨y1, y2⟩, -⟩ := hall.rels (i - 1) y (by omega) hy
      repeat' (first | (first | ((with_reducible apply l_pure tabOk); exact rfl; exact rfl) | ((with_reducible apply l_load); exact rfl; (((with_reducible apply Loads.st tabOk); exact rfl; ((exact hS.roR (by assumption) (by assumption))); exact rfl)); exact rfl) | ((with_reducible apply l_ix tabOk); exact rfl; exact rfl; exact rfl; ((exact rfl)); ((omega)); exact rfl) | ((with_reducible apply l_alloc hS tabOk); exact rfl; exact rfl; exact rfl; intro g w' hS'; clear hS; have hS := hS'; clear hS') | (((with_reducible apply l_store hS tabOk (i := 0)); exact rfl; exact rfl; exact rfl; exact rfl; exact rfl; exact rfl; exact rfl; exact rfl; ((exact (rfl : _ = [_, _, _]))); intro w' hS'; simp only [List.set] at hS'; clear hS; have hS := hS'; clear hS'))) | (first | (with_reducible apply c_seq) | (with_reducible apply c_region) | (with_reducible apply l_nil) | (with_reducible apply q_then) | (with_reducible apply c_skip) | (with_reducible apply c_block) | (with_reducible apply c_ret) | (with_reducible apply q_then_ret) | (with_reducible apply q_block_ret)) | (first | ((with_reducible apply c_ift); exact rfl; (exact rfl)) | ((with_reducible apply c_ifd); exact rfl; all_goals (intro hb hp; try (exfalso; omega)))) | (focus ((with_reducible apply c_drawAll nF _ _ (by kernel_rfl) (by kernel_rfl) hS); (repeat' ((first | ((with_reducible apply d_add); exact rfl; exact rfl; omega; omega; exact rfl) | ((with_reducible apply d_sub); exact rfl; exact rfl; omega; omega; exact rfl) | ((with_reducible apply d_pure tabOk); exact rfl; exact rfl) | ((with_reducible apply d_load); exact rfl; (intro wd hd; replace hd : St _ _ wd _ := hd; (first | ((with_reducible apply Loads.sc tabOk); exact rfl; (first | exact hd.blkC 0 rfl rfl | exact hd.roC0 (by assumption) (by assumption) rfl)) | ((with_reducible apply Loads.sl tabOk); exact rfl; ((exact hd.blkC 1 rfl rfl))))); exact rfl) | ((with_reducible apply d_ix tabOk); exact rfl; exact rfl; exact rfl; ((assumption)); ((omega)); exact rfl) | (first | ((with_reducible apply d_yes); exact rfl; exact rfl; exact rfl; exact rfl; (assumption)) | ((with_reducible apply d_no); exact rfl; exact rfl; exact rfl; exact rfl; (first | exact rfl | assumption); exact rfl) | ((with_reducible apply d_undef); exact rfl; exact rfl; exact rfl; exact rfl; exact rfl) | ((with_reducible apply d_partd); exact rfl; exact rfl; exact rfl; all_goals (intro hb hp; try (exfalso; omega))) | ((with_reducible apply d_pick1); exact rfl; (first | exact rfl | assumption); exact rfl; exact rfl) | ((with_reducible apply d_pick2); exact rfl; ((assumption)); exact rfl; exact rfl))))); all_goals ((with_reducible apply d_nil); intro w' hS'; clear hS; have hS := hS'; clear hS'))))
      · (apply q_ret1); (repeat (first | exact ResL.nil | (apply ResL.tmp; exact rfl)))
        refine ⟨?_, hS.sub (List.nil_sublist _)⟩
        rw [no fun h => by have := (h.rels i x hx).1; omega]
      · (apply q_ret1); (repeat (first | exact ResL.nil | (apply ResL.tmp; exact rfl)))
        refine ⟨?_, hS.sub (List.nil_sublist _)⟩
        rw [no fun h => by have := (h.rels i x hx).1; omega]
      · (apply q_ret1); (repeat (first | exact ResL.nil | (apply ResL.tmp; exact rfl)))
        refine ⟨?_, hS.sub (List.nil_sublist _)⟩
        rw [no fun h => by have := h.step (i - 1) y x hy (by rw [show i - 1 + 1 = i by omega]; exact hx); omega]
      · have hst : ∀ q, 0 < i → I.rels[i - 1]? = some q → q.at_ + 8 ≤ x.at_ := fun q _ h => by rw [hy] at h; cases h; omega
        refine c_count hS 64 [1, 8, 34, 32, 33] rfl 8 (fun b => ∀ c : Int, 0 ≤ c → c < b → (own I.segs (x.at_ + c)).isSome = true) 0 rfl (by omega) (by intros; omega) ?_
        rintro b2 w1 hi2 hall2 hS'
        clear hS; have hS := hS'; clear hS'
        by_cases hlt2 : b2 < 8
        · repeat' (first | (first | ((with_reducible apply l_add); exact rfl; exact rfl; omega; omega; exact rfl) | ((with_reducible apply l_pure tabOk); exact rfl; exact rfl) | ((with_reducible apply l_load); exact rfl; (first | ((with_reducible apply Loads.sc tabOk); exact rfl; ((exact hS.blkC 0 rfl rfl))) | ((with_reducible apply Loads.st tabOk); exact rfl; ((exact hS.blkR 1 rfl)); exact rfl)); exact rfl) | ((with_reducible apply l_alloc hS tabOk); exact rfl; exact rfl; exact rfl; intro g w' hS'; clear hS; have hS := hS'; clear hS') | (((with_reducible apply l_store hS tabOk (i := 0)); exact rfl; exact rfl; exact rfl; exact rfl; exact rfl; exact rfl; exact rfl; exact rfl; ((exact (rfl : _ = [_, _, _, _, _]))); intro w' hS'; simp only [List.set] at hS'; clear hS; have hS := hS'; clear hS'))) | (first | (with_reducible apply c_seq) | (with_reducible apply c_region) | (with_reducible apply l_nil) | (with_reducible apply q_then) | (with_reducible apply c_skip) | (with_reducible apply c_block) | (with_reducible apply c_ret) | (with_reducible apply q_then_ret) | (with_reducible apply q_block) | (with_reducible apply q_block_ret)) | (first | ((with_reducible apply c_ifd); exact rfl; all_goals (intro hb hp; try (exfalso; omega))) | ((with_reducible apply c_ifp); exact rfl; all_goals (intro hb hp; try (exfalso; omega)))) | ((with_reducible apply l_call); exact rfl; exact rfl; exact at_fn (x.at_ + b2) (hI.now hS) hok; exact rfl; rintro _ w' ⟨rfl, hS'⟩; replace hS := hS.transA hS'; simp only [appA] at hS; clear hS'))
          · (apply q_ret1); (repeat (first | exact ResL.nil | (apply ResL.tmp; exact rfl)))
            refine ⟨?_, hS.sub (List.nil_sublist _)⟩
            rw [no fun h => by have := (h.rels i x hx).2 b2 (by omega) (by omega); rw [this] at hb; cases hb]
          · refine q_count (b2 + 1) (by repeat (first | exact Fr.sub_nil _ | (apply Fr.sub_cons; exact rfl))) (by omega) (fun c h1 h2 => ?_) (by omega) hS.drop
            by_cases e : c = b2
            · subst e; exact isSome_not hb
            · exact hall2 c h1 (by omega)
        · repeat' (first | (first | ((with_reducible apply l_add); exact rfl; exact rfl; omega; omega; exact rfl) | ((with_reducible apply l_pure tabOk); exact rfl; exact rfl)) | (first | (with_reducible apply c_seq) | (with_reducible apply c_region) | (with_reducible apply l_nil) | (with_reducible apply q_then) | (with_reducible apply c_exit) | (with_reducible apply q_then_exit) | (with_reducible apply q_block) | (with_reducible apply q_block_exit)) | (((with_reducible apply c_ifd); exact rfl; all_goals (intro hb hp; try (exfalso; omega)))))
          exact q_count (i + 1) (by repeat (first | exact Fr.sub_nil _ | (apply Fr.sub_cons; exact rfl))) (by omega) (hall.succ hx (by omega) (fun c h1 h2 => hall2 c h1 (by omega)) hst) (by omega) hS.drop
  · have hall' : PlR I I.rels.length := by rw [show I.rels.length = i by omega]; exact hall
    cases ho : own I.segs I.entry with
    | none =>
      repeat' (first | (first | ((with_reducible apply l_pure tabOk); exact rfl; exact rfl) | ((with_reducible apply l_load); exact rfl; (first | ((with_reducible apply Loads.sc tabOk); exact rfl; ((exact hS.blkC 0 rfl rfl))) | ((with_reducible apply Loads.st tabOk); exact rfl; ((exact hS.blkR 0 rfl)); exact rfl)); exact rfl) | ((with_reducible apply l_alloc hS tabOk); exact rfl; exact rfl; exact rfl; intro g w' hS'; clear hS; have hS := hS'; clear hS') | (((with_reducible apply l_store hS tabOk (i := 0)); exact rfl; exact rfl; exact rfl; exact rfl; exact rfl; exact rfl; exact rfl; exact rfl; ((exact (rfl : _ = [_, _, _, _, _]))); intro w' hS'; simp only [List.set] at hS'; clear hS; have hS := hS'; clear hS')) | (first | ((with_reducible apply l_no); exact rfl; exact rfl; exact rfl; exact rfl; ((exact rfl)); exact rfl) | ((with_reducible apply l_pick1); exact rfl; ((exact rfl)); exact rfl; exact rfl))) | (first | (with_reducible apply c_seq) | (with_reducible apply c_region) | (with_reducible apply l_nil) | (with_reducible apply q_then) | (with_reducible apply c_exit) | (with_reducible apply c_ret) | (with_reducible apply q_then_exit) | (with_reducible apply q_then_ret) | (with_reducible apply q_block_exit)) | (first | ((with_reducible apply c_ift); exact rfl; (exact rfl)) | ((with_reducible apply c_ifd); exact rfl; all_goals (intro hb hp; try (exfalso; omega)))) | ((with_reducible apply l_call); exact rfl; exact rfl; exact at_eq ho (hI.now hS) hok; exact rfl; rintro _ w' ⟨rfl, hS'⟩; replace hS := hS.transA hS'; simp only [appA] at hS; clear hS'))
      (apply q_ret1); (repeat (first | exact ResL.nil | (apply ResL.tmp; exact rfl)))
      refine ⟨?_, hS.sub (List.nil_sublist _)⟩
      rw [no fun h => by obtain ⟨s, hs, _⟩ := h.entry; rw [ho] at hs; cases hs]
    | some s =>
      have hpos := own_pos hok ho
      repeat' (first | (first | ((with_reducible apply l_pure tabOk); exact rfl; exact rfl) | ((with_reducible apply l_load); exact rfl; (first | ((with_reducible apply Loads.sc tabOk); exact rfl; (first | exact hS.blkC 0 rfl rfl | exact hS.blkC 1 rfl rfl)) | ((with_reducible apply Loads.st tabOk); exact rfl; ((exact hS.blkR 0 rfl)); exact rfl)); exact rfl) | ((with_reducible apply l_alloc hS tabOk); exact rfl; exact rfl; exact rfl; intro g w' hS'; clear hS; have hS := hS'; clear hS') | (((with_reducible apply l_store hS tabOk (i := 0)); exact rfl; exact rfl; exact rfl; exact rfl; exact rfl; exact rfl; exact rfl; exact rfl; ((exact (rfl : _ = [_, _, _, _, _]))); intro w' hS'; simp only [List.set] at hS'; clear hS; have hS := hS'; clear hS')) | (first | ((with_reducible apply l_yes); exact rfl; exact rfl; exact rfl; exact rfl; first | exact rfl | assumption) | ((with_reducible apply l_no); exact rfl; exact rfl; exact rfl; exact rfl; ((assumption)); exact rfl) | ((with_reducible apply l_partp); exact rfl; exact rfl; exact rfl; all_goals (intro hb hp; try (exfalso; omega))) | ((with_reducible apply l_pick1); exact rfl; ((assumption)); exact rfl; exact rfl) | ((with_reducible apply l_pick2); exact rfl; (first | exact rfl | assumption); exact rfl; exact rfl))) | (first | (with_reducible apply c_seq) | (with_reducible apply c_region) | (with_reducible apply l_nil) | (with_reducible apply q_then) | (with_reducible apply c_skip) | (with_reducible apply c_exit) | (with_reducible apply c_ret) | (with_reducible apply q_then_exit) | (with_reducible apply q_then_ret) | (with_reducible apply q_block_exit)) | (first | ((with_reducible apply c_ift); exact rfl; (exact rfl)) | ((with_reducible apply c_ifd); exact rfl; all_goals (intro hb hp; try (exfalso; omega))) | ((with_reducible apply c_ifn); exact rfl; all_goals (intro hb hp; try (exfalso; omega)))) | ((with_reducible apply l_call); exact rfl; exact rfl; exact at_eq ho (hI.now hS) hok; exact rfl; rintro _ w' ⟨rfl, hS'⟩; replace hS := hS.transA hS'; simp only [appA] at hS; clear hS') | ((with_reducible apply l_remT); exact rfl; exact rfl; omega; exact rfl))
      · (apply q_ret1); (repeat (first | exact ResL.nil | (apply ResL.tmp; exact rfl)))
        refine ⟨?_, hS.sub (List.nil_sublist _)⟩
        rw [no fun h => by obtain ⟨s', hs, he⟩ := h.entry; rw [ho] at hs; cases hs; have hb' : (!s.ex) = true := hb; rw [he] at hb'; cases hb']
      · (apply q_ret1); (repeat (first | exact ResL.nil | (apply ResL.tmp; exact rfl)))
        refine ⟨?_, hS.sub (List.nil_sublist _)⟩
        rw [no fun h => hp h.by8]
      · (apply q_ret1); (repeat (first | exact ResL.nil | (apply ResL.tmp; exact rfl)))
        refine ⟨?_, hS.sub (List.nil_sublist _)⟩
        rw [if_pos]
        refine pB_true ⟨fun s hs => List.all_eq_true.1 hsy s hs, fun k r hr => hall'.rels k r (lt_of_getE hr) hr, fun k q r hq hr => hall'.step k q r (lt_of_getE hr) hq hr, ⟨s, ho, ?_⟩, hp⟩
        rename_i hb1 hp1
        have hb2 : (!s.ex) = false := hb1
        simpa using hb2
end Go.Proofs.Ytejnpppejalhfab
/- image.Check, and the reference's. -/
namespace Go.Proofs.Ytejnpppejalhfab
open Go.RowKit Go.Sort

theorem Fn.eqv {P : Program} {f : FuncId} {args : List Value} {x y : Value} {w : World} (e : x = y) (h : Fn P f args w (RBf x w)) : Fn P f args w (RBf y w) := e ▸ h
theorem ev_pos {p : Bool} {a b : Int} (h : p = true) : Value.int .i64 (if p = true then a else b) = .int .i64 a := by rw [if_pos h]
theorem ev_neg {p : Bool} {a b : Int} (h : p = false) : Value.int .i64 (if p = true then a else b) = .int .i64 b := by rw [if_neg (by rw [h]; simp)]
def ImD (I : Im) : Prop := ∀ s ∈ I.segs, (s.data.length : Int) ≤ 9223372036854775807
set_option maxRecDepth 100000 in
set_option maxHeartbeats 4000000 in
theorem Check_fn {I : Im} {w : World} {vn vs vy vr : Value} (hI : ImV w I vn vs vy vr) (hB : ImB I) (hD : ImD I) : Fn Try.prog 32 [imA I vn vs vy vr] w (RBf (.int .i64 (checkIm I)) w) := by
  refine fn_enter (fn := Try.f32) ⟨Try.func32, by kernel_rfl, by kernel_rfl⟩ (by exact rfl) Try.ntmps32 (by exact rfl) ?_
  have hS := St.start w
  repeat' (first | (first | ((with_reducible apply l_pure tabOk); exact rfl; exact rfl) | ((with_reducible apply l_box hS); exact rfl; exact rfl; exact rfl; intro g w' hS'; clear hS; have hS := hS'; clear hS') | ((with_reducible apply l_bslice hS tabOk); exact rfl; exact rfl; exact rfl; exact rfl; exact rfl; exact rfl; exact rfl; intro g w' hS'; clear hS; have hS := hS'; clear hS')) | (first | (with_reducible apply c_seq) | (with_reducible apply c_region) | (with_reducible apply l_nil) | (with_reducible apply q_then) | (with_reducible apply c_block)))
  refine c_rounds 6 ?_
  cases h1 : nmsB I
  · repeat' (first | (first | ((with_reducible apply l_pure tabOk); exact rfl; exact rfl) | ((with_reducible apply l_load); exact rfl; (((with_reducible apply Loads.st tabOk); exact rfl; ((exact hS.blkR 1 rfl)); exact rfl)); exact rfl) | ((with_reducible apply l_ix tabOk); exact rfl; exact rfl; exact rfl; ((exact rfl)); ((simp only [List.length_map, List.length_cons, List.length_nil, List.length_append]; omega)); exact rfl)) | (first | (with_reducible apply c_seq) | (with_reducible apply c_region) | (with_reducible apply l_nil) | (with_reducible apply q_then) | (with_reducible apply c_skip) | (with_reducible apply c_block) | (with_reducible apply c_ret) | (with_reducible apply q_then_ret) | (with_reducible apply q_block_ret)) | (((with_reducible apply c_ift); exact rfl; (exact rfl))) | (with_reducible apply wr_succ) | ((with_reducible apply l_load); exact rfl; ((with_reducible apply Loads.sc tabOk); exact rfl; (exact hS.rowC0 0 rfl rfl rfl)); exact rfl) | ((with_reducible apply l_call); exact rfl; exact rfl; exact Fn.eqv (ev_neg h1) (names_fn (hI.now hS) hB); exact rfl; rintro _ w' ⟨rfl, hS'⟩; replace hS := hS.transA hS'; simp only [appA] at hS; clear hS'))
    (apply q_ret1); (repeat (first | exact ResL.nil | (apply ResL.tmp; exact rfl)))
    exact ⟨by rw [checkIm, if_pos h1], hS.sub (List.nil_sublist _)⟩
  cases h2 : cntB I
  · repeat' (first | (first | ((with_reducible apply l_add); exact rfl; exact rfl; omega; omega; exact rfl) | ((with_reducible apply l_pure tabOk); exact rfl; exact rfl) | ((with_reducible apply l_load); exact rfl; (((with_reducible apply Loads.st tabOk); exact rfl; ((exact hS.blkR 1 rfl)); exact rfl)); exact rfl) | ((with_reducible apply l_ix tabOk); exact rfl; exact rfl; exact rfl; ((exact rfl)); ((simp only [List.length_map, List.length_cons, List.length_nil, List.length_append]; omega)); exact rfl)) | (first | (with_reducible apply c_seq) | (with_reducible apply c_region) | (with_reducible apply l_nil) | (with_reducible apply q_then) | (with_reducible apply c_skip) | (with_reducible apply c_block) | (with_reducible apply c_ret) | (with_reducible apply q_then_ret) | (with_reducible apply q_block) | (with_reducible apply q_block_ret)) | (first | ((with_reducible apply c_ift); exact rfl; (exact rfl)) | ((with_reducible apply c_iff); exact rfl; (exact rfl))) | with_reducible apply q_rounds | (with_reducible apply wr_succ) | ((with_reducible apply l_load); exact rfl; ((with_reducible apply Loads.sc tabOk); exact rfl; (exact hS.rowC0 0 rfl rfl rfl)); exact rfl) | ((with_reducible apply l_call); exact rfl; exact rfl; exact Fn.eqv (ev_pos h1) (names_fn (hI.now hS) hB); exact rfl; rintro _ w' ⟨rfl, hS'⟩; replace hS := hS.transA hS'; simp only [appA] at hS; clear hS') | ((with_reducible apply l_call); exact rfl; exact rfl; exact Fn.eqv (ev_neg h2) (counts_fn (hI.now hS)); exact rfl; rintro _ w' ⟨rfl, hS'⟩; replace hS := hS.transA hS'; simp only [appA] at hS; clear hS'))
    (apply q_ret1); (repeat (first | exact ResL.nil | (apply ResL.tmp; exact rfl)))
    exact ⟨by simp [checkIm, h1, h2], hS.sub (List.nil_sublist _)⟩
  cases h3 : sgsB I
  · repeat' (first | (first | ((with_reducible apply l_add); exact rfl; exact rfl; omega; omega; exact rfl) | ((with_reducible apply l_pure tabOk); exact rfl; exact rfl) | ((with_reducible apply l_load); exact rfl; (((with_reducible apply Loads.st tabOk); exact rfl; ((exact hS.blkR 1 rfl)); exact rfl)); exact rfl) | ((with_reducible apply l_ix tabOk); exact rfl; exact rfl; exact rfl; ((exact rfl)); ((simp only [List.length_map, List.length_cons, List.length_nil, List.length_append]; omega)); exact rfl)) | (first | (with_reducible apply c_seq) | (with_reducible apply c_region) | (with_reducible apply l_nil) | (with_reducible apply q_then) | (with_reducible apply c_skip) | (with_reducible apply c_block) | (with_reducible apply c_ret) | (with_reducible apply q_then_ret) | (with_reducible apply q_block) | (with_reducible apply q_block_ret)) | (first | ((with_reducible apply c_ift); exact rfl; (exact rfl)) | ((with_reducible apply c_iff); exact rfl; (exact rfl))) | with_reducible apply q_rounds | (with_reducible apply wr_succ) | ((with_reducible apply l_load); exact rfl; ((with_reducible apply Loads.sc tabOk); exact rfl; (exact hS.rowC0 0 rfl rfl rfl)); exact rfl) | ((with_reducible apply l_call); exact rfl; exact rfl; exact Fn.eqv (ev_pos h1) (names_fn (hI.now hS) hB); exact rfl; rintro _ w' ⟨rfl, hS'⟩; replace hS := hS.transA hS'; simp only [appA] at hS; clear hS') | ((with_reducible apply l_call); exact rfl; exact rfl; exact Fn.eqv (ev_pos h2) (counts_fn (hI.now hS)); exact rfl; rintro _ w' ⟨rfl, hS'⟩; replace hS := hS.transA hS'; simp only [appA] at hS; clear hS') | ((with_reducible apply l_call); exact rfl; exact rfl; exact Fn.eqv (ev_neg h3) (segments_fn (hI.now hS) hD); exact rfl; rintro _ w' ⟨rfl, hS'⟩; replace hS := hS.transA hS'; simp only [appA] at hS; clear hS'))
    (apply q_ret1); (repeat (first | exact ResL.nil | (apply ResL.tmp; exact rfl)))
    exact ⟨by simp [checkIm, h1, h2, h3], hS.sub (List.nil_sublist _)⟩
  cases h4 : aptB I
  · repeat' (first | (first | ((with_reducible apply l_add); exact rfl; exact rfl; omega; omega; exact rfl) | ((with_reducible apply l_pure tabOk); exact rfl; exact rfl) | ((with_reducible apply l_load); exact rfl; (((with_reducible apply Loads.st tabOk); exact rfl; ((exact hS.blkR 1 rfl)); exact rfl)); exact rfl) | ((with_reducible apply l_ix tabOk); exact rfl; exact rfl; exact rfl; ((exact rfl)); ((simp only [List.length_map, List.length_cons, List.length_nil, List.length_append]; omega)); exact rfl)) | (first | (with_reducible apply c_seq) | (with_reducible apply c_region) | (with_reducible apply l_nil) | (with_reducible apply q_then) | (with_reducible apply c_skip) | (with_reducible apply c_block) | (with_reducible apply c_ret) | (with_reducible apply q_then_ret) | (with_reducible apply q_block) | (with_reducible apply q_block_ret)) | (first | ((with_reducible apply c_ift); exact rfl; (exact rfl)) | ((with_reducible apply c_iff); exact rfl; (exact rfl))) | with_reducible apply q_rounds | (with_reducible apply wr_succ) | ((with_reducible apply l_load); exact rfl; ((with_reducible apply Loads.sc tabOk); exact rfl; (exact hS.rowC0 0 rfl rfl rfl)); exact rfl) | ((with_reducible apply l_call); exact rfl; exact rfl; exact Fn.eqv (ev_pos h1) (names_fn (hI.now hS) hB); exact rfl; rintro _ w' ⟨rfl, hS'⟩; replace hS := hS.transA hS'; simp only [appA] at hS; clear hS') | ((with_reducible apply l_call); exact rfl; exact rfl; exact Fn.eqv (ev_pos h2) (counts_fn (hI.now hS)); exact rfl; rintro _ w' ⟨rfl, hS'⟩; replace hS := hS.transA hS'; simp only [appA] at hS; clear hS') | ((with_reducible apply l_call); exact rfl; exact rfl; exact Fn.eqv (ev_pos h3) (segments_fn (hI.now hS) hD); exact rfl; rintro _ w' ⟨rfl, hS'⟩; replace hS := hS.transA hS'; simp only [appA] at hS; clear hS') | ((with_reducible apply l_call); exact rfl; exact rfl; exact Fn.eqv (ev_neg h4) (apart_fn (hI.now hS) hB h3); exact rfl; rintro _ w' ⟨rfl, hS'⟩; replace hS := hS.transA hS'; simp only [appA] at hS; clear hS'))
    (apply q_ret1); (repeat (first | exact ResL.nil | (apply ResL.tmp; exact rfl)))
    exact ⟨by simp [checkIm, h1, h2, h3, h4], hS.sub (List.nil_sublist _)⟩
  cases h5 : plcB I
  · repeat' (first | (first | ((with_reducible apply l_add); exact rfl; exact rfl; omega; omega; exact rfl) | ((with_reducible apply l_pure tabOk); exact rfl; exact rfl) | ((with_reducible apply l_load); exact rfl; (((with_reducible apply Loads.st tabOk); exact rfl; ((exact hS.blkR 1 rfl)); exact rfl)); exact rfl) | ((with_reducible apply l_ix tabOk); exact rfl; exact rfl; exact rfl; ((exact rfl)); ((simp only [List.length_map, List.length_cons, List.length_nil, List.length_append]; omega)); exact rfl)) | (first | (with_reducible apply c_seq) | (with_reducible apply c_region) | (with_reducible apply l_nil) | (with_reducible apply q_then) | (with_reducible apply c_skip) | (with_reducible apply c_block) | (with_reducible apply c_ret) | (with_reducible apply q_then_ret) | (with_reducible apply q_block) | (with_reducible apply q_block_ret)) | (first | ((with_reducible apply c_ift); exact rfl; (exact rfl)) | ((with_reducible apply c_iff); exact rfl; (exact rfl))) | with_reducible apply q_rounds | (with_reducible apply wr_succ) | ((with_reducible apply l_load); exact rfl; ((with_reducible apply Loads.sc tabOk); exact rfl; (exact hS.rowC0 0 rfl rfl rfl)); exact rfl) | ((with_reducible apply l_call); exact rfl; exact rfl; exact Fn.eqv (ev_pos h1) (names_fn (hI.now hS) hB); exact rfl; rintro _ w' ⟨rfl, hS'⟩; replace hS := hS.transA hS'; simp only [appA] at hS; clear hS') | ((with_reducible apply l_call); exact rfl; exact rfl; exact Fn.eqv (ev_pos h2) (counts_fn (hI.now hS)); exact rfl; rintro _ w' ⟨rfl, hS'⟩; replace hS := hS.transA hS'; simp only [appA] at hS; clear hS') | ((with_reducible apply l_call); exact rfl; exact rfl; exact Fn.eqv (ev_pos h3) (segments_fn (hI.now hS) hD); exact rfl; rintro _ w' ⟨rfl, hS'⟩; replace hS := hS.transA hS'; simp only [appA] at hS; clear hS') | ((with_reducible apply l_call); exact rfl; exact rfl; exact Fn.eqv (ev_pos h4) (apart_fn (hI.now hS) hB h3); exact rfl; rintro _ w' ⟨rfl, hS'⟩; replace hS := hS.transA hS'; simp only [appA] at hS; clear hS') | ((with_reducible apply l_call); exact rfl; exact rfl; exact Fn.eqv (ev_neg h5) (places_fn (hI.now hS) h3); exact rfl; rintro _ w' ⟨rfl, hS'⟩; replace hS := hS.transA hS'; simp only [appA] at hS; clear hS'))
    (apply q_ret1); (repeat (first | exact ResL.nil | (apply ResL.tmp; exact rfl)))
    exact ⟨by simp [checkIm, h1, h2, h3, h4, h5], hS.sub (List.nil_sublist _)⟩
  · repeat' (first | (first | ((with_reducible apply l_add); exact rfl; exact rfl; omega; omega; exact rfl) | ((with_reducible apply l_pure tabOk); exact rfl; exact rfl) | ((with_reducible apply l_load); exact rfl; (((with_reducible apply Loads.st tabOk); exact rfl; ((exact hS.blkR 1 rfl)); exact rfl)); exact rfl) | ((with_reducible apply l_ix tabOk); exact rfl; exact rfl; exact rfl; ((exact rfl)); ((simp only [List.length_map, List.length_cons, List.length_nil, List.length_append]; omega)); exact rfl)) | (first | (with_reducible apply c_seq) | (with_reducible apply c_region) | (with_reducible apply l_nil) | (with_reducible apply q_then) | (with_reducible apply c_skip) | (with_reducible apply c_block) | (with_reducible apply c_exit) | (with_reducible apply c_ret) | (with_reducible apply q_then_exit) | (with_reducible apply q_block) | (with_reducible apply q_block_exit)) | (first | ((with_reducible apply c_ift); exact rfl; (exact rfl)) | ((with_reducible apply c_iff); exact rfl; (exact rfl))) | with_reducible apply q_rounds | (with_reducible apply wr_succ) | ((with_reducible apply l_load); exact rfl; ((with_reducible apply Loads.sc tabOk); exact rfl; (exact hS.rowC0 0 rfl rfl rfl)); exact rfl) | ((with_reducible apply l_call); exact rfl; exact rfl; exact Fn.eqv (ev_pos h1) (names_fn (hI.now hS) hB); exact rfl; rintro _ w' ⟨rfl, hS'⟩; replace hS := hS.transA hS'; simp only [appA] at hS; clear hS') | ((with_reducible apply l_call); exact rfl; exact rfl; exact Fn.eqv (ev_pos h2) (counts_fn (hI.now hS)); exact rfl; rintro _ w' ⟨rfl, hS'⟩; replace hS := hS.transA hS'; simp only [appA] at hS; clear hS') | ((with_reducible apply l_call); exact rfl; exact rfl; exact Fn.eqv (ev_pos h3) (segments_fn (hI.now hS) hD); exact rfl; rintro _ w' ⟨rfl, hS'⟩; replace hS := hS.transA hS'; simp only [appA] at hS; clear hS') | ((with_reducible apply l_call); exact rfl; exact rfl; exact Fn.eqv (ev_pos h4) (apart_fn (hI.now hS) hB h3); exact rfl; rintro _ w' ⟨rfl, hS'⟩; replace hS := hS.transA hS'; simp only [appA] at hS; clear hS') | ((with_reducible apply l_call); exact rfl; exact rfl; exact Fn.eqv (ev_pos h5) (places_fn (hI.now hS) h3); exact rfl; rintro _ w' ⟨rfl, hS'⟩; replace hS := hS.transA hS'; simp only [appA] at hS; clear hS'))
    (apply q_ret1); (repeat (first | exact ResL.nil | (apply ResL.tmp; exact rfl)))
    exact ⟨by simp [checkIm, h1, h2, h3, h4, h5], hS.sub (List.nil_sublist _)⟩
end Go.Proofs.Ytejnpppejalhfab
