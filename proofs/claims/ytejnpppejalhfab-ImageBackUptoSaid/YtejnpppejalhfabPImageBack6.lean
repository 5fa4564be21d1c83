/- Texts that the proof stands on, one behind the other: Im13, Im17, Im20, Im21, Im22, Im23, PlBits, Op1, OpU. -/
import Derived.Deep.Slices
import Derived.OpenShut
import Derived.WideShapes
import Derived.ProofKit
import Derived.Test.YtejnpppejalhfabRows
import Derived.Test.YtejnpppejalhfabPImageBack5
/- image.Write. -/
namespace Go.Proofs.Ytejnpppejalhfab
open Go.RowKit Go.Sort

theorem St.rot1 {F : Nat → Prop} {w0 w : World} {Γ : List Asr} {A B S R : Asr} (h : St F w0 w (R :: S :: A :: B :: Γ)) : St F w0 w (R :: A :: B :: S :: Γ) := h.perm (List.Perm.cons R (((List.Perm.swap A S (B :: Γ))).trans (List.Perm.cons A (List.Perm.swap B S Γ))))
theorem nsB2 (n m : Int) : nsB [n, m] = leB n 8 ++ leB m 8 := by simp [nsB]
theorem c_heldA {P : Program} {n : Nat} {ds : List Deferred} {E : Fr} {w : World} {Q : Exit → Act → World → Prop} {F : Nat → Prop} {w0 : World} {Γ : List Asr} {A : Asr} {id : Nat} {l : List Oper} (i m : Nat) (hi : Γ[i]? = some A) (hl : l.length = m) (hS : St F w0 w Γ) (hm : P.follows .mixedOrders = true) (h : ∀ w1, St F w0 w1 Γ → WA P l.toArray Q (fun w' => A.holds w') m (Array.replicate m false) n ds E w1) : WC P (.region id l.toArray true) Q n ds E w := c_held _ m hl hS hm h
theorem hold_cell {w : World} {g k : Nat} {L : List Value} {v : Value} (h : Asr.holds w (.blk g L)) (hk : L[k]? = some v) : w.cell? ⟨g, k, none⟩ = some v := by rw [HoldL.cell h]; exact hk
theorem nsB1 (n : Int) : nsB [n] = leB n 8 := by simp [nsB]
set_option maxRecDepth 100000 in
set_option maxHeartbeats 4000000 in
theorem Write_fn {I : Im} {w : World} {vn vs vy vr : Value} (hI : ImV w I vn vs vy vr) (hB : ImB I) (hD : ImD I) : Fn Try.prog 9 [imA I vn vs vy vr] w (RBf (.tuple #[.string ⟨(if checkIm I = 0 then imB I else []).toArray⟩, .int .i64 (checkIm I)]) w) := by
  by_cases hc : checkIm I = 0
  rotate_left
  · rw [if_neg hc]
    have hc' : (!decide (checkIm I = 0)) = true := by rw [decide_eq_false hc]; rfl
    refine fn_enter (fn := Try.f9) ⟨Try.func9, by kernel_rfl, by kernel_rfl⟩ (by exact rfl) Try.ntmps9 (by exact rfl) ?_
    have hS := St.start w
    repeat' (first | (first | ((with_reducible apply l_pure tabOk); exact rfl; exact rfl) | ((with_reducible apply l_load); exact rfl; (((with_reducible apply Loads.st tabOk); exact rfl; ((exact hS.blkR 0 rfl)); exact rfl)); exact rfl) | ((with_reducible apply l_box hS); exact rfl; exact rfl; exact rfl; intro g w' hS'; clear hS; have hS := hS'; clear hS')) | (first | (with_reducible apply c_seq) | (with_reducible apply c_region) | (with_reducible apply l_nil) | (with_reducible apply q_then) | (with_reducible apply c_ret) | (with_reducible apply q_then_ret)) | (((with_reducible apply c_ift); exact rfl; (assumption))) | ((with_reducible apply l_call); exact rfl; exact rfl; exact Check_fn (hI.now hS) hB hD; exact rfl; rintro _ w' ⟨rfl, hS'⟩; replace hS := hS.transA hS'; simp only [appA] at hS; clear hS'))
    (apply q_ret2); (repeat (first | exact ResL.nil | (apply ResL.tmp; exact rfl)))
    exact ⟨rfl, hS.sub (List.nil_sublist _)⟩
  rw [if_pos hc]
  have hL := ImL.of hc
  have n0 := hL.name
  have n1 := hL.n1
  have n2 := hL.n2
  have n3 := hL.n3
  have n4 := hL.n4
  have hc' : (!decide (checkIm I = 0)) = false := by rw [decide_eq_true hc]; rfl
  have bn := hI.needs.bound; have bs := hI.segs.bound; have by_ := hI.syms.bound; have br := hI.rels.bound; obtain ⟨pn, cn, rfl⟩ := hI.needs.len; obtain ⟨ps, cs, rfl⟩ := hI.segs.len; obtain ⟨py, cy, rfl⟩ := hI.syms.len; obtain ⟨pr, cr, rfl⟩ := hI.rels.len
  refine fn_enter (fn := Try.f9) ⟨Try.func9, by kernel_rfl, by kernel_rfl⟩ (by exact rfl) Try.ntmps9 (by exact rfl) ?_
  have hS := St.start w
  repeat' (first | (first | ((with_reducible apply l_pure tabOk); exact rfl; exact rfl) | ((with_reducible apply l_load); exact rfl; (first | ((with_reducible apply Loads.sc tabOk); exact rfl; ((exact hS.blkC 1 rfl rfl))) | ((with_reducible apply Loads.st tabOk); exact rfl; ((exact hS.blkR 0 rfl)); exact rfl)); exact rfl) | ((with_reducible apply l_build tabOk); exact rfl; exact rfl; ((exact (rfl : _ = some [_]))); exact rfl) | ((with_reducible apply l_box hS); exact rfl; exact rfl; exact rfl; intro g w' hS'; clear hS; have hS := hS'; clear hS')) | (first | (with_reducible apply c_seq) | (with_reducible apply c_region) | (with_reducible apply l_nil) | (with_reducible apply q_then) | (with_reducible apply c_skip)) | (((with_reducible apply c_iff); exact rfl; (assumption))) | ((with_reducible apply l_call); exact rfl; exact rfl; exact Check_fn (hI.now hS) hB hD; exact rfl; rintro _ w' ⟨rfl, hS'⟩; replace hS := hS.transA hS'; simp only [appA] at hS; clear hS'))
  rename Nat => gp
  replace hS := (hS.addNil 5 1).perm (List.Perm.swap _ _ _)
  replace hS : St _ _ _ (.blk gp [.slice none 0 0] :: .row 5 1 (.slice none 0 0) (bR []) :: _) := hS
  have k1 : ([] ++ txB I.name).length ≤ 20 := by rw [List.nil_append, txB_len]; omega
  repeat' (first | (first | ((with_reducible apply l_pure tabOk); exact rfl; exact rfl) | ((with_reducible apply l_load); exact rfl; (((with_reducible apply Loads.sl tabOk); exact rfl; ((exact hS.blkC 2 rfl rfl)))); exact rfl) | ((with_reducible apply l_bslice hS tabOk); exact rfl; exact rfl; exact rfl; exact rfl; exact rfl; exact rfl; exact rfl; intro g w' hS'; clear hS; have hS := hS'; clear hS')) | (first | (with_reducible apply c_seq) | (with_reducible apply c_region) | (with_reducible apply l_nil) | (with_reducible apply q_then) | (with_reducible apply c_block)) | ((with_reducible apply l_call); exact rfl; exact rfl; exact penText_fn I.name (Pens.in_ hS) (by simp) (by omega); exact rfl; rintro _ w' ⟨p2, m2, c2, hS'⟩; replace hS := Pens.cat hS hS'; clear hS') | ((with_reducible apply l_call); exact rfl; exact rfl; exact penNums_fn (ns := [(I.needs.length : Int)]) hS (by omega) (by simp); exact rfl; rintro _ w' ⟨p2, m2, c2, hS'⟩; replace hS := Pens.cat (St.drop hS) hS'; clear hS'))
  rw [show [] ++ txB I.name ++ nsB [(I.needs.length : Int)] = b2 I ++ (I.needs.take 0).flatMap txB by simp [b2, nsB1]] at hS
  have k2 : (b2 I).length ≤ 28 := by unfold b2; rw [List.length_append, txB_len, leB_len]; omega
  refine c_loopK (X := Nat × Option Addr × Nat × Nat) (fun x => [(34, .int .i64 (x.1 : Nat))]) [1, 5, 32, 33] rfl (fun x => PenA gp x.2.1 x.2.2.1 x.2.2.2 (b2 I ++ (I.needs.take x.1).flatMap txB)) (fun x => x.1 ≤ I.needs.length) (fun x => I.needs.length - x.1) (0, _, _, _) (by repeat (first | exact Fr.sub_nil _ | (apply Fr.sub_cons; exact rfl))) (by exact Nat.zero_le _) hS ?_
  clear hS
  rintro ⟨i, q1, q2, q3⟩ w1 hi hS
  simp only [PenA, List.cons_append, List.nil_append] at hi hS ⊢
  by_cases hlt : i < I.needs.length
  · obtain ⟨x, hx⟩ := lt_get (l := I.needs) (i := i) (by omega)
    have hrow := map_get (f := stC) hx
    obtain ⟨b, off, rfl, hro⟩ := (hI.needs).at_ hlt
    have k3 := flat_len I.needs i hL.needs
    have k4 : (b2 I ++ (I.needs.take i).flatMap txB).length ≤ 200 := by rw [List.length_append]; omega
    have k5 := hL.needs x (List.mem_of_getElem? hx)
    rw [txB_len] at k5
    repeat' (first | (first | ((with_reducible apply l_add); exact rfl; exact rfl; omega; omega; exact rfl) | ((with_reducible apply l_pure tabOk); exact rfl; exact rfl) | ((with_reducible apply l_load); exact rfl; (((with_reducible apply Loads.sc tabOk); exact rfl; ((exact hS.roC0 (by assumption) (by assumption) rfl)))); exact rfl) | ((with_reducible apply l_ix tabOk); exact rfl; exact rfl; exact rfl; ((exact rfl)); ((omega)); exact rfl)) | (first | (with_reducible apply c_seq) | (with_reducible apply c_region) | (with_reducible apply l_nil) | (with_reducible apply q_then) | (with_reducible apply c_skip) | (with_reducible apply c_block) | (with_reducible apply q_block)) | (((with_reducible apply c_ifd); exact rfl; all_goals (intro hb hp; try (exfalso; omega)))) | ((with_reducible apply l_call); exact rfl; exact rfl; exact penText_fn x (Pens.in_ hS) (by omega) (by omega); exact rfl; rintro _ w' ⟨p2, m2, c2, hS'⟩; replace hS := Pens.cat hS hS'; clear hS'))
    rw [show b2 I ++ (I.needs.take i).flatMap txB ++ txB x = b2 I ++ (I.needs.take (i + 1)).flatMap txB by rw [flat_snoc hx, List.append_assoc]] at hS
    exact q_loopK (i + 1, _, _, _) (by repeat (first | exact Fr.sub_nil _ | (apply Fr.sub_cons; exact rfl))) (by show i + 1 ≤ I.needs.length; omega) hS (by show I.needs.length - (i + 1) < I.needs.length - i; omega)
  rw [List.take_of_length_le (by omega)] at hS
  have k3 := flat_len I.needs I.needs.length hL.needs
  rw [List.take_length] at k3
  have k4 : (b2 I ++ I.needs.flatMap txB).length ≤ 200 := by rw [List.length_append]; omega
  repeat' (first | (first | ((with_reducible apply l_pure tabOk); exact rfl; exact rfl) | ((with_reducible apply l_load); exact rfl; (((with_reducible apply Loads.sl tabOk); exact rfl; ((exact hS.blkC 2 rfl rfl)))); exact rfl) | ((with_reducible apply l_bslice hS tabOk); exact rfl; exact rfl; exact rfl; exact rfl; exact rfl; exact rfl; exact rfl; intro g w' hS'; clear hS; have hS := hS'; clear hS')) | (first | (with_reducible apply c_seq) | (with_reducible apply c_region) | (with_reducible apply l_nil) | (with_reducible apply q_then) | (with_reducible apply c_block) | (with_reducible apply c_exit) | (with_reducible apply q_then_exit) | (with_reducible apply q_block_exit)) | (((with_reducible apply c_ifd); exact rfl; all_goals (intro hb hp; try (exfalso; omega)))) | ((with_reducible apply l_call); exact rfl; exact rfl; exact penNums_fn (ns := [(I.segs.length : Int)]) hS (by omega) (by simp); exact rfl; rintro _ w' ⟨p2, m2, c2, hS'⟩; replace hS := Pens.cat (St.drop hS) hS'; clear hS'))
  rw [nsB1, show b2 I ++ I.needs.flatMap txB ++ leB I.segs.length 8 = b4 I ++ (I.segs.take 0).flatMap sgB by simp [b4]] at hS
  have k2 : (b4 I).length ≤ 208 := by unfold b4; rw [List.length_append, leB_len]; omega
  refine c_loopK (X := Nat × Option Addr × Nat × Nat) (fun x => [(51, .int .i64 (x.1 : Nat))]) [1, 5, 49, 50] rfl (fun x => PenA gp x.2.1 x.2.2.1 x.2.2.2 (b4 I ++ (I.segs.take x.1).flatMap sgB)) (fun x => x.1 ≤ I.segs.length) (fun x => I.segs.length - x.1) (0, _, _, _) (by repeat (first | exact Fr.sub_nil _ | (apply Fr.sub_cons; exact rfl))) (by exact Nat.zero_le _) hS ?_
  clear hS
  rintro ⟨i, q1, q2, q3⟩ w1 hi hS
  simp only [PenA, List.cons_append, List.nil_append] at hi hS ⊢
  by_cases hlt : i < I.segs.length
  · obtain ⟨x, hx⟩ := lt_get (l := I.segs) (i := i) (by omega)
    have hrow := map_get (f := sgC) hx
    obtain ⟨b, off, rfl, hro⟩ := (hI.segs).at_ hlt
    have k3 := flat_len I.segs i hL.segs
    have k4 : (b4 I ++ (I.segs.take i).flatMap sgB).length ≤ 40000 := by rw [List.length_append]; omega
    have k5 := hL.segs x (List.mem_of_getElem? hx)
    simp only [sgB, List.length_append, leB_len, txB_len] at k5
    generalize hz : b4 I ++ (I.segs.take i).flatMap sgB = z at hS k4
    have z2 : (z ++ nsB [x.pg, x.n]).length ≤ 40016 := by rw [List.length_append, nsB_len]; simp; omega
    have z3 : (z ++ nsB [x.pg, x.n] ++ txB x.data).length ≤ 50000 := by rw [List.length_append, txB_len]; omega
    repeat' (first | (first | ((with_reducible apply l_pure tabOk); exact rfl; exact rfl) | ((with_reducible apply l_load); exact rfl; (first | ((with_reducible apply Loads.sc tabOk); exact rfl; ((exact hS.blkC 0 rfl rfl))) | ((with_reducible apply Loads.st tabOk); exact rfl; ((exact hS.roR (by assumption) (by assumption))); exact rfl)); exact rfl) | ((with_reducible apply l_ix tabOk); exact rfl; exact rfl; exact rfl; ((exact rfl)); ((omega)); exact rfl) | ((with_reducible apply l_alloc hS tabOk); exact rfl; exact rfl; exact rfl; intro g w' hS'; clear hS; have hS := hS'; clear hS') | (((with_reducible apply l_store hS tabOk (i := 0)); exact rfl; exact rfl; exact rfl; exact rfl; exact rfl; exact rfl; exact rfl; exact rfl; ((exact (rfl : _ = [_, _, _, _, _]))); intro w' hS'; simp only [List.set] at hS'; clear hS; have hS := hS'; clear hS')) | ((with_reducible apply l_bslice hS tabOk); exact rfl; exact rfl; exact rfl; exact rfl; exact rfl; exact rfl; exact rfl; intro g w' hS'; clear hS; have hS := hS'; clear hS')) | (first | (with_reducible apply c_seq) | (with_reducible apply c_region) | (with_reducible apply l_nil) | (with_reducible apply q_then) | (with_reducible apply c_skip) | (with_reducible apply c_block)) | (((with_reducible apply c_ifd); exact rfl; all_goals (intro hb hp; try (exfalso; omega)))))
    replace hS := St.rot1 hS
    rename_i gs _ _ _ _
    repeat' (first | (first | ((with_reducible apply l_pure tabOk); exact rfl; exact rfl) | ((with_reducible apply l_load); exact rfl; (((with_reducible apply Loads.sc tabOk); exact rfl; ((exact hS.blkC 2 rfl rfl)))); exact rfl)) | (first | (with_reducible apply c_seq) | (with_reducible apply c_region) | (with_reducible apply l_nil) | (with_reducible apply q_then)) | ((with_reducible apply l_call); exact rfl; exact rfl; exact penNums_fn (ns := [x.pg, x.n]) hS (by omega) (by simp); exact rfl; rintro _ w' ⟨p2, m2, c2, hS'⟩; replace hS := Pens.cat (St.drop hS) hS'; clear hS') | ((with_reducible apply l_call); exact rfl; exact rfl; exact penText_fn x.data (Pens.in_ hS) (by omega) (by omega); exact rfl; rintro _ w' ⟨p2, m2, c2, hS'⟩; replace hS := Pens.cat hS hS'; clear hS'))
    refine c_heldA 2 9 rfl rfl hS (by kernel_rfl) ?_
    clear hS
    intro w3 hS
    ((with_reducible apply a_take 0 tabOk); exact rfl; kernel_rfl; kernel_rfl; kernel_rfl; exact (fun _ _ _ h => h); exact hS.at_ (i := 2) rfl; exact rfl; exact rfl)
    ((with_reducible apply a_take 1 tabOk); exact rfl; kernel_rfl; kernel_rfl; kernel_rfl; exact (fun _ _ _ h => h); exact hS.at_ (i := 2) rfl; exact rfl; exact rfl)
    ((with_reducible apply a_take 4 tabOk); exact rfl; kernel_rfl; kernel_rfl; kernel_rfl; exact (fun _ _ _ h => h); exact hS.at_ (i := 2) rfl; exact rfl; exact rfl)
    ((with_reducible apply a_takeL 2); exact rfl; kernel_rfl; kernel_rfl; kernel_rfl; exact (fun _ _ _ h => h); exact hS.at_ (i := 2) rfl; exact rfl; (intro w2 hw2; (with_reducible apply Loads.sc tabOk); exact rfl; exact hold_cell hw2 rfl); exact rfl)
    ((with_reducible apply a_takeL 5); exact rfl; kernel_rfl; kernel_rfl; kernel_rfl; exact (fun _ _ _ h => h); exact hS.at_ (i := 2) rfl; exact rfl; (intro w2 hw2; (with_reducible apply Loads.sc tabOk); exact rfl; exact hold_cell hw2 rfl); exact rfl)
    refine a_one (i := 3) (by kernel_rfl) ?_
    refine o_gets rfl (g_call (first := []) (caps := []) rfl rfl (itruth_fn _ _)) rfl ?_
    rintro _ w' ⟨rfl, hS'⟩
    replace hS := hS.transA hS'
    simp only [appA] at hS
    clear hS'
    refine ⟨hS.at_ (i := 2) rfl, ?_⟩
    refine a_one (i := 6) (by kernel_rfl) ?_
    refine o_gets rfl (g_call (first := []) (caps := []) rfl rfl (itruth_fn _ _)) rfl ?_
    rintro _ w' ⟨rfl, hS'⟩
    replace hS := hS.transA hS'
    simp only [appA] at hS
    clear hS'
    refine ⟨hS.at_ (i := 2) rfl, ?_⟩
    refine a_one (i := 7) (by kernel_rfl) ?_
    refine o_gets rfl (g_bslice hS tabOk rfl rfl rfl rfl rfl rfl) rfl ?_
    rintro _ w' ⟨g9, rfl, hS'⟩
    clear hS; have hS := hS'; clear hS'
    refine ⟨hS.at_ (i := 3) rfl, ?_⟩
    refine a_one (i := 8) (by kernel_rfl) ?_
    refine o_gets rfl (g_call (first := []) (caps := []) rfl rfl (penNums_fn (ns := [trB x.wr, trB x.ex]) hS (by omega) (by simp))) rfl ?_
    rintro _ w' ⟨p2, m2, c2, hS'⟩
    replace hS := Pens.cat (St.drop hS) hS'
    clear hS'
    refine ⟨hS.at_ (i := 2) rfl, ?_⟩
    refine a_done (by kernel_rfl) ?_
    rw [show z ++ nsB [x.pg, x.n] ++ txB x.data ++ nsB [trB x.wr, trB x.ex] = b4 I ++ (I.segs.take (i + 1)).flatMap sgB by rw [← hz, flat_snoc hx]; simp [sgB, nsB2]] at hS
    repeat' (first | (first | ((with_reducible apply l_add); exact rfl; exact rfl; omega; omega; exact rfl) | ((with_reducible apply l_pure tabOk); exact rfl; exact rfl)) | (first | (with_reducible apply c_region) | (with_reducible apply l_nil) | (with_reducible apply q_then) | (with_reducible apply q_block)))
    exact q_loopK (i + 1, _, _, _) (by repeat (first | exact Fr.sub_nil _ | (apply Fr.sub_cons; exact rfl))) (by show i + 1 ≤ I.segs.length; omega) (St.unrot hS) (by show I.segs.length - (i + 1) < I.segs.length - i; omega)
  rw [List.take_of_length_le (by omega)] at hS
  have k3 := flat_len I.segs I.segs.length hL.segs
  rw [List.take_length] at k3
  have k4 : (b4 I ++ I.segs.flatMap sgB).length ≤ 40000 := by rw [List.length_append]; omega
  repeat' (first | (first | ((with_reducible apply l_pure tabOk); exact rfl; exact rfl) | ((with_reducible apply l_load); exact rfl; (((with_reducible apply Loads.sl tabOk); exact rfl; ((exact hS.blkC 2 rfl rfl)))); exact rfl) | ((with_reducible apply l_bslice hS tabOk); exact rfl; exact rfl; exact rfl; exact rfl; exact rfl; exact rfl; exact rfl; intro g w' hS'; clear hS; have hS := hS'; clear hS')) | (first | (with_reducible apply c_seq) | (with_reducible apply c_region) | (with_reducible apply l_nil) | (with_reducible apply q_then) | (with_reducible apply c_block) | (with_reducible apply c_exit) | (with_reducible apply q_then_exit) | (with_reducible apply q_block_exit)) | (((with_reducible apply c_ifd); exact rfl; all_goals (intro hb hp; try (exfalso; omega)))) | ((with_reducible apply l_call); exact rfl; exact rfl; exact penNums_fn (ns := [(I.syms.length : Int)]) hS (by omega) (by simp); exact rfl; rintro _ w' ⟨p2, m2, c2, hS'⟩; replace hS := Pens.cat (St.drop hS) hS'; clear hS'))
  rw [nsB1, show b4 I ++ I.segs.flatMap sgB ++ leB I.syms.length 8 = b6 I ++ (I.syms.take 0).flatMap syB by simp [b6]] at hS
  have k2 : (b6 I).length ≤ 40008 := by unfold b6; rw [List.length_append, leB_len]; omega
  refine c_loopK (X := Nat × Option Addr × Nat × Nat) (fun x => [(85, .int .i64 (x.1 : Nat))]) [1, 5, 83, 84] rfl (fun x => PenA gp x.2.1 x.2.2.1 x.2.2.2 (b6 I ++ (I.syms.take x.1).flatMap syB)) (fun x => x.1 ≤ I.syms.length) (fun x => I.syms.length - x.1) (0, _, _, _) (by repeat (first | exact Fr.sub_nil _ | (apply Fr.sub_cons; exact rfl))) (by exact Nat.zero_le _) hS ?_
  clear hS
  rintro ⟨i, q1, q2, q3⟩ w1 hi hS
  simp only [PenA, List.cons_append, List.nil_append] at hi hS ⊢
  by_cases hlt : i < I.syms.length
  · obtain ⟨x, hx⟩ := lt_get (l := I.syms) (i := i) (by omega)
    have hrow := map_get (f := syC) hx
    obtain ⟨b, off, rfl, hro⟩ := (hI.syms).at_ hlt
    have k3 := flat_len I.syms i hL.syms
    have k4 : (b6 I ++ (I.syms.take i).flatMap syB).length ≤ 41000 := by rw [List.length_append]; omega
    have k5 := hL.syms x (List.mem_of_getElem? hx)
    simp only [syB, List.length_append, leB_len, txB_len] at k5
    generalize hz : b6 I ++ (I.syms.take i).flatMap syB = z at hS k4
    have z1 : (z ++ txB x.name).length ≤ 42000 := by rw [List.length_append, txB_len]; omega
    repeat' (first | (first | ((with_reducible apply l_pure tabOk); exact rfl; exact rfl) | ((with_reducible apply l_load); exact rfl; (first | ((with_reducible apply Loads.sc tabOk); exact rfl; ((exact hS.blkC 0 rfl rfl))) | ((with_reducible apply Loads.st tabOk); exact rfl; ((exact hS.roR (by assumption) (by assumption))); exact rfl)); exact rfl) | ((with_reducible apply l_ix tabOk); exact rfl; exact rfl; exact rfl; ((exact rfl)); ((omega)); exact rfl) | ((with_reducible apply l_alloc hS tabOk); exact rfl; exact rfl; exact rfl; intro g w' hS'; clear hS; have hS := hS'; clear hS') | (((with_reducible apply l_store hS tabOk (i := 0)); exact rfl; exact rfl; exact rfl; exact rfl; exact rfl; exact rfl; exact rfl; exact rfl; ((exact (rfl : _ = [_, _]))); intro w' hS'; simp only [List.set] at hS'; clear hS; have hS := hS'; clear hS'))) | (first | (with_reducible apply c_seq) | (with_reducible apply c_region) | (with_reducible apply l_nil) | (with_reducible apply q_then) | (with_reducible apply c_skip) | (with_reducible apply c_block)) | (((with_reducible apply c_ifd); exact rfl; all_goals (intro hb hp; try (exfalso; omega)))))
    replace hS := St.rot hS
    repeat' (first | (first | ((with_reducible apply l_add); exact rfl; exact rfl; omega; omega; exact rfl) | ((with_reducible apply l_pure tabOk); exact rfl; exact rfl) | ((with_reducible apply l_load); exact rfl; (((with_reducible apply Loads.sc tabOk); exact rfl; ((exact hS.blkC 2 rfl rfl)))); exact rfl) | ((with_reducible apply l_bslice hS tabOk); exact rfl; exact rfl; exact rfl; exact rfl; exact rfl; exact rfl; exact rfl; intro g w' hS'; clear hS; have hS := hS'; clear hS')) | (first | (with_reducible apply c_region) | (with_reducible apply l_nil) | (with_reducible apply q_then) | (with_reducible apply q_block)) | ((with_reducible apply l_call); exact rfl; exact rfl; exact penText_fn x.name (Pens.in_ hS) (by omega) (by omega); exact rfl; rintro _ w' ⟨p2, m2, c2, hS'⟩; replace hS := Pens.cat hS hS'; clear hS') | ((with_reducible apply l_call); exact rfl; exact rfl; exact penNums_fn (ns := [x.at_]) hS (by omega) (by simp); exact rfl; rintro _ w' ⟨p2, m2, c2, hS'⟩; replace hS := Pens.cat (St.drop hS) hS'; clear hS'))
    rw [nsB1, show z ++ txB x.name ++ leB x.at_ 8 = b6 I ++ (I.syms.take (i + 1)).flatMap syB by rw [← hz, flat_snoc hx]; simp [syB]] at hS
    exact q_loopK (i + 1, _, _, _) (by repeat (first | exact Fr.sub_nil _ | (apply Fr.sub_cons; exact rfl))) (by show i + 1 ≤ I.syms.length; omega) (St.unrot hS) (by show I.syms.length - (i + 1) < I.syms.length - i; omega)
  rw [List.take_of_length_le (by omega)] at hS
  have k3 := flat_len I.syms I.syms.length hL.syms
  rw [List.take_length] at k3
  have k4 : (b6 I ++ I.syms.flatMap syB).length ≤ 41000 := by rw [List.length_append]; omega
  repeat' (first | (first | ((with_reducible apply l_pure tabOk); exact rfl; exact rfl) | ((with_reducible apply l_load); exact rfl; (((with_reducible apply Loads.sl tabOk); exact rfl; ((exact hS.blkC 2 rfl rfl)))); exact rfl) | ((with_reducible apply l_bslice hS tabOk); exact rfl; exact rfl; exact rfl; exact rfl; exact rfl; exact rfl; exact rfl; intro g w' hS'; clear hS; have hS := hS'; clear hS')) | (first | (with_reducible apply c_seq) | (with_reducible apply c_region) | (with_reducible apply l_nil) | (with_reducible apply q_then) | (with_reducible apply c_block) | (with_reducible apply c_exit) | (with_reducible apply q_then_exit) | (with_reducible apply q_block_exit)) | (((with_reducible apply c_ifd); exact rfl; all_goals (intro hb hp; try (exfalso; omega)))) | ((with_reducible apply l_call); exact rfl; exact rfl; exact penNums_fn (ns := [(I.rels.length : Int)]) hS (by omega) (by simp); exact rfl; rintro _ w' ⟨p2, m2, c2, hS'⟩; replace hS := Pens.cat (St.drop hS) hS'; clear hS'))
  rw [nsB1, show b6 I ++ I.syms.flatMap syB ++ leB I.rels.length 8 = b8 I ++ (I.rels.take 0).flatMap rlB by simp [b8]] at hS
  have k2 : (b8 I).length ≤ 41008 := by unfold b8; rw [List.length_append, leB_len]; omega
  refine c_loopK (X := Nat × Option Addr × Nat × Nat) (fun x => [(108, .int .i64 (x.1 : Nat))]) [1, 5, 106, 107] rfl (fun x => PenA gp x.2.1 x.2.2.1 x.2.2.2 (b8 I ++ (I.rels.take x.1).flatMap rlB)) (fun x => x.1 ≤ I.rels.length) (fun x => I.rels.length - x.1) (0, _, _, _) (by repeat (first | exact Fr.sub_nil _ | (apply Fr.sub_cons; exact rfl))) (by exact Nat.zero_le _) hS ?_
  clear hS
  rintro ⟨i, q1, q2, q3⟩ w1 hi hS
  simp only [PenA, List.cons_append, List.nil_append] at hi hS ⊢
  by_cases hlt : i < I.rels.length
  · obtain ⟨x, hx⟩ := lt_get (l := I.rels) (i := i) (by omega)
    have hrow := map_get (f := rlC) hx
    obtain ⟨b, off, rfl, hro⟩ := (hI.rels).at_ hlt
    have k3 := flat_len I.rels i hL.rels
    have k4 : (b8 I ++ (I.rels.take i).flatMap rlB).length ≤ 43000 := by rw [List.length_append]; omega
    have k5 := hL.rels x (List.mem_of_getElem? hx)
    simp only [rlB, List.length_append, leB_len, txB_len] at k5
    generalize hz : b8 I ++ (I.rels.take i).flatMap rlB = z at hS k4
    have z1 : (z ++ nsB [x.at_]).length ≤ 43008 := by rw [nsB1, List.length_append, leB_len]; omega
    have z2 : (z ++ nsB [x.at_] ++ txB x.name).length ≤ 44000 := by rw [List.length_append, txB_len]; omega
    repeat' (first | (first | ((with_reducible apply l_pure tabOk); exact rfl; exact rfl) | ((with_reducible apply l_load); exact rfl; (first | ((with_reducible apply Loads.sc tabOk); exact rfl; ((exact hS.blkC 0 rfl rfl))) | ((with_reducible apply Loads.st tabOk); exact rfl; ((exact hS.roR (by assumption) (by assumption))); exact rfl)); exact rfl) | ((with_reducible apply l_ix tabOk); exact rfl; exact rfl; exact rfl; ((exact rfl)); ((omega)); exact rfl) | ((with_reducible apply l_alloc hS tabOk); exact rfl; exact rfl; exact rfl; intro g w' hS'; clear hS; have hS := hS'; clear hS') | (((with_reducible apply l_store hS tabOk (i := 0)); exact rfl; exact rfl; exact rfl; exact rfl; exact rfl; exact rfl; exact rfl; exact rfl; ((exact (rfl : _ = [_, _, _]))); intro w' hS'; simp only [List.set] at hS'; clear hS; have hS := hS'; clear hS')) | ((with_reducible apply l_bslice hS tabOk); exact rfl; exact rfl; exact rfl; exact rfl; exact rfl; exact rfl; exact rfl; intro g w' hS'; clear hS; have hS := hS'; clear hS')) | (first | (with_reducible apply c_seq) | (with_reducible apply c_region) | (with_reducible apply l_nil) | (with_reducible apply q_then) | (with_reducible apply c_skip) | (with_reducible apply c_block)) | (((with_reducible apply c_ifd); exact rfl; all_goals (intro hb hp; try (exfalso; omega)))))
    replace hS := St.rot1 hS
    repeat' (first | (first | ((with_reducible apply l_add); exact rfl; exact rfl; omega; omega; exact rfl) | ((with_reducible apply l_pure tabOk); exact rfl; exact rfl) | ((with_reducible apply l_load); exact rfl; (((with_reducible apply Loads.sc tabOk); exact rfl; ((exact hS.blkC 2 rfl rfl)))); exact rfl) | ((with_reducible apply l_bslice hS tabOk); exact rfl; exact rfl; exact rfl; exact rfl; exact rfl; exact rfl; exact rfl; intro g w' hS'; clear hS; have hS := hS'; clear hS')) | (first | (with_reducible apply c_seq) | (with_reducible apply c_region) | (with_reducible apply l_nil) | (with_reducible apply q_then) | (with_reducible apply q_block)) | ((with_reducible apply l_call); exact rfl; exact rfl; exact penNums_fn (ns := [x.at_]) hS (by omega) (by simp); exact rfl; rintro _ w' ⟨p2, m2, c2, hS'⟩; replace hS := Pens.cat (St.drop hS) hS'; clear hS') | ((with_reducible apply l_call); exact rfl; exact rfl; exact penText_fn x.name (Pens.in_ hS) (by omega) (by omega); exact rfl; rintro _ w' ⟨p2, m2, c2, hS'⟩; replace hS := Pens.cat hS hS'; clear hS') | ((with_reducible apply l_call); exact rfl; exact rfl; exact penNums_fn (ns := [x.add]) hS (by omega) (by simp); exact rfl; rintro _ w' ⟨p2, m2, c2, hS'⟩; replace hS := Pens.cat (St.drop hS) hS'; clear hS'))
    rw [show z ++ nsB [x.at_] ++ txB x.name ++ nsB [x.add] = b8 I ++ (I.rels.take (i + 1)).flatMap rlB by rw [← hz, flat_snoc hx]; simp [rlB, nsB1]] at hS
    exact q_loopK (i + 1, _, _, _) (by repeat (first | exact Fr.sub_nil _ | (apply Fr.sub_cons; exact rfl))) (by show i + 1 ≤ I.rels.length; omega) (St.unrot hS) (by show I.rels.length - (i + 1) < I.rels.length - i; omega)
  rw [List.take_of_length_le (by omega)] at hS
  have k3 := flat_len I.rels I.rels.length hL.rels
  rw [List.take_length] at k3
  have k4 : (b8 I ++ I.rels.flatMap rlB).length ≤ 43000 := by rw [List.length_append]; omega
  have k6 : 0 < (imB I).length := by unfold imB; rw [List.length_append, leB_len]; omega
  repeat' (first | (first | ((with_reducible apply l_pure tabOk); exact rfl; exact rfl) | ((with_reducible apply l_load); exact rfl; (first | ((with_reducible apply Loads.sc tabOk); exact rfl; ((exact hS.blkC 2 rfl rfl))) | ((with_reducible apply Loads.sl tabOk); exact rfl; ((exact hS.blkC 0 rfl rfl)))); exact rfl) | ((with_reducible apply l_bslice hS tabOk); exact rfl; exact rfl; exact rfl; exact rfl; exact rfl; exact rfl; exact rfl; intro g w' hS'; clear hS; have hS := hS'; clear hS')) | (first | (with_reducible apply c_seq) | (with_reducible apply c_region) | (with_reducible apply l_nil) | (with_reducible apply q_then) | (with_reducible apply c_exit) | (with_reducible apply c_ret) | (with_reducible apply q_then_exit) | (with_reducible apply q_block_exit)) | (((with_reducible apply c_ifd); exact rfl; all_goals (intro hb hp; try (exfalso; omega)))) | ((with_reducible apply l_call); exact rfl; exact rfl; exact penNums_fn (ns := [I.entry]) hS (by omega) (by simp); exact rfl; rintro _ w' ⟨p2, m2, c2, hS'⟩; replace hS := Pens.cat (St.drop hS) hS'; clear hS') | (rw [nsB1, show b8 I ++ I.rels.flatMap rlB ++ leB I.entry 8 = imB I from rfl] at hS; (with_reducible apply l_convS hS tabOk 1); exact rfl; exact rfl; exact rfl; exact rfl; exact rfl; exact k6; exact rfl))
  (apply q_ret2); (repeat (first | exact ResL.nil | (apply ResL.tmp; exact rfl)))
  exact ⟨by rw [hc], hS.sub (List.nil_sublist _)⟩
end Go.Proofs.Ytejnpppejalhfab
/- image.Read. -/
namespace Go.Proofs.Ytejnpppejalhfab
open Go.RowKit Go.Sort
def zI : List Value := [.string ⟨#[]⟩, .slice none 0 0, .slice none 0 0, .slice none 0 0, .slice none 0 0, .int .i64 0]
theorem has_args {args : List Value} {X : Array Value} {n : Nat} (hn : args.length + X.size = n) : Has n [] { tmps := args.toArray ++ X, defers := [] } (argFr 0 args) := by
  refine ⟨by simpa using hn, rfl, fun t v ht => ?_⟩
  obtain ⟨_, h2⟩ := argFr_get ht
  have hlt := lt_of_getE h2
  rw [Nat.sub_zero] at h2 hlt
  rw [Array.getD_eq_getD_getElem?, Array.getElem?_append_left (by simpa using hlt)]
  simp [h2]
theorem catch_panic {F : Nat → Prop} {w0 w : World} {Γ : List Asr} {gi ge : Nat} {L : List Value} {x : Value} (hL : L.length = 6) (hS0 : St F w0 w (.blk gi L :: .blk ge [x] :: Γ)) :
    DefP Try.prog 36 [gPt gi, gPt ge] brV w (fun w' => St (fps [.blk gi L, .blk ge [x]]) w w' [.blk gi zI, .blk ge [.int .i64 1]]) := by
  refine ⟨⟨Try.f36, Try.func36, by kernel_rfl, by kernel_rfl⟩, ?_⟩
  refine callsD_of_wpS Try.func36 rfl fun c₀ cs hu => ?_
  apply wpS_seq
  apply wpS_region
  simp [wpOpsS, go_sem, recoverD, hu, Try.ntmps36, Exit.thenS, brV]
  refine wpS_cond (t := true) (by simp [Act.eval, Array.replicate]) ?_
  simp only [if_true]
  refine wpS_of_wp ?_
  have hS := St.startM (Δ := [.blk gi L, .blk ge [x]]) hS0
  obtain ⟨a, b, c, d, e, f, rfl⟩ : ∃ a b c d e f, L = [a, b, c, d, e, f] := by
    match L, hL with
    | [a, b, c, d, e, f], _ => exact ⟨a, b, c, d, e, f, rfl⟩
  refine (show WC Try.prog _ _ 5 [] (argFr 0 [gPt gi, gPt ge]) w from ?_) _ (has_args (by simp))
  repeat' (first | (first | ((with_reducible apply l_build tabOk); exact rfl; exact rfl; ((exact (rfl : _ = some [_, _, _, _, _, _]))); exact rfl) | (first | ((with_reducible apply l_store hS tabOk (i := 0)); exact rfl; exact rfl; exact rfl; exact rfl; exact rfl; exact rfl; exact rfl; exact rfl; ((exact (rfl : _ = [_, _, _, _, _, _]))); intro w' hS'; simp only [List.set] at hS'; clear hS; have hS := hS'; clear hS') | ((with_reducible apply l_store hS tabOk (i := 1)); exact rfl; exact rfl; exact rfl; exact rfl; exact rfl; exact rfl; exact rfl; exact rfl; ((exact (rfl : _ = [_]))); intro w' hS'; simp only [List.set] at hS'; clear hS; have hS := hS'; clear hS'))) | (first | (with_reducible apply c_region) | (with_reducible apply l_nil)))
  intro a ha
  exact ⟨ha.defers, _, rfl, _, results_of (vs := []) rfl ResL.nil rfl ha, ⟨_, rfl⟩, rfl, hS⟩
theorem catch_idle {gi ge : Nat} {w : World} :
    DefR Try.prog 36 [gPt gi, gPt ge] w (fun w' => w' = w) := by
  refine ⟨⟨Try.f36, Try.func36, by kernel_rfl, by kernel_rfl⟩, ?_⟩
  refine callsD_of_wpS Try.func36 rfl fun c₀ cs hu => ?_
  apply wpS_seq
  apply wpS_region
  simp [wpOpsS, go_sem, recoverD, hu, Try.ntmps36, Exit.thenS]
  refine wpS_cond (t := false) (by simp [Act.eval, Array.replicate]) ?_
  simp only [Bool.false_eq_true, if_false]
  refine wpS_of_wp (wp_skip ?_)
  cases c₀
  simp_all [bodyPostS, results, Try.f36]
def Im0 : Im := ⟨[], [], [], [], [], 0⟩
/-- what Read comes to -/
def RdPost (s : Bs8) (w : World) : Value → World → Prop := fun v w' =>
  (∃ I pn cn ps cs py cy pr cr, imFrom s = some I ∧ v = .tuple #[imA I (.slice pn I.needs.length cn) (.slice ps I.segs.length cs) (.slice py I.syms.length cy) (.slice pr I.rels.length cr), .int .i64 0] ∧
    St nF w w' [.row 9 1 (.slice pn I.needs.length cn) (I.needs.map stC), .row 82 5 (.slice ps I.segs.length cs) (I.segs.map sgC), .row 85 2 (.slice py I.syms.length cy) (I.syms.map syC), .row 87 3 (.slice pr I.rels.length cr) (I.rels.map rlC)]) ∨
  (imFrom s = none ∧ v = .tuple #[.agg zI.toArray, .int .i64 1] ∧ St nF w w' [])
def ReadErr (gi ge : Nat) (w : World) : World → Prop := fun w' => ∃ L, L.length = 6 ∧ St nF w w' [.blk gi L, .blk ge [.int .i64 0]]
theorem imFrom_none {s : Bs8} (h : rdIm s = none) : imFrom s = none := by unfold imFrom; rw [h]
theorem imFrom_more {s : Bs8} {I : Im} {r : Bs8} (h : rdIm s = some (I, r)) (hr : r ≠ []) : imFrom s = none := by
  unfold imFrom
  rw [h]
  cases r with
  | nil => exact absurd rfl hr
  | cons b r => rfl
theorem imFrom_at {s : Bs8} {I : Im} (h : rdIm s = some (I, [])) : imFrom s = if checkIm I = 0 then some I else none := by unfold imFrom; rw [h]
theorem rdSg_data {n : Nat} {l r : Bs8} {xs : List Sg} (h : rdMany rdSg n l = some (xs, r)) : ∀ x ∈ xs, x.data.length ≤ l.length := by
  induction n generalizing l r xs with
  | zero => simp only [rdMany, Option.some.injEq, Prod.mk.injEq] at h; obtain ⟨rfl, rfl⟩ := h; simp
  | succ n ih =>
    simp only [rdMany] at h
    obtain ⟨p, h1, h⟩ := Option.bind_eq_some_iff.1 h
    obtain ⟨q, h2, h⟩ := Option.bind_eq_some_iff.1 h
    cases h
    intro x hx
    have he := eats_sg _ _ _ h1
    rcases List.mem_cons.1 hx with rfl | hx
    · unfold rdSg at h1
      obtain ⟨a, k1, h1⟩ := Option.bind_eq_some_iff.1 h1
      obtain ⟨b, k2, h1⟩ := Option.bind_eq_some_iff.1 h1
      obtain ⟨c, k3, h1⟩ := Option.bind_eq_some_iff.1 h1
      obtain ⟨d, k4, h1⟩ := Option.bind_eq_some_iff.1 h1
      obtain ⟨e, k5, h1⟩ := Option.bind_eq_some_iff.1 h1
      cases h1
      have := rdNum_len k1
      have := rdNum_len k2
      have := rdText_len k3
      show c.1.length ≤ _
      omega
    · have := ih h2 x hx
      omega
theorem rdList_len {α : Type} {one : Bs8 → Option (α × Bs8)} (he : Eats one) {l r : Bs8} {xs : List α} (h : rdList one l = some (xs, r)) : r.length + 8 * xs.length + 8 ≤ l.length := by
  unfold rdList rdCnt at h
  obtain ⟨p, h1, h⟩ := Option.bind_eq_some_iff.1 h
  obtain ⟨q, h2, h3⟩ := Option.bind_eq_some_iff.1 h1
  split at h3
  · cases h3
    have := rdNum_len h2
    have := rdMany_len he h
    omega
  · cases h3
theorem rdList_data {l r : Bs8} {xs : List Sg} (h : rdList rdSg l = some (xs, r)) : ∀ x ∈ xs, x.data.length ≤ l.length := by
  unfold rdList rdCnt at h
  obtain ⟨p, h1, h⟩ := Option.bind_eq_some_iff.1 h
  obtain ⟨q, h2, h3⟩ := Option.bind_eq_some_iff.1 h1
  split at h3
  · cases h3
    intro x hx
    have := rdNum_len h2
    have := rdSg_data h x hx
    omega
  · cases h3
theorem read_caught {s : Bs8} {w w1 : World} {E : Fr} {gi ge : Nat} (h2 : E.get 2 = some (gPt gi)) (h3 : E.get 3 = some (gPt ge)) (hs : imFrom s = none) (h : ReadErr gi ge w w1) :
    WQ (bodyPostD Try.prog Try.f10 (RV (RdPost s w))) (.panic brk) 40 [{ target := .fn (.func 36) #[gPt gi, gPt ge], args := ([] ++ [] : List Value).toArray }] E w1 := by
  obtain ⟨L, hL, hS⟩ := h
  refine q_dpanic (catch_panic hL hS) ?_
  intro w' hS'
  replace hS := hS.transAll hS'
  refine ⟨[.agg zI.toArray, .int .i64 1], _, ?_, rfl, Or.inr ⟨hs, rfl, hS.sub (List.nil_sublist _)⟩⟩
  refine ResL.cell h2 ?_ (ResL.cell h3 ?_ ResL.nil)
  · ((with_reducible apply Loads.st tabOk); exact rfl; ((exact hS.blkR 0 rfl)); exact rfl)
  · ((with_reducible apply Loads.sc tabOk); exact rfl; ((exact hS.blkC 1 rfl rfl)))
set_option maxRecDepth 100000 in
set_option maxHeartbeats 8000000 in
theorem Read_fn (s : Bs8) (w : World) (hs : s.length ≤ 1048576) : Fn Try.prog 10 [.string ⟨s.toArray⟩] w (RdPost s w) := by
  refine fn_enterD (fn := Try.f10) ⟨Try.func10, by kernel_rfl, by kernel_rfl⟩ (by exact rfl) Try.ntmps10 (by exact rfl) ?_
  have hS := St.start w
  repeat' (first | (first | ((with_reducible apply l_pure tabOk); exact rfl; exact rfl) | ((with_reducible apply l_load); exact rfl; (((with_reducible apply Loads.sc tabOk); exact rfl; ((exact hS.blkC 0 rfl rfl)))); exact rfl) | ((with_reducible apply l_build tabOk); exact rfl; exact rfl; ((exact (rfl : _ = some [_]))); exact rfl) | ((with_reducible apply l_box hS); exact rfl; exact rfl; exact rfl; intro g w' hS'; clear hS; have hS := hS'; clear hS') | ((with_reducible apply l_alloc hS tabOk); exact rfl; exact rfl; exact rfl; intro g w' hS'; clear hS; have hS := hS'; clear hS') | (((with_reducible apply l_store hS tabOk (i := 0)); exact rfl; exact rfl; exact rfl; exact rfl; exact rfl; exact rfl; exact rfl; exact rfl; ((exact (rfl : _ = [_]))); intro w' hS'; simp only [List.set] at hS'; clear hS; have hS := hS'; clear hS'))) | (first | (with_reducible apply c_seq) | (with_reducible apply c_region) | (with_reducible apply l_nil) | (with_reducible apply q_then)) | ((with_reducible apply l_defer); exact rfl; exact rfl))
  rename_i gi _ ge _ gs _ _
  rename Nat => gr
  replace hS : St nF w _ [.blk gr [gPt gs], .blk gs [.string ⟨s.toArray⟩], .blk ge [.int .i64 0], .blk gi zI] := hS
  simp only [zI] at hS
  replace hS := St.reorder [1, 3, 0, 2] hS (by decide) rfl
  repeat' (first | (first | ((with_reducible apply l_pure tabOk); exact rfl; exact rfl) | ((with_reducible apply l_load); exact rfl; (((with_reducible apply Loads.sc tabOk); exact rfl; ((exact hS.blkC 2 rfl rfl)))); exact rfl) | (((with_reducible apply l_store hS tabOk (i := 1)); exact rfl; exact rfl; exact rfl; exact rfl; exact rfl; exact rfl; exact rfl; exact rfl; ((exact (rfl : _ = [_, _, _, _, _, _]))); intro w' hS'; simp only [List.set] at hS'; clear hS; have hS := hS'; clear hS'))) | (first | (with_reducible apply c_seq) | (with_reducible apply c_region) | (with_reducible apply l_nil) | (with_reducible apply q_then)) | ((with_reducible apply l_callQ); exact rfl; exact rfl; exact text_fn (l := s) hS hs; exact rfl; (rintro w' ⟨hno, r, hS'⟩; (repeat' ((with_reducible apply q_then_panic))); exact read_caught rfl rfl (imFrom_none (by unfold rdIm; rw [hno]; rfl)) ⟨_, rfl, (hS.transM1 hS').reorder [1, 3] (by decide) rfl⟩); rintro _ w' ⟨r1, ⟨nm, hn1, rfl⟩, hS'⟩; replace hS := hS.transM1 hS'; simp only [appA] at hS; clear hS'))
  have l1 := rdText_len hn1
  replace hS := hS.addNil 9 1
  replace hS := St.reorder [1, 2, 0, 3, 4] hS (by decide) rfl
  replace hS : St nF w _ (RdD gs gi gr 9 1 (LfN (.string ⟨nm.toArray⟩) (.slice none 0 0) (.slice none 0 0) (.slice none 0 0) (.int .i64 0)) stC r1 [] none 0 ++ [.blk ge [.int .i64 0]]) := hS
  repeat' (first | (first | ((with_reducible apply l_pure tabOk); exact rfl; exact rfl) | ((with_reducible apply l_load); exact rfl; (((with_reducible apply Loads.sc tabOk); exact rfl; ((exact hS.blkC 3 rfl rfl)))); exact rfl)) | (first | (with_reducible apply c_seq) | (with_reducible apply c_region) | (with_reducible apply l_nil) | (with_reducible apply q_then)) | ((with_reducible apply l_callQ); exact rfl; exact rfl; exact each_fn (Γ := [.blk ge [.int .i64 0]]) eats_text read2_ok (by omega) hS; exact rfl; (rintro w' ⟨hno, r, xs, p, c, hS'⟩; (repeat' ((with_reducible apply q_then_panic))); exact read_caught rfl rfl (imFrom_none (by unfold rdIm; simp only [Option.bind_some, Option.bind_none, *])) ⟨_, rfl, (St.transM (Γ := [.blk ge [.int .i64 0]]) hS hS').reorder [1, 4] (by decide) rfl⟩); rintro _ w' ⟨ns, r2, pn, cn, hn2, hS'⟩; replace hS := St.transM (Γ := [.blk ge [.int .i64 0]]) hS hS'; simp only [RdD, LfN, List.cons_append, List.nil_append] at hS; clear hS'))
  have l2 := rdList_len eats_text hn2
  replace hS := hS.addNil 82 5
  replace hS := St.reorder [1, 2, 0, 4, 5, 3] hS (by decide) rfl
  replace hS : St nF w _ (RdD gs gi gr 82 5 (LfS (.string ⟨nm.toArray⟩) (.slice pn ns.length cn) (.slice none 0 0) (.slice none 0 0) (.int .i64 0)) sgC r2 [] none 0 ++ [.blk ge [.int .i64 0], .row 9 1 (.slice pn ns.length cn) (ns.map stC)]) := hS
  repeat' (first | (first | ((with_reducible apply l_pure tabOk); exact rfl; exact rfl) | ((with_reducible apply l_load); exact rfl; (((with_reducible apply Loads.sc tabOk); exact rfl; ((exact hS.blkC 3 rfl rfl)))); exact rfl)) | (first | (with_reducible apply c_seq) | (with_reducible apply c_region) | (with_reducible apply l_nil) | (with_reducible apply q_then)) | ((with_reducible apply l_callQ); exact rfl; exact rfl; exact each_fn (Γ := [.blk ge [.int .i64 0], .row 9 1 (.slice pn ns.length cn) (ns.map stC)]) eats_sg read3_ok (by omega) hS; exact rfl; (rintro w' ⟨hno, r, xs, p, c, hS'⟩; (repeat' ((with_reducible apply q_then_panic))); exact read_caught rfl rfl (imFrom_none (by unfold rdIm; simp only [Option.bind_some, Option.bind_none, *])) ⟨_, rfl, (St.transM (Γ := [.blk ge [.int .i64 0], .row 9 1 (.slice pn ns.length cn) (ns.map stC)]) hS hS').reorder [1, 4] (by decide) rfl⟩); rintro _ w' ⟨ss, r3, ps, cs, hn3, hS'⟩; replace hS := St.transM (Γ := [.blk ge [.int .i64 0], .row 9 1 (.slice pn ns.length cn) (ns.map stC)]) hS hS'; simp only [RdD, LfS, List.cons_append, List.nil_append] at hS; clear hS'))
  have l3 := rdList_len eats_sg hn3
  have l3' := rdList_data hn3
  replace hS := hS.addNil 85 2
  replace hS := St.reorder [1, 2, 0, 4, 5, 6, 3] hS (by decide) rfl
  replace hS : St nF w _ (RdD gs gi gr 85 2 (LfY (.string ⟨nm.toArray⟩) (.slice pn ns.length cn) (.slice ps ss.length cs) (.slice none 0 0) (.int .i64 0)) syC r3 [] none 0 ++ [.blk ge [.int .i64 0], .row 9 1 (.slice pn ns.length cn) (ns.map stC), .row 82 5 (.slice ps ss.length cs) (ss.map sgC)]) := hS
  repeat' (first | (first | ((with_reducible apply l_pure tabOk); exact rfl; exact rfl) | ((with_reducible apply l_load); exact rfl; (((with_reducible apply Loads.sc tabOk); exact rfl; ((exact hS.blkC 3 rfl rfl)))); exact rfl)) | (first | (with_reducible apply c_seq) | (with_reducible apply c_region) | (with_reducible apply l_nil) | (with_reducible apply q_then)) | ((with_reducible apply l_callQ); exact rfl; exact rfl; exact each_fn (Γ := [.blk ge [.int .i64 0], .row 9 1 (.slice pn ns.length cn) (ns.map stC), .row 82 5 (.slice ps ss.length cs) (ss.map sgC)]) eats_sy read4_ok (by omega) hS; exact rfl; (rintro w' ⟨hno, r, xs, p, c, hS'⟩; (repeat' ((with_reducible apply q_then_panic))); exact read_caught rfl rfl (imFrom_none (by unfold rdIm; simp only [Option.bind_some, Option.bind_none, *])) ⟨_, rfl, (St.transM (Γ := [.blk ge [.int .i64 0], .row 9 1 (.slice pn ns.length cn) (ns.map stC), .row 82 5 (.slice ps ss.length cs) (ss.map sgC)]) hS hS').reorder [1, 4] (by decide) rfl⟩); rintro _ w' ⟨ys, r4, py, cy, hn4, hS'⟩; replace hS := St.transM (Γ := [.blk ge [.int .i64 0], .row 9 1 (.slice pn ns.length cn) (ns.map stC), .row 82 5 (.slice ps ss.length cs) (ss.map sgC)]) hS hS'; simp only [RdD, LfY, List.cons_append, List.nil_append] at hS; clear hS'))
  have l4 := rdList_len eats_sy hn4
  replace hS := hS.addNil 87 3
  replace hS := St.reorder [1, 2, 0, 4, 5, 6, 7, 3] hS (by decide) rfl
  replace hS : St nF w _ (RdD gs gi gr 87 3 (LfR (.string ⟨nm.toArray⟩) (.slice pn ns.length cn) (.slice ps ss.length cs) (.slice py ys.length cy) (.int .i64 0)) rlC r4 [] none 0 ++ [.blk ge [.int .i64 0], .row 9 1 (.slice pn ns.length cn) (ns.map stC), .row 82 5 (.slice ps ss.length cs) (ss.map sgC), .row 85 2 (.slice py ys.length cy) (ys.map syC)]) := hS
  repeat' (first | (((with_reducible apply l_load); exact rfl; (((with_reducible apply Loads.sc tabOk); exact rfl; ((exact hS.blkC 3 rfl rfl)))); exact rfl)) | (first | (with_reducible apply c_seq) | (with_reducible apply c_region) | (with_reducible apply l_nil) | (with_reducible apply q_then)) | ((with_reducible apply l_callQ); exact rfl; exact rfl; exact each_fn (Γ := [.blk ge [.int .i64 0], .row 9 1 (.slice pn ns.length cn) (ns.map stC), .row 82 5 (.slice ps ss.length cs) (ss.map sgC), .row 85 2 (.slice py ys.length cy) (ys.map syC)]) eats_rl read5_ok (by omega) hS; exact rfl; (rintro w' ⟨hno, r, xs, p, c, hS'⟩; (repeat' ((with_reducible apply q_then_panic))); exact read_caught rfl rfl (imFrom_none (by unfold rdIm; simp only [Option.bind_some, Option.bind_none, *])) ⟨_, rfl, (St.transM (Γ := [.blk ge [.int .i64 0], .row 9 1 (.slice pn ns.length cn) (ns.map stC), .row 82 5 (.slice ps ss.length cs) (ss.map sgC), .row 85 2 (.slice py ys.length cy) (ys.map syC)]) hS hS').reorder [1, 4] (by decide) rfl⟩); rintro _ w' ⟨rs, r5, pr, cr, hn5, hS'⟩; replace hS := St.transM (Γ := [.blk ge [.int .i64 0], .row 9 1 (.slice pn ns.length cn) (ns.map stC), .row 82 5 (.slice ps ss.length cs) (ss.map sgC), .row 85 2 (.slice py ys.length cy) (ys.map syC)]) hS hS'; simp only [RdD, LfR, List.cons_append, List.nil_append] at hS; clear hS'))
  have l5 := rdList_len eats_rl hn5
  repeat' (first | (first | ((with_reducible apply l_pure tabOk); exact rfl; exact rfl) | ((with_reducible apply l_load); exact rfl; (first | ((with_reducible apply Loads.sc tabOk); exact rfl; (first | exact hS.blkC 0 rfl rfl | exact hS.blkC 3 rfl rfl)) | ((with_reducible apply Loads.st tabOk); exact rfl; ((exact hS.blkR 1 rfl)); exact rfl)); exact rfl) | ((with_reducible apply l_build tabOk); exact rfl; exact rfl; ((exact rfl)); exact rfl) | (((with_reducible apply l_store hS tabOk (i := 1)); exact rfl; exact rfl; exact rfl; exact rfl; exact rfl; exact rfl; exact rfl; exact rfl; ((exact (rfl : _ = [_, _, _, _, _, _]))); intro w' hS'; simp only [List.set] at hS'; clear hS; have hS := hS'; clear hS')) | (first | ((with_reducible apply l_yes); exact rfl; exact rfl; exact rfl; exact rfl; (assumption)) | ((with_reducible apply l_no); exact rfl; exact rfl; exact rfl; exact rfl; ((assumption)); exact rfl) | ((with_reducible apply l_partn); exact rfl; exact rfl; exact rfl; all_goals (intro hb hp; try (exfalso; omega))) | ((with_reducible apply l_pick1); exact rfl; ((assumption)); exact rfl; exact rfl))) | (first | (with_reducible apply c_seq) | (with_reducible apply c_region) | (with_reducible apply l_nil) | (with_reducible apply q_then)) | (((with_reducible apply c_ift); exact rfl; (exact rfl))) | ((with_reducible apply l_callQ); exact rfl; exact rfl; exact number_fn (l := r5) hS (by omega); exact rfl; (rintro w' ⟨hno, r, hS'⟩; (repeat' ((with_reducible apply q_then_panic))); exact read_caught rfl rfl (imFrom_none (by unfold rdIm; simp only [Option.bind_some, Option.bind_none, *])) ⟨_, rfl, (hS.transM1 hS').reorder [1, 4] (by decide) rfl⟩); rintro _ w' ⟨r6, ⟨en, hn6, rfl⟩, hS'⟩; replace hS := hS.transM1 hS'; simp only [appA] at hS; clear hS'))
  all_goals have hIm : rdIm s = some (⟨nm, ns, ss, ys, rs, en⟩, r6) := by unfold rdIm; simp only [Option.bind_some, *]
  · repeat' (first | ((with_reducible apply l_iface (by kernel_rfl)); exact rfl; exact rfl) | ((with_reducible apply l_panic); exact rfl) | (with_reducible apply q_then_panic))
    exact read_caught rfl rfl (imFrom_more hIm hp) ⟨_, rfl, hS.reorder [1, 4] (by decide) rfl⟩
  · subst hp
    have hV : ImV _ ⟨nm, ns, ss, ys, rs, en⟩ (.slice pn ns.length cn) (.slice ps ss.length cs) (.slice py ys.length cy) (.slice pr rs.length cr) := ⟨hS.rowSl 5 rfl, hS.rowSl 6 rfl, hS.rowSl 7 rfl, hS.rowSl 2 rfl⟩
    have hB : ImB ⟨nm, ns, ss, ys, rs, en⟩ := ⟨by show ns.length ≤ _; omega, by show ss.length ≤ _; omega, by show ys.length ≤ _; omega, by show rs.length ≤ _; omega⟩
    have hD : ImD ⟨nm, ns, ss, ys, rs, en⟩ := fun x hx => by have := l3' x hx; omega
    by_cases hc : checkIm ⟨nm, ns, ss, ys, rs, en⟩ = 0
    · have hc' : (!decide (checkIm ⟨nm, ns, ss, ys, rs, en⟩ = 0)) = false := by rw [decide_eq_true hc]; rfl
      repeat' (first | (first | ((with_reducible apply l_pure tabOk); exact rfl; exact rfl) | ((with_reducible apply l_load); exact rfl; (((with_reducible apply Loads.st tabOk); exact rfl; ((exact hS.blkR 1 rfl)); exact rfl)); exact rfl) | (first | ((with_reducible apply l_store hS tabOk (i := 1)); exact rfl; exact rfl; exact rfl; exact rfl; exact rfl; exact rfl; exact rfl; exact rfl; ((exact (rfl : _ = [_, _, _, _, _, _]))); intro w' hS'; simp only [List.set] at hS'; clear hS; have hS := hS'; clear hS') | ((with_reducible apply l_store hS tabOk (i := 4)); exact rfl; exact rfl; exact rfl; exact rfl; exact rfl; exact rfl; exact rfl; exact rfl; ((exact (rfl : _ = [_]))); intro w' hS'; simp only [List.set] at hS'; clear hS; have hS := hS'; clear hS')) | (first | ((with_reducible apply l_yes); exact rfl; exact rfl; exact rfl; exact rfl; (exact rfl)) | ((with_reducible apply l_pick2); exact rfl; ((exact rfl)); exact rfl; exact rfl))) | (first | (with_reducible apply c_seq) | (with_reducible apply c_region) | (with_reducible apply l_nil) | (with_reducible apply q_then) | (with_reducible apply c_skip) | (with_reducible apply c_ret)) | (((with_reducible apply c_iff); exact rfl; (assumption))) | ((with_reducible apply l_call); exact rfl; exact rfl; exact Check_fn hV hB hD; exact rfl; rintro _ w' ⟨rfl, hS'⟩; replace hS := hS.transA hS'; simp only [appA] at hS; clear hS'))
      refine q_dret (Or.inl rfl) catch_idle ?_
      rintro w9 rfl
      refine ⟨[imA ⟨nm, ns, ss, ys, rs, en⟩ (.slice pn ns.length cn) (.slice ps ss.length cs) (.slice py ys.length cy) (.slice pr rs.length cr), .int .i64 0], _, ?_, rfl, Or.inl ⟨⟨nm, ns, ss, ys, rs, en⟩, pn, cn, ps, cs, py, cy, pr, cr, by rw [imFrom_at hIm, if_pos hc], rfl, hS.reorder [5, 6, 7, 2] (by decide) rfl⟩⟩
      refine ResL.cell rfl ?_ (ResL.cell rfl ?_ ResL.nil)
      · unfold imA
        ((with_reducible apply Loads.st tabOk); exact rfl; ((exact hS.blkR 1 rfl)); exact rfl)
      · ((with_reducible apply Loads.sc tabOk); exact rfl; ((exact hS.blkC 4 rfl rfl)))
    · have hc' : (!decide (checkIm ⟨nm, ns, ss, ys, rs, en⟩ = 0)) = true := by rw [decide_eq_false hc]; rfl
      repeat' (first | (first | ((with_reducible apply l_pure tabOk); exact rfl; exact rfl) | ((with_reducible apply l_build tabOk); exact rfl; exact rfl; ((exact rfl)); exact rfl) | (first | ((with_reducible apply l_yes); exact rfl; exact rfl; exact rfl; exact rfl; (exact rfl)) | ((with_reducible apply l_pick2); exact rfl; ((exact rfl)); exact rfl; exact rfl))) | (first | (with_reducible apply c_region) | (with_reducible apply l_nil) | (with_reducible apply q_then)) | (((with_reducible apply c_ift); exact rfl; (assumption))) | ((with_reducible apply l_call); exact rfl; exact rfl; exact Check_fn hV hB hD; exact rfl; rintro _ w' ⟨rfl, hS'⟩; replace hS := hS.transA hS'; simp only [appA] at hS; clear hS') | ((with_reducible apply l_iface (by kernel_rfl)); exact rfl; exact rfl) | ((with_reducible apply l_panic); exact rfl) | (with_reducible apply q_then_panic))
      exact read_caught rfl rfl (by rw [imFrom_at hIm, if_neg hc]) ⟨_, rfl, hS.reorder [1, 4] (by decide) rfl⟩
end Go.Proofs.Ytejnpppejalhfab
/- The reference's SameImages. -/
namespace Go.Proofs.Ytejnpppejalhfab
open Go.RowKit Go.Sort
theorem eqSg (a b : Sg) : EqIs Try.prog 82 (sgC a) (sgC b) (decide (a = b)) := by
  refine ⟨fun w => ?_, by kernel_rfl⟩
  cases a
  cases b
  unfold sgC
  simp [go_sem]
  repeat' split
  all_goals simp_all
theorem eqSy (a b : Sy) : EqIs Try.prog 85 (syC a) (syC b) (decide (a = b)) := by
  refine ⟨fun w => ?_, by kernel_rfl⟩
  cases a
  cases b
  unfold syC
  simp [go_sem]
  repeat' split
  all_goals simp_all
theorem eqRl (a b : Rl) : EqIs Try.prog 87 (rlC a) (rlC b) (decide (a = b)) := by
  refine ⟨fun w => ?_, by kernel_rfl⟩
  cases a
  cases b
  unfold rlC
  simp [go_sem]
  repeat' split
  all_goals simp_all
theorem same_take {α : Type} {A B : List α} (hl : A.length = B.length) {i : Nat} (h : A.take i = B.take i) (hi : A.length ≤ i) : A = B := by
  rwa [List.take_of_length_le hi, List.take_of_length_le (by omega)] at h
theorem same_next {α : Type} {A B : List α} {i : Nat} {x : α} (h : A.take i = B.take i) (hx : A[i]? = some x) (hy : B[i]? = some x) : A.take (i + 1) = B.take (i + 1) := by
  rw [List.take_add_one, List.take_add_one, h, hx, hy]
theorem not_same {α : Type} {A B : List α} {i : Nat} {x y : α} (hx : A[i]? = some x) (hy : B[i]? = some y) (hne : ¬ x = y) : A ≠ B := by
  rintro rfl
  rw [hx] at hy
  exact hne (Option.some.inj hy)
set_option maxRecDepth 100000 in
set_option maxHeartbeats 8000000 in
theorem SameImages_fn {I J : Im} {w : World} {vn vs vy vr un us uy ur : Value} (hI : ImV w I vn vs vy vr) (hJ : ImV w J un us uy ur) : Fn Try.prog 11 [imA I vn vs vy vr, imA J un us uy ur] w (RBf (.bool (decide (I = J))) w) := by
  obtain ⟨nm, ns, ss, ys, rs, en⟩ := I
  obtain ⟨nm2, ns2, ss2, ys2, rs2, en2⟩ := J
  have jn := hJ.needs.len
  have js := hJ.segs.len
  have jy := hJ.syms.len
  have jr := hJ.rels.len
  obtain ⟨qn, dn, rfl⟩ := jn
  obtain ⟨qs, dcs, rfl⟩ := js
  obtain ⟨qy, dy, rfl⟩ := jy
  obtain ⟨qr, dr, rfl⟩ := jr
  have bn := hI.needs.bound; have bs := hI.segs.bound; have by_ := hI.syms.bound; have br := hI.rels.bound; obtain ⟨pn, cn, rfl⟩ := hI.needs.len; obtain ⟨ps, cs, rfl⟩ := hI.segs.len; obtain ⟨py, cy, rfl⟩ := hI.syms.len; obtain ⟨pr, cr, rfl⟩ := hI.rels.len
  dsimp only at *
  refine fn_enter (fn := Try.f11) ⟨Try.func11, by kernel_rfl, by kernel_rfl⟩ (by exact rfl) Try.ntmps11 (by exact rfl) ?_
  have hS := St.start w
  repeat' (first | (first | ((with_reducible apply l_pure tabOk); exact rfl; exact rfl) | ((with_reducible apply l_load); exact rfl; (first | ((with_reducible apply Loads.sc tabOk); exact rfl; (first | exact hS.blkC 0 rfl rfl | exact hS.blkC 1 rfl rfl)) | ((with_reducible apply Loads.sl tabOk); exact rfl; (first | exact hS.blkC 0 rfl rfl | exact hS.blkC 1 rfl rfl))); exact rfl) | ((with_reducible apply l_box hS); exact rfl; exact rfl; exact rfl; intro g w' hS'; clear hS; have hS := hS'; clear hS') | (first | ((with_reducible apply l_yes); exact rfl; exact rfl; exact rfl; exact rfl; (assumption)) | ((with_reducible apply l_no); exact rfl; exact rfl; exact rfl; exact rfl; (first | exact rfl | assumption); exact rfl) | ((with_reducible apply l_partn); exact rfl; exact rfl; exact rfl; all_goals (intro hb hp; try (exfalso; omega))) | ((with_reducible apply l_pick1); exact rfl; (first | exact rfl | assumption); exact rfl; exact rfl) | ((with_reducible apply l_pick2); exact rfl; ((assumption)); exact rfl; exact rfl))) | (first | (with_reducible apply c_seq) | (with_reducible apply c_region) | (with_reducible apply l_nil) | (with_reducible apply q_then) | (with_reducible apply c_skip) | (with_reducible apply c_block) | (with_reducible apply c_ret) | (with_reducible apply q_then_ret)) | (first | ((with_reducible apply c_ift); exact rfl; (exact rfl)) | ((with_reducible apply c_ifn); exact rfl; all_goals (intro hb hp; try (exfalso; omega)))))
  all_goals try dsimp only at hp
  all_goals first
    | (((apply q_ret1); (repeat (first | exact ResL.nil | (apply ResL.tmp; exact rfl)))); refine ⟨congrArg Value.bool (Eq.symm (decide_eq_false (fun e => ?_))), hS.sub (List.nil_sublist _)⟩; injection e with i1 i2 i3 i4 i5 i6; first | exact hp i1 | exact hp i6 | exact hp (by rw [i2]) | exact hp (by rw [i3]) | exact hp (by rw [i4]) | exact hp (by rw [i5]))
    | skip
  rename_i hb1 hp1 hb2 hp2 hb3 hp3 hb4 hp4 hb5 hp5
  dsimp only at *
  subst hp1 hp2
  refine c_count hS 5 [0, 1, 2, 3] rfl (ns.length) (fun i => ns.take i = ns2.take i) 0 rfl (Nat.zero_le _) (by (rfl)) ?_
  rintro i w1 hi hall hS'
  clear hS; have hS := hS'; clear hS'
  by_cases hlt : i < ns.length
  · obtain ⟨x, hx⟩ := lt_get (l := ns) (i := i) (by omega)
    obtain ⟨y, hy⟩ := lt_get (l := ns2) (i := i) (by omega)
    have hrow := map_get (f := stC) hx
    have hrow2 := map_get (f := stC) hy
    obtain ⟨b, off, rfl, hro⟩ := (hI.needs).at_ hlt
    obtain ⟨b2, off2, rfl, hro2⟩ := (hJ.needs).at_ (i := i) (show i < (ns2).length by omega)
    by_cases hxy : x = y
    · subst hxy
      have hd : (!decide (x = x)) = false := by simp
      repeat' (first | (first | ((with_reducible apply l_pure tabOk); exact rfl; exact rfl) | ((with_reducible apply l_load); exact rfl; (((with_reducible apply Loads.sl tabOk); exact rfl; ((exact hS.blkC 1 rfl rfl)))); exact rfl)) | (first | (with_reducible apply c_seq) | (with_reducible apply c_region) | (with_reducible apply l_nil) | (with_reducible apply q_then) | (with_reducible apply c_skip) | (with_reducible apply c_block)) | (((with_reducible apply c_ifd); exact rfl; all_goals (intro hb hp; try (exfalso; omega)))))
      (focus ((with_reducible apply c_drawAll nF _ _ (by kernel_rfl) (by kernel_rfl) hS); (repeat' ((first | ((with_reducible apply d_pure tabOk); exact rfl; exact rfl) | ((with_reducible apply d_load); exact rfl; (intro wd hd; replace hd : St _ _ wd _ := hd; (first | ((with_reducible apply Loads.sc tabOk); exact rfl; ((exact hd.roC0 (by assumption) (by assumption) rfl))) | ((with_reducible apply Loads.sl tabOk); exact rfl; (first | exact hd.blkC 0 rfl rfl | exact hd.blkC 1 rfl rfl)))); exact rfl) | ((with_reducible apply d_ix tabOk); exact rfl; exact rfl; exact rfl; ((exact rfl)); ((omega)); exact rfl)))); all_goals ((with_reducible apply d_nil); intro w' hS'; clear hS; have hS := hS'; clear hS')))
      repeat' (first | (first | ((with_reducible apply l_add); exact rfl; exact rfl; omega; omega; exact rfl) | ((with_reducible apply l_pure tabOk); exact rfl; exact rfl)) | (first | (with_reducible apply c_region) | (with_reducible apply l_nil) | (with_reducible apply q_then) | (with_reducible apply c_skip) | (with_reducible apply q_block)) | (((with_reducible apply c_iff); exact rfl; (assumption))))
      exact q_count (i + 1) (by repeat (first | exact Fr.sub_nil _ | (apply Fr.sub_cons; exact rfl))) (by omega) (same_next hall hx hy) (by omega) hS
    · have hd : (!decide (x = y)) = true := by simpa using hxy
      repeat' (first | (first | ((with_reducible apply l_pure tabOk); exact rfl; exact rfl) | ((with_reducible apply l_load); exact rfl; (((with_reducible apply Loads.sl tabOk); exact rfl; ((exact hS.blkC 1 rfl rfl)))); exact rfl)) | (first | (with_reducible apply c_seq) | (with_reducible apply c_region) | (with_reducible apply l_nil) | (with_reducible apply q_then) | (with_reducible apply c_skip) | (with_reducible apply c_block)) | (((with_reducible apply c_ifd); exact rfl; all_goals (intro hb hp; try (exfalso; omega)))))
      (focus ((with_reducible apply c_drawAll nF _ _ (by kernel_rfl) (by kernel_rfl) hS); (repeat' ((first | ((with_reducible apply d_pure tabOk); exact rfl; exact rfl) | ((with_reducible apply d_load); exact rfl; (intro wd hd; replace hd : St _ _ wd _ := hd; (first | ((with_reducible apply Loads.sc tabOk); exact rfl; ((exact hd.roC0 (by assumption) (by assumption) rfl))) | ((with_reducible apply Loads.sl tabOk); exact rfl; (first | exact hd.blkC 0 rfl rfl | exact hd.blkC 1 rfl rfl)))); exact rfl) | ((with_reducible apply d_ix tabOk); exact rfl; exact rfl; exact rfl; ((exact rfl)); ((omega)); exact rfl)))); all_goals ((with_reducible apply d_nil); intro w' hS'; clear hS; have hS := hS'; clear hS')))
      repeat' (first | (((with_reducible apply l_pure tabOk); exact rfl; exact rfl)) | (first | (with_reducible apply c_seq) | (with_reducible apply c_region) | (with_reducible apply l_nil) | (with_reducible apply q_then) | (with_reducible apply c_ret) | (with_reducible apply q_then_ret) | (with_reducible apply q_block_ret)) | (((with_reducible apply c_ift); exact rfl; (assumption))))
      (apply q_ret1); (repeat (first | exact ResL.nil | (apply ResL.tmp; exact rfl)))
      refine ⟨congrArg Value.bool (Eq.symm (decide_eq_false (fun e => ?_))), hS.sub (List.nil_sublist _)⟩
      injection e with i1 i2 i3 i4 i5 i6
      exact not_same hx hy hxy i2
  have en : ns = ns2 := same_take (by omega) hall (by omega)
  subst en
  clear hall
  repeat' (first | (first | ((with_reducible apply l_pure tabOk); exact rfl; exact rfl) | ((with_reducible apply l_load); exact rfl; (((with_reducible apply Loads.sl tabOk); exact rfl; ((exact hS.blkC 1 rfl rfl)))); exact rfl)) | (first | (with_reducible apply c_seq) | (with_reducible apply c_region) | (with_reducible apply l_nil) | (with_reducible apply q_then) | (with_reducible apply c_block) | (with_reducible apply c_exit) | (with_reducible apply q_then_exit) | (with_reducible apply q_block_exit)) | (((with_reducible apply c_ifd); exact rfl; all_goals (intro hb hp; try (exfalso; omega)))))
  refine c_count hS 6 [0, 1, 2, 3] rfl (ss.length) (fun i => ss.take i = ss2.take i) 0 rfl (Nat.zero_le _) (by (rfl)) ?_
  rintro i w1 hi hall hS'
  clear hS; have hS := hS'; clear hS'
  by_cases hlt : i < ss.length
  · obtain ⟨x, hx⟩ := lt_get (l := ss) (i := i) (by omega)
    obtain ⟨y, hy⟩ := lt_get (l := ss2) (i := i) (by omega)
    have hrow := map_get (f := sgC) hx
    have hrow2 := map_get (f := sgC) hy
    obtain ⟨b, off, rfl, hro⟩ := (hI.segs).at_ hlt
    obtain ⟨b2, off2, rfl, hro2⟩ := (hJ.segs).at_ (i := i) (show i < (ss2).length by omega)
    by_cases hxy : x = y
    · subst hxy
      have hd : (!decide (x = x)) = false := by simp
      repeat' (first | (first | ((with_reducible apply l_pure tabOk); exact rfl; exact rfl) | ((with_reducible apply l_load); exact rfl; (((with_reducible apply Loads.sl tabOk); exact rfl; ((exact hS.blkC 1 rfl rfl)))); exact rfl)) | (first | (with_reducible apply c_seq) | (with_reducible apply c_region) | (with_reducible apply l_nil) | (with_reducible apply q_then) | (with_reducible apply c_skip) | (with_reducible apply c_block)) | (((with_reducible apply c_ifd); exact rfl; all_goals (intro hb hp; try (exfalso; omega)))))
      (focus ((with_reducible apply c_drawAll nF _ _ (by kernel_rfl) (by kernel_rfl) hS); (repeat' (first | (first | ((with_reducible apply d_pure tabOk); exact rfl; exact rfl) | ((with_reducible apply d_load); exact rfl; (intro wd hd; replace hd : St _ _ wd _ := hd; (first | ((with_reducible apply Loads.sl tabOk); exact rfl; (first | exact hd.blkC 0 rfl rfl | exact hd.blkC 1 rfl rfl)) | ((with_reducible apply Loads.st tabOk); exact rfl; ((exact hd.roR (by assumption) (by assumption))); exact rfl))); exact rfl) | ((with_reducible apply d_ix tabOk); exact rfl; exact rfl; exact rfl; ((exact rfl)); ((omega)); exact rfl)) | ((with_reducible apply d_nes); exact rfl; exact rfl; exact eqSg x x; exact rfl))); all_goals ((with_reducible apply d_nil); intro w' hS'; clear hS; have hS := hS'; clear hS')))
      repeat' (first | (first | ((with_reducible apply l_add); exact rfl; exact rfl; omega; omega; exact rfl) | ((with_reducible apply l_pure tabOk); exact rfl; exact rfl)) | (first | (with_reducible apply c_region) | (with_reducible apply l_nil) | (with_reducible apply q_then) | (with_reducible apply c_skip) | (with_reducible apply q_block)) | (((with_reducible apply c_iff); exact rfl; (assumption))))
      exact q_count (i + 1) (by repeat (first | exact Fr.sub_nil _ | (apply Fr.sub_cons; exact rfl))) (by omega) (same_next hall hx hy) (by omega) hS
    · have hd : (!decide (x = y)) = true := by simpa using hxy
      repeat' (first | (first | ((with_reducible apply l_pure tabOk); exact rfl; exact rfl) | ((with_reducible apply l_load); exact rfl; (((with_reducible apply Loads.sl tabOk); exact rfl; ((exact hS.blkC 1 rfl rfl)))); exact rfl)) | (first | (with_reducible apply c_seq) | (with_reducible apply c_region) | (with_reducible apply l_nil) | (with_reducible apply q_then) | (with_reducible apply c_skip) | (with_reducible apply c_block)) | (((with_reducible apply c_ifd); exact rfl; all_goals (intro hb hp; try (exfalso; omega)))))
      (focus ((with_reducible apply c_drawAll nF _ _ (by kernel_rfl) (by kernel_rfl) hS); (repeat' (first | (first | ((with_reducible apply d_pure tabOk); exact rfl; exact rfl) | ((with_reducible apply d_load); exact rfl; (intro wd hd; replace hd : St _ _ wd _ := hd; (first | ((with_reducible apply Loads.sl tabOk); exact rfl; (first | exact hd.blkC 0 rfl rfl | exact hd.blkC 1 rfl rfl)) | ((with_reducible apply Loads.st tabOk); exact rfl; ((exact hd.roR (by assumption) (by assumption))); exact rfl))); exact rfl) | ((with_reducible apply d_ix tabOk); exact rfl; exact rfl; exact rfl; ((exact rfl)); ((omega)); exact rfl)) | ((with_reducible apply d_nes); exact rfl; exact rfl; exact eqSg x y; exact rfl))); all_goals ((with_reducible apply d_nil); intro w' hS'; clear hS; have hS := hS'; clear hS')))
      repeat' (first | (((with_reducible apply l_pure tabOk); exact rfl; exact rfl)) | (first | (with_reducible apply c_seq) | (with_reducible apply c_region) | (with_reducible apply l_nil) | (with_reducible apply q_then) | (with_reducible apply c_ret) | (with_reducible apply q_then_ret) | (with_reducible apply q_block_ret)) | (((with_reducible apply c_ift); exact rfl; (assumption))))
      (apply q_ret1); (repeat (first | exact ResL.nil | (apply ResL.tmp; exact rfl)))
      refine ⟨congrArg Value.bool (Eq.symm (decide_eq_false (fun e => ?_))), hS.sub (List.nil_sublist _)⟩
      injection e with i1 i2 i3 i4 i5 i6
      exact not_same hx hy hxy i3
  have es : ss = ss2 := same_take (by omega) hall (by omega)
  subst es
  clear hall
  repeat' (first | (first | ((with_reducible apply l_pure tabOk); exact rfl; exact rfl) | ((with_reducible apply l_load); exact rfl; (((with_reducible apply Loads.sl tabOk); exact rfl; ((exact hS.blkC 1 rfl rfl)))); exact rfl)) | (first | (with_reducible apply c_seq) | (with_reducible apply c_region) | (with_reducible apply l_nil) | (with_reducible apply q_then) | (with_reducible apply c_block) | (with_reducible apply c_exit) | (with_reducible apply q_then_exit) | (with_reducible apply q_block_exit)) | (((with_reducible apply c_ifd); exact rfl; all_goals (intro hb hp; try (exfalso; omega)))))
  refine c_count hS 7 [0, 1, 2, 3] rfl (ys.length) (fun i => ys.take i = ys2.take i) 0 rfl (Nat.zero_le _) (by (rfl)) ?_
  rintro i w1 hi hall hS'
  clear hS; have hS := hS'; clear hS'
  by_cases hlt : i < ys.length
  · obtain ⟨x, hx⟩ := lt_get (l := ys) (i := i) (by omega)
    obtain ⟨y, hy⟩ := lt_get (l := ys2) (i := i) (by omega)
    have hrow := map_get (f := syC) hx
    have hrow2 := map_get (f := syC) hy
    obtain ⟨b, off, rfl, hro⟩ := (hI.syms).at_ hlt
    obtain ⟨b2, off2, rfl, hro2⟩ := (hJ.syms).at_ (i := i) (show i < (ys2).length by omega)
    by_cases hxy : x = y
    · subst hxy
      have hd : (!decide (x = x)) = false := by simp
      repeat' (first | (first | ((with_reducible apply l_pure tabOk); exact rfl; exact rfl) | ((with_reducible apply l_load); exact rfl; (((with_reducible apply Loads.sl tabOk); exact rfl; ((exact hS.blkC 1 rfl rfl)))); exact rfl)) | (first | (with_reducible apply c_seq) | (with_reducible apply c_region) | (with_reducible apply l_nil) | (with_reducible apply q_then) | (with_reducible apply c_skip) | (with_reducible apply c_block)) | (((with_reducible apply c_ifd); exact rfl; all_goals (intro hb hp; try (exfalso; omega)))))
      (focus ((with_reducible apply c_drawAll nF _ _ (by kernel_rfl) (by kernel_rfl) hS); (repeat' (first | (first | ((with_reducible apply d_pure tabOk); exact rfl; exact rfl) | ((with_reducible apply d_load); exact rfl; (intro wd hd; replace hd : St _ _ wd _ := hd; (first | ((with_reducible apply Loads.sl tabOk); exact rfl; (first | exact hd.blkC 0 rfl rfl | exact hd.blkC 1 rfl rfl)) | ((with_reducible apply Loads.st tabOk); exact rfl; ((exact hd.roR (by assumption) (by assumption))); exact rfl))); exact rfl) | ((with_reducible apply d_ix tabOk); exact rfl; exact rfl; exact rfl; ((exact rfl)); ((omega)); exact rfl)) | ((with_reducible apply d_nes); exact rfl; exact rfl; exact eqSy x x; exact rfl))); all_goals ((with_reducible apply d_nil); intro w' hS'; clear hS; have hS := hS'; clear hS')))
      repeat' (first | (first | ((with_reducible apply l_add); exact rfl; exact rfl; omega; omega; exact rfl) | ((with_reducible apply l_pure tabOk); exact rfl; exact rfl)) | (first | (with_reducible apply c_region) | (with_reducible apply l_nil) | (with_reducible apply q_then) | (with_reducible apply c_skip) | (with_reducible apply q_block)) | (((with_reducible apply c_iff); exact rfl; (assumption))))
      exact q_count (i + 1) (by repeat (first | exact Fr.sub_nil _ | (apply Fr.sub_cons; exact rfl))) (by omega) (same_next hall hx hy) (by omega) hS
    · have hd : (!decide (x = y)) = true := by simpa using hxy
      repeat' (first | (first | ((with_reducible apply l_pure tabOk); exact rfl; exact rfl) | ((with_reducible apply l_load); exact rfl; (((with_reducible apply Loads.sl tabOk); exact rfl; ((exact hS.blkC 1 rfl rfl)))); exact rfl)) | (first | (with_reducible apply c_seq) | (with_reducible apply c_region) | (with_reducible apply l_nil) | (with_reducible apply q_then) | (with_reducible apply c_skip) | (with_reducible apply c_block)) | (((with_reducible apply c_ifd); exact rfl; all_goals (intro hb hp; try (exfalso; omega)))))
      (focus ((with_reducible apply c_drawAll nF _ _ (by kernel_rfl) (by kernel_rfl) hS); (repeat' (first | (first | ((with_reducible apply d_pure tabOk); exact rfl; exact rfl) | ((with_reducible apply d_load); exact rfl; (intro wd hd; replace hd : St _ _ wd _ := hd; (first | ((with_reducible apply Loads.sl tabOk); exact rfl; (first | exact hd.blkC 0 rfl rfl | exact hd.blkC 1 rfl rfl)) | ((with_reducible apply Loads.st tabOk); exact rfl; ((exact hd.roR (by assumption) (by assumption))); exact rfl))); exact rfl) | ((with_reducible apply d_ix tabOk); exact rfl; exact rfl; exact rfl; ((exact rfl)); ((omega)); exact rfl)) | ((with_reducible apply d_nes); exact rfl; exact rfl; exact eqSy x y; exact rfl))); all_goals ((with_reducible apply d_nil); intro w' hS'; clear hS; have hS := hS'; clear hS')))
      repeat' (first | (((with_reducible apply l_pure tabOk); exact rfl; exact rfl)) | (first | (with_reducible apply c_seq) | (with_reducible apply c_region) | (with_reducible apply l_nil) | (with_reducible apply q_then) | (with_reducible apply c_ret) | (with_reducible apply q_then_ret) | (with_reducible apply q_block_ret)) | (((with_reducible apply c_ift); exact rfl; (assumption))))
      (apply q_ret1); (repeat (first | exact ResL.nil | (apply ResL.tmp; exact rfl)))
      refine ⟨congrArg Value.bool (Eq.symm (decide_eq_false (fun e => ?_))), hS.sub (List.nil_sublist _)⟩
      injection e with i1 i2 i3 i4 i5 i6
      exact not_same hx hy hxy i4
  have ey : ys = ys2 := same_take (by omega) hall (by omega)
  subst ey
  clear hall
  repeat' (first | (first | ((with_reducible apply l_pure tabOk); exact rfl; exact rfl) | ((with_reducible apply l_load); exact rfl; (((with_reducible apply Loads.sl tabOk); exact rfl; ((exact hS.blkC 1 rfl rfl)))); exact rfl)) | (first | (with_reducible apply c_seq) | (with_reducible apply c_region) | (with_reducible apply l_nil) | (with_reducible apply q_then) | (with_reducible apply c_block) | (with_reducible apply c_exit) | (with_reducible apply q_then_exit) | (with_reducible apply q_block_exit)) | (((with_reducible apply c_ifd); exact rfl; all_goals (intro hb hp; try (exfalso; omega)))))
  refine c_count hS 8 [0, 1, 2, 3] rfl (rs.length) (fun i => rs.take i = rs2.take i) 0 rfl (Nat.zero_le _) (by (rfl)) ?_
  rintro i w1 hi hall hS'
  clear hS; have hS := hS'; clear hS'
  by_cases hlt : i < rs.length
  · obtain ⟨x, hx⟩ := lt_get (l := rs) (i := i) (by omega)
    obtain ⟨y, hy⟩ := lt_get (l := rs2) (i := i) (by omega)
    have hrow := map_get (f := rlC) hx
    have hrow2 := map_get (f := rlC) hy
    obtain ⟨b, off, rfl, hro⟩ := (hI.rels).at_ hlt
    obtain ⟨b2, off2, rfl, hro2⟩ := (hJ.rels).at_ (i := i) (show i < (rs2).length by omega)
    by_cases hxy : x = y
    · subst hxy
      have hd : (!decide (x = x)) = false := by simp
      repeat' (first | (first | ((with_reducible apply l_pure tabOk); exact rfl; exact rfl) | ((with_reducible apply l_load); exact rfl; (((with_reducible apply Loads.sl tabOk); exact rfl; ((exact hS.blkC 1 rfl rfl)))); exact rfl)) | (first | (with_reducible apply c_seq) | (with_reducible apply c_region) | (with_reducible apply l_nil) | (with_reducible apply q_then) | (with_reducible apply c_skip) | (with_reducible apply c_block)) | (((with_reducible apply c_ifd); exact rfl; all_goals (intro hb hp; try (exfalso; omega)))))
      (focus ((with_reducible apply c_drawAll nF _ _ (by kernel_rfl) (by kernel_rfl) hS); (repeat' (first | (first | ((with_reducible apply d_pure tabOk); exact rfl; exact rfl) | ((with_reducible apply d_load); exact rfl; (intro wd hd; replace hd : St _ _ wd _ := hd; (first | ((with_reducible apply Loads.sl tabOk); exact rfl; (first | exact hd.blkC 0 rfl rfl | exact hd.blkC 1 rfl rfl)) | ((with_reducible apply Loads.st tabOk); exact rfl; ((exact hd.roR (by assumption) (by assumption))); exact rfl))); exact rfl) | ((with_reducible apply d_ix tabOk); exact rfl; exact rfl; exact rfl; ((exact rfl)); ((omega)); exact rfl)) | ((with_reducible apply d_nes); exact rfl; exact rfl; exact eqRl x x; exact rfl))); all_goals ((with_reducible apply d_nil); intro w' hS'; clear hS; have hS := hS'; clear hS')))
      repeat' (first | (first | ((with_reducible apply l_add); exact rfl; exact rfl; omega; omega; exact rfl) | ((with_reducible apply l_pure tabOk); exact rfl; exact rfl)) | (first | (with_reducible apply c_region) | (with_reducible apply l_nil) | (with_reducible apply q_then) | (with_reducible apply c_skip) | (with_reducible apply q_block)) | (((with_reducible apply c_iff); exact rfl; (assumption))))
      exact q_count (i + 1) (by repeat (first | exact Fr.sub_nil _ | (apply Fr.sub_cons; exact rfl))) (by omega) (same_next hall hx hy) (by omega) hS
    · have hd : (!decide (x = y)) = true := by simpa using hxy
      repeat' (first | (first | ((with_reducible apply l_pure tabOk); exact rfl; exact rfl) | ((with_reducible apply l_load); exact rfl; (((with_reducible apply Loads.sl tabOk); exact rfl; ((exact hS.blkC 1 rfl rfl)))); exact rfl)) | (first | (with_reducible apply c_seq) | (with_reducible apply c_region) | (with_reducible apply l_nil) | (with_reducible apply q_then) | (with_reducible apply c_skip) | (with_reducible apply c_block)) | (((with_reducible apply c_ifd); exact rfl; all_goals (intro hb hp; try (exfalso; omega)))))
      (focus ((with_reducible apply c_drawAll nF _ _ (by kernel_rfl) (by kernel_rfl) hS); (repeat' (first | (first | ((with_reducible apply d_pure tabOk); exact rfl; exact rfl) | ((with_reducible apply d_load); exact rfl; (intro wd hd; replace hd : St _ _ wd _ := hd; (first | ((with_reducible apply Loads.sl tabOk); exact rfl; (first | exact hd.blkC 0 rfl rfl | exact hd.blkC 1 rfl rfl)) | ((with_reducible apply Loads.st tabOk); exact rfl; ((exact hd.roR (by assumption) (by assumption))); exact rfl))); exact rfl) | ((with_reducible apply d_ix tabOk); exact rfl; exact rfl; exact rfl; ((exact rfl)); ((omega)); exact rfl)) | ((with_reducible apply d_nes); exact rfl; exact rfl; exact eqRl x y; exact rfl))); all_goals ((with_reducible apply d_nil); intro w' hS'; clear hS; have hS := hS'; clear hS')))
      repeat' (first | (((with_reducible apply l_pure tabOk); exact rfl; exact rfl)) | (first | (with_reducible apply c_seq) | (with_reducible apply c_region) | (with_reducible apply l_nil) | (with_reducible apply q_then) | (with_reducible apply c_ret) | (with_reducible apply q_then_ret) | (with_reducible apply q_block_ret)) | (((with_reducible apply c_ift); exact rfl; (assumption))))
      (apply q_ret1); (repeat (first | exact ResL.nil | (apply ResL.tmp; exact rfl)))
      refine ⟨congrArg Value.bool (Eq.symm (decide_eq_false (fun e => ?_))), hS.sub (List.nil_sublist _)⟩
      injection e with i1 i2 i3 i4 i5 i6
      exact not_same hx hy hxy i5
  have er : rs = rs2 := same_take (by omega) hall (by omega)
  subst er
  repeat' (first | (first | ((with_reducible apply l_pure tabOk); exact rfl; exact rfl) | ((with_reducible apply l_load); exact rfl; (((with_reducible apply Loads.sl tabOk); exact rfl; ((exact hS.blkC 1 rfl rfl)))); exact rfl)) | (first | (with_reducible apply c_seq) | (with_reducible apply c_region) | (with_reducible apply l_nil) | (with_reducible apply q_then) | (with_reducible apply c_exit) | (with_reducible apply c_ret) | (with_reducible apply q_then_exit) | (with_reducible apply q_block_exit)) | (((with_reducible apply c_ifd); exact rfl; all_goals (intro hb hp; try (exfalso; omega)))))
  (apply q_ret1); (repeat (first | exact ResL.nil | (apply ResL.tmp; exact rfl)))
  exact ⟨by simp, hS.sub (List.nil_sublist _)⟩
end Go.Proofs.Ytejnpppejalhfab
/- tiny. -/
namespace Go.Proofs.Ytejnpppejalhfab
open Go.RowKit Go.Sort
theorem Bytes_fn (n : Int) (k : Nat) (w : World) (hk : k ≤ 8) : Fn Try.prog 69 [.int .i64 n, .int .i64 k] w (RBf (.string ⟨(leB n k).toArray⟩) w) :=
  Fn.of_rb ⟨Try.func69, by kernel_rfl, by kernel_rfl⟩ (rb_below (bytes_any n k w hk))
def encI (op a b c imm : Int) : List UInt8 := leB op 1 ++ leB a 1 ++ leB b 1 ++ leB c 1 ++ leB imm 4
set_option maxRecDepth 100000 in
theorem InstrBytes_fn (op a b c imm : Int) (w : World) : Fn Try.prog 96 [.agg [.int .i64 op, .int .i64 a, .int .i64 b, .int .i64 c, .int .i64 imm].toArray] w (RBf (.string ⟨(encI op a b c imm).toArray⟩) w) := by
  refine fn_enter (fn := Try.f96) ⟨Try.func96, by kernel_rfl, by kernel_rfl⟩ (by exact rfl) Try.ntmps96 (by exact rfl) ?_
  have hS := St.start w
  repeat' (first | (first | ((with_reducible apply l_pure tabOk); exact rfl; exact rfl) | ((with_reducible apply l_box hS); exact rfl; exact rfl; exact rfl; intro g w' hS'; clear hS; have hS := hS'; clear hS')) | (first | (with_reducible apply c_seq) | (with_reducible apply c_region) | (with_reducible apply l_nil) | (with_reducible apply q_then)))
  (focus ((with_reducible apply c_drawAll nF _ _ (by kernel_rfl) (by kernel_rfl) hS); (repeat' (first | (first | ((with_reducible apply d_pure tabOk); exact rfl; exact rfl) | ((with_reducible apply d_load); exact rfl; (intro wd hd; replace hd : St _ _ wd _ := hd; (((with_reducible apply Loads.sc tabOk); exact rfl; ((exact hd.blkC 0 rfl rfl))))); exact rfl)) | ((with_reducible apply d_call); exact rfl; exact rfl; (intro wd hd; replace hd : St _ _ wd _ := hd; exact Bytes_fn _ 1 _ (by decide)); exact rfl) | ((with_reducible apply d_call); exact rfl; exact rfl; (intro wd hd; replace hd : St _ _ wd _ := hd; exact Bytes_fn _ 4 _ (by decide)); exact rfl) | ((with_reducible apply d_runs); intro a ha; exact r_cat (by exact rfl) (by exact rfl) (by simp only [List.length_append, leB_len]; omega) a ha _; exact rfl))); all_goals ((with_reducible apply d_nil); intro w' hS'; clear hS; have hS := hS'; clear hS')))
  repeat' ((first | (with_reducible apply l_nil) | (with_reducible apply q_then) | (with_reducible apply c_ret)))
  (apply q_ret1); (repeat (first | exact ResL.nil | (apply ResL.tmp; exact rfl)))
  exact ⟨rfl, hS.sub (List.nil_sublist _)⟩
def tinyD : List UInt8 := encI 1 0 0 0 7 ++ encI 16 0 0 0 6
def tinyS : Sg := ⟨0, 1, tinyD, false, true⟩
def tinyI : Im := ⟨[116], [], [tinyS], [], [], 0⟩
theorem tiny_fn (w : World) : Fn Try.prog 45 [] w (fun v w' => ∃ g, v = imA tinyI (.slice none 0 0) (.slice (some ⟨g, 0, none⟩) 1 1) (.slice none 0 0) (.slice none 0 0) ∧ St nF w w' [.row 82 5 (.slice (some ⟨g, 0, none⟩) 1 1) [sgC tinyS]]) := by
  refine fn_enter (fn := Try.f45) ⟨Try.func45, by kernel_rfl, by kernel_rfl⟩ (by exact rfl) Try.ntmps45 (by exact rfl) ?_
  have hS := St.start w
  repeat' (first | (first | ((with_reducible apply l_build tabOk); exact rfl; exact rfl; (first | exact (rfl : _ = some [_, _, _, _, _]) | exact (rfl : _ = some [_, _, _, _, _, _])); exact rfl) | ((with_reducible apply l_alloc hS tabOk); exact rfl; exact rfl; exact rfl; intro g w' hS'; clear hS; have hS := hS'; clear hS') | (((with_reducible apply l_store hS tabOk (i := 1)); exact rfl; exact rfl; exact rfl; exact rfl; exact rfl; exact rfl; exact rfl; exact rfl; ((exact (rfl : _ = [_, _, _, _, _, _]))); intro w' hS'; simp only [List.set] at hS'; clear hS; have hS := hS'; clear hS')) | ((with_reducible apply l_bslice hS tabOk); exact rfl; exact rfl; exact rfl; exact rfl; exact rfl; exact rfl; exact rfl; intro g w' hS'; clear hS; have hS := hS'; clear hS')) | (first | (with_reducible apply c_seq) | (with_reducible apply c_region) | (with_reducible apply l_nil) | (with_reducible apply q_then) | (with_reducible apply c_ret)) | ((with_reducible apply l_call); exact rfl; exact rfl; exact InstrBytes_fn 1 0 0 0 7 _; exact rfl; rintro _ w' ⟨rfl, hS'⟩; replace hS := hS.transA hS'; simp only [appA] at hS; clear hS') | ((with_reducible apply l_call); exact rfl; exact rfl; exact InstrBytes_fn 16 0 0 0 6 _; exact rfl; rintro _ w' ⟨rfl, hS'⟩; replace hS := hS.transA hS'; simp only [appA] at hS; clear hS') | ((with_reducible apply l_cat); exact rfl; exact rfl; decide; exact rfl))
  rename Nat => g
  refine q_ret (vs := [imA tinyI (.slice none 0 0) (.slice (some ⟨g, 0, none⟩) 1 1) (.slice none 0 0) (.slice none 0 0)]) rfl ?_ rfl ⟨g, rfl, hS.reorder [0] (by decide) rfl⟩
  refine ResL.cell rfl ?_ ResL.nil
  unfold imA
  ((with_reducible apply Loads.st tabOk); exact rfl; ((exact hS.blkR 1 rfl)); exact rfl)
theorem check_tiny : checkIm tinyI = 0 := by
  have h1 : nmsB tinyI = true := by decide +kernel
  have h2 : cntB tinyI = true := by decide +kernel
  have h3 : sgsB tinyI = true := by decide +kernel
  have h4 : aptB tinyI = true := by
    refine pB_true ⟨fun j a b h1 h2 => ?_, ?_, ?_⟩
    · cases j <;> simp [tinyI] at h2
    · rintro ⟨i, j, x, _, h, _⟩; simp [tinyI] at h
    · rintro ⟨i, j, x, _, h, _⟩; simp [tinyI] at h
  have h5 : plcB tinyI = true := by
    refine pB_true ⟨?_, ?_, ?_, ?_, ?_⟩
    · intro s hs; simp [tinyI] at hs
    · intro k r h; simp [tinyI] at h
    · intro k q r h; simp [tinyI] at h
    · exact ⟨tinyS, by decide +kernel, rfl⟩
    · decide
  unfold checkIm
  simp [h1, h2, h3, h4, h5]
theorem check_zero : checkIm Im0 = 4 := by
  have h1 : nmsB Im0 = false := by decide +kernel
  unfold checkIm
  rw [if_pos h1]
theorem tiny_from : imFrom (imB tinyI) = some tinyI := by
  have h : rdIm (imB tinyI) = some (tinyI, []) := by decide +kernel
  rw [imFrom_at h, if_pos check_tiny]
theorem tiny_B : ImB tinyI := ⟨by decide, by decide, by decide, by decide⟩
theorem tiny_D : ImD tinyI := by intro s hs; simp [tinyI] at hs; subst hs; decide
theorem zero_B : ImB Im0 := ⟨by decide, by decide, by decide, by decide⟩
theorem zero_D : ImD Im0 := by intro s hs; simp [Im0] at hs
theorem zero_V (w : World) : ImV w Im0 (.slice none 0 0) (.slice none 0 0) (.slice none 0 0) (.slice none 0 0) := ⟨Sl.nil0 w 1, Sl.nil0 w 5, Sl.nil0 w 2, Sl.nil0 w 3⟩
end Go.Proofs.Ytejnpppejalhfab
/- imageBegun. -/
namespace Go.Proofs.Ytejnpppejalhfab
open Go.RowKit Go.Sort
theorem tiny_V {w0 w : World} {F : Nat → Prop} {Γ : List Asr} {e g : Nat} (i : Nat) (hS : St F w0 w Γ) (hi : Γ[i]? = some (.row e 5 (.slice (some ⟨g, 0, none⟩) 1 1) [sgC tinyS])) : ImV w tinyI (.slice none 0 0) (.slice (some ⟨g, 0, none⟩) 1 1) (.slice none 0 0) (.slice none 0 0) := ⟨Sl.nil0 w 1, hS.rowSl i hi, Sl.nil0 w 2, Sl.nil0 w 3⟩
theorem wt_fn {w : World} {vs : Value} (h : ImV w tinyI (.slice none 0 0) vs (.slice none 0 0) (.slice none 0 0)) : Fn Try.prog 9 [imA tinyI (.slice none 0 0) vs (.slice none 0 0) (.slice none 0 0)] w (RBf (.tuple #[.string ⟨(imB tinyI).toArray⟩, .int .i64 0]) w) := by
  have := Write_fn h tiny_B tiny_D
  rwa [if_pos check_tiny, check_tiny] at this
theorem ct_fn {w : World} {vs : Value} (h : ImV w tinyI (.slice none 0 0) vs (.slice none 0 0) (.slice none 0 0)) : Fn Try.prog 32 [imA tinyI (.slice none 0 0) vs (.slice none 0 0) (.slice none 0 0)] w (RBf (.int .i64 0) w) := by
  have := Check_fn h tiny_B tiny_D
  rwa [check_tiny] at this
theorem cz_fn (w : World) : Fn Try.prog 32 [.agg zI.toArray] w (RBf (.int .i64 4) w) := by
  have := Check_fn (zero_V w) zero_B zero_D
  rwa [check_zero] at this
theorem rt_fn (w : World) : Fn Try.prog 10 [.string ⟨(imB tinyI).toArray⟩] w (fun v w' => ∃ pn cn ps cs py cy pr cr, v = .tuple #[imA tinyI (.slice pn 0 cn) (.slice ps 1 cs) (.slice py 0 cy) (.slice pr 0 cr), .int .i64 0] ∧
    St nF w w' [.row 9 1 (.slice pn 0 cn) (tinyI.needs.map stC), .row 82 5 (.slice ps 1 cs) (tinyI.segs.map sgC), .row 85 2 (.slice py 0 cy) (tinyI.syms.map syC), .row 87 3 (.slice pr 0 cr) (tinyI.rels.map rlC)]) :=
  (Read_fn (imB tinyI) w (by decide +kernel)).mono fun v w' h => by
    rcases h with ⟨I, pn, cn, ps, cs, py, cy, pr, cr, h1, rfl, h2⟩ | ⟨h1, _⟩
    · rw [tiny_from] at h1
      cases h1
      exact ⟨pn, cn, ps, cs, py, cy, pr, cr, rfl, h2⟩
    · rw [tiny_from] at h1
      cases h1
set_option maxRecDepth 100000 in
set_option maxHeartbeats 8000000 in
theorem imageBegun_fn (w : World) : Fn Try.prog 12 [] w (RBf (.bool true) w) := by
  refine fn_enter (fn := Try.f12) ⟨Try.func12, by kernel_rfl, by kernel_rfl⟩ (by exact rfl) Try.ntmps12 (by exact rfl) ?_
  have hS := St.start w
  repeat' (first | (first | ((with_reducible apply l_pure tabOk); exact rfl; exact rfl) | ((with_reducible apply l_alloc hS tabOk); exact rfl; exact rfl; exact rfl; intro g w' hS'; clear hS; have hS := hS'; clear hS') | (((with_reducible apply l_store hS tabOk (i := 0)); exact rfl; exact rfl; exact rfl; exact rfl; exact rfl; exact rfl; exact rfl; exact rfl; ((exact (rfl : _ = [_, _, _, _, _, _]))); intro w' hS'; simp only [List.set] at hS'; clear hS; have hS := hS'; clear hS'))) | (first | (with_reducible apply c_seq) | (with_reducible apply c_region) | (with_reducible apply l_nil) | (with_reducible apply q_then)) | ((with_reducible apply l_call); exact rfl; exact rfl; exact tiny_fn _; exact rfl; rintro _ w' ⟨gt, rfl, hS'⟩; replace hS := hS.transA hS'; simp only [appA] at hS; clear hS') | ((with_reducible apply l_call); exact rfl; exact rfl; exact wt_fn (tiny_V 0 hS rfl); exact rfl; rintro _ w' ⟨rfl, hS'⟩; replace hS := hS.transA hS'; simp only [appA] at hS; clear hS') | ((with_reducible apply l_call); exact rfl; exact rfl; exact rt_fn _; exact rfl; rintro _ w' ⟨pn, cn, ps, cs, py, cy, pr, cr, rfl, hS'⟩; replace hS := hS.transA hS'; simp only [appA] at hS; clear hS'))
  refine c_till (fun _ => True) 20 22 rfl hS (by kernel_rfl) ?_
  clear hS
  intro w2 hS
  (((with_reducible apply w_call (i := 0) (by kernel_rfl)); exact rfl; exact rfl; exact rfl; exact tiny_fn _; exact rfl))
  rintro _ w' ⟨g1, rfl, hS'⟩
  replace hS := hS.transA hS'; simp only [appA] at hS; clear hS'
  (((with_reducible apply w_call (i := 1) (by kernel_rfl)); exact rfl; exact rfl; exact rfl; exact ct_fn (tiny_V 0 hS rfl); exact rfl))
  rintro _ w' ⟨rfl, hS'⟩
  replace hS := hS.transA hS'; simp only [appA] at hS; clear hS'
  (((with_reducible apply w_one (i := 2) (by kernel_rfl)); exact rfl; ((exact Gets.pure tabOk (by exact rfl))); exact rfl)); (((with_reducible apply w_one (i := 3) (by kernel_rfl)); exact rfl; ((exact Gets.pure tabOk (by exact rfl))); exact rfl)); (((with_reducible apply w_oneG (i := 4) (by kernel_rfl)); exact rfl; exact rfl; exact rfl; exact rfl; exact rfl; exact rfl; ((exact Gets.build tabOk (by exact rfl) (by exact rfl) (by (exact (rfl : _ = some [_, _, _, _, _, _]))))); exact rfl))
  (((with_reducible apply w_callG (i := 5) (by kernel_rfl)); exact rfl; exact rfl; exact rfl; exact rfl; exact rfl; exact rfl; exact rfl; exact rfl; exact cz_fn _; exact rfl))
  rintro _ w' ⟨rfl, hS'⟩
  replace hS := hS.transA hS'; simp only [appA] at hS; clear hS'
  (((with_reducible apply w_oneG (i := 6) (by kernel_rfl)); exact rfl; exact rfl; exact rfl; exact rfl; exact rfl; exact rfl; ((exact Gets.pure tabOk (by exact rfl))); exact rfl)); (((with_reducible apply w_one (i := 7) (by kernel_rfl)); exact rfl; ((exact Gets.pick1 (by exact rfl) (by (exact rfl)) (by exact rfl))); exact rfl)); (((with_reducible apply w_one (i := 8) (by kernel_rfl)); exact rfl; ((exact Gets.pure tabOk (by exact rfl))); exact rfl)); (((with_reducible apply w_oneG (i := 9) (by kernel_rfl)); exact rfl; exact rfl; exact rfl; exact rfl; exact rfl; exact rfl; ((exact Gets.pure tabOk (by exact rfl))); exact rfl)); (((with_reducible apply w_oneG (i := 10) (by kernel_rfl)); exact rfl; exact rfl; exact rfl; exact rfl; exact rfl; exact rfl; ((exact Gets.pure tabOk (by exact rfl))); exact rfl)); (((with_reducible apply w_one (i := 11) (by kernel_rfl)); exact rfl; ((exact Gets.pick1 (by exact rfl) (by (exact rfl)) (by exact rfl))); exact rfl)); (((with_reducible apply w_one (i := 12) (by kernel_rfl)); exact rfl; ((exact Gets.pure tabOk (by exact rfl))); exact rfl)); (((with_reducible apply w_oneG (i := 13) (by kernel_rfl)); exact rfl; exact rfl; exact rfl; exact rfl; exact rfl; exact rfl; ((exact Gets.pure tabOk (by exact rfl))); exact rfl)); (((with_reducible apply w_oneG (i := 14) (by kernel_rfl)); exact rfl; exact rfl; exact rfl; exact rfl; exact rfl; exact rfl; ((exact Gets.pure tabOk (by exact rfl))); exact rfl)); (((with_reducible apply w_one (i := 15) (by kernel_rfl)); exact rfl; ((exact Gets.pick1 (by exact rfl) (by (exact rfl)) (by exact rfl))); exact rfl)); (((with_reducible apply w_one (i := 16) (by kernel_rfl)); exact rfl; ((exact Gets.pure tabOk (by exact rfl))); exact rfl))
  refine w_loadcall (i := 17) (j := 18) (u := imA tinyI (.slice pn 0 cn) (.slice ps 1 cs) (.slice py 0 cy) (.slice pr 0 cr)) (by kernel_rfl) rfl rfl rfl rfl rfl rfl rfl rfl ?_ ?_ rfl rfl (tiny_fn _) rfl rfl rfl rfl rfl (by kernel_rfl) (by kernel_rfl) (by kernel_rfl) (fun _ => rfl) (fun _ => rfl) (fun _ => rfl) ?_
  · unfold imA
    ((with_reducible apply Loads.st tabOk); exact rfl; ((exact hS.blkR 1 rfl)); exact rfl)
  · rintro _ w' ⟨g2, rfl, hS'⟩
    replace hS := hS.transA hS'; simp only [appA] at hS; clear hS'
    unfold imA
    ((with_reducible apply Loads.st tabOk); exact rfl; ((exact hS.blkR 2 rfl)); exact rfl)
  rintro _ w' ⟨g2, rfl, hS'⟩
  replace hS := hS.transA hS'; simp only [appA] at hS; clear hS'
  (((with_reducible apply w_callG (i := 19) (by kernel_rfl)); exact rfl; exact rfl; exact rfl; exact rfl; exact rfl; exact rfl; exact rfl; exact rfl; exact SameImages_fn (I := tinyI) (J := tinyI) ⟨hS.rowSl 3 rfl, hS.rowSl 4 rfl, hS.rowSl 5 rfl, hS.rowSl 6 rfl⟩ (tiny_V 0 hS rfl); exact rfl))
  rintro _ w' ⟨rfl, hS'⟩
  replace hS := hS.transA hS'; simp only [appA] at hS; clear hS'
  (((with_reducible apply w_one (i := 20) (by kernel_rfl)); exact rfl; ((exact Gets.pick1 (by exact rfl) (by (exact rfl)) (by exact rfl))); exact rfl)); (((with_reducible apply w_one (i := 21) (by kernel_rfl)); exact rfl; ((exact Gets.pure tabOk (by exact rfl))); exact rfl))
  refine t_done (by kernel_rfl) ?_
  repeat' ((first | (with_reducible apply q_then) | (with_reducible apply c_ret)))
  (apply q_ret1); (repeat (first | exact ResL.nil | (apply ResL.tmp; exact rfl)))
  exact ⟨by simp, hS.sub (List.nil_sublist _)⟩
end Go.Proofs.Ytejnpppejalhfab
/- What image.Read comes to, case by case. -/
namespace Go.Proofs.Ytejnpppejalhfab
open Go.RowKit Go.Sort
def RowsOf (I : Im) (pn : Option Addr) (cn : Nat) (ps : Option Addr) (cs : Nat) (py : Option Addr) (cy : Nat) (pr : Option Addr) (cr : Nat) : List Asr := [.row 9 1 (.slice pn I.needs.length cn) (I.needs.map stC), .row 82 5 (.slice ps I.segs.length cs) (I.segs.map sgC), .row 85 2 (.slice py I.syms.length cy) (I.syms.map syC), .row 87 3 (.slice pr I.rels.length cr) (I.rels.map rlC)]
theorem Read_some {s : Bs8} {I : Im} (w : World) (hs : s.length ≤ 1048576) (h : imFrom s = some I) : Fn Try.prog 10 [.string ⟨s.toArray⟩] w (fun v w' => ∃ pn cn ps cs py cy pr cr, v = .tuple #[imA I (.slice pn I.needs.length cn) (.slice ps I.segs.length cs) (.slice py I.syms.length cy) (.slice pr I.rels.length cr), .int .i64 0] ∧ St nF w w' (RowsOf I pn cn ps cs py cy pr cr)) :=
  (Read_fn s w hs).mono fun v w' hp => by
    rcases hp with ⟨J, pn, cn, ps, cs, py, cy, pr, cr, h1, rfl, h2⟩ | ⟨h1, _⟩
    · rw [h] at h1
      cases h1
      exact ⟨pn, cn, ps, cs, py, cy, pr, cr, rfl, h2⟩
    · rw [h] at h1
      cases h1
theorem Read_none {s : Bs8} (w : World) (hs : s.length ≤ 1048576) (h : imFrom s = none) : Fn Try.prog 10 [.string ⟨s.toArray⟩] w (RBf (.tuple #[.agg zI.toArray, .int .i64 1]) w) :=
  (Read_fn s w hs).mono fun v w' hp => by
    rcases hp with ⟨J, pn, cn, ps, cs, py, cy, pr, cr, h1, _⟩ | ⟨_, rfl, h2⟩
    · rw [h] at h1
      cases h1
    · exact ⟨rfl, h2⟩
theorem rdIm_bounds {s r : Bs8} {I : Im} (h : rdIm s = some (I, r)) : I.needs.length ≤ s.length ∧ I.segs.length ≤ s.length ∧ I.syms.length ≤ s.length ∧ I.rels.length ≤ s.length ∧ ∀ x ∈ I.segs, x.data.length ≤ s.length := by
  unfold rdIm at h
  obtain ⟨a, k1, h⟩ := Option.bind_eq_some_iff.1 h
  obtain ⟨b, k2, h⟩ := Option.bind_eq_some_iff.1 h
  obtain ⟨c, k3, h⟩ := Option.bind_eq_some_iff.1 h
  obtain ⟨d, k4, h⟩ := Option.bind_eq_some_iff.1 h
  obtain ⟨e, k5, h⟩ := Option.bind_eq_some_iff.1 h
  obtain ⟨f, k6, h⟩ := Option.bind_eq_some_iff.1 h
  simp only [Option.some.injEq, Prod.mk.injEq] at h
  obtain ⟨rfl, _⟩ := h
  have l1 := rdText_len k1
  have l2 := rdList_len eats_text k2
  have l3 := rdList_len eats_sg k3
  have l4 := rdList_len eats_sy k4
  have l5 := rdList_len eats_rl k5
  refine ⟨by show b.1.length ≤ _; omega, by show c.1.length ≤ _; omega, by show d.1.length ≤ _; omega, by show e.1.length ≤ _; omega, fun x hx => ?_⟩
  have := rdList_data k3 x hx
  omega
end Go.Proofs.Ytejnpppejalhfab
/- PUT OF GET is the bytes, GET OF PUT the number: plain facts. -/
namespace Go.Proofs.Ytejnpppejalhfab
open Go.RowKit

theorem toInt8 (n : Int) : ((UInt8.ofNat (n % 256).toNat).toNat : Int) = n % 256 := by
  rw [UInt8.toNat_ofNat']; omega
theorem pow8 (k : Nat) : ((256 ^ k : Nat) : Int) = 2 ^ (8 * k) := by
  rw [Int.pow_mul, Int.natCast_pow]; rfl
theorem mod_step (n P : Int) (hP : 0 < P) : n % P + n / P % 256 * P = n % (P * 256) := by
  have h1 := Int.emod_add_mul_ediv n P
  have h2 := Int.emod_add_mul_ediv (n / P) 256
  have r0 := Int.emod_nonneg n (show P ≠ 0 by omega)
  have r1 := Int.emod_lt_of_pos n hP
  have s0 := Int.emod_nonneg (n / P) (show (256 : Int) ≠ 0 by decide)
  have s1 := Int.emod_lt_of_pos (n / P) (show (0 : Int) < 256 by decide)
  have e : n = (n % P + n / P % 256 * P) + P * 256 * (n / P / 256) := by
    have : P * (n / P) = P * (n / P % 256) + P * (256 * (n / P / 256)) := by rw [← Int.mul_add, h2]
    rw [Int.mul_comm (n / P % 256) P, Int.mul_assoc]; omega
  have b0 : 0 ≤ n / P % 256 * P := Int.mul_nonneg s0 (by omega)
  have b1 : n / P % 256 * P ≤ 255 * P := Int.mul_le_mul_of_nonneg_right (by omega) (by omega)
  generalize n % P = r at *
  generalize n / P % 256 * P = t at *
  generalize n / P / 256 = q at *
  rw [e, Int.add_mul_emod_self_left, Int.emod_eq_of_lt (by omega) (by omega)]
theorem numB_leB (n : Int) (k : Nat) : (numB (leB n k) : Int) = n % 2 ^ (8 * k) := by
  induction k with
  | zero => simp [leB, numB]
  | succ k ih =>
    rw [leB, numB_snoc, leB_length, Int.natCast_add, Int.natCast_mul, ih, toInt8, pow8, pow256, mod_step _ _ (Int.pow_pos (by decide))]
theorem get_put (n : Int) (h1 : -9223372036854775808 ≤ n) (h2 : n ≤ 9223372036854775807) : wrap64 (numB (leB n 8)) = n := by
  rw [numB_leB]; unfold wrap64; simp; omega
theorem leB_at (n : Int) (k j : Nat) (h : j < (leB n k).length) : (leB n k)[j] = byteAt n j := by
  induction k with
  | zero => simp [leB] at h
  | succ k ih =>
    simp only [leB, List.getElem_append]
    split
    · exact ih _
    · rw [leB_length] at *
      have : j = k := by omega
      subst this
      simp [byteAt]
theorem byteAt_cons (b : UInt8) (m : Nat) (j : Nat) : byteAt ((b.toNat + 256 * m : Nat) : Int) (j + 1) = byteAt m j := by
  have hb := b.toNat_lt
  unfold byteAt
  rw [pow256, Int.mul_comm, ← Int.ediv_ediv_of_nonneg (by decide)]
  have : ((b.toNat + 256 * m : Nat) : Int) / 256 = m := by omega
  rw [this]
theorem byteAt_numB (l : List UInt8) (j : Nat) (h : j < l.length) : byteAt (numB l) j = l[j] := by
  induction l generalizing j with
  | nil => simp at h
  | cons b l ih =>
    cases j with
    | zero =>
      have hb := b.toNat_lt
      unfold byteAt numB
      apply UInt8.toNat_inj.1
      rw [UInt8.toNat_ofNat']
      simp
      omega
    | succ j => rw [numB, byteAt_cons]; exact ih j (by simpa using h)
theorem byteAt_wrap (n : Int) (j : Nat) (h : j < 8) : byteAt (wrap64 n) j = byteAt n j := by
  unfold byteAt wrap64
  have h : j = 0 ∨ j = 1 ∨ j = 2 ∨ j = 3 ∨ j = 4 ∨ j = 5 ∨ j = 6 ∨ j = 7 := by omega
  congr 2
  rcases h with rfl | rfl | rfl | rfl | rfl | rfl | rfl | rfl <;> simp <;> omega
theorem put_get (l : List UInt8) (h8 : l.length ≤ 8) : leB (wrap64 (numB l)) l.length = l := by
  apply List.ext_getElem
  · rw [leB_length]
  · intro j h1 h2
    rw [leB_at, byteAt_wrap _ _ (by omega), byteAt_numB l j h2]
end Go.Proofs.Ytejnpppejalhfab
/- Arguments that are slices, opened: what their elements' cells are. -/
namespace Go.Proofs.Ytejnpppejalhfab
open Go.ChangeShapes Go.WideShapes Go.ChangeAt Go.RowKit Go.Deep

/-- these rows are what these things' cells are -/
def RowsAre {α : Type} (R : α → List Value → Prop) (xs : List α) (rows : List (List Value)) : Prop := rows.length = xs.length ∧ ∀ (i : Nat) (x : α) (r : List Value), xs[i]? = some x → rows[i]? = some r → R x r

section
variable {H : Type} {enc : TypeId × Value → H} {P : Program} {w : World} {base : Nat} {spare : Nat → Bool} {held : Bool}
theorem open_sl {α : Type} [Inhabited α] {t e : TypeId} {fuel sz : Nat} {cs : List Value} {y : DataW H × List MemPlace} (ht : P.underlying t = some (.slice e)) (hsz : P.cellsOf e = sz) (hpos : 0 < sz) (R : α → List Value → Prop) (hR1 : ∀ x r, R x r → r.all (·.oneCell') = true)
    (hR : ∀ (n : Nat) (cs' : List Value) (z : DataW H × List MemPlace), cs'.length = sz → DataW.trod enc P w base spare held n e cs' = some z → ∃ x : α, R x cs') (h : DataW.trod enc P w base spare held fuel t cs = some y) :
    ∃ v xs rows, cs = [v] ∧ Sl nF w sz v rows ∧ RowsAre R xs rows ∧ v.oneCell' = true := by
  rcases open_slice ht h with ⟨rfl, _⟩ | ⟨a, len, cap, m, n, D, Pl, rfl, hb, hl, hm, hmm, _, hx⟩
  · exact ⟨_, [], [], rfl, Or.inl ⟨_, _, rfl, rfl⟩, ⟨rfl, fun i x r h => by simp at h⟩, rfl⟩
  · have hlm : len ≤ m := by rw [hmm]; split <;> omega
    rw [hsz] at hx
    have key : ∀ i, ∃ r x, i < len → w.cells? base (a.add (i * sz)) sz = some r ∧ R x r ∧ r.length = sz := fun i => by
      by_cases hi : i < len
      · obtain ⟨cs', h1, h2⟩ := hx i (by omega)
        have hl := (World.cells?_some h1).2.1
        obtain ⟨x, hr⟩ := hR n cs' _ hl h2
        exact ⟨cs', x, fun _ => ⟨h1, hr, hl⟩⟩
      · exact ⟨[], default, fun h => (hi h).elim⟩
    obtain ⟨r, hr⟩ := Classical.axiomOfChoice key
    obtain ⟨x, hr⟩ := Classical.axiomOfChoice hr
    refine ⟨_, (List.range len).map x, (List.range len).map r, rfl, ?_, ⟨by simp, fun i y r' h1 h2 => ?_⟩, rfl⟩
    · by_cases h0 : len = 0
      · subst h0; exact Or.inl ⟨_, _, rfl, rfl⟩
      · obtain ⟨b, off, spot⟩ := a
        have hcell : ∀ i, i < len → ∀ j, j < sz → w.cell? (((⟨b, off, spot⟩ : Addr).add (i * sz)).add j) = (r i)[j]? := fun i hi j hj => (World.cells?_some (hr i hi).1).2.2 j hj
        have h00 := hcell 0 (by omega) 0 hpos
        obtain ⟨u0, hu0⟩ : ∃ u, (r 0)[0]? = some u := ⟨(r 0)[0]'(by rw [(hr 0 (by omega)).2.2]; exact hpos), by simp⟩
        rw [hu0] at h00
        simp only [Nat.zero_mul, Addr.add, if_true] at h00
        have hspot : spot = none := by
          cases spot with
          | none => rfl
          | some s => simp [World.cell?] at h00; split at h00 <;> simp at h00
        subst hspot
        have hbl := World.block_lt_of_cell? w _ h00
        refine Or.inr ⟨b, off, cap, by simp, by simpa using hl, hm, ⟨hbl, id, fun r' hr' => ?_, fun r' hr' => ?_, fun k r' hk j u hj => ?_⟩⟩
        · obtain ⟨i, hi, rfl⟩ := List.mem_map.1 hr'
          exact (hr i (by simpa using hi)).2.2
        · obtain ⟨i, hi, rfl⟩ := List.mem_map.1 hr'
          exact hR1 _ _ (hr i (by simpa using hi)).2.1
        · have hk' : k < len := by have := lt_of_getE hk; simpa using this
          simp [hk'] at hk
          subst hk
          have hjl : j < sz := by have := lt_of_getE hj; rwa [(hr k hk').2.2] at this
          have := hcell k hk' j hjl
          rw [hj] at this
          rwa [Addr.add_mid, Addr.add_mid] at this
    · have hi : i < len := by have := lt_of_getE h1; simpa using this
      simp [hi] at h1 h2
      subst h1 h2
      exact (hr i hi).2.1
end
end Go.Proofs.Ytejnpppejalhfab
/- Arguments opened, with the bounds of the second form. -/
namespace Go.Proofs.Ytejnpppejalhfab
open Go.ChangeShapes Go.WideShapes Go.ChangeAt Go.RowKit Go.Deep

section bulk
variable {H : Type}
theorem bk_one (d : DataW H) : 1 ≤ Rows.uptoBulk d := by
  cases d with
  | lit l => cases l <;> simp [Rows.uptoBulk]
  | nil => simp [Rows.uptoBulk]
  | ptr d => simp [Rows.uptoBulk]
  | slice elems spare => simp [Rows.uptoBulk]
  | agg parts => simp [Rows.uptoBulk]
  | iface t d => simp [Rows.uptoBulk]
  | map entries => simp [Rows.uptoBulk]
  | held h => simp [Rows.uptoBulk]
theorem bk_mem {d : DataW H} {l : List (DataW H)} (h : d ∈ l) : Rows.uptoBulk d ≤ Rows.uptoBulkAll l := by
  induction l with
  | nil => cases h
  | cons x r ih =>
    simp only [Rows.uptoBulkAll]
    rcases List.mem_cons.1 h with rfl | e
    · omega
    · have := ih e; omega
theorem bk_len (l : List (DataW H)) : l.length ≤ Rows.uptoBulkAll l := by
  induction l with
  | nil => simp [Rows.uptoBulkAll]
  | cons x r ih => have := bk_one x; simp only [Rows.uptoBulkAll, List.length_cons]; omega
theorem bk_slice (l s : List (DataW H)) : Rows.uptoBulkAll l + 1 ≤ Rows.uptoBulk (.slice l s) := by
  simp only [Rows.uptoBulk]; omega
theorem bk_agg {d : DataW H} {l : List (DataW H)} (h : d ∈ l) : Rows.uptoBulk d + 1 ≤ Rows.uptoBulk (.agg l) := by
  have := bk_mem h
  simp only [Rows.uptoBulk]; omega
theorem bk_str (b : List UInt8) : Rows.uptoBulk (DataW.lit (H := H) (.string b)) = b.length + 1 := by simp [Rows.uptoBulk]
theorem bk_bound {l : List (DataW H)} (hk : Rows.uptoSmall H l = true) : Rows.uptoBulkAll l ≤ 1048576 := of_decide_eq_true hk
end bulk
section
variable {H : Type} {enc : TypeId × Value → H} {P : Program} {w : World} {base : Nat} {spare : Nat → Bool} {held : Bool}
/-- a slice, opened; of each element, and of what it holds: sz, bounded by the bulk -/
theorem open_slB {α : Type} [Inhabited α] {t e : TypeId} {fuel sz : Nat} {cs : List Value} {y : DataW H × List MemPlace} (ht : P.underlying t = some (.slice e)) (hsz : P.cellsOf e = sz) (hpos : 0 < sz) (R : α → List Value → Prop) (B : α → Nat) (hR1 : ∀ x r, R x r → r.all (·.oneCell') = true)
    (hR : ∀ (n : Nat) (cs' : List Value) (z : DataW H × List MemPlace), cs'.length = sz → DataW.trod enc P w base spare held n e cs' = some z → ∃ x : α, R x cs' ∧ B x ≤ Rows.uptoBulk z.1) (h : DataW.trod enc P w base spare held fuel t cs = some y) :
    ∃ v xs rows, cs = [v] ∧ Sl nF w sz v rows ∧ RowsAre R xs rows ∧ v.oneCell' = true ∧ xs.length + 1 ≤ Rows.uptoBulk y.1 ∧ ∀ x ∈ xs, B x + 1 ≤ Rows.uptoBulk y.1 := by
  rcases open_slice ht h with ⟨rfl, rfl⟩ | ⟨a, len, cap, m, n, D, Pl, rfl, hb, hl, hm, hmm, rfl, hx⟩
  · exact ⟨_, [], [], rfl, Or.inl ⟨_, _, rfl, rfl⟩, ⟨rfl, fun i x r h => by simp at h⟩, rfl, by simp [Rows.uptoBulk], by simp⟩
  · have hlm : len ≤ m := by rw [hmm]; split <;> omega
    rw [hsz] at hx
    have key : ∀ i, ∃ r x, i < len → w.cells? base (a.add (i * sz)) sz = some r ∧ R x r ∧ r.length = sz ∧ B x ≤ Rows.uptoBulk (D i) := fun i => by
      by_cases hi : i < len
      · obtain ⟨cs', h1, h2⟩ := hx i (by omega)
        have hl := (World.cells?_some h1).2.1
        obtain ⟨x, hr, hb⟩ := hR n cs' _ hl h2
        exact ⟨cs', x, fun _ => ⟨h1, hr, hl, hb⟩⟩
      · exact ⟨[], default, fun h => (hi h).elim⟩
    obtain ⟨r, hr⟩ := Classical.axiomOfChoice key
    obtain ⟨x, hr⟩ := Classical.axiomOfChoice hr
    refine ⟨_, (List.range len).map x, (List.range len).map r, rfl, ?_, ⟨by simp, fun i y r' h1 h2 => ?_⟩, rfl, ?_, fun y hy => ?_⟩
    · by_cases h0 : len = 0
      · subst h0; exact Or.inl ⟨_, _, rfl, rfl⟩
      · obtain ⟨b, off, spot⟩ := a
        have hcell : ∀ i, i < len → ∀ j, j < sz → w.cell? (((⟨b, off, spot⟩ : Addr).add (i * sz)).add j) = (r i)[j]? := fun i hi j hj => (World.cells?_some (hr i hi).1).2.2 j hj
        have h00 := hcell 0 (by omega) 0 hpos
        obtain ⟨u0, hu0⟩ : ∃ u, (r 0)[0]? = some u := ⟨(r 0)[0]'(by rw [(hr 0 (by omega)).2.2.1]; exact hpos), by simp⟩
        rw [hu0] at h00
        simp only [Nat.zero_mul, Addr.add, if_true] at h00
        have hspot : spot = none := by
          cases spot with
          | none => rfl
          | some s => simp [World.cell?] at h00; split at h00 <;> simp at h00
        subst hspot
        have hbl := World.block_lt_of_cell? w _ h00
        refine Or.inr ⟨b, off, cap, by simp, by simpa using hl, hm, ⟨hbl, id, fun r' hr' => ?_, fun r' hr' => ?_, fun k r' hk j u hj => ?_⟩⟩
        · obtain ⟨i, hi, rfl⟩ := List.mem_map.1 hr'
          exact (hr i (by simpa using hi)).2.2.1
        · obtain ⟨i, hi, rfl⟩ := List.mem_map.1 hr'
          exact hR1 _ _ (hr i (by simpa using hi)).2.1
        · have hk' : k < len := by have := lt_of_getE hk; simpa using this
          simp [hk'] at hk
          subst hk
          have hjl : j < sz := by have := lt_of_getE hj; rwa [(hr k hk').2.2.1] at this
          have := hcell k hk' j hjl
          rw [hj] at this
          rwa [Addr.add_mid, Addr.add_mid] at this
    · have hi : i < len := by have := lt_of_getE h1; simpa using this
      simp [hi] at h1 h2
      subst h1 h2
      exact (hr i hi).2.1
    · have h1 := bk_slice ((List.range len).map D) ((List.range (m - len)).map fun j => D (len + j))
      have h2 := bk_len ((List.range len).map D)
      simp only [List.length_map, List.length_range] at h2 ⊢
      omega
    · obtain ⟨i, hi, rfl⟩ := List.mem_map.1 hy
      have h1 := bk_slice ((List.range len).map D) ((List.range (m - len)).map fun j => D (len + j))
      have h2 : Rows.uptoBulk (D i) ≤ Rows.uptoBulkAll ((List.range len).map D) := bk_mem (List.mem_map.2 ⟨i, hi, rfl⟩)
      have h3 := (hr i (by simpa using hi)).2.2.2
      show B (x i) + 1 ≤ Rows.uptoBulk (DataW.slice ((List.range len).map D) ((List.range (m - len)).map fun j => D (len + j)))
      omega
/-- rows that are equal to cells -/
theorem rows_map {α : Type} {f : α → List Value} {xs : List α} {rows : List (List Value)} (h : RowsAre (fun a r => r = f a) xs rows) : rows = xs.map f := by
  obtain ⟨h1, h2⟩ := h
  apply List.ext_getElem?
  intro i
  rw [List.getElem?_map]
  by_cases hi : i < xs.length
  · rw [List.getElem?_eq_getElem hi, List.getElem?_eq_getElem (by omega)]
    simp only [Option.map_some, Option.some.injEq]
    exact h2 i _ _ (List.getElem?_eq_getElem hi) (List.getElem?_eq_getElem (by omega))
  · rw [List.getElem?_eq_none (by omega), List.getElem?_eq_none (by omega)]; rfl
end
section
variable {H : Type} {enc : TypeId × Value → H} {W : World} {base b0 : Nat} {sp : Nat → Bool} {held : Bool}
theorem uI {n : Nat} {t : TypeId} {c : Value} {o : Option (DataW H × List MemPlace)} (ht : (Try.prog).underlying t = some (.int .i64)) (h : DataW.trod enc Try.prog W base sp held n t [c] = o) (ho : o.isSome = true) : ∃ k : Int, c = .int .i64 k ∧ (Lit.int .i64 k).wf = true := by
  obtain ⟨x, hx⟩ := Option.isSome_iff_exists.1 ho
  obtain ⟨k, hk, _, hw⟩ := DataW.trod_int ht (h.trans hx)
  simp only [List.cons.injEq, and_true] at hk
  exact ⟨k, hk, hw⟩
theorem uB {n : Nat} {t : TypeId} {c : Value} {o : Option (DataW H × List MemPlace)} (ht : (Try.prog).underlying t = some .bool) (h : DataW.trod enc Try.prog W base sp held n t [c] = o) (ho : o.isSome = true) : ∃ b : Bool, c = .bool b := by
  obtain ⟨x, hx⟩ := Option.isSome_iff_exists.1 ho
  obtain ⟨b, hb, _⟩ := DataW.trod_bool ht (h.trans hx)
  simp only [List.cons.injEq, and_true] at hb
  exact ⟨b, hb⟩
theorem uS {n : Nat} {t : TypeId} {c : Value} {x : DataW H × List MemPlace} (ht : (Try.prog).underlying t = some .string) (h : DataW.trod enc Try.prog W base sp held n t [c] = some x) : ∃ l : List UInt8, c = .string ⟨l.toArray⟩ ∧ l.length ≤ maxLen ∧ l.length + 1 ≤ Rows.uptoBulk x.1 := by
  obtain ⟨s, hs, rfl, hl⟩ := DataW.trod_string ht h
  simp only [List.cons.injEq, and_true] at hs
  obtain ⟨⟨l⟩⟩ := s
  exact ⟨l, hs, by simpa [ByteArray.size] using hl, by rw [bk_str]; exact Nat.le_refl _⟩
theorem gE {α : Type} {l : List α} {i : Nat} (h : i < l.length) : ∃ x, l[i]? = some x := ⟨l[i], by simp⟩
theorem uc_int : (Try.prog).cellsOf 3 = 1 := by kernel_rfl
theorem uc_bool : (Try.prog).cellsOf 4 = 1 := by kernel_rfl
theorem uc_string : (Try.prog).cellsOf 9 = 1 := by kernel_rfl
/-- part i of a struct's reading -/
theorem bk_part {xs : List (DataW H × List MemPlace)} {i : Nat} {x : DataW H × List MemPlace} (h : xs[i]? = some x) : Rows.uptoBulk x.1 + 1 ≤ Rows.uptoBulk (DataW.agg (xs.map (·.1))) := bk_agg (List.mem_map.2 ⟨x, List.mem_of_getElem? h, rfl⟩)
end
end Go.Proofs.Ytejnpppejalhfab
