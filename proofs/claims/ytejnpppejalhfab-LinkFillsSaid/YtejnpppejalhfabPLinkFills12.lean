/- Texts that the proof stands on, one behind the other: Im21, Lk13, LawLkF, Op1, OpA, OpK. -/
import Derived.Deep.Slices
import Derived.OpenShut
import Derived.WideShapes
import Derived.ProofKit
import Derived.Test.YtejnpppejalhfabPLinkFills11
/- tiny. -/
namespace Go.Proofs.Ytejnpppejalhfab
open Go.RowKit Go.Sort
theorem Bytes_fn (n : Int) (k : Nat) (w : World) (hk : k ≤ 8) : Fn Try.prog 69 [.int .i64 n, .int .i64 k] w (RBf (.string ⟨(leB n k).toArray⟩) w) :=
  Fn.of_rb ⟨Try.func69, by kernel_rfl, by kernel_rfl⟩ (rb_below (bytes_any n k w hk))
def encI (op a b c imm : Int) : List UInt8 := leB op 1 ++ leB a 1 ++ leB b 1 ++ leB c 1 ++ leB imm 4
set_option maxRecDepth 100000 in
theorem InstrBytes_fn (op a b c imm : Int) (w : World) : Fn Try.prog 96 [.agg [.int .i64 op, .int .i64 a, .int .i64 b, .int .i64 c, .int .i64 imm].toArray] w (RBf (.string ⟨(encI op a b c imm).toArray⟩) w) := by
  refine fn_enter (fn := Try.f96) ⟨Try.func96, by kernel_rfl, by kernel_rfl⟩ (by exact rfl) Try.ntmps96 (by exact rfl) ?_
  have hS := St.start w
  repeat' (first | (first | ((with_reducible apply l_pure tabOk); exact rfl; exact rfl) | ((with_reducible apply l_box hS); exact rfl; exact rfl; exact rfl; intro g w' hS'; clear hS; have hS := hS'; clear hS')) | (first | (with_reducible apply c_seq) | (with_reducible apply c_region) | (with_reducible apply l_nil) | (with_reducible apply q_then)))
  (focus ((with_reducible apply c_drawAll nF _ _ (by kernel_rfl) (by kernel_rfl) hS); (repeat' (first | (first | ((with_reducible apply d_pure tabOk); exact rfl; exact rfl) | ((with_reducible apply d_load); exact rfl; (intro wd hd; replace hd : St _ _ wd _ := hd; (((with_reducible apply Loads.sc tabOk); exact rfl; ((exact hd.blkC 0 rfl rfl))))); exact rfl)) | ((with_reducible apply d_call); exact rfl; exact rfl; (intro wd hd; replace hd : St _ _ wd _ := hd; exact Bytes_fn _ 1 _ (by decide)); exact rfl) | ((with_reducible apply d_call); exact rfl; exact rfl; (intro wd hd; replace hd : St _ _ wd _ := hd; exact Bytes_fn _ 4 _ (by decide)); exact rfl) | ((with_reducible apply d_runs); intro a ha; exact r_cat (by exact rfl) (by exact rfl) (by simp only [List.length_append, leB_len]; omega) a ha _; exact rfl))); all_goals ((with_reducible apply d_nil); intro w' hS'; clear hS; have hS := hS'; clear hS')))
  repeat' ((first | (with_reducible apply l_nil) | (with_reducible apply q_then) | (with_reducible apply c_ret)))
  (apply q_ret1); (repeat (first | exact ResL.nil | (apply ResL.tmp; exact rfl)))
  exact ⟨rfl, hS.sub (List.nil_sublist _)⟩
def tinyD : List UInt8 := encI 1 0 0 0 7 ++ encI 16 0 0 0 6
def tinyS : Sg := ⟨0, 1, tinyD, false, true⟩
def tinyI : Im := ⟨[116], [], [tinyS], [], [], 0⟩
theorem tiny_fn (w : World) : Fn Try.prog 45 [] w (fun v w' => ∃ g, v = imA tinyI (.slice none 0 0) (.slice (some ⟨g, 0, none⟩) 1 1) (.slice none 0 0) (.slice none 0 0) ∧ St nF w w' [.row 82 5 (.slice (some ⟨g, 0, none⟩) 1 1) [sgC tinyS]]) := by
  refine fn_enter (fn := Try.f45) ⟨Try.func45, by kernel_rfl, by kernel_rfl⟩ (by exact rfl) Try.ntmps45 (by exact rfl) ?_
  have hS := St.start w
  repeat' (first | (first | ((with_reducible apply l_build tabOk); exact rfl; exact rfl; (first | exact (rfl : _ = some [_, _, _, _, _]) | exact (rfl : _ = some [_, _, _, _, _, _])); exact rfl) | ((with_reducible apply l_alloc hS tabOk); exact rfl; exact rfl; exact rfl; intro g w' hS'; clear hS; have hS := hS'; clear hS') | (((with_reducible apply l_store hS tabOk (i := 1)); exact rfl; exact rfl; exact rfl; exact rfl; exact rfl; exact rfl; exact rfl; exact rfl; ((exact (rfl : _ = [_, _, _, _, _, _]))); intro w' hS'; simp only [List.set] at hS'; clear hS; have hS := hS'; clear hS')) | ((with_reducible apply l_bslice hS tabOk); exact rfl; exact rfl; exact rfl; exact rfl; exact rfl; exact rfl; exact rfl; intro g w' hS'; clear hS; have hS := hS'; clear hS')) | (first | (with_reducible apply c_seq) | (with_reducible apply c_region) | (with_reducible apply l_nil) | (with_reducible apply q_then) | (with_reducible apply c_ret)) | ((with_reducible apply l_call); exact rfl; exact rfl; exact InstrBytes_fn 1 0 0 0 7 _; exact rfl; rintro _ w' ⟨rfl, hS'⟩; replace hS := hS.transA hS'; simp only [appA] at hS; clear hS') | ((with_reducible apply l_call); exact rfl; exact rfl; exact InstrBytes_fn 16 0 0 0 6 _; exact rfl; rintro _ w' ⟨rfl, hS'⟩; replace hS := hS.transA hS'; simp only [appA] at hS; clear hS') | ((with_reducible apply l_cat); exact rfl; exact rfl; decide; exact rfl))
  rename Nat => g
  refine q_ret (vs := [imA tinyI (.slice none 0 0) (.slice (some ⟨g, 0, none⟩) 1 1) (.slice none 0 0) (.slice none 0 0)]) rfl ?_ rfl ⟨g, rfl, hS.reorder [0] (by decide) rfl⟩
  refine ResL.cell rfl ?_ ResL.nil
  unfold imA
  ((with_reducible apply Loads.st tabOk); exact rfl; ((exact hS.blkR 1 rfl)); exact rfl)
theorem check_tiny : checkIm tinyI = 0 := by
  have h1 : nmsB tinyI = true := by decide +kernel
  have h2 : cntB tinyI = true := by decide +kernel
  have h3 : sgsB tinyI = true := by decide +kernel
  have h4 : aptB tinyI = true := by
    refine pB_true ⟨fun j a b h1 h2 => ?_, ?_, ?_⟩
    · cases j <;> simp [tinyI] at h2
    · rintro ⟨i, j, x, _, h, _⟩; simp [tinyI] at h
    · rintro ⟨i, j, x, _, h, _⟩; simp [tinyI] at h
  have h5 : plcB tinyI = true := by
    refine pB_true ⟨?_, ?_, ?_, ?_, ?_⟩
    · intro s hs; simp [tinyI] at hs
    · intro k r h; simp [tinyI] at h
    · intro k q r h; simp [tinyI] at h
    · exact ⟨tinyS, by decide +kernel, rfl⟩
    · decide
  unfold checkIm
  simp [h1, h2, h3, h4, h5]
theorem check_zero : checkIm Im0 = 4 := by
  have h1 : nmsB Im0 = false := by decide +kernel
  unfold checkIm
  rw [if_pos h1]
theorem tiny_from : imFrom (imB tinyI) = some tinyI := by
  have h : rdIm (imB tinyI) = some (tinyI, []) := by decide +kernel
  rw [imFrom_at h, if_pos check_tiny]
theorem tiny_B : ImB tinyI := ⟨by decide, by decide, by decide, by decide⟩
theorem tiny_D : ImD tinyI := by intro s hs; simp [tinyI] at hs; subst hs; decide
theorem zero_B : ImB Im0 := ⟨by decide, by decide, by decide, by decide⟩
theorem zero_D : ImD Im0 := by intro s hs; simp [Im0] at hs
theorem zero_V (w : World) : ImV w Im0 (.slice none 0 0) (.slice none 0 0) (.slice none 0 0) (.slice none 0 0) := ⟨Sl.nil0 w 1, Sl.nil0 w 5, Sl.nil0 w 2, Sl.nil0 w 3⟩
end Go.Proofs.Ytejnpppejalhfab
/- linkBegun. -/
namespace Go.Proofs.Ytejnpppejalhfab
open Go.RowKit Go.Sort
def tinySh : Sh := ⟨1, tinyD, []⟩
def tinyAr : Ar := ⟨1, 1, 2, false⟩
theorem find_tiny (vn vs vy vr : Value) (a : Int) : ([⟨tinyI, vn, vs, vy, vr, a⟩] : List Ob).find? (fun o => !decide (checkIm o.im = 0)) = none := by
  rw [List.find?_eq_none]
  intro x hx
  simp only [List.mem_singleton] at hx
  subst hx
  rw [check_tiny]
  decide
theorem all_tiny (vn vs vy vr : Value) (a : Int) : allP [⟨tinyI, vn, vs, vy, vr, a⟩] 8 0 (plStep ([], 1) ⟨tinyI, vn, vs, vy, vr, a⟩) = some ([⟨tinyI, vn, vs, vy, vr, 16⟩], 2) := rfl
theorem link_tiny (vn vs vy vr : Value) (a : Int) : linkC ⟨tinyI, vn, vs, vy, vr, a⟩ [] = 0 := by
  unfold linkC
  rw [if_neg (by decide), find_tiny]
  dsimp only
  rw [if_pos (by simp), all_tiny]
  rfl
theorem sh_tiny : shO [(tinyI, 16)] tinyI 1 = [tinySh] := by decide +kernel
theorem ar_tiny : ([rawA 1 tinyS]).foldl joinStep [] = [tinyAr] := by decide +kernel
theorem lt_fn {w : World} {vs : Value} (h : ImV w tinyI (.slice none 0 0) vs (.slice none 0 0) (.slice none 0 0)) : Fn Try.prog 13 [imA tinyI (.slice none 0 0) vs (.slice none 0 0) (.slice none 0 0), .slice none 0 0] w (fun v w' => ∃ va vh u, v = .tuple #[.agg [va, vh, .int .i64 16].toArray, .int .i64 0] ∧ St nF w w' [.row 131 4 va [arC tinyAr], .row 49 3 vh [shC tinySh u], .row 124 2 u []]) := by
  have H := Link_fn (M := ⟨tinyI, .slice none 0 0, vs, .slice none 0 0, .slice none 0 0, 0⟩) (Lb := []) (vl := .slice none 0 0) h (Sl.nil0 w 6) (by simp) (by
    intro o ho
    simp only [List.mem_singleton] at ho
    subst ho
    exact ⟨tiny_B, tiny_D⟩)
  refine H.mono fun v w' hv => ?_
  rcases hv with ⟨h1, -, -⟩ | ⟨-, s, va, vh, N, h1, h2, rfl, h4⟩
  · exact absurd (link_tiny _ _ _ _ _) h1
  · rw [all_tiny] at h1
    cases h1
    have e1 : N.map (·.1) = [tinySh] := h2.trans (Eq.trans (by rfl) ((List.append_nil _).trans sh_tiny))
    have e2 : linkAr [⟨tinyI, .slice none 0 0, vs, .slice none 0 0, .slice none 0 0, 16⟩] = [tinyAr] := Eq.trans (by rfl) ar_tiny
    match N, e1 with
    | [(S, u)], e1 =>
      simp only [List.map_cons, List.map_nil, List.cons.injEq, and_true] at e1
      subst e1
      refine ⟨va, vh, u, rfl, ?_⟩
      have h5 := h4
      rw [show linkAr ([⟨tinyI, .slice none 0 0, vs, .slice none 0 0, .slice none 0 0, 16⟩], (2 : Int)).1 = [tinyAr] from e2] at h5
      exact h5
theorem right_tiny : rightS tinySh = true := by decide +kernel
theorem fill_tiny : fillS tinySh = tinyD := by decide +kernel
theorem chk_tiny : checkLk [tinyAr] [tinySh] 16 = 0 := by decide +kernel
theorem ft_fn {w : World} {u : Value} (hu : ShV w tinySh u) : Fn Try.prog 18 [.agg (shC tinySh u).toArray] w (RBf (.tuple #[.string ⟨tinyD.toArray⟩, .int .i64 0]) w) := by
  have := Fill_fn hu
  rwa [if_pos right_tiny, if_pos right_tiny, fill_tiny] at this
theorem fz_fn (w : World) : Fn Try.prog 18 [.agg [.int .i64 0, .string ⟨#[]⟩, .slice none 0 0].toArray] w (RBf (.tuple #[.string ⟨[].toArray⟩, .int .i64 1]) w) := Fill_fn (S := ⟨0, [], []⟩) (Sl.nil0 w 2)
theorem lc_fn {w : World} {va vh u : Value} (h1 : Sl nF w 4 va [arC tinyAr]) (h2 : Sl nF w 3 vh [shC tinySh u]) (h3 : Sl nF w 2 u []) : Fn Try.prog 21 [.agg [va, vh, .int .i64 16].toArray] w (RBf (.int .i64 0) w) := by
  have := LkCheck_fn (A := [tinyAr]) (Lp := [(tinySh, u)]) (va := va) (vs := vh) (en := 16) h1 ⟨h2, fun p hp => by simp only [List.mem_singleton] at hp; subst hp; exact h3⟩ (by omega) (by omega)
  rwa [show shs [(tinySh, u)] = [tinySh] from rfl, chk_tiny] at this
set_option maxRecDepth 100000 in
set_option maxHeartbeats 8000000 in
theorem linkBegun_fn (w : World) : Fn Try.prog 16 [] w (RBf (.bool true) w) := by
  refine fn_enter (fn := Try.f16) ⟨Try.func16, by kernel_rfl, by kernel_rfl⟩ (by exact rfl) Try.ntmps16 (by exact rfl) ?_
  have hS := St.start w
  repeat' (first | (((with_reducible apply l_pure tabOk); exact rfl; exact rfl)) | (first | (with_reducible apply c_seq) | (with_reducible apply c_region) | (with_reducible apply l_nil) | (with_reducible apply q_then)) | ((with_reducible apply l_call); exact rfl; exact rfl; exact tiny_fn _; exact rfl; rintro _ w' ⟨gt, rfl, hS'⟩; replace hS := hS.transA hS'; simp only [appA] at hS; clear hS'))
  ((with_reducible apply l_call); exact rfl; exact rfl; exact lt_fn ⟨Sl.nil0 _ 1, hS.rowSl 0 rfl, Sl.nil0 _ 2, Sl.nil0 _ 3⟩; exact rfl; rintro _ w' ⟨va, vh, u, rfl, hS'⟩)
  obtain ⟨pa, ca, rfl⟩ : ∃ p c, va = .slice p 1 c := hS'.rowSlice 0 rfl
  obtain ⟨ph, ch, rfl⟩ : ∃ p c, vh = .slice p 1 c := hS'.rowSlice 1 rfl
  obtain ⟨pu, cu, rfl⟩ : ∃ p c, u = .slice p 0 c := hS'.rowSlice 2 rfl
  obtain ⟨gh, rfl⟩ := hS'.rowSome 1 rfl (by simp)
  replace hS := hS.transA hS'; simp only [appA] at hS; clear hS'
  have hrow : ([shC tinySh (.slice pu 0 cu)])[0]? = some [.int .i64 1, .string ⟨tinyD.toArray⟩, .slice pu 0 cu] := rfl
  have hseg : ([sgC tinyS])[0]? = some [.int .i64 0, .int .i64 1, .string ⟨tinyD.toArray⟩, .bool false, .bool true] := rfl
  repeat' (first | (first | ((with_reducible apply l_pure tabOk); exact rfl; exact rfl) | ((with_reducible apply l_load); exact rfl; (first | ((with_reducible apply Loads.sl tabOk); exact rfl; ((exact hS.blkC 0 rfl rfl))) | ((with_reducible apply Loads.st tabOk); exact rfl; ((exact hS.rowR 2 rfl (by assumption))); exact rfl)); exact rfl) | ((with_reducible apply l_ix tabOk); exact rfl; exact rfl; exact rfl; ((exact rfl)); ((simp only [List.length_map, List.length_cons, List.length_nil, List.length_append]; omega)); exact rfl) | ((with_reducible apply l_build tabOk); exact rfl; exact rfl; ((exact (rfl : _ = some [_, _, _]))); exact rfl) | ((with_reducible apply l_alloc hS tabOk); exact rfl; exact rfl; exact rfl; intro g w' hS'; clear hS; have hS := hS'; clear hS') | (((with_reducible apply l_store hS tabOk (i := 0)); exact rfl; exact rfl; exact rfl; exact rfl; exact rfl; exact rfl; exact rfl; exact rfl; ((exact (rfl : _ = [_, _, _]))); intro w' hS'; simp only [List.set] at hS'; clear hS; have hS := hS'; clear hS')) | (first | ((with_reducible apply l_yes); exact rfl; exact rfl; exact rfl; exact rfl; (exact rfl)) | ((with_reducible apply l_pick1); exact rfl; ((exact rfl)); exact rfl; exact rfl) | ((with_reducible apply l_pick2); exact rfl; ((exact rfl)); exact rfl; exact rfl))) | (first | (with_reducible apply c_seq) | (with_reducible apply c_region) | (with_reducible apply l_nil) | (with_reducible apply q_then) | (with_reducible apply c_skip)) | (((with_reducible apply c_iff); exact rfl; (exact rfl))) | ((with_reducible apply l_call); exact rfl; exact rfl; exact ft_fn (hS.rowSl 3 rfl); exact rfl; rintro _ w' ⟨rfl, hS'⟩; replace hS := hS.transA hS'; simp only [appA] at hS; clear hS') | ((with_reducible apply l_call); exact rfl; exact rfl; exact fz_fn _; exact rfl; rintro _ w' ⟨rfl, hS'⟩; replace hS := hS.transA hS'; simp only [appA] at hS; clear hS'))
  ((with_reducible apply l_call); exact rfl; exact rfl; exact tiny_fn _; exact rfl; rintro _ w' ⟨gt2, rfl, hS'⟩; replace hS := hS.transA hS'; simp only [appA] at hS; clear hS')
  repeat' (first | (first | ((with_reducible apply l_pure tabOk); exact rfl; exact rfl) | ((with_reducible apply l_load); exact rfl; (first | ((with_reducible apply Loads.sc tabOk); exact rfl; (first | exact hS.blkC 1 rfl rfl | exact hS.rowCj 0 rfl (by assumption) rfl)) | ((with_reducible apply Loads.st tabOk); exact rfl; ((exact hS.blkR 1 rfl)); exact rfl)); exact rfl) | ((with_reducible apply l_ix tabOk); exact rfl; exact rfl; exact rfl; ((exact rfl)); ((simp only [List.length_map, List.length_cons, List.length_nil, List.length_append]; omega)); exact rfl) | (first | ((with_reducible apply l_yes); exact rfl; exact rfl; exact rfl; exact rfl; (exact rfl)) | ((with_reducible apply l_pick1); exact rfl; ((exact rfl)); exact rfl; exact rfl))) | (first | (with_reducible apply l_nil) | (with_reducible apply q_then) | (with_reducible apply c_ret)) | ((with_reducible apply l_call); exact rfl; exact rfl; exact lc_fn (hS.rowSl 2 rfl) (hS.rowSl 3 rfl) (hS.rowSl 4 rfl); exact rfl; rintro _ w' ⟨rfl, hS'⟩; replace hS := hS.transA hS'; simp only [appA] at hS; clear hS'))
  (apply q_ret1); (repeat (first | exact ResL.nil | (apply ResL.tmp; exact rfl)))
  exact ⟨rfl, hS.sub (List.nil_sublist _)⟩
end Go.Proofs.Ytejnpppejalhfab
/- The law LinkFills: its walk. -/
namespace Go.Proofs.Ytejnpppejalhfab
open Go.RowKit Go.Sort
set_option maxRecDepth 100000 in
set_option maxHeartbeats 4000000 in
theorem LinkFills_fn {A : List Ar} {Lp : List (Sh × Value)} {w : World} {va vs u : Value} {en : Int} {S : Sh} (hA : Sl nF w 4 va (A.map arC)) (hL : ShsV w Lp vs) (hen : -9223372036854775808 ≤ en) (hen2 : en ≤ 9223372036854775807) (hu : ShV w S u) (ho : u.oneCell' = true) : Fn Try.prog 5 [lkA va vs en, shA S u] w (RBf (.bool true) w) := by
  have hsf := fun w (h : ShV w S u) => SheetFine_fn h
  have hfi := fun w (h : ShV w S u) => Fill_fn h
  have hfd := fun w (h : ShV w S u) => Filled_fn h
  have hck := fun w (h1 : Sl nF w 4 va (A.map arC)) (h2 : ShsV w Lp vs) => LkCheck_fn h1 h2 hen hen2
  have hcl := fun w (h1 : Sl nF w 4 va (A.map arC)) (h2 : ShsV w Lp vs) => CheckLinked_fn h1 h2 hen hen2
  have q1 : decide (checkLk A (shs Lp) en = checkLk A (shs Lp) en) = true := by simp
  cases hR : rightS S with
  | true =>
    simp only [hR, if_true] at hsf hfi
    have q2 : decide (fillS S = fillS S) = true := by simp
    refine fn_enter (fn := Try.f5) ⟨Try.func5, by kernel_rfl, by kernel_rfl⟩ (by exact rfl) Try.ntmps5 (by exact rfl) ?_
    have hS := St.start w
    repeat' (first | (first | ((with_reducible apply l_pure tabOk); exact rfl; exact rfl) | ((with_reducible apply l_load); exact rfl; (((with_reducible apply Loads.st tabOk); exact rfl; ((exact hS.blkR 0 rfl)); exact rfl)); exact rfl) | ((with_reducible apply l_box hS); exact rfl; exact rfl; exact rfl; intro g w' hS'; clear hS; have hS := hS'; clear hS')) | (first | (with_reducible apply c_seq) | (with_reducible apply c_region) | (with_reducible apply l_nil) | (with_reducible apply q_then)) | (((with_reducible apply c_ift); exact rfl; (exact rfl))) | ((with_reducible apply l_call); exact rfl; exact rfl; exact hfi _ (hu.now hS); exact rfl; rintro _ w' ⟨rfl, hS'⟩; replace hS := hS.transA hS'; simp only [appA] at hS; clear hS') | ((with_reducible apply l_call); exact rfl; exact rfl; exact hsf _ (hu.now hS); exact rfl; rintro _ w' ⟨rfl, hS'⟩; replace hS := hS.transA hS'; simp only [appA] at hS; clear hS') | ((with_reducible apply l_call); exact rfl; exact rfl; exact hfd _ (hu.now hS) hR; exact rfl; rintro _ w' ⟨rfl, hS'⟩; replace hS := hS.transA hS'; simp only [appA] at hS; clear hS'))
    (focus ((with_reducible apply c_drawAll _ _ _ (by kernel_rfl) (by kernel_rfl) hS); (repeat' (first | (first | ((with_reducible apply d_pure tabOk); exact rfl; exact rfl) | ((with_reducible apply d_load); exact rfl; (intro wd hd; replace hd : St _ _ wd _ := hd; (((with_reducible apply Loads.st tabOk); exact rfl; ((exact hd.blkR 1 rfl)); exact rfl))); exact rfl) | (first | ((with_reducible apply d_yes); exact rfl; exact rfl; exact rfl; exact rfl; first | exact rfl | assumption) | ((with_reducible apply d_pick1); exact rfl; (first | exact rfl | assumption); exact rfl; exact rfl))) | ((with_reducible apply d_call); exact rfl; exact rfl; (intro wd hd; replace hd : St _ _ wd _ := hd; exact hck _ (hA.now hd) (hL.now hd)); exact rfl) | ((with_reducible apply d_call); exact rfl; exact rfl; (intro wd hd; replace hd : St _ _ wd _ := hd; exact hcl _ (hA.now hd) (hL.now hd)); exact rfl) | ((with_reducible apply d_call); exact rfl; exact rfl; (intro wd hd; replace hd : St _ _ wd _ := hd; exact linkBegun_fn _); exact rfl))); all_goals ((with_reducible apply d_nil); intro w' hS'; clear hS; have hS := hS'; clear hS')))
    repeat' ((first | (with_reducible apply l_nil) | (with_reducible apply q_then) | (with_reducible apply c_ret)))
    (apply q_ret1); (repeat (first | exact ResL.nil | (apply ResL.tmp; exact rfl)))
    exact ⟨(by (rfl)), hS.sub (List.nil_sublist _)⟩
  | false =>
    simp only [hR, Bool.false_eq_true, if_false] at hsf hfi
    refine fn_enter (fn := Try.f5) ⟨Try.func5, by kernel_rfl, by kernel_rfl⟩ (by exact rfl) Try.ntmps5 (by exact rfl) ?_
    have hS := St.start w
    repeat' (first | (first | ((with_reducible apply l_pure tabOk); exact rfl; exact rfl) | ((with_reducible apply l_load); exact rfl; (((with_reducible apply Loads.st tabOk); exact rfl; ((exact hS.blkR 0 rfl)); exact rfl)); exact rfl) | ((with_reducible apply l_box hS); exact rfl; exact rfl; exact rfl; intro g w' hS'; clear hS; have hS := hS'; clear hS')) | (first | (with_reducible apply c_seq) | (with_reducible apply c_region) | (with_reducible apply l_nil) | (with_reducible apply q_then) | (with_reducible apply c_skip)) | (((with_reducible apply c_iff); exact rfl; (exact rfl))) | ((with_reducible apply l_call); exact rfl; exact rfl; exact hfi _ (hu.now hS); exact rfl; rintro _ w' ⟨rfl, hS'⟩; replace hS := hS.transA hS'; simp only [appA] at hS; clear hS') | ((with_reducible apply l_call); exact rfl; exact rfl; exact hsf _ (hu.now hS); exact rfl; rintro _ w' ⟨rfl, hS'⟩; replace hS := hS.transA hS'; simp only [appA] at hS; clear hS'))
    (focus ((with_reducible apply c_drawAll _ _ _ (by kernel_rfl) (by kernel_rfl) hS); (repeat' (first | (first | ((with_reducible apply d_pure tabOk); exact rfl; exact rfl) | ((with_reducible apply d_load); exact rfl; (intro wd hd; replace hd : St _ _ wd _ := hd; (((with_reducible apply Loads.st tabOk); exact rfl; ((exact hd.blkR 1 rfl)); exact rfl))); exact rfl) | (first | ((with_reducible apply d_yes); exact rfl; exact rfl; exact rfl; exact rfl; first | exact rfl | assumption) | ((with_reducible apply d_pick1); exact rfl; (first | exact rfl | assumption); exact rfl; exact rfl))) | ((with_reducible apply d_call); exact rfl; exact rfl; (intro wd hd; replace hd : St _ _ wd _ := hd; exact hck _ (hA.now hd) (hL.now hd)); exact rfl) | ((with_reducible apply d_call); exact rfl; exact rfl; (intro wd hd; replace hd : St _ _ wd _ := hd; exact hcl _ (hA.now hd) (hL.now hd)); exact rfl) | ((with_reducible apply d_call); exact rfl; exact rfl; (intro wd hd; replace hd : St _ _ wd _ := hd; exact linkBegun_fn _); exact rfl))); all_goals ((with_reducible apply d_nil); intro w' hS'; clear hS; have hS := hS'; clear hS')))
    repeat' ((first | (with_reducible apply l_nil) | (with_reducible apply q_then) | (with_reducible apply c_ret)))
    (apply q_ret1); (repeat (first | exact ResL.nil | (apply ResL.tmp; exact rfl)))
    exact ⟨(by (rfl)), hS.sub (List.nil_sublist _)⟩
end Go.Proofs.Ytejnpppejalhfab
/- Arguments that are slices, opened: what their elements' cells are. -/
namespace Go.Proofs.Ytejnpppejalhfab
open Go.ChangeShapes Go.WideShapes Go.ChangeAt Go.RowKit Go.Deep

/-- these rows are what these things' cells are -/
def RowsAre {α : Type} (R : α → List Value → Prop) (xs : List α) (rows : List (List Value)) : Prop := rows.length = xs.length ∧ ∀ (i : Nat) (x : α) (r : List Value), xs[i]? = some x → rows[i]? = some r → R x r

section
variable {H : Type} {enc : TypeId × Value → H} {P : Program} {w : World} {base : Nat} {spare : Nat → Bool} {held : Bool}
theorem open_sl {α : Type} [Inhabited α] {t e : TypeId} {fuel sz : Nat} {cs : List Value} {y : DataW H × List MemPlace} (ht : P.underlying t = some (.slice e)) (hsz : P.cellsOf e = sz) (hpos : 0 < sz) (R : α → List Value → Prop) (hR1 : ∀ x r, R x r → r.all (·.oneCell') = true)
    (hR : ∀ (n : Nat) (cs' : List Value) (z : DataW H × List MemPlace), cs'.length = sz → DataW.trod enc P w base spare held n e cs' = some z → ∃ x : α, R x cs') (h : DataW.trod enc P w base spare held fuel t cs = some y) :
    ∃ v xs rows, cs = [v] ∧ Sl nF w sz v rows ∧ RowsAre R xs rows ∧ v.oneCell' = true := by
  rcases open_slice ht h with ⟨rfl, _⟩ | ⟨a, len, cap, m, n, D, Pl, rfl, hb, hl, hm, hmm, _, hx⟩
  · exact ⟨_, [], [], rfl, Or.inl ⟨_, _, rfl, rfl⟩, ⟨rfl, fun i x r h => by simp at h⟩, rfl⟩
  · have hlm : len ≤ m := by rw [hmm]; split <;> omega
    rw [hsz] at hx
    have key : ∀ i, ∃ r x, i < len → w.cells? base (a.add (i * sz)) sz = some r ∧ R x r ∧ r.length = sz := fun i => by
      by_cases hi : i < len
      · obtain ⟨cs', h1, h2⟩ := hx i (by omega)
        have hl := (World.cells?_some h1).2.1
        obtain ⟨x, hr⟩ := hR n cs' _ hl h2
        exact ⟨cs', x, fun _ => ⟨h1, hr, hl⟩⟩
      · exact ⟨[], default, fun h => (hi h).elim⟩
    obtain ⟨r, hr⟩ := Classical.axiomOfChoice key
    obtain ⟨x, hr⟩ := Classical.axiomOfChoice hr
    refine ⟨_, (List.range len).map x, (List.range len).map r, rfl, ?_, ⟨by simp, fun i y r' h1 h2 => ?_⟩, rfl⟩
    · by_cases h0 : len = 0
      · subst h0; exact Or.inl ⟨_, _, rfl, rfl⟩
      · obtain ⟨b, off, spot⟩ := a
        have hcell : ∀ i, i < len → ∀ j, j < sz → w.cell? (((⟨b, off, spot⟩ : Addr).add (i * sz)).add j) = (r i)[j]? := fun i hi j hj => (World.cells?_some (hr i hi).1).2.2 j hj
        have h00 := hcell 0 (by omega) 0 hpos
        obtain ⟨u0, hu0⟩ : ∃ u, (r 0)[0]? = some u := ⟨(r 0)[0]'(by rw [(hr 0 (by omega)).2.2]; exact hpos), by simp⟩
        rw [hu0] at h00
        simp only [Nat.zero_mul, Addr.add, if_true] at h00
        have hspot : spot = none := by
          cases spot with
          | none => rfl
          | some s => simp [World.cell?] at h00; split at h00 <;> simp at h00
        subst hspot
        have hbl := World.block_lt_of_cell? w _ h00
        refine Or.inr ⟨b, off, cap, by simp, by simpa using hl, hm, ⟨hbl, id, fun r' hr' => ?_, fun r' hr' => ?_, fun k r' hk j u hj => ?_⟩⟩
        · obtain ⟨i, hi, rfl⟩ := List.mem_map.1 hr'
          exact (hr i (by simpa using hi)).2.2
        · obtain ⟨i, hi, rfl⟩ := List.mem_map.1 hr'
          exact hR1 _ _ (hr i (by simpa using hi)).2.1
        · have hk' : k < len := by have := lt_of_getE hk; simpa using this
          simp [hk'] at hk
          subst hk
          have hjl : j < sz := by have := lt_of_getE hj; rwa [(hr k hk').2.2] at this
          have := hcell k hk' j hjl
          rw [hj] at this
          rwa [Addr.add_mid, Addr.add_mid] at this
    · have hi : i < len := by have := lt_of_getE h1; simpa using this
      simp [hi] at h1 h2
      subst h1 h2
      exact (hr i hi).2.1
end
end Go.Proofs.Ytejnpppejalhfab
/- A slice of areas that came in. -/
namespace Go.Proofs.Ytejnpppejalhfab
open Go.ChangeShapes Go.WideShapes Go.ChangeAt Go.RowKit

section
variable {H : Type} {enc : TypeId × Value → H} {W : World} {base b0 : Nat} {sp : Nat → Bool} {held : Bool}
theorem cI {n : Nat} {t : TypeId} {c : Value} {o : Option (DataW H × List MemPlace)} (ht : (Try.prog).underlying t = some (.int .i64)) (h : DataW.trod enc Try.prog W base sp held n t [c] = o) (ho : o.isSome = true) : ∃ k : Int, c = .int .i64 k ∧ (Lit.int .i64 k).wf = true := by
  obtain ⟨x, hx⟩ := Option.isSome_iff_exists.1 ho
  obtain ⟨k, hk, _, hw⟩ := DataW.trod_int ht (h.trans hx)
  simp only [List.cons.injEq, and_true] at hk
  exact ⟨k, hk, hw⟩
theorem cB {n : Nat} {t : TypeId} {c : Value} {o : Option (DataW H × List MemPlace)} (ht : (Try.prog).underlying t = some .bool) (h : DataW.trod enc Try.prog W base sp held n t [c] = o) (ho : o.isSome = true) : ∃ b : Bool, c = .bool b := by
  obtain ⟨x, hx⟩ := Option.isSome_iff_exists.1 ho
  obtain ⟨b, hb, _⟩ := DataW.trod_bool ht (h.trans hx)
  simp only [List.cons.injEq, and_true] at hb
  exact ⟨b, hb⟩
theorem cS {n : Nat} {t : TypeId} {c : Value} {o : Option (DataW H × List MemPlace)} (ht : (Try.prog).underlying t = some .string) (h : DataW.trod enc Try.prog W base sp held n t [c] = o) (ho : o.isSome = true) : ∃ l : List UInt8, c = .string ⟨l.toArray⟩ ∧ l.length ≤ maxLen := by
  obtain ⟨x, hx⟩ := Option.isSome_iff_exists.1 ho
  obtain ⟨s, hs, _, hl⟩ := DataW.trod_string ht (h.trans hx)
  simp only [List.cons.injEq, and_true] at hs
  obtain ⟨⟨l⟩⟩ := s
  exact ⟨l, hs, by simpa [ByteArray.size] using hl⟩
theorem gS {α : Type} {l : List α} {i : Nat} (h : i < l.length) : (l[i]?).isSome = true := by simp [h]
theorem cc_int : (Try.prog).cellsOf 3 = 1 := by kernel_rfl
theorem cc_bool : (Try.prog).cellsOf 4 = 1 := by kernel_rfl
theorem cc_string : (Try.prog).cellsOf 9 = 1 := by kernel_rfl
theorem cc_area : (Try.prog).cellsOf 131 = 4 := by kernel_rfl
instance : Inhabited Ar := ⟨⟨0, 0, 0, false⟩⟩
set_option maxRecDepth 100000 in
theorem open_area {n : Nat} {cs : List Value} {z : DataW H × List MemPlace} (hl : cs.length = 4) (h : DataW.trod enc Try.prog W base sp held n 131 cs = some z) : ∃ a : Ar, cs = arC a := by
  match cs, hl with
  | [c0, c1, c2, c3], _ =>
    obtain ⟨xs, n, _, _, _, hl, hf⟩ := DataW.trod_struct Try.underlying131 h
    have f0 := hf 0 _ rfl
    have f1 := hf 1 _ rfl
    have f2 := hf 2 _ rfl
    have f3 := hf 3 _ rfl
    simp only [List.getElem_toArray, List.getElem_cons_zero, List.getElem_cons_succ, cc_int, cc_bool, List.drop_succ_cons, List.drop_zero, List.take_succ_cons, List.take_zero] at f0 f1 f2 f3
    have hl : xs.length = 4 := hl
    obtain ⟨k0, rfl, _⟩ := cI Try.underlying3 f0 (gS (by omega))
    obtain ⟨k1, rfl, _⟩ := cI Try.underlying3 f1 (gS (by omega))
    obtain ⟨k2, rfl, _⟩ := cI Try.underlying3 f2 (gS (by omega))
    obtain ⟨k3, rfl⟩ := cB Try.underlying4 f3 (gS (by omega))
    exact ⟨⟨k0, k1, k2, k3⟩, rfl⟩
set_option maxRecDepth 100000 in
theorem open_areas {v : Value} {d : DataW H} {ps : List MemPlace} (hval : Value.okWide Try.prog W .any b0 37 v) (h : DataW.Trod enc Try.prog W base sp held 37 v d ps) : ∃ L : List Ar, Sl nF W 4 v (L.map arC) := by
  obtain ⟨a, len, cap, rfl⟩ := okWide_slice Try.underlying37 hval
  obtain ⟨fuel, hf⟩ := h
  obtain ⟨v, xs, rows, hv, hsl, ⟨hr1, hr2⟩, _⟩ := open_sl Try.underlying37 cc_area (by decide) (fun (a : Ar) r => r = arC a) (fun x r h => by subst h; rfl) (fun n cs' z hl hz => open_area hl hz) hf
  have hv : (Value.slice a len cap) = v := by simpa [Value.cells] using hv
  subst hv
  refine ⟨xs, ?_⟩
  have : rows = xs.map arC := by
    apply List.ext_getElem?
    intro i
    rw [List.getElem?_map]
    by_cases hi : i < xs.length
    · rw [List.getElem?_eq_getElem hi, List.getElem?_eq_getElem (by omega)]
      simp only [Option.map_some, Option.some.injEq]
      exact hr2 i _ _ (List.getElem?_eq_getElem hi) (List.getElem?_eq_getElem (by omega))
    · rw [List.getElem?_eq_none (by omega), List.getElem?_eq_none (by omega)]; rfl
  rwa [this] at hsl
end
end Go.Proofs.Ytejnpppejalhfab
/- What was linked, and a sheet, that came in. -/
namespace Go.Proofs.Ytejnpppejalhfab
open Go.ChangeShapes Go.WideShapes Go.ChangeAt Go.RowKit

section
variable {H : Type} {enc : TypeId × Value → H} {W : World} {base b0 : Nat} {sp : Nat → Bool} {held : Bool}
instance : Inhabited Fx := ⟨⟨0, []⟩⟩
instance : Inhabited Sh := ⟨⟨0, [], []⟩⟩
theorem cc_fix : (Try.prog).cellsOf 124 = 2 := by kernel_rfl
theorem cc_sheet : (Try.prog).cellsOf 49 = 3 := by kernel_rfl
theorem cc_fixes : (Try.prog).cellsOf 47 = 1 := by kernel_rfl
theorem cc_areas : (Try.prog).cellsOf 37 = 1 := by kernel_rfl
theorem cc_sheets : (Try.prog).cellsOf 38 = 1 := by kernel_rfl
theorem cc_linked : (Try.prog).cellsOf 40 = 3 := by kernel_rfl
theorem rowsAre_map {α : Type} {f : α → List Value} {G : α → Prop} {xs : List α} {rows : List (List Value)} (h : RowsAre (fun a r => r = f a ∧ G a) xs rows) : rows = xs.map f ∧ ∀ x ∈ xs, G x := by
  obtain ⟨h1, h2⟩ := h
  refine ⟨?_, fun x hx => ?_⟩
  · apply List.ext_getElem?
    intro i
    rw [List.getElem?_map]
    by_cases hi : i < xs.length
    · rw [List.getElem?_eq_getElem hi, List.getElem?_eq_getElem (by omega)]
      simp only [Option.map_some, Option.some.injEq]
      exact (h2 i _ _ (List.getElem?_eq_getElem hi) (List.getElem?_eq_getElem (by omega))).1
    · rw [List.getElem?_eq_none (by omega), List.getElem?_eq_none (by omega)]; rfl
  · obtain ⟨i, hi⟩ := List.mem_iff_getElem?.1 hx
    have hl := lt_of_getE hi
    exact (h2 i x _ hi (List.getElem?_eq_getElem (by rw [h1]; exact hl))).2
theorem cc1 {c v : Value} (h : [c] = [v]) : c = v := by simpa using h
set_option maxRecDepth 100000 in
theorem open_fix {n : Nat} {cs : List Value} {z : DataW H × List MemPlace} (hl : cs.length = 2) (h : DataW.trod enc Try.prog W base sp held n 124 cs = some z) : ∃ f : Fx, cs = fxC f := by
  match cs, hl with
  | [c0, c1], _ =>
    obtain ⟨xs, n, _, _, _, hl, hf⟩ := DataW.trod_struct Try.underlying124 h
    have f0 := hf 0 _ rfl
    have f1 := hf 1 _ rfl
    simp only [List.getElem_toArray, List.getElem_cons_zero, List.getElem_cons_succ, cc_int, cc_string, List.drop_succ_cons, List.drop_zero, List.take_succ_cons, List.take_zero] at f0 f1
    have hl : xs.length = 2 := hl
    obtain ⟨k0, rfl, _⟩ := cI Try.underlying3 f0 (gS (by omega))
    obtain ⟨l1, rfl, _⟩ := cS Try.underlying9 f1 (gS (by omega))
    exact ⟨⟨k0, l1⟩, rfl⟩
/-- a slice in a cell -/
theorem open_slC {α : Type} [Inhabited α] {n : Nat} {t e sz : Nat} {c : Value} {o : Option (DataW H × List MemPlace)} (ht : (Try.prog).underlying t = some (.slice e)) (hsz : (Try.prog).cellsOf e = sz) (hpos : 0 < sz) (f : α → List Value) (G : α → Prop) (h1 : ∀ x, (f x).all (·.oneCell') = true ∨ ¬ G x)
    (hR : ∀ (n : Nat) (cs' : List Value) (z : DataW H × List MemPlace), cs'.length = sz → DataW.trod enc Try.prog W base sp held n e cs' = some z → ∃ x : α, cs' = f x ∧ G x) (h : DataW.trod enc Try.prog W base sp held n t [c] = o) (ho : o.isSome = true) : ∃ xs : List α, Sl nF W sz c (xs.map f) ∧ (∀ x ∈ xs, G x) ∧ c.oneCell' = true := by
  obtain ⟨x, hx⟩ := Option.isSome_iff_exists.1 ho
  obtain ⟨v, xs, rows, hv, hsl, hra, hone⟩ := open_sl ht hsz hpos (fun (a : α) r => r = f a ∧ G a) (fun x r h => by
    obtain ⟨rfl, hg⟩ := h
    rcases h1 x with h | h
    · exact h
    · exact absurd hg h) (fun n cs' z hl hz => hR n cs' z hl hz) (h.trans hx)
  obtain rfl := cc1 hv
  obtain ⟨rfl, hg⟩ := rowsAre_map hra
  exact ⟨xs, hsl, hg, hone⟩
set_option maxRecDepth 100000 in
theorem open_sheetC {n : Nat} {cs : List Value} {z : DataW H × List MemPlace} (hl : cs.length = 3) (h : DataW.trod enc Try.prog W base sp held n 49 cs = some z) : ∃ x : Sh × Value, cs = shC x.1 x.2 ∧ ShV W x.1 x.2 ∧ x.2.oneCell' = true := by
  match cs, hl with
  | [c0, c1, c2], _ =>
    obtain ⟨xs, n, _, _, _, hl, hf⟩ := DataW.trod_struct Try.underlying49 h
    have f0 := hf 0 _ rfl
    have f1 := hf 1 _ rfl
    have f2 := hf 2 _ rfl
    simp only [List.getElem_toArray, List.getElem_cons_zero, List.getElem_cons_succ, cc_int, cc_string, cc_fixes, List.drop_succ_cons, List.drop_zero, List.take_succ_cons, List.take_zero] at f0 f1 f2
    have hl : xs.length = 3 := hl
    obtain ⟨k0, rfl, _⟩ := cI Try.underlying3 f0 (gS (by omega))
    obtain ⟨l1, rfl, _⟩ := cS Try.underlying9 f1 (gS (by omega))
    obtain ⟨fs, h2, _, h3⟩ := open_slC Try.underlying47 cc_fix (by decide) fxC (fun _ => True) (fun x => Or.inl rfl) (fun _ _ _ hl hz => by obtain ⟨f, hf⟩ := open_fix hl hz; exact ⟨f, hf, trivial⟩) f2 (gS (by omega))
    exact ⟨(⟨k0, l1, fs⟩, c2), rfl, h2, h3⟩
set_option maxRecDepth 100000 in
theorem open_sheet {v : Value} {d : DataW H} {ps : List MemPlace} (hval : Value.okWide Try.prog W .any b0 49 v) (h : DataW.Trod enc Try.prog W base sp held 49 v d ps) : ∃ S u, v = shA S u ∧ ShV W S u ∧ u.oneCell' = true := by
  obtain ⟨cs, rfl, hsz⟩ := okWide_struct Try.underlying49 hval
  obtain ⟨fuel, hf⟩ := h
  have hc : (Value.agg cs).cells = cs := rfl
  rw [hc] at hf
  have hlen : cs.toList.length = 3 := by rw [Array.length_toList, hsz, cc_sheet]
  obtain ⟨x, h1, h2, h3⟩ := open_sheetC hlen hf
  refine ⟨x.1, x.2, ?_, h2, h3⟩
  unfold shA
  rw [← h1, Array.toArray_toList]
set_option maxRecDepth 100000 in
theorem open_linkedC {n : Nat} {cs : List Value} {z : DataW H × List MemPlace} (hl : cs.length = 3) (h : DataW.trod enc Try.prog W base sp held n 40 cs = some z) : ∃ (A : List Ar) (Lp : List (Sh × Value)) (va vs : Value) (en : Int), .agg cs.toArray = lkA va vs en ∧ Sl nF W 4 va (A.map arC) ∧ ShsV W Lp vs ∧ (-9223372036854775808 ≤ en ∧ en ≤ 9223372036854775807) := by
  match cs, hl with
  | [c0, c1, c2], _ =>
    obtain ⟨xs, n, _, _, _, hl, hf⟩ := DataW.trod_struct Try.underlying40 h
    have f0 := hf 0 _ rfl
    have f1 := hf 1 _ rfl
    have f2 := hf 2 _ rfl
    simp only [List.getElem_toArray, List.getElem_cons_zero, List.getElem_cons_succ, cc_int, cc_areas, cc_sheets, List.drop_succ_cons, List.drop_zero, List.take_succ_cons, List.take_zero] at f0 f1 f2
    have hl : xs.length = 3 := hl
    obtain ⟨A, h1, _, _⟩ := open_slC Try.underlying37 cc_area (by decide) arC (fun _ => True) (fun x => Or.inl rfl) (fun _ _ _ hl hz => by obtain ⟨f, hf⟩ := open_area hl hz; exact ⟨f, hf, trivial⟩) f0 (gS (by omega))
    obtain ⟨Lp, h3, h4, _⟩ := open_slC (α := Sh × Value) Try.underlying38 cc_sheet (by decide) (fun x => shC x.1 x.2) (fun x => ShV W x.1 x.2 ∧ x.2.oneCell' = true) (fun x => by
      by_cases hx : x.2.oneCell' = true
      · left
        unfold shC
        simp only [List.all_cons, List.all_nil, Bool.and_true, hx]
        rfl
      · exact Or.inr fun h => hx h.2) (fun _ _ _ hl hz => by obtain ⟨x, hx, h2, h3⟩ := open_sheetC hl hz; exact ⟨x, hx, h2, h3⟩) f1 (gS (by omega))
    obtain ⟨k2, rfl, hw⟩ := cI Try.underlying3 f2 (gS (by omega))
    exact ⟨A, Lp, c0, c1, k2, rfl, h1, ⟨h3, fun p hp => (h4 p hp).1⟩, by simpa [Lit.wf, IntKind.min, IntKind.max, IntKind.signed, IntKind.bits] using hw⟩
set_option maxRecDepth 100000 in
theorem open_linked {v : Value} {d : DataW H} {ps : List MemPlace} (hval : Value.okWide Try.prog W .any b0 40 v) (h : DataW.Trod enc Try.prog W base sp held 40 v d ps) : ∃ (A : List Ar) (Lp : List (Sh × Value)) (va vs : Value) (en : Int), v = lkA va vs en ∧ Sl nF W 4 va (A.map arC) ∧ ShsV W Lp vs ∧ (-9223372036854775808 ≤ en ∧ en ≤ 9223372036854775807) := by
  obtain ⟨cs, rfl, hsz⟩ := okWide_struct Try.underlying40 hval
  obtain ⟨fuel, hf⟩ := h
  have hc : (Value.agg cs).cells = cs := rfl
  rw [hc] at hf
  have hlen : cs.toList.length = 3 := by rw [Array.length_toList, hsz, cc_linked]
  obtain ⟨A, Lp, va, vs, en, h1, h2⟩ := open_linkedC hlen hf
  rw [Array.toArray_toList] at h1
  exact ⟨A, Lp, va, vs, en, h1, h2⟩
end
end Go.Proofs.Ytejnpppejalhfab
