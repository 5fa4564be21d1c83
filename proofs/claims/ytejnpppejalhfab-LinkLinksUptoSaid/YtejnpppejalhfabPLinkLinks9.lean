/- Texts that the proof stands on, one behind the other: Lk14, Lk15, Lk16, PlOf, Lk17. -/
import Derived.Test.YtejnpppejalhfabPLinkLinks8
/- The reference's find and address of a link. -/
namespace Go.Proofs.Ytejnpppejalhfab
open Go.RowKit Go.Sort
def findO (B : List Ob) (nm : List UInt8) : Int := match B.findIdx? (fun o => decide (o.im.name = nm)) with
  | some k => (k : Nat)
  | none => -1
theorem findO_hit {B : List Ob} {nm : List UInt8} {k : Nat} {o : Ob} (h : (B.take k).all (fun o => !decide (o.im.name = nm)) = true) (ho : B[k]? = some o) (hn : o.im.name = nm) : findO B nm = (k : Nat) := by
  unfold findO
  have : B.findIdx? (fun o => decide (o.im.name = nm)) = some k := by
    rw [List.findIdx?_eq_some_iff_getElem]
    obtain ⟨h1, rfl⟩ := List.getElem?_eq_some_iff.1 ho
    refine ⟨h1, by simp [hn], fun j hj => ?_⟩
    have := List.all_eq_true.1 h B[j] (List.mem_iff_getElem?.2 ⟨j, by rw [List.getElem?_take]; simp [hj]⟩)
    simpa using this
  rw [this]
theorem findO_miss {B : List Ob} {nm : List UInt8} {k : Nat} (h : (B.take k).all (fun o => !decide (o.im.name = nm)) = true) (hk : B.length ≤ k) : findO B nm = -1 := by
  unfold findO
  rw [List.take_of_length_le hk] at h
  have : B.findIdx? (fun o => decide (o.im.name = nm)) = none := by
    rw [List.findIdx?_eq_none_iff]
    intro x hx
    have := List.all_eq_true.1 h x hx
    simpa using this
  rw [this]
set_option maxRecDepth 100000 in
set_option maxHeartbeats 8000000 in
theorem find_fn {B : List Ob} {w : World} {vl : Value} (nm : List UInt8) (hL : Sl nF w 6 vl (B.map imR)) : Fn Try.prog 105 [vl, .string ⟨nm.toArray⟩] w (RBf (.int .i64 (findO B nm)) w) := by
  have bnd := hL.bound
  obtain ⟨p, c, rfl⟩ := hL.len
  refine fn_enter (fn := Try.f105) ⟨Try.func105, by kernel_rfl, by kernel_rfl⟩ (by exact rfl) Try.ntmps105 (by exact rfl) ?_
  have hS := St.start w
  repeat' (first | (((with_reducible apply l_pure tabOk); exact rfl; exact rfl)) | (first | (with_reducible apply c_seq) | (with_reducible apply c_region) | (with_reducible apply l_nil) | (with_reducible apply q_then) | (with_reducible apply c_block)))
  refine c_loopK (X := Nat) (fun x => [(5, .int .i64 (x : Nat))]) [0, 1] rfl (fun _ => []) (fun x => x ≤ B.length ∧ (B.take x).all (fun o => !decide (o.im.name = nm)) = true) (fun x => B.length - x) 0 (by repeat (first | exact Fr.sub_nil _ | (apply Fr.sub_cons; exact rfl))) (by simp) hS ?_
  clear hS
  intro i w1 hI hS
  obtain ⟨hi, hall⟩ := hI
  dsimp only [List.cons_append, List.nil_append] at hi hall hS ⊢
  by_cases hlt : i < B.length
  rotate_left
  · rw [findO_miss hall (by omega)]
    repeat' (first | (((with_reducible apply l_pure tabOk); exact rfl; exact rfl)) | (first | (with_reducible apply c_seq) | (with_reducible apply c_region) | (with_reducible apply l_nil) | (with_reducible apply q_then) | (with_reducible apply c_exit) | (with_reducible apply c_ret) | (with_reducible apply q_then_exit) | (with_reducible apply q_block_exit)) | (((with_reducible apply c_ifd); exact rfl; all_goals (intro hb hp; try (exfalso; omega)))))
    (apply q_ret1); (repeat (first | exact ResL.nil | (apply ResL.tmp; exact rfl)))
    exact ⟨rfl, hS⟩
  obtain ⟨o, ho⟩ := lt_get (l := B) (i := i) (by omega)
  have hrow : (B.map imR)[i]? = some [.string ⟨o.im.name.toArray⟩, o.vn, o.vs, o.vy, o.vr, .int .i64 o.im.entry] := map_get (f := imR) ho
  obtain ⟨b, off, rfl, hro⟩ := hL.at_ (i := i) hlt
  by_cases hn : o.im.name = nm
  · have hd : decide (o.im.name = nm) = true := decide_eq_true hn
    rw [findO_hit hall ho hn]
    repeat' (first | (first | ((with_reducible apply l_pure tabOk); exact rfl; exact rfl) | ((with_reducible apply l_load); exact rfl; (((with_reducible apply Loads.sc tabOk); exact rfl; ((exact hS.roC0 (by assumption) (by assumption) rfl)))); exact rfl) | ((with_reducible apply l_ix tabOk); exact rfl; exact rfl; exact rfl; ((exact rfl)); ((omega)); exact rfl)) | (first | (with_reducible apply c_seq) | (with_reducible apply c_region) | (with_reducible apply l_nil) | (with_reducible apply q_then) | (with_reducible apply c_skip) | (with_reducible apply c_block) | (with_reducible apply c_ret) | (with_reducible apply q_then_ret) | (with_reducible apply q_block_ret)) | (first | ((with_reducible apply c_ift); exact rfl; (assumption)) | ((with_reducible apply c_ifd); exact rfl; all_goals (intro hb hp; try (exfalso; omega)))))
    (apply q_ret1); (repeat (first | exact ResL.nil | (apply ResL.tmp; exact rfl)))
    exact ⟨rfl, hS⟩
  · have hd : decide (o.im.name = nm) = false := decide_eq_false hn
    repeat' (first | (first | ((with_reducible apply l_add); exact rfl; exact rfl; omega; omega; exact rfl) | ((with_reducible apply l_pure tabOk); exact rfl; exact rfl) | ((with_reducible apply l_load); exact rfl; (((with_reducible apply Loads.sc tabOk); exact rfl; ((exact hS.roC0 (by assumption) (by assumption) rfl)))); exact rfl) | ((with_reducible apply l_ix tabOk); exact rfl; exact rfl; exact rfl; ((exact rfl)); ((omega)); exact rfl)) | (first | (with_reducible apply c_seq) | (with_reducible apply c_region) | (with_reducible apply l_nil) | (with_reducible apply q_then) | (with_reducible apply c_skip) | (with_reducible apply c_block) | (with_reducible apply q_block)) | (first | ((with_reducible apply c_iff); exact rfl; (assumption)) | ((with_reducible apply c_ifd); exact rfl; all_goals (intro hb hp; try (exfalso; omega)))))
    exact q_loopK (i + 1) (by repeat (first | exact Fr.sub_nil _ | (apply Fr.sub_cons; exact rfl))) ⟨by show i + 1 ≤ B.length; omega, all_take_succ hall ho (by simp [hn])⟩ hS (by show B.length - (i + 1) < B.length - i; omega)
def rbC (o : Ob) : List Value := [.string ⟨o.im.name.toArray⟩, o.vn, o.vs, o.vy, o.vr, .int .i64 o.im.entry, .int .i64 (o.at_ / 16)]
def adrT (os : List (Im × Int)) (at_ : Int) (r : Rl) : Option Int := (if r.name = [] then some at_ else adr os r.name).map fun t => IntKind.i64.wrap (t + r.add)
theorem bytesOf_adr (os : List (Im × Int)) (at_ : Int) (r : Rl) : bytesOf os at_ r = (adrT os at_ r).map fun n => leB n 8 := by
  unfold bytesOf adrT
  rw [Option.map_map]
  rfl
set_option maxRecDepth 100000 in
set_option maxHeartbeats 8000000 in
theorem adrR_fn {os : List Ob} {w : World} {lv : Value} {own : Ob} {r : Rl} {bo : Int} (hl : Sl nF w 7 lv (os.map rbC)) (hO : ∀ o ∈ os, ObV w o) (hb : ∀ o ∈ os, ∃ b : Int, o.at_ = b * 16 ∧ 0 ≤ b ∧ b ≤ 100000) (hbo : own.at_ = bo * 16 ∧ 0 ≤ bo ∧ bo ≤ 100000) (hr : ∀ o ∈ os, ∀ s ∈ o.im.syms, -9223372036854775808 ≤ o.at_ + s.at_ ∧ o.at_ + s.at_ ≤ 9223372036854775807) : Fn Try.prog 52 [lv, .agg (rbC own).toArray, .agg (rlC r).toArray] w (RBf (AdrV (adrT (obP os) own.at_ r)) w) := by
  have bnd := hl.bound
  obtain ⟨p, c, rfl⟩ := hl.len
  obtain ⟨rat, nm, rad⟩ := r
  have hdb : own.at_ / 16 = bo := by omega
  unfold rbC rlC
  rw [hdb, hbo.1]
  refine fn_enter (fn := Try.f52) ⟨Try.func52, by kernel_rfl, by kernel_rfl⟩ (by exact rfl) Try.ntmps52 (by exact rfl) ?_
  have hS := St.start w
  by_cases hnm : nm = []
  · subst hnm
    repeat' (first | (first | ((with_reducible apply l_mul); exact rfl; exact rfl; omega; omega; exact rfl) | ((with_reducible apply l_pure tabOk); exact rfl; exact rfl) | ((with_reducible apply l_load); exact rfl; (((with_reducible apply Loads.sc tabOk); exact rfl; (first | exact hS.blkC 0 rfl rfl | exact hS.blkC 1 rfl rfl))); exact rfl) | ((with_reducible apply l_box hS); exact rfl; exact rfl; exact rfl; intro g w' hS'; clear hS; have hS := hS'; clear hS')) | (first | (with_reducible apply c_seq) | (with_reducible apply c_region) | (with_reducible apply l_nil) | (with_reducible apply q_then) | (with_reducible apply c_ret) | (with_reducible apply q_then_ret)) | (((with_reducible apply c_ift); exact rfl; (exact rfl))))
    (apply q_ret2); (repeat (first | exact ResL.nil | (apply ResL.tmp; exact rfl)))
    exact ⟨rfl, hS.sub (List.nil_sublist _)⟩
  have hd0 : decide (nm = []) = false := decide_eq_false hnm
  have he : adrT (obP os) (bo * 16) ⟨rat, nm, rad⟩ = (adr (obP os) nm).map fun t => IntKind.i64.wrap (t + rad) := by
    unfold adrT
    rw [if_neg hnm]
  rw [he]
  clear he
  dsimp only []
  repeat' (first | (first | ((with_reducible apply l_pure tabOk); exact rfl; exact rfl) | ((with_reducible apply l_load); exact rfl; (((with_reducible apply Loads.sc tabOk); exact rfl; ((exact hS.blkC 0 rfl rfl)))); exact rfl) | ((with_reducible apply l_box hS); exact rfl; exact rfl; exact rfl; intro g w' hS'; clear hS; have hS := hS'; clear hS')) | (first | (with_reducible apply c_seq) | (with_reducible apply c_region) | (with_reducible apply l_nil) | (with_reducible apply q_then) | (with_reducible apply c_skip) | (with_reducible apply c_block)) | (((with_reducible apply c_iff); exact rfl; (assumption))))
  refine c_loopK (X := Nat) (fun x => [(8, .int .i64 (x : Nat))]) [0, 5] rfl (fun _ => []) (fun x => x ≤ os.length ∧ adr (obP os) nm = adr ((obP os).drop x) nm) (fun x => os.length - x) 0 (by repeat (first | exact Fr.sub_nil _ | (apply Fr.sub_cons; exact rfl))) (by simp) hS ?_
  clear hS
  intro i w1 hI hS
  obtain ⟨hi, had⟩ := hI
  dsimp only [List.cons_append, List.nil_append] at hi had hS ⊢
  by_cases hlt : i < os.length
  rotate_left
  · rw [List.drop_of_length_le (by rw [obP_len]; omega)] at had
    repeat' (first | (((with_reducible apply l_pure tabOk); exact rfl; exact rfl)) | (first | (with_reducible apply c_seq) | (with_reducible apply c_region) | (with_reducible apply l_nil) | (with_reducible apply q_then) | (with_reducible apply c_exit) | (with_reducible apply c_ret) | (with_reducible apply q_then_exit) | (with_reducible apply q_block_exit)) | (((with_reducible apply c_ifd); exact rfl; all_goals (intro hb hp; try (exfalso; omega)))))
    (apply q_ret2); (repeat (first | exact ResL.nil | (apply ResL.tmp; exact rfl)))
    exact ⟨by rw [had]; rfl, hS.sub (List.nil_sublist _)⟩
  obtain ⟨o, ho⟩ := lt_get (l := os) (i := i) (by omega)
  obtain ⟨b0, hb0, hb1, hb2⟩ := hb o (List.mem_of_getElem? ho)
  have hd16 : o.at_ / 16 = b0 := by omega
  have hrow : (os.map rbC)[i]? = some [.string ⟨o.im.name.toArray⟩, o.vn, o.vs, o.vy, o.vr, .int .i64 o.im.entry, .int .i64 (o.at_ / 16)] := map_get (f := rbC) ho
  rw [hd16] at hrow
  obtain ⟨b, off, rfl, hro⟩ := hl.at_ (i := i) hlt
  have hst := adr_step (nm := nm) (obP_at ho)
  have hov := hO o (List.mem_of_getElem? ho)
  have hor := hr o (List.mem_of_getElem? ho)
  rw [hst] at had
  obtain ⟨I, vn, vs, vy, vr, at_⟩ := o
  dsimp only at had hor hb0 hrow
  subst hb0
  clear hd16
  replace hov : ImV w I vn vs vy vr := hov
  have by_ := hov.syms.bound
  have hsy := hov.syms
  obtain ⟨pn, cn, rfl⟩ := hov.needs.len
  obtain ⟨ps, cs, rfl⟩ := hov.segs.len
  obtain ⟨py, cy, rfl⟩ := hov.syms.len
  obtain ⟨pr, cr, rfl⟩ := hov.rels.len
  repeat' (first | (((with_reducible apply l_pure tabOk); exact rfl; exact rfl)) | (first | (with_reducible apply c_seq) | (with_reducible apply c_region) | (with_reducible apply l_nil) | (with_reducible apply q_then) | (with_reducible apply c_skip) | (with_reducible apply c_block)) | (((with_reducible apply c_ifd); exact rfl; all_goals (intro hb hp; try (exfalso; omega)))))
  refine c_loopK (X := Nat) (fun x => [(9, .int .i64 (x : Nat))]) [0, 5, 8] rfl (fun _ => []) (fun x => x ≤ I.syms.length ∧ (I.syms.take x).all (fun s => !decide (s.name = nm)) = true) (fun x => I.syms.length - x) 0 (by repeat (first | exact Fr.sub_nil _ | (apply Fr.sub_cons; exact rfl))) (by simp) hS ?_
  clear hS
  intro k w2 hK hS
  obtain ⟨hk, hall⟩ := hK
  dsimp only [List.cons_append, List.nil_append] at hk hall hS ⊢
  by_cases hkt : k < I.syms.length
  · obtain ⟨y, hy⟩ := lt_get (l := I.syms) (i := k) (by omega)
    have hrow2 := map_get (f := syC) hy
    obtain ⟨b2, off2, rfl, hro2⟩ := hsy.at_ (i := k) hkt
    have hyr := hor y (List.mem_of_getElem? hy)
    unfold syC at hrow2
    by_cases hn : y.name = nm
    · have hd : decide (y.name = nm) = true := decide_eq_true hn
      rw [symAt_hit hall hy hn] at had
      repeat' (first | (first | ((with_reducible apply l_pure tabOk); exact rfl; exact rfl) | ((with_reducible apply l_load); exact rfl; (((with_reducible apply Loads.sl tabOk); exact rfl; ((exact hS.roC (by assumption) (by assumption) rfl)))); exact rfl) | ((with_reducible apply l_ix tabOk); exact rfl; exact rfl; exact rfl; ((exact rfl)); ((omega)); exact rfl)) | (first | (with_reducible apply c_seq) | (with_reducible apply c_region) | (with_reducible apply l_nil) | (with_reducible apply q_then) | (with_reducible apply c_skip) | (with_reducible apply c_block)) | (((with_reducible apply c_ifd); exact rfl; all_goals (intro hb hp; try (exfalso; omega)))))
      (focus ((with_reducible apply c_drawAll _ _ _ (by kernel_rfl) (by kernel_rfl) hS); (repeat' ((first | ((with_reducible apply d_pure tabOk); exact rfl; exact rfl) | ((with_reducible apply d_load); exact rfl; (intro wd hd; replace hd : St _ _ wd _ := hd; (first | ((with_reducible apply Loads.sc tabOk); exact rfl; (first | exact hd.blkC 0 rfl rfl | exact hd.roC0 (by assumption) (by assumption) rfl)) | ((with_reducible apply Loads.sl tabOk); exact rfl; ((exact hd.roC (by assumption) (by assumption) rfl))))); exact rfl) | ((with_reducible apply d_ix tabOk); exact rfl; exact rfl; exact rfl; ((exact rfl)); ((omega)); exact rfl)))); all_goals ((with_reducible apply d_nil); intro w' hS'; clear hS; have hS := hS'; clear hS')))
      repeat' (first | (first | (with_reducible apply c_seq) | (with_reducible apply l_nil) | (with_reducible apply q_then)) | (((with_reducible apply c_ift); exact rfl; (assumption))))
      (focus ((with_reducible apply c_drawAll _ _ _ (by kernel_rfl) (by kernel_rfl) hS); (repeat' ((first | ((with_reducible apply d_add); exact rfl; exact rfl; omega; omega; exact rfl) | ((with_reducible apply d_mul); exact rfl; exact rfl; omega; omega; exact rfl) | ((with_reducible apply d_pure tabOk); exact rfl; exact rfl) | ((with_reducible apply d_load); exact rfl; (intro wd hd; replace hd : St _ _ wd _ := hd; (first | ((with_reducible apply Loads.sc tabOk); exact rfl; (first | exact hd.blkC 0 rfl rfl | exact hd.roC (by assumption) (by assumption) rfl)) | ((with_reducible apply Loads.sl tabOk); exact rfl; ((exact hd.roC (by assumption) (by assumption) rfl))))); exact rfl) | ((with_reducible apply d_ix tabOk); exact rfl; exact rfl; exact rfl; ((exact rfl)); ((omega)); exact rfl)))); all_goals ((with_reducible apply d_nil); intro w' hS'; clear hS; have hS := hS'; clear hS')))
      repeat' ((first | (with_reducible apply l_nil) | (with_reducible apply q_then) | (with_reducible apply c_ret) | (with_reducible apply q_then_ret) | (with_reducible apply q_block_ret)))
      (apply q_ret2); (repeat (first | exact ResL.nil | (apply ResL.tmp; exact rfl)))
      exact ⟨by rw [had]; rfl, hS.sub (List.nil_sublist _)⟩
    · have hd : decide (y.name = nm) = false := decide_eq_false hn
      repeat' (first | (first | ((with_reducible apply l_pure tabOk); exact rfl; exact rfl) | ((with_reducible apply l_load); exact rfl; (((with_reducible apply Loads.sl tabOk); exact rfl; ((exact hS.roC (by assumption) (by assumption) rfl)))); exact rfl) | ((with_reducible apply l_ix tabOk); exact rfl; exact rfl; exact rfl; ((exact rfl)); ((omega)); exact rfl)) | (first | (with_reducible apply c_seq) | (with_reducible apply c_region) | (with_reducible apply l_nil) | (with_reducible apply q_then) | (with_reducible apply c_skip) | (with_reducible apply c_block)) | (((with_reducible apply c_ifd); exact rfl; all_goals (intro hb hp; try (exfalso; omega)))))
      (focus ((with_reducible apply c_drawAll _ _ _ (by kernel_rfl) (by kernel_rfl) hS); (repeat' ((first | ((with_reducible apply d_pure tabOk); exact rfl; exact rfl) | ((with_reducible apply d_load); exact rfl; (intro wd hd; replace hd : St _ _ wd _ := hd; (first | ((with_reducible apply Loads.sc tabOk); exact rfl; (first | exact hd.blkC 0 rfl rfl | exact hd.roC0 (by assumption) (by assumption) rfl)) | ((with_reducible apply Loads.sl tabOk); exact rfl; ((exact hd.roC (by assumption) (by assumption) rfl))))); exact rfl) | ((with_reducible apply d_ix tabOk); exact rfl; exact rfl; exact rfl; ((exact rfl)); ((omega)); exact rfl)))); all_goals ((with_reducible apply d_nil); intro w' hS'; clear hS; have hS := hS'; clear hS')))
      repeat' (first | (first | ((with_reducible apply l_add); exact rfl; exact rfl; omega; omega; exact rfl) | ((with_reducible apply l_pure tabOk); exact rfl; exact rfl)) | (first | (with_reducible apply c_region) | (with_reducible apply l_nil) | (with_reducible apply q_then) | (with_reducible apply c_skip) | (with_reducible apply q_block)) | (((with_reducible apply c_iff); exact rfl; (assumption))))
      exact q_loopK (k + 1) (by repeat (first | exact Fr.sub_nil _ | (apply Fr.sub_cons; exact rfl))) ⟨by show k + 1 ≤ I.syms.length; omega, all_take_succ hall hy (by simp [hn])⟩ hS (by show I.syms.length - (k + 1) < I.syms.length - k; omega)
  · rw [symAt_miss hall (by omega)] at had
    repeat' (first | (first | ((with_reducible apply l_add); exact rfl; exact rfl; omega; omega; exact rfl) | ((with_reducible apply l_pure tabOk); exact rfl; exact rfl) | ((with_reducible apply l_load); exact rfl; (((with_reducible apply Loads.sl tabOk); exact rfl; ((exact hS.roC (by assumption) (by assumption) rfl)))); exact rfl) | ((with_reducible apply l_ix tabOk); exact rfl; exact rfl; exact rfl; ((exact rfl)); ((omega)); exact rfl)) | (first | (with_reducible apply c_seq) | (with_reducible apply c_region) | (with_reducible apply l_nil) | (with_reducible apply q_then) | (with_reducible apply c_exit) | (with_reducible apply q_then_exit) | (with_reducible apply q_block) | (with_reducible apply q_block_exit)) | (((with_reducible apply c_ifd); exact rfl; all_goals (intro hb hp; try (exfalso; omega)))))
    exact q_loopK (i + 1) (by repeat (first | exact Fr.sub_nil _ | (apply Fr.sub_cons; exact rfl))) ⟨by show i + 1 ≤ os.length; omega, had⟩ hS (by show os.length - (i + 1) < os.length - i; omega)
end Go.Proofs.Ytejnpppejalhfab
/- The reference's objects. -/
namespace Go.Proofs.Ytejnpppejalhfab
open Go.RowKit Go.Sort
structure OrdI (B : List Ob) (ord : List Nat) (s : List Ob × Int) : Prop where
  len : s.1.length = ord.length
  at_ : ∀ (i k : Nat), ord[i]? = some k → ∃ (o : Ob) (a : Int), B[k]? = some o ∧ s.1[i]? = some { o with at_ := a }
def ixC (k : Nat) : List Value := [.int .i64 (k : Nat)]
theorem findO_none {B : List Ob} {nm : List UInt8} (h : lookB B nm = none) : findO B nm = -1 := by
  unfold findO
  unfold lookB at h
  rw [List.find?_eq_none] at h
  have : B.findIdx? (fun o => decide (o.im.name = nm)) = none := by
    rw [List.findIdx?_eq_none_iff]
    intro x hx
    simpa using h x hx
  rw [this]
theorem findO_some {B : List Ob} {nm : List UInt8} {o : Ob} (h : lookB B nm = some o) : ∃ k : Nat, findO B nm = (k : Nat) ∧ B[k]? = some o := by
  unfold lookB at h
  rw [List.find?_eq_some_iff_getElem] at h
  obtain ⟨hp, i, hi, rfl, hj⟩ := h
  refine ⟨i, ?_, by simp [hi]⟩
  unfold findO
  have : B.findIdx? (fun o => decide (o.im.name = nm)) = some i := by
    rw [List.findIdx?_eq_some_iff_getElem]
    exact ⟨hi, hp, fun j hji => by simpa using hj j hji⟩
  rw [this]
theorem nodup_at {B : List Ob} (h : (B.map fun o => o.im.name).Nodup) {i j : Nat} {a b : Ob} (ha : B[i]? = some a) (hb : B[j]? = some b) (he : a.im.name = b.im.name) : i = j := by
  obtain ⟨h1, rfl⟩ := List.getElem?_eq_some_iff.1 ha
  obtain ⟨h2, rfl⟩ := List.getElem?_eq_some_iff.1 hb
  unfold List.Nodup at h
  rw [List.pairwise_iff_getElem] at h
  rcases Nat.lt_trichotomy i j with hlt | heq | hlt
  · exact absurd (by rw [List.getElem_map, List.getElem_map]; exact he) (h i j (by simpa using h1) (by simpa using h2) hlt)
  · exact heq
  · exact absurd (by rw [List.getElem_map, List.getElem_map]; exact he.symm) (h j i (by simpa using h2) (by simpa using h1) hlt)
theorem OrdI.mem {B : List Ob} {ord : List Nat} {s : List Ob × Int} {k : Nat} {o : Ob} (h : OrdI B ord s) (hn : (B.map fun o => o.im.name).Nodup) (hk : B[k]? = some o) : k ∈ ord ↔ isPl s.1 o.im.name = true := by
  rw [isPl_iff]
  constructor
  · intro hm
    obtain ⟨i, hi⟩ := List.mem_iff_getElem?.1 hm
    obtain ⟨o', a, h1, h2⟩ := h.at_ i k hi
    rw [hk] at h1
    cases h1
    exact ⟨_, List.mem_of_getElem? h2, rfl⟩
  · rintro ⟨x, hx, hxn⟩
    obtain ⟨i, hi⟩ := List.mem_iff_getElem?.1 hx
    have hil : i < ord.length := by have := lt_of_getE hi; have := h.len; omega
    obtain ⟨k', hk'⟩ := lt_get (l := ord) (i := i) (by omega)
    obtain ⟨o', a, h1, h2⟩ := h.at_ i k' hk'
    rw [hi] at h2
    cases h2
    have := nodup_at hn hk h1 hxn.symm
    subst this
    exact List.mem_of_getElem? hk'
theorem OrdI.old {B : List Ob} {ord : List Nat} {s : List Ob × Int} {k : Nat} {o : Ob} (h : OrdI B ord s) (hn : (B.map fun o => o.im.name).Nodup) (hk : B[k]? = some o) (hm : k ∈ ord) : OrdI B ord (plStep s o) := by
  have := (h.mem hn hk).1 hm
  unfold plStep plOs plNext
  rw [if_pos this, if_pos this]
  exact h
theorem OrdI.new {B : List Ob} {ord : List Nat} {s : List Ob × Int} {k : Nat} {o : Ob} (h : OrdI B ord s) (hn : (B.map fun o => o.im.name).Nodup) (hk : B[k]? = some o) (hm : k ∉ ord) : OrdI B (ord ++ [k]) (plStep s o) := by
  have hp : ¬ isPl s.1 o.im.name = true := fun hc => hm ((h.mem hn hk).2 hc)
  unfold plStep plOs plNext
  rw [if_neg hp, if_neg hp]
  refine ⟨by simp [h.len], fun i j hj => ?_⟩
  rcases Nat.lt_or_ge i ord.length with hi | hi
  · rw [List.getElem?_append_left hi] at hj
    obtain ⟨o', a, h1, h2⟩ := h.at_ i j hj
    exact ⟨o', a, h1, by rw [List.getElem?_append_left (by rw [h.len]; exact hi)]; exact h2⟩
  · rw [List.getElem?_append_right hi] at hj
    obtain ⟨h1, h2⟩ := List.getElem?_eq_some_iff.1 hj
    simp only [List.length_singleton] at h1
    obtain rfl : i = ord.length := by omega
    simp only [Nat.sub_self, List.getElem_cons_zero] at h2
    subst h2
    exact ⟨o, s.2 * 16, hk, by rw [← h.len, List.getElem?_append_right (by omega)]; simp⟩
theorem OrdI.start {B : List Ob} {M : Ob} (h : B[0]? = some M) : OrdI B [0] (plStep ([], 1) M) := by
  refine ⟨rfl, fun i k hk => ?_⟩
  cases i with
  | zero =>
    obtain rfl : 0 = k := by simpa using hk
    exact ⟨M, 16, h, rfl⟩
  | succ i => simp at hk
def ObjF (R : Option (List Ob × Int)) (v : Value) (w w' : World) : Prop :=
  (R = none ∧ v = .tuple #[.slice none 0 0, .int .i64 6] ∧ St nF w w' []) ∨
  (∃ s, R = some s ∧ s.2 > 256 ∧ v = .tuple #[.slice none 0 0, .int .i64 3] ∧ St nF w w' []) ∨
  (∃ s u, R = some s ∧ s.2 ≤ 256 ∧ v = .tuple #[u, .int .i64 0] ∧ St nF w w' [.row 113 7 u (s.1.map rbC)])
theorem take_mem_succ {ord : List Nat} {j x kk : Nat} (hx : ord[j]? = some x) : kk ∈ ord.take (j + 1) ↔ kk ∈ ord.take j ∨ x = kk := by
  rw [List.take_add_one, hx]
  simp [eq_comm]
set_option maxRecDepth 100000 in
set_option maxHeartbeats 8000000 in
theorem objects_fn {w : World} {M : Ob} {B : List Ob} {vl : Value} (hL : Sl nF w 6 vl (B.map imR)) (hM : B[0]? = some M) (hO : ∀ o ∈ B, ObV w o) (hok : ∀ o ∈ B, ImOk o.im) (hn : (B.map fun o => o.im.name).Nodup) (hl : B.length ≤ 7) : Fn Try.prog 51 [vl] w (fun v w' => ObjF (allP B 8 0 (plStep ([], 1) M)) v w w') := by
  have bnd := hL.bound
  obtain ⟨p, c, rfl⟩ := hL.len
  have hMm := List.mem_of_getElem? hM
  have hA0 : AllI B ([], 1) := ⟨by simp, by simp, by simp, by simp⟩
  have hA1 := hA0.step hMm (hok M hMm)
  have hO1 := OrdI.start hM
  have hPk : ∀ s, allP B 8 0 (plStep ([], 1) M) = some s → PkI s := fun s hs => allP_inv (Inv := PkI) (fun s o h _ => h.step o) hs (PkI.start.step _)
  refine fn_enter (fn := Try.f51) ⟨Try.func51, by kernel_rfl, by kernel_rfl⟩ (by exact rfl) Try.ntmps51 (by exact rfl) ?_
  have hS := St.start w
  generalize hR : allP B 8 0 (plStep ([], 1) M) = R at hPk ⊢
  generalize plStep ([], 1) M = s1 at hR hA1 hO1
  repeat' (first | (first | ((with_reducible apply l_pure tabOk); exact rfl; exact rfl) | ((with_reducible apply l_bslice hS tabOk); exact rfl; exact rfl; exact rfl; exact rfl; exact rfl; exact rfl; exact rfl; intro g w' hS'; clear hS; have hS := hS'; clear hS')) | (first | (with_reducible apply c_seq) | (with_reducible apply c_region) | (with_reducible apply l_nil) | (with_reducible apply q_then) | (with_reducible apply c_block)))
  replace hS : St nF w w' [.row 3 1 (.slice (some ⟨g, 0, none⟩) ([0] : List Nat).length 1) (([0] : List Nat).map ixC)] := hS
  refine c_loopK (Γ := []) (X := Nat × List Nat × (Option Addr × Nat) × (List Ob × Int)) (fun x => [(5, .int .i64 (x.1 : Nat)), (4, .slice x.2.2.1.1 x.2.1.length x.2.2.1.2)]) [0] rfl (fun x => [.row 3 1 (.slice x.2.2.1.1 x.2.1.length x.2.2.1.2) (x.2.1.map ixC)]) (fun x => OrdI B x.2.1 x.2.2.2 ∧ AllI B x.2.2.2 ∧ R = allP B (8 - x.1) x.1 x.2.2.2 ∧ x.1 ≤ x.2.2.2.1.length) (fun x => 8 - x.1) (0, [0], (some ⟨g, 0, none⟩, 1), s1) (by repeat (first | exact Fr.sub_nil _ | (apply Fr.sub_cons; exact rfl))) ⟨hO1, hA1, hR.symm, Nat.zero_le _⟩ hS ?_
  clear hS hO1 hA1 hR
  rintro ⟨n, ord, ⟨po, co⟩, s⟩ w2 ⟨hO2, hA2, hR2, hn2⟩ hS
  dsimp only [List.cons_append, List.nil_append] at hO2 hA2 hR2 hn2 hS ⊢
  have hlen := hA2.len
  have hol := hO2.len
  by_cases hlt : n < ord.length
  rotate_left
  · have hd : s.1[n]? = none := List.getElem?_eq_none (by omega)
    have hR3 : R = some s := by
      rw [hR2]
      cases 8 - n with
      | zero => rfl
      | succ k => unfold allP; rw [hd]
    clear hR2
    subst hR3
    have hpk := hPk s rfl
    have hsok : ∀ o ∈ s.1, ImOk o.im := fun o ho => by
      obtain ⟨a, ha⟩ := hA2.sub o ho
      exact hok { o with at_ := a } ha
    have hos1 : ∀ o ∈ s.1, ∃ a : Int, { o with at_ := a } ∈ B := hA2.sub
    repeat' (first | (((with_reducible apply l_pure tabOk); exact rfl; exact rfl)) | (first | (with_reducible apply c_seq) | (with_reducible apply c_region) | (with_reducible apply l_nil) | (with_reducible apply q_then) | (with_reducible apply c_block) | (with_reducible apply c_exit) | (with_reducible apply q_then_exit) | (with_reducible apply q_block_exit)) | (((with_reducible apply c_ifd); exact rfl; all_goals (intro hb hp; try (exfalso; omega)))))
    replace hS := hS.addNil 113 7
    refine c_loopK (X := Nat × Int × (Option Addr × Nat × Nat) × List (List Value)) (fun x => [(13, .int .i64 (x.1 : Nat)), (12, .int .i64 x.2.1), (11, .slice x.2.2.1.1 x.2.2.1.2.1 x.2.2.1.2.2)]) [0, 4] rfl (fun x => [.row 113 7 (.slice x.2.2.1.1 x.2.2.1.2.1 x.2.2.1.2.2) x.2.2.2]) (fun x => x.1 ≤ s.1.length ∧ x.2.1 = 1 + endsN (s.1.take x.1) ∧ x.2.1 ≤ 256 ∧ x.2.2.2 = (s.1.take x.1).map rbC ∧ x.2.2.1.2.1 = x.1) (fun x => s.1.length - x.1) (0, 1, (none, 0, 0), []) (by repeat (first | exact Fr.sub_nil _ | (apply Fr.sub_cons; exact rfl))) ⟨Nat.zero_le _, rfl, by show (1 : Int) ≤ 256; decide, rfl, rfl⟩ hS ?_
    clear hS
    rintro ⟨i, bs, ⟨q, m, d⟩, R⟩ w3 ⟨hi, hbs, he, hR, hm⟩ hS
    dsimp only [List.cons_append, List.nil_append] at hi hbs he hR hm hS ⊢
    by_cases hlt2 : i < ord.length
    rotate_left
    · have e1 : s.1.take i = s.1 := List.take_of_length_le (by omega)
      repeat' (first | (((with_reducible apply l_pure tabOk); exact rfl; exact rfl)) | (first | (with_reducible apply c_seq) | (with_reducible apply c_region) | (with_reducible apply l_nil) | (with_reducible apply q_then) | (with_reducible apply c_exit) | (with_reducible apply c_ret) | (with_reducible apply q_then_exit) | (with_reducible apply q_block_exit)) | (((with_reducible apply c_ifd); exact rfl; all_goals (intro hb hp; try (exfalso; omega)))))
      (apply q_ret2); (repeat (first | exact ResL.nil | (apply ResL.tmp; exact rfl)))
      refine Or.inr (Or.inr ⟨s, _, rfl, ?_, rfl, ?_⟩)
      · rw [hpk.nx, ← e1, ← hbs]; exact he
      · rw [hR, e1] at hS
        exact hS.reorder [0] (by decide) rfl
    have hRl : R.length = m := by rw [hR, List.length_map, List.length_take]; omega
    obtain ⟨kk, hkk⟩ := lt_get (l := ord) (i := i) (by omega)
    obtain ⟨o, a, hB, hs1⟩ := hO2.at_ i kk hkk
    have hrow := map_get (f := ixC) hkk
    have hrowB : (B.map imR)[kk]? = some [.string ⟨o.im.name.toArray⟩, o.vn, o.vs, o.vy, o.vr, .int .i64 o.im.entry] := map_get (f := imR) hB
    have hat := hpk.at_ i _ hs1
    have hov := hO o (List.mem_of_getElem? hB)
    have hoo := hok o (List.mem_of_getElem? hB)
    have hoe := lastEnd_le hoo
    have hen : endsN (s.1.take (i + 1)) = endsN (s.1.take i) + lastEnd o.im := by
      rw [List.take_add_one, hs1]
      simp only [Option.toList_some, endsN_app, endsN]
      omega
    have hends := ends_le (l := s.1.drop (i + 1)) fun x hx => hsok x (List.mem_of_mem_drop hx)
    have hends0 := ends_le (l := s.1.take i) fun x hx => hsok x (List.mem_of_mem_take hx)
    have hall : endsN s.1 = endsN (s.1.take (i + 1)) + endsN (s.1.drop (i + 1)) := by
      rw [← endsN_app, List.take_append_drop]
    have hnx := hpk.nx
    have hkB := lt_of_getE hB
    obtain ⟨pb, ob, hpe, hroB⟩ := hL.at_ (i := kk) hkB
    subst hpe
    have hRs : (s.1.take (i + 1)).map rbC = R ++ [rbC { o with at_ := a }] := by
      rw [List.take_add_one, hs1, hR]
      simp
    obtain ⟨I, vn, vs, vy, vr, a0⟩ := o
    replace hov : ImV w I vn vs vy vr := hov
    replace hoo : ImOk I := hoo
    replace hoe : 0 ≤ lastEnd I ∧ lastEnd I ≤ 255 := hoe
    replace hen : endsN (s.1.take (i + 1)) = endsN (s.1.take i) + lastEnd I := hen
    replace hat : a = (1 + endsN (s.1.take i)) * 16 := hat
    have ha16 : a / 16 = bs := by omega
    have hs1' := hoo.s1
    have hs3' := hoo.s3
    obtain ⟨sg, hsg⟩ : ∃ sg, I.segs.getLast? = some sg := by
      cases hl : I.segs.getLast? with
      | none => rw [List.getLast?_eq_none_iff] at hl; rw [hl] at hs1'; simp at hs1'
      | some sg => exact ⟨sg, rfl⟩
    have hle : lastEnd I = sg.pg + sg.n := by unfold lastEnd; rw [hsg]
    have hsok1 := List.all_eq_true.1 hoo.s2 sg (List.mem_of_getLast? hsg)
    unfold sgOk at hsok1
    have hsok1 := of_decide_eq_true hsok1
    have hsgr : (I.segs.map sgC)[((I.segs.length : Int) - 1).toNat]? = some (sgC sg) := by
      rw [List.getLast?_eq_getElem?] at hsg
      rw [show ((I.segs.length : Int) - 1).toNat = I.segs.length - 1 by omega]
      exact map_get (f := sgC) hsg
    have hsgs := hov.segs
    obtain ⟨pn, cn, rfl⟩ := hov.needs.len
    obtain ⟨ps, cs, rfl⟩ := hov.segs.len
    obtain ⟨py, cy, rfl⟩ := hov.syms.len
    obtain ⟨pr, cr, rfl⟩ := hov.rels.len
    obtain ⟨b2, off2, hpe2, hro2⟩ := hsgs.at_ (i := I.segs.length - 1) (by omega)
    subst hpe2
    obtain ⟨gO, hgo⟩ := hS.rowSome 1 rfl (by omega)
    subst hgo
    clear hsok hPk hA2 hO2 hok hn hsg
    unfold sgC at hsgr
    dsimp only at hrowB hRs
    by_cases h256 : bs + sg.pg + sg.n - 1 > 255
    · repeat' (first | (first | ((with_reducible apply l_add); exact rfl; exact rfl; omega; omega; exact rfl) | ((with_reducible apply l_sub); exact rfl; exact rfl; omega; omega; exact rfl) | ((with_reducible apply l_pure tabOk); exact rfl; exact rfl) | ((with_reducible apply l_load); exact rfl; (first | ((with_reducible apply Loads.sc tabOk); exact rfl; (first | exact hS.blkC 0 rfl rfl | exact hS.rowC0 1 rfl (by assumption) rfl)) | ((with_reducible apply Loads.sl tabOk); exact rfl; ((exact hS.blkC 0 rfl rfl))) | ((with_reducible apply Loads.st tabOk); exact rfl; ((exact hS.roR (by assumption) (by assumption))); exact rfl)); exact rfl) | ((with_reducible apply l_ix tabOk); exact rfl; exact rfl; exact rfl; (first | exact rfl | exact Int.toNat_of_nonneg (by omega)); ((omega)); exact rfl) | ((with_reducible apply l_build tabOk); exact rfl; exact rfl; ((exact (rfl : _ = some [_, _, _, _, _, _, _]))); exact rfl) | ((with_reducible apply l_alloc hS tabOk); exact rfl; exact rfl; exact rfl; intro g w' hS'; clear hS; have hS := hS'; clear hS') | (((with_reducible apply l_store hS tabOk (i := 0)); exact rfl; exact rfl; exact rfl; exact rfl; exact rfl; exact rfl; exact rfl; exact rfl; (first | exact (rfl : _ = [_, _, _, _, _]) | exact (rfl : _ = [_, _, _, _, _, _, _])); intro w' hS'; simp only [List.set] at hS'; clear hS; have hS := hS'; clear hS'))) | (first | (with_reducible apply c_seq) | (with_reducible apply c_region) | (with_reducible apply l_nil) | (with_reducible apply q_then) | (with_reducible apply c_skip) | (with_reducible apply c_block) | (with_reducible apply c_ret) | (with_reducible apply q_then_ret) | (with_reducible apply q_block_ret)) | (((with_reducible apply c_ifd); exact rfl; all_goals (intro hb hp; try (exfalso; omega)))))
      (apply q_ret2); (repeat (first | exact ResL.nil | (apply ResL.tmp; exact rfl)))
      exact Or.inr (Or.inl ⟨s, rfl, by omega, rfl, hS.sub (List.nil_sublist _)⟩)
    · repeat' (first | (first | ((with_reducible apply l_add); exact rfl; exact rfl; omega; omega; exact rfl) | ((with_reducible apply l_sub); exact rfl; exact rfl; omega; omega; exact rfl) | ((with_reducible apply l_pure tabOk); exact rfl; exact rfl) | ((with_reducible apply l_load); exact rfl; (first | ((with_reducible apply Loads.sc tabOk); exact rfl; (first | exact hS.blkC 0 rfl rfl | exact hS.rowC0 1 rfl (by assumption) rfl)) | ((with_reducible apply Loads.sl tabOk); exact rfl; ((exact hS.blkC 0 rfl rfl))) | ((with_reducible apply Loads.st tabOk); exact rfl; (first | exact hS.blkR 1 rfl | exact hS.roR (by assumption) (by assumption)); exact rfl)); exact rfl) | ((with_reducible apply l_ix tabOk); exact rfl; exact rfl; exact rfl; (first | exact rfl | exact Int.toNat_of_nonneg (by omega)); ((omega)); exact rfl) | ((with_reducible apply l_build tabOk); exact rfl; exact rfl; ((exact (rfl : _ = some [_, _, _, _, _, _, _]))); exact rfl) | ((with_reducible apply l_alloc hS tabOk); exact rfl; exact rfl; exact rfl; intro g w' hS'; clear hS; have hS := hS'; clear hS') | (((with_reducible apply l_store hS tabOk (i := 0)); exact rfl; exact rfl; exact rfl; exact rfl; exact rfl; exact rfl; exact rfl; exact rfl; (first | exact (rfl : _ = [_, _, _, _, _]) | exact (rfl : _ = [_, _, _, _, _, _, _])); intro w' hS'; simp only [List.set] at hS'; clear hS; have hS := hS'; clear hS')) | ((with_reducible apply l_bslice hS tabOk); exact rfl; exact rfl; exact rfl; exact rfl; exact rfl; exact rfl; exact rfl; intro g w' hS'; clear hS; have hS := hS'; clear hS')) | (first | (with_reducible apply c_seq) | (with_reducible apply c_region) | (with_reducible apply l_nil) | (with_reducible apply q_then) | (with_reducible apply c_skip) | (with_reducible apply c_block) | (with_reducible apply q_block)) | (((with_reducible apply c_ifd); exact rfl; all_goals (intro hb hp; try (exfalso; omega)))) | ((with_reducible apply l_append hS tabOk 3); exact rfl; exact rfl; exact rfl; exact rfl; exact hS.rowRo 0 rfl; exact rfl; ((omega)); exact rfl; intro p' cap' w' hS'; simp only [List.set] at hS'; clear hS; have hS := hS'; clear hS'))
      replace hS := St.reorder [3, 4] hS (by decide) rfl
      have e1 : R.length + 1 = m + 1 := by omega
      refine q_loopK (i + 1, bs + sg.pg + sg.n, (p', R.length + 1, cap'), _) (by repeat (first | exact Fr.sub_nil _ | (apply Fr.sub_cons; exact rfl))) ⟨by show i + 1 ≤ _; omega, by show bs + sg.pg + sg.n = 1 + endsN (s.1.take (i + 1)); omega, by show bs + sg.pg + sg.n ≤ 256; omega, ?_, by show R.length + 1 = i + 1; omega⟩ hS (by show _ - (i + 1) < _ - i; omega)
      show _ = (s.1.take (i + 1)).map rbC
      rw [hRs]
      unfold rbC
      dsimp only
      rw [ha16]
  obtain ⟨kk, hkk⟩ := lt_get (l := ord) (i := n) (by omega)
  obtain ⟨o, a, hB, hs1⟩ := hO2.at_ n kk hkk
  have hrow := map_get (f := ixC) hkk
  have hrowB : (B.map imR)[kk]? = some [.string ⟨o.im.name.toArray⟩, o.vn, o.vs, o.vy, o.vr, .int .i64 o.im.entry] := map_get (f := imR) hB
  have hkB := lt_of_getE hB
  have hov := hO o (List.mem_of_getElem? hB)
  have hR3 : R = match needsP B o.im.needs s with
      | none => none
      | some s' => allP B (8 - (n + 1)) (n + 1) s' := by
    rw [hR2, show 8 - n = (8 - (n + 1)) + 1 by omega]
    show (match s.1[n]? with
      | none => some s
      | some o => match needsP B o.im.needs s with
        | none => none
        | some s' => allP B (8 - (n + 1)) (n + 1) s') = _
    rw [hs1]
  clear hR2
  obtain ⟨J, un, us, uy, ur, at_⟩ := o
  replace hov : ImV w J un us uy ur := hov
  dsimp only at hR3 hrowB
  have hnd := hov.needs
  have hbn := hov.needs.bound
  obtain ⟨qn, dn, rfl⟩ := hov.needs.len
  obtain ⟨pb, ob, hpe, hroB⟩ := hL.at_ (i := kk) hkB
  subst hpe
  obtain ⟨gO, hgo⟩ := hS.rowSome 0 rfl (by omega)
  subst hgo
  clear hs1 hB hov
  unfold ixC at hrow
  repeat' (first | (first | ((with_reducible apply l_pure tabOk); exact rfl; exact rfl) | ((with_reducible apply l_load); exact rfl; (first | ((with_reducible apply Loads.sc tabOk); exact rfl; ((exact hS.rowC0 0 rfl (by assumption) rfl))) | ((with_reducible apply Loads.sl tabOk); exact rfl; ((exact hS.roC (by assumption) (by assumption) rfl)))); exact rfl) | ((with_reducible apply l_ix tabOk); exact rfl; exact rfl; exact rfl; ((exact rfl)); ((omega)); exact rfl)) | (first | (with_reducible apply c_seq) | (with_reducible apply c_region) | (with_reducible apply l_nil) | (with_reducible apply q_then) | (with_reducible apply c_skip) | (with_reducible apply c_block)) | (((with_reducible apply c_ifd); exact rfl; all_goals (intro hb hp; try (exfalso; omega)))))
  refine c_loopK (Γ := []) (X := Nat × List Nat × (Option Addr × Nat) × (List Ob × Int)) (fun x => [(7, .int .i64 (x.1 : Nat)), (4, .slice x.2.2.1.1 x.2.1.length x.2.2.1.2)]) [0, 5, 6] rfl (fun x => [.row 3 1 (.slice x.2.2.1.1 x.2.1.length x.2.2.1.2) (x.2.1.map ixC)]) (fun x => OrdI B x.2.1 x.2.2.2 ∧ AllI B x.2.2.2 ∧ needsP B J.needs s = needsP B (J.needs.drop x.1) x.2.2.2 ∧ n < x.2.2.2.1.length ∧ x.1 ≤ J.needs.length) (fun x => J.needs.length - x.1) (0, ord, (some ⟨gO, 0, none⟩, co), s) (by repeat (first | exact Fr.sub_nil _ | (apply Fr.sub_cons; exact rfl))) ⟨hO2, hA2, rfl, by show n < s.1.length; omega, Nat.zero_le _⟩ hS ?_
  clear hS hO2 hA2 hrow hrowB hkk hlt hn2 hlen hol
  rintro ⟨k, od, ⟨q3, c3⟩, s3⟩ w3 ⟨hO3, hA3, hN3, hn3, hk3⟩ hS
  dsimp only [List.cons_append, List.nil_append] at hO3 hA3 hN3 hn3 hk3 hS ⊢
  have hlen3 := hA3.len
  have hol3 := hO3.len
  by_cases hkt : k < J.needs.length
  rotate_left
  · rw [List.drop_of_length_le (by omega)] at hN3
    rw [hN3] at hR3
    replace hR3 : R = allP B (8 - (n + 1)) (n + 1) s3 := hR3
    repeat' (first | (first | ((with_reducible apply l_add); exact rfl; exact rfl; omega; omega; exact rfl) | ((with_reducible apply l_pure tabOk); exact rfl; exact rfl)) | (first | (with_reducible apply c_seq) | (with_reducible apply c_region) | (with_reducible apply l_nil) | (with_reducible apply q_then) | (with_reducible apply c_exit) | (with_reducible apply q_then_exit) | (with_reducible apply q_block) | (with_reducible apply q_block_exit)) | (((with_reducible apply c_ifd); exact rfl; all_goals (intro hb hp; try (exfalso; omega)))))
    exact q_loopK (n + 1, od, (q3, c3), s3) (by repeat (first | exact Fr.sub_nil _ | (apply Fr.sub_cons; exact rfl))) ⟨hO3, hA3, hR3, by show n + 1 ≤ s3.1.length; omega⟩ hS (by show 8 - (n + 1) < 8 - n; omega)
  obtain ⟨nm, hnm⟩ := lt_get (l := J.needs) (i := k) (by omega)
  have hrow := map_get (f := stC) hnm
  obtain ⟨b2, off2, rfl, hro2⟩ := hnd.at_ (i := k) hkt
  rw [needsP_step hnm] at hN3
  unfold stC at hrow
  have hfi := fun w (h : Sl nF w 6 (.slice (some ⟨pb, ob, none⟩) B.length c) (B.map imR)) => find_fn nm h
  cases hlk : lookB B nm with
  | none =>
    rw [hlk] at hN3
    replace hN3 : needsP B J.needs s = none := hN3
    rw [hN3] at hR3
    replace hR3 : R = none := hR3
    simp only [findO_none hlk] at hfi
    repeat' (first | (first | ((with_reducible apply l_pure tabOk); exact rfl; exact rfl) | ((with_reducible apply l_load); exact rfl; (((with_reducible apply Loads.sc tabOk); exact rfl; ((exact hS.roC0 (by assumption) (by assumption) rfl)))); exact rfl) | ((with_reducible apply l_ix tabOk); exact rfl; exact rfl; exact rfl; ((exact rfl)); ((omega)); exact rfl)) | (first | (with_reducible apply c_seq) | (with_reducible apply c_region) | (with_reducible apply l_nil) | (with_reducible apply q_then) | (with_reducible apply c_skip) | (with_reducible apply c_block) | (with_reducible apply c_ret) | (with_reducible apply q_then_ret) | (with_reducible apply q_block_ret)) | (first | ((with_reducible apply c_ift); exact rfl; (exact rfl)) | ((with_reducible apply c_ifd); exact rfl; all_goals (intro hb hp; try (exfalso; omega)))) | ((with_reducible apply l_call); exact rfl; exact rfl; exact hfi _ (hL.now hS); exact rfl; rintro _ w' ⟨rfl, hS'⟩; replace hS := hS.transA hS'; simp only [appA] at hS; clear hS'))
    (apply q_ret2); (repeat (first | exact ResL.nil | (apply ResL.tmp; exact rfl)))
    exact Or.inl ⟨hR3, rfl, hS.sub (List.nil_sublist _)⟩
  | some y =>
    rw [hlk] at hN3
    replace hN3 : needsP B J.needs s = needsP B (J.needs.drop (k + 1)) (plStep s3 y) := hN3
    obtain ⟨ky, hky, hBy⟩ := findO_some hlk
    obtain ⟨hy, hyn⟩ := lookB_mem hlk
    have hyo := hok _ hy
    have hA4 := hA3.step hy hyo
    have hpl := plStep_len s3 y
    simp only [hky] at hfi
    repeat' (first | (first | ((with_reducible apply l_pure tabOk); exact rfl; exact rfl) | ((with_reducible apply l_load); exact rfl; (((with_reducible apply Loads.sc tabOk); exact rfl; ((exact hS.roC0 (by assumption) (by assumption) rfl)))); exact rfl) | ((with_reducible apply l_ix tabOk); exact rfl; exact rfl; exact rfl; ((exact rfl)); ((omega)); exact rfl)) | (first | (with_reducible apply c_seq) | (with_reducible apply c_region) | (with_reducible apply l_nil) | (with_reducible apply q_then) | (with_reducible apply c_skip) | (with_reducible apply c_block)) | (first | ((with_reducible apply c_iff); exact rfl; (exact rfl)) | ((with_reducible apply c_ifd); exact rfl; all_goals (intro hb hp; try (exfalso; omega)))) | ((with_reducible apply l_call); exact rfl; exact rfl; exact hfi _ (hL.now hS); exact rfl; rintro _ w' ⟨rfl, hS'⟩; replace hS := hS.transA hS'; simp only [appA] at hS; clear hS'))
    refine c_loopK (X := Nat × Bool) (fun x => [(10, .int .i64 (x.1 : Nat)), (9, .bool x.2)]) [0, 5, 6, 7, 4, 8] rfl (fun _ => []) (fun x => x.1 ≤ od.length ∧ x.2 = decide (ky ∈ od.take x.1)) (fun x => od.length - x.1) (0, false) (by repeat (first | exact Fr.sub_nil _ | (apply Fr.sub_cons; exact rfl))) ⟨Nat.zero_le _, by simp⟩ hS ?_
    clear hS
    rintro ⟨j, bb⟩ w4 ⟨hj, hbb⟩ hS
    dsimp only [List.cons_append, List.nil_append] at hj hbb hS ⊢
    by_cases hjt : j < od.length
    · obtain ⟨x, hx⟩ := lt_get (l := od) (i := j) (by omega)
      have hrowx := map_get (f := ixC) hx
      unfold ixC at hrowx
      obtain ⟨gO2, hgo2⟩ := hS.rowSome 0 rfl (by omega)
      subst hgo2
      have hms := take_mem_succ (kk := ky) hx
      have hmd : decide (ky ∈ od.take (j + 1)) = (bb || decide ((x : Int) = (ky : Int))) := by
        have h3 : ((x : Int) = (ky : Int)) ↔ x = ky := by omega
        rw [hbb]
        by_cases h1 : ky ∈ od.take j <;> by_cases h2 : x = ky <;> simp [hms, h1, h2, h3]
      clear hbb
      cases bb with
      | true =>
        repeat' (first | (first | ((with_reducible apply l_add); exact rfl; exact rfl; omega; omega; exact rfl) | ((with_reducible apply l_pure tabOk); exact rfl; exact rfl) | (first | ((with_reducible apply l_no); exact rfl; exact rfl; exact rfl; exact rfl; ((exact rfl)); exact rfl) | ((with_reducible apply l_pick1); exact rfl; ((exact rfl)); exact rfl; exact rfl))) | (first | (with_reducible apply c_seq) | (with_reducible apply c_region) | (with_reducible apply l_nil) | (with_reducible apply q_then) | (with_reducible apply c_skip) | (with_reducible apply c_block) | (with_reducible apply q_block)) | (((with_reducible apply c_ifd); exact rfl; all_goals (intro hb hp; try (exfalso; omega)))))
        exact q_loopK (j + 1, true) (by repeat (first | exact Fr.sub_nil _ | (apply Fr.sub_cons; exact rfl))) ⟨by show j + 1 ≤ _; omega, hmd.symm⟩ hS (by show _ - (j + 1) < _ - j; omega)
      | false =>
        repeat' (first | (first | ((with_reducible apply l_add); exact rfl; exact rfl; omega; omega; exact rfl) | ((with_reducible apply l_pure tabOk); exact rfl; exact rfl) | ((with_reducible apply l_load); exact rfl; (((with_reducible apply Loads.sc tabOk); exact rfl; ((exact hS.rowC0 0 rfl (by assumption) rfl)))); exact rfl) | ((with_reducible apply l_ix tabOk); exact rfl; exact rfl; exact rfl; ((exact rfl)); ((omega)); exact rfl) | (first | ((with_reducible apply l_yes); exact rfl; exact rfl; exact rfl; exact rfl; (exact rfl)) | ((with_reducible apply l_pick2); exact rfl; ((exact rfl)); exact rfl; exact rfl))) | (first | (with_reducible apply c_seq) | (with_reducible apply c_region) | (with_reducible apply l_nil) | (with_reducible apply q_then) | (with_reducible apply c_skip) | (with_reducible apply c_block) | (with_reducible apply q_block)) | (((with_reducible apply c_ifd); exact rfl; all_goals (intro hb hp; try (exfalso; omega)))))
        exact q_loopK (j + 1, _) (by repeat (first | exact Fr.sub_nil _ | (apply Fr.sub_cons; exact rfl))) ⟨by show j + 1 ≤ _; omega, hmd.symm⟩ hS (by show _ - (j + 1) < _ - j; omega)
    · rw [List.take_of_length_le (by omega)] at hbb
      by_cases hm : ky ∈ od
      · rw [decide_eq_true hm] at hbb
        subst hbb
        repeat' (first | (first | ((with_reducible apply l_add); exact rfl; exact rfl; omega; omega; exact rfl) | ((with_reducible apply l_pure tabOk); exact rfl; exact rfl)) | (first | (with_reducible apply c_seq) | (with_reducible apply c_region) | (with_reducible apply l_nil) | (with_reducible apply q_then) | (with_reducible apply c_skip) | (with_reducible apply c_exit) | (with_reducible apply q_then_exit) | (with_reducible apply q_block) | (with_reducible apply q_block_exit)) | (first | ((with_reducible apply c_iff); exact rfl; (exact rfl)) | ((with_reducible apply c_ifd); exact rfl; all_goals (intro hb hp; try (exfalso; omega)))))
        exact q_loopK (k + 1, od, (q3, c3), plStep s3 y) (by repeat (first | exact Fr.sub_nil _ | (apply Fr.sub_cons; exact rfl))) ⟨hO3.old hn hBy hm, hA4, hN3, Nat.lt_of_lt_of_le hn3 hpl, by show k + 1 ≤ _; omega⟩ hS (by show _ - (k + 1) < _ - k; omega)
      · rw [decide_eq_false hm] at hbb
        subst hbb
        repeat' (first | (first | ((with_reducible apply l_add); exact rfl; exact rfl; omega; omega; exact rfl) | ((with_reducible apply l_pure tabOk); exact rfl; exact rfl) | ((with_reducible apply l_bslice hS tabOk); exact rfl; exact rfl; exact rfl; exact rfl; exact rfl; exact rfl; exact rfl; intro g w' hS'; clear hS; have hS := hS'; clear hS')) | (first | (with_reducible apply c_seq) | (with_reducible apply c_region) | (with_reducible apply l_nil) | (with_reducible apply q_then) | (with_reducible apply c_exit) | (with_reducible apply q_then_exit) | (with_reducible apply q_block) | (with_reducible apply q_block_exit)) | (first | ((with_reducible apply c_ift); exact rfl; (exact rfl)) | ((with_reducible apply c_ifd); exact rfl; all_goals (intro hb hp; try (exfalso; omega)))) | ((with_reducible apply l_append hS tabOk 1); exact rfl; exact rfl; exact rfl; exact rfl; exact hS.rowRo 0 rfl; exact rfl; ((simp only [List.length_map, List.length_cons, List.length_nil, List.length_append]; omega)); exact rfl; intro p' cap' w' hS'; simp only [List.set] at hS'; clear hS; have hS := hS'; clear hS'))
        have hS2 : St nF w w' (.row 3 1 (.slice p' (od ++ [ky]).length cap') ((od ++ [ky]).map ixC) :: []) := by
          rw [List.length_map] at hS
          rw [List.length_append, List.map_append]
          exact hS.reorder [1] (by decide) rfl
        have e1 : Value.slice p' ((od.map ixC).length + 1) cap' = Value.slice p' (od ++ [ky]).length cap' := by rw [List.length_append, List.length_map]; rfl
        refine q_loopK (k + 1, od ++ [ky], (p', cap'), plStep s3 y) ?_ ⟨hO3.new hn hBy hm, hA4, hN3, Nat.lt_of_lt_of_le hn3 hpl, by show k + 1 ≤ _; omega⟩ hS2 (by show _ - (k + 1) < _ - k; omega)
        dsimp only [List.cons_append, List.nil_append]
        rw [← e1]
        repeat (first | exact Fr.sub_nil _ | (apply Fr.sub_cons; exact rfl))
end Go.Proofs.Ytejnpppejalhfab
/- The reference's LinkError. -/
namespace Go.Proofs.Ytejnpppejalhfab
open Go.RowKit Go.Sort
noncomputable def linkB (B : List Ob) (R : Option (List Ob × Int)) : Int :=
  match B.find? (fun o => !decide (checkIm o.im = 0)) with
    | some o => checkIm o.im
    | none => if (B.map fun o => o.im.name).Nodup then
        match R with
        | none => 6
        | some s => if s.2 > 256 then 3 else if symsAll (obP s.1) s.1 = true then 0 else 7
      else 5
theorem linkC_eq {M : Ob} {Lb : List Ob} (h6 : ¬ 6 < Lb.length) : linkC M Lb = linkB (M :: Lb) (allP (M :: Lb) 8 0 (plStep ([], 1) M)) := by
  unfold linkC linkB
  rw [if_neg h6]
  rfl
theorem dup_iff (l : List (List UInt8)) : Dup l ↔ ¬ l.Nodup := by
  unfold Dup List.Nodup
  rw [List.pairwise_iff_getElem]
  constructor
  · rintro ⟨i, j, x, hji, hi, hj⟩ h
    obtain ⟨h1, h2⟩ := List.getElem?_eq_some_iff.1 hi
    obtain ⟨h3, h4⟩ := List.getElem?_eq_some_iff.1 hj
    exact h j i h3 h1 hji (h4.trans h2.symm)
  · intro h
    refine Classical.byContradiction fun hc => h fun i j hi hj hij he => hc ⟨j, i, l[j], hij, by simp, ?_⟩
    rw [← he]
    simp
theorem adrT_some {os : List (Im × Int)} {at_ : Int} {r : Rl} : (adrT os at_ r).isSome = (bytesOf os at_ r).isSome := by
  rw [bytesOf_adr]
  cases adrT os at_ r <;> rfl
/-- what is known of objects that are placed -/
structure ObsI (w : World) (os : List Ob) : Prop where
  v : ∀ o ∈ os, ObV w o
  b : ∀ o ∈ os, ∃ b : Int, o.at_ = b * 16 ∧ 1 ≤ b ∧ b ≤ 1800
  y : ∀ o ∈ os, ∀ s ∈ o.im.syms, -9223372036854775808 ≤ o.at_ + s.at_ ∧ o.at_ + s.at_ ≤ 9223372036854775807
  n : os.length ≤ 7
  k : ∀ o ∈ os, checkIm o.im = 0
theorem ObsI.now {w w' : World} {os : List Ob} {Γ : List Asr} (h : ObsI w os) (hS : St nF w w' Γ) : ObsI w' os := ⟨fun o ho => (h.v o ho).now hS, h.b, h.y, h.n, h.k⟩
theorem obsI_of {w : World} {B : List Ob} {s : List Ob × Int} (hO : ∀ o ∈ B, ObV w o) (hk : ∀ o ∈ B, checkIm o.im = 0) (hl : B.length ≤ 7) (hA : AllI B s) (hp : PkI s) : ObsI w s.1 := by
  have hz : ∀ o ∈ s.1, ObV w o ∧ checkIm o.im = 0 := fun o ho => by
    obtain ⟨a, ha⟩ := hA.sub o ho
    have h1 := hO { o with at_ := a } ha
    exact ⟨⟨h1.needs, h1.segs, h1.syms, h1.rels⟩, hk { o with at_ := a } ha⟩
  have hn : s.1.length ≤ 7 := Nat.le_trans hA.len hl
  have hb : ∀ o ∈ s.1, ∃ b : Int, o.at_ = b * 16 ∧ 1 ≤ b ∧ b ≤ 1800 := fun o ho => by
    obtain ⟨q, hq⟩ := List.mem_iff_getElem?.1 ho
    have q1 : o.at_ = (1 + endsN (s.1.take q)) * 16 := hp.at_ q o hq
    have q2 := ends_le (l := s.1.take q) fun x hx => (check_zeroL (hz x (List.mem_of_mem_take hx)).2).1
    rw [List.length_take] at q2
    exact ⟨1 + endsN (s.1.take q), q1, by omega, by omega⟩
  refine ⟨fun o ho => (hz o ho).1, hb, fun o ho y hy => ?_, hn, fun o ho => (hz o ho).2⟩
  obtain ⟨b, hb1, hb2, hb3⟩ := hb o ho
  obtain ⟨sg, hsg⟩ := Option.isSome_iff_exists.1 ((check_zeroL (hz o ho).2).2.2.2.syms y hy)
  have q3 := own_small (check_zeroL (hz o ho).2).1.s2 hsg
  omega
theorem allP_all {B : List Ob} {M : Ob} {s : List Ob × Int} (hM : M ∈ B) (hk : ∀ o ∈ B, checkIm o.im = 0) (h : allP B 8 0 (plStep ([], 1) M) = some s) : AllI B s ∧ PkI s := by
  have hA0 : AllI B ([], 1) := ⟨by simp, by simp, by simp, by simp⟩
  exact ⟨allP_inv (Inv := AllI B) (fun s o h ho => h.step ho (check_zeroL (hk o ho)).1) h (hA0.step hM (check_zeroL (hk M hM)).1), allP_inv (Inv := PkI) (fun s o h _ => h.step o) h (PkI.start.step _)⟩
set_option maxRecDepth 100000 in
set_option maxHeartbeats 8000000 in
theorem LinkError_fn {w : World} {M : Ob} {Lb : List Ob} {vl : Value} (hM : ObV w M) (hL : Sl nF w 6 vl (Lb.map imR)) (hLo : ∀ o ∈ Lb, ObV w o) (hB : ∀ o ∈ M :: Lb, ImB o.im ∧ ImD o.im) : Fn Try.prog 14 [imgV M, vl] w (RBf (.int .i64 (linkC M Lb)) w) := by
  have hbl := hL.bound
  obtain ⟨pl, cl, rfl⟩ := hL.len
  have hall : ∀ o ∈ M :: Lb, ObV w o := fun o ho => by
    rcases List.mem_cons.1 ho with rfl | h
    · exact hM
    · exact hLo o h
  have hM1 := hM
  obtain ⟨I, vn, vs, vy, vr, a0⟩ := M
  replace hM1 : ImV w I vn vs vy vr := hM1
  obtain ⟨pn, cn, rfl⟩ := hM1.needs.len
  obtain ⟨ps, cs, rfl⟩ := hM1.segs.len
  obtain ⟨py, cy, rfl⟩ := hM1.syms.len
  obtain ⟨pr, cr, rfl⟩ := hM1.rels.len
  refine fn_enter (fn := Try.f14) ⟨Try.func14, by kernel_rfl, by kernel_rfl⟩ (by exact rfl) Try.ntmps14 (by exact rfl) ?_
  have hS := St.start w
  show WC _ _ _ _ _ [(0, .agg [.string ⟨I.name.toArray⟩, .slice pn I.needs.length cn, .slice ps I.segs.length cs, .slice py I.syms.length cy, .slice pr I.rels.length cr, .int .i64 I.entry].toArray), (1, .slice pl Lb.length cl)] _
  by_cases h6 : 6 < Lb.length
  · repeat' (first | (first | ((with_reducible apply l_pure tabOk); exact rfl; exact rfl) | ((with_reducible apply l_box hS); exact rfl; exact rfl; exact rfl; intro g w' hS'; clear hS; have hS := hS'; clear hS')) | (first | (with_reducible apply c_seq) | (with_reducible apply c_region) | (with_reducible apply l_nil) | (with_reducible apply q_then) | (with_reducible apply c_ret) | (with_reducible apply q_then_ret)) | (((with_reducible apply c_ifd); exact rfl; all_goals (intro hb hp; try (exfalso; omega)))))
    (apply q_ret1); (repeat (first | exact ResL.nil | (apply ResL.tmp; exact rfl)))
    refine ⟨?_, hS.sub (List.nil_sublist _)⟩
    unfold linkC
    rw [if_pos h6]
  rw [linkC_eq h6]
  repeat' (first | (first | ((with_reducible apply l_pure tabOk); exact rfl; exact rfl) | ((with_reducible apply l_load); exact rfl; (((with_reducible apply Loads.st tabOk); exact rfl; ((exact hS.blkR 0 rfl)); exact rfl)); exact rfl) | ((with_reducible apply l_box hS); exact rfl; exact rfl; exact rfl; intro g w' hS'; clear hS; have hS := hS'; clear hS') | ((with_reducible apply l_bslice hS tabOk); exact rfl; exact rfl; exact rfl; exact rfl; exact rfl; exact rfl; exact rfl; intro g w' hS'; clear hS; have hS := hS'; clear hS')) | (first | (with_reducible apply c_seq) | (with_reducible apply c_region) | (with_reducible apply l_nil) | (with_reducible apply q_then) | (with_reducible apply c_skip) | (with_reducible apply c_block)) | (((with_reducible apply c_ifd); exact rfl; all_goals (intro hb hp; try (exfalso; omega)))) | ((with_reducible apply l_appendSl hS tabOk 0); exact rfl; exact rfl; exact rfl; exact rfl; exact hL.now hS; ((simp only [List.length_map, List.length_cons, List.length_nil, List.length_append]; omega)); exact rfl; intro p' cap' w' hS'; simp only [List.set] at hS'; clear hS; have hS := hS'; clear hS'))
  obtain ⟨B, hBe⟩ : ∃ B, B = (⟨I, .slice pn I.needs.length cn, .slice ps I.segs.length cs, .slice py I.syms.length cy, .slice pr I.rels.length cr, a0⟩ : Ob) :: Lb := ⟨_, rfl⟩
  have hBl : B.length = Lb.length + 1 := by rw [hBe]; rfl
  generalize hm : (_ : List (List Value)).length + (Lb.map imR).length = m at hS ⊢
  obtain rfl : m = B.length := by rw [hBl, ← hm, List.length_map]; simp only [List.length_cons, List.length_nil]; omega
  replace hS : St nF w w' (.row 27 6 (.slice p' B.length cap') (B.map imR) :: []) := by
    rw [hBe] at hS ⊢
    exact hS.sub (List.Sublist.cons_cons _ (List.nil_sublist _))
  have hallB : ∀ o ∈ B, ObV w o := by rw [hBe]; exact hall
  have hBB : ∀ o ∈ B, ImB o.im ∧ ImD o.im := by rw [hBe]; exact hB
  have hB0 : B[0]? = some (⟨I, .slice pn I.needs.length cn, .slice ps I.segs.length cs, .slice py I.syms.length cy, .slice pr I.rels.length cr, a0⟩ : Ob) := by rw [hBe]; rfl
  rw [← hBe]
  have hob := fun w (vl : Value) (h1 : Sl nF w 6 vl (B.map imR)) (h2 : ∀ o ∈ B, ObV w o) (h3 : ∀ o ∈ B, checkIm o.im = 0) (h4 : (B.map fun o => o.im.name).Nodup) => objects_fn h1 hB0 h2 (fun o ho => (check_zeroL (h3 o ho)).1) h4 (by omega)
  have hin := fun s (h3 : ∀ o ∈ B, checkIm o.im = 0) (h : allP B 8 0 (plStep ([], 1) _) = some s) => allP_all (List.mem_of_getElem? hB0) h3 h
  generalize plStep ([], 1) _ = s1 at hob hin ⊢
  clear hBe hB hall hm hM hM1 hLo hL hB0
  replace hS := hS.addNil 9 1
  refine c_loopK (X := Nat × (Option Addr × Nat × Nat) × List (List Value)) (fun x => [(7, .int .i64 (x.1 : Nat)), (6, .slice x.2.1.1 x.2.1.2.1 x.2.1.2.2)]) [5] rfl (fun x => [.row 9 1 (.slice x.2.1.1 x.2.1.2.1 x.2.1.2.2) x.2.2]) (fun x => x.1 ≤ B.length ∧ x.2.1.2.1 = x.1 ∧ x.2.2 = ((B.take x.1).map fun o => o.im.name).map stC ∧ ∀ o ∈ B.take x.1, (!decide (checkIm o.im = 0)) = false) (fun x => B.length - x.1) (0, (none, 0, 0), []) (by repeat (first | exact Fr.sub_nil _ | (apply Fr.sub_cons; exact rfl))) ⟨Nat.zero_le _, rfl, rfl, by simp⟩ hS ?_
  clear hS
  rintro ⟨i, ⟨q, m, d⟩, R⟩ w7 ⟨hi, hm, hR, hck⟩ hS
  dsimp only [List.cons_append, List.nil_append] at hi hm hR hck hS ⊢
  by_cases hlt : i < B.length
  · obtain ⟨o, ho⟩ := lt_get (l := B) (i := i) (by omega)
    have hrow : (B.map imR)[i]? = some [.string ⟨o.im.name.toArray⟩, o.vn, o.vs, o.vy, o.vr, .int .i64 o.im.entry] := map_get (f := imR) ho
    have hov := hallB o (List.mem_of_getElem? ho)
    have hob2 := hBB o (List.mem_of_getElem? ho)
    have hRl : R.length = m := by rw [hR, List.length_map, List.length_map, List.length_take]; omega
    obtain ⟨gu, hgu⟩ := hS.rowSome 1 rfl (by omega)
    subst hgu
    have hRs : ((B.take (i + 1)).map fun o => o.im.name).map stC = R ++ [[.string ⟨o.im.name.toArray⟩]] := by
      rw [List.take_add_one, ho, hR]
      simp [stC]
    by_cases hc0 : checkIm o.im = 0
    rotate_left
    · have hd : (!decide (checkIm o.im = 0)) = true := by rw [decide_eq_false hc0]; rfl
      have hfind := find_first (p := fun o => !decide (checkIm o.im = 0)) hck ho hd
      have e : linkB B (allP B 8 0 s1) = checkIm o.im := by
        unfold linkB
        rw [hfind]
      rw [e]
      obtain ⟨J, un, us, uy, ur, a1⟩ := o
      replace hov : ImV w J un us uy ur := hov
      dsimp only at hrow hd hob2 ⊢
      obtain ⟨qn, en, rfl⟩ := hov.needs.len
      obtain ⟨qs, es_, rfl⟩ := hov.segs.len
      obtain ⟨qy, ey, rfl⟩ := hov.syms.len
      obtain ⟨qr, er, rfl⟩ := hov.rels.len
      repeat' (first | (first | ((with_reducible apply l_pure tabOk); exact rfl; exact rfl) | ((with_reducible apply l_load); exact rfl; (((with_reducible apply Loads.st tabOk); exact rfl; ((exact hS.rowR 1 rfl (by assumption))); exact rfl)); exact rfl) | ((with_reducible apply l_ix tabOk); exact rfl; exact rfl; exact rfl; ((exact rfl)); ((omega)); exact rfl)) | (first | (with_reducible apply c_seq) | (with_reducible apply c_region) | (with_reducible apply l_nil) | (with_reducible apply q_then) | (with_reducible apply c_skip) | (with_reducible apply c_block) | (with_reducible apply c_ret) | (with_reducible apply q_then_ret) | (with_reducible apply q_block_ret)) | (first | ((with_reducible apply c_ift); exact rfl; (assumption)) | ((with_reducible apply c_ifd); exact rfl; all_goals (intro hb hp; try (exfalso; omega)))) | ((with_reducible apply l_call); exact rfl; exact rfl; exact CheckImage_fn (hov.now hS) hob2.1 hob2.2; exact rfl; rintro _ w' ⟨rfl, hS'⟩; replace hS := hS.transA hS'; simp only [appA] at hS; clear hS'))
      (apply q_ret1); (repeat (first | exact ResL.nil | (apply ResL.tmp; exact rfl)))
      exact ⟨rfl, hS.sub (List.nil_sublist _)⟩
    have hd : (!decide (checkIm o.im = 0)) = false := by rw [decide_eq_true hc0]; rfl
    have hck2 : ∀ x ∈ B.take (i + 1), (!decide (checkIm x.im = 0)) = false := by
      rw [List.take_add_one, ho]
      intro x hx
      rcases List.mem_append.1 hx with h | h
      · exact hck x h
      · obtain rfl : x = o := by simpa using h
        exact hd
    obtain ⟨J, un, us, uy, ur, a1⟩ := o
    replace hov : ImV w J un us uy ur := hov
    dsimp only at hrow hd hob2 hRs
    obtain ⟨qn, en, rfl⟩ := hov.needs.len
    obtain ⟨qs, es_, rfl⟩ := hov.segs.len
    obtain ⟨qy, ey, rfl⟩ := hov.syms.len
    obtain ⟨qr, er, rfl⟩ := hov.rels.len
    repeat' (first | (first | ((with_reducible apply l_add); exact rfl; exact rfl; omega; omega; exact rfl) | ((with_reducible apply l_pure tabOk); exact rfl; exact rfl) | ((with_reducible apply l_load); exact rfl; (first | ((with_reducible apply Loads.sc tabOk); exact rfl; ((exact hS.rowC0 1 rfl (by assumption) rfl))) | ((with_reducible apply Loads.st tabOk); exact rfl; ((exact hS.rowR 1 rfl (by assumption))); exact rfl)); exact rfl) | ((with_reducible apply l_ix tabOk); exact rfl; exact rfl; exact rfl; ((exact rfl)); ((omega)); exact rfl) | ((with_reducible apply l_bslice hS tabOk); exact rfl; exact rfl; exact rfl; exact rfl; exact rfl; exact rfl; exact rfl; intro g w' hS'; clear hS; have hS := hS'; clear hS')) | (first | (with_reducible apply c_seq) | (with_reducible apply c_region) | (with_reducible apply l_nil) | (with_reducible apply q_then) | (with_reducible apply c_skip) | (with_reducible apply c_block) | (with_reducible apply q_block)) | (first | ((with_reducible apply c_iff); exact rfl; (assumption)) | ((with_reducible apply c_ifd); exact rfl; all_goals (intro hb hp; try (exfalso; omega)))) | ((with_reducible apply l_call); exact rfl; exact rfl; exact CheckImage_fn (hov.now hS) hob2.1 hob2.2; exact rfl; rintro _ w' ⟨rfl, hS'⟩; replace hS := hS.transA hS'; simp only [appA] at hS; clear hS') | ((with_reducible apply l_append hS tabOk 1); exact rfl; exact rfl; exact rfl; exact rfl; exact hS.rowRo 0 rfl; exact rfl; ((omega)); exact rfl; intro p' cap' w' hS'; simp only [List.set] at hS'; clear hS; have hS := hS'; clear hS'))
    replace hS := St.reorder [1, 2] hS (by decide) rfl
    exact q_loopK (i + 1, (p', R.length + 1, cap'), _) (by repeat (first | exact Fr.sub_nil _ | (apply Fr.sub_cons; exact rfl))) ⟨by show i + 1 ≤ _; omega, by show R.length + 1 = i + 1; omega, hRs.symm, hck2⟩ hS (by show _ - (i + 1) < _ - i; omega)
  obtain rfl : i = B.length := by omega
  rw [List.take_of_length_le (Nat.le_refl _)] at hck hR
  have hfn : B.find? (fun o => !decide (checkIm o.im = 0)) = none := by
    rw [List.find?_eq_none]
    intro x hx
    rw [hck x hx]
    simp
  have hckB : ∀ o ∈ B, checkIm o.im = 0 := fun o ho => by
    have := hck o ho
    exact Classical.byContradiction fun hc => by rw [decide_eq_false hc] at this; cases this
  obtain ⟨qq, dd, hqd⟩ := hS.rowSlice 0 rfl
  subst hR
  have hdup := dup_iff (B.map fun o => o.im.name)
  by_cases hnd : (B.map fun o => o.im.name).Nodup
  rotate_left
  · have e : linkB B (allP B 8 0 s1) = 5 := by
      unfold linkB
      rw [hfn]
      dsimp only
      rw [if_neg hnd]
    rw [e]
    have hpb : pB (Dup (B.map fun o => o.im.name)) = true := pB_true (hdup.2 hnd)
    have hal : ∀ w, Sl nF w 1 (.slice q m d) ((B.map fun o => o.im.name).map stC) → Fn Try.prog 50 [.slice q m d] w (RBf (.bool true) w) := fun w h => Fn.eqv (eb _ hpb) (alike_fn h)
    repeat' (first | (((with_reducible apply l_pure tabOk); exact rfl; exact rfl)) | (first | (with_reducible apply c_seq) | (with_reducible apply c_region) | (with_reducible apply l_nil) | (with_reducible apply q_then) | (with_reducible apply c_exit) | (with_reducible apply c_ret) | (with_reducible apply q_then_exit) | (with_reducible apply q_then_ret) | (with_reducible apply q_block_exit)) | (first | ((with_reducible apply c_ift); exact rfl; (exact rfl)) | ((with_reducible apply c_ifd); exact rfl; all_goals (intro hb hp; try (exfalso; omega)))) | ((with_reducible apply l_call); exact rfl; exact rfl; exact hal _ (hS.rowSl 0 rfl); exact rfl; rintro _ w' ⟨rfl, hS'⟩; replace hS := hS.transA hS'; simp only [appA] at hS; clear hS'))
    (apply q_ret1); (repeat (first | exact ResL.nil | (apply ResL.tmp; exact rfl)))
    exact ⟨rfl, hS.sub (List.nil_sublist _)⟩
  have hpb : pB (Dup (B.map fun o => o.im.name)) = false := pB_false (fun h => hdup.1 h hnd)
  have e : linkB B (allP B 8 0 s1) = match allP B 8 0 s1 with
        | none => 6
        | some s => if s.2 > 256 then 3 else if symsAll (obP s.1) s.1 = true then 0 else 7 := by
    unfold linkB
    rw [hfn]
    dsimp only
    rw [if_pos hnd]
  rw [e]
  have hal : ∀ w, Sl nF w 1 (.slice q m d) ((B.map fun o => o.im.name).map stC) → Fn Try.prog 50 [.slice q m d] w (RBf (.bool false) w) := fun w h => Fn.eqv (eb _ hpb) (alike_fn h)
  repeat' (first | (((with_reducible apply l_pure tabOk); exact rfl; exact rfl)) | (first | (with_reducible apply c_seq) | (with_reducible apply c_region) | (with_reducible apply l_nil) | (with_reducible apply q_then) | (with_reducible apply c_skip) | (with_reducible apply c_exit) | (with_reducible apply q_then_exit) | (with_reducible apply q_block_exit)) | (first | ((with_reducible apply c_iff); exact rfl; (exact rfl)) | ((with_reducible apply c_ifd); exact rfl; all_goals (intro hb hp; try (exfalso; omega)))) | ((with_reducible apply l_call); exact rfl; exact rfl; exact hal _ (hS.rowSl 0 rfl); exact rfl; rintro _ w' ⟨rfl, hS'⟩; replace hS := hS.transA hS'; simp only [appA] at hS; clear hS'))
  ((with_reducible apply l_call); exact rfl; exact rfl; exact hob _ _ (hS.rowSl 1 rfl) (fun o ho => (hallB o ho).now hS) hckB hnd; exact rfl; rintro v w' hv)
  have hin2 := hin
  generalize allP B 8 0 s1 = RR at hv hin2 ⊢
  rcases hv with ⟨rfl, rfl, hS'⟩ | ⟨s, rfl, h256, rfl, hS'⟩ | ⟨s, u, rfl, h256, rfl, hS'⟩
  · replace hS := hS.transA hS'; simp only [appA] at hS; clear hS'
    repeat' (first | (((with_reducible apply l_pure tabOk); exact rfl; exact rfl)) | (first | (with_reducible apply c_seq) | (with_reducible apply c_region) | (with_reducible apply l_nil) | (with_reducible apply q_then) | (with_reducible apply c_ret) | (with_reducible apply q_then_ret)) | (((with_reducible apply c_ift); exact rfl; (exact rfl))))
    (apply q_ret1); (repeat (first | exact ResL.nil | (apply ResL.tmp; exact rfl)))
    exact ⟨rfl, hS.sub (List.nil_sublist _)⟩
  · replace hS := hS.transA hS'; simp only [appA] at hS; clear hS'
    repeat' (first | (((with_reducible apply l_pure tabOk); exact rfl; exact rfl)) | (first | (with_reducible apply c_seq) | (with_reducible apply c_region) | (with_reducible apply l_nil) | (with_reducible apply q_then) | (with_reducible apply c_ret) | (with_reducible apply q_then_ret)) | (((with_reducible apply c_ift); exact rfl; (exact rfl))))
    (apply q_ret1); (repeat (first | exact ResL.nil | (apply ResL.tmp; exact rfl)))
    exact ⟨by dsimp only; rw [if_pos h256], hS.sub (List.nil_sublist _)⟩
  replace hS := hS.transA hS'; simp only [appA] at hS; clear hS'
  obtain ⟨hA, hP⟩ := hin2 s hckB rfl
  have hoi := obsI_of hallB hckB (by omega) hA hP
  clear hin hin2 hob
  dsimp only
  rw [if_neg (by omega)]
  obtain ⟨os, nx⟩ := s
  dsimp only at hoi hS h256 ⊢
  have hosn := hoi.n
  obtain ⟨pu, cu, rfl⟩ := hS.rowSlice 0 rfl
  rw [List.length_map] at hS ⊢
  replace hS := hS.reorder [0] (by decide) rfl
  repeat' (first | (((with_reducible apply l_pure tabOk); exact rfl; exact rfl)) | (first | (with_reducible apply c_seq) | (with_reducible apply c_region) | (with_reducible apply l_nil) | (with_reducible apply q_then) | (with_reducible apply c_skip) | (with_reducible apply c_block)) | (((with_reducible apply c_iff); exact rfl; (exact rfl))))
  refine c_loopK (X := Nat) (fun x => [(11, .int .i64 (x : Nat))]) [9] rfl (fun _ => []) (fun x => x ≤ os.length ∧ (os.take x).all (fun o => symsIn (obP os) o.at_ o.im.rels) = true) (fun x => os.length - x) 0 (by repeat (first | exact Fr.sub_nil _ | (apply Fr.sub_cons; exact rfl))) (by simp) hS ?_
  clear hS
  intro j w2 hJ hS
  obtain ⟨hj, hall⟩ := hJ
  dsimp only [List.cons_append, List.nil_append] at hj hall hS ⊢
  by_cases hlt2 : j < os.length
  rotate_left
  · have hy : symsAll (obP os) os = true := by
      unfold symsAll
      rwa [List.take_of_length_le (by omega)] at hall
    rw [if_pos hy]
    repeat' (first | (((with_reducible apply l_pure tabOk); exact rfl; exact rfl)) | (first | (with_reducible apply c_seq) | (with_reducible apply c_region) | (with_reducible apply l_nil) | (with_reducible apply q_then) | (with_reducible apply c_exit) | (with_reducible apply c_ret) | (with_reducible apply q_then_exit) | (with_reducible apply q_block_exit)) | (((with_reducible apply c_ifd); exact rfl; all_goals (intro hb hp; try (exfalso; omega)))))
    (apply q_ret1); (repeat (first | exact ResL.nil | (apply ResL.tmp; exact rfl)))
    exact ⟨rfl, hS.sub (List.nil_sublist _)⟩
  obtain ⟨o, ho⟩ := lt_get (l := os) (i := j) (by omega)
  have hov := hoi.v o (List.mem_of_getElem? ho)
  obtain ⟨bo, hbo⟩ := hoi.b o (List.mem_of_getElem? ho)
  have hrow : (os.map rbC)[j]? = some [.string ⟨o.im.name.toArray⟩, o.vn, o.vs, o.vy, o.vr, .int .i64 o.im.entry, .int .i64 (o.at_ / 16)] := map_get (f := rbC) ho
  obtain ⟨gu, hgu⟩ := hS.rowSome 0 rfl (by omega)
  subst hgu
  have hadr := fun w (r : Rl) (h1 : Sl nF w 7 (.slice (some ⟨gu, 0, none⟩) os.length cu) (os.map rbC)) (h2 : ∀ o ∈ os, ObV w o) => adrR_fn (own := o) (r := r) (bo := bo) h1 h2 (fun o ho => by obtain ⟨b, q1, q2, q3⟩ := hoi.b o ho; exact ⟨b, q1, by omega, by omega⟩) ⟨hbo.1, by omega, by omega⟩ hoi.y
  have hno : ∀ k r, o.im.rels[k]? = some r → (bytesOf (obP os) o.at_ r).isSome = false → symsAll (obP os) os = false := fun k r hr hb => all_no ho (all_no (p := fun r => (bytesOf (obP os) o.at_ r).isSome) hr hb)
  have hyes : (o.im.rels.take o.im.rels.length).all (fun r => (bytesOf (obP os) o.at_ r).isSome) = true → (os.take (j + 1)).all (fun o => symsIn (obP os) o.at_ o.im.rels) = true := fun h => all_take_succ hall ho (by
    unfold symsIn
    rwa [List.take_of_length_le (Nat.le_refl _)] at h)
  obtain ⟨J, un, us, uy, ur, at_⟩ := o
  replace hov : ImV w J un us uy ur := hov
  dsimp only at hrow hno hyes hbo hadr
  have hrel := hov.rels
  have hbr := hov.rels.bound
  obtain ⟨qn, en, rfl⟩ := hov.needs.len
  obtain ⟨qs, es_, rfl⟩ := hov.segs.len
  obtain ⟨qy, ey, rfl⟩ := hov.syms.len
  obtain ⟨qr, er, rfl⟩ := hov.rels.len
  repeat' (first | (((with_reducible apply l_pure tabOk); exact rfl; exact rfl)) | (first | (with_reducible apply c_seq) | (with_reducible apply c_region) | (with_reducible apply l_nil) | (with_reducible apply q_then) | (with_reducible apply c_skip) | (with_reducible apply c_block)) | (((with_reducible apply c_ifd); exact rfl; all_goals (intro hb hp; try (exfalso; omega)))))
  refine c_loopK (X := Nat) (fun x => [(12, .int .i64 (x : Nat))]) [9, 11] rfl (fun _ => []) (fun x => x ≤ J.rels.length ∧ (J.rels.take x).all (fun r => (bytesOf (obP os) at_ r).isSome) = true) (fun x => J.rels.length - x) 0 (by repeat (first | exact Fr.sub_nil _ | (apply Fr.sub_cons; exact rfl))) (by simp) hS ?_
  clear hS
  intro k w3 hK hS
  obtain ⟨hk, hal2⟩ := hK
  dsimp only [List.cons_append, List.nil_append] at hk hal2 hS ⊢
  by_cases hkt : k < J.rels.length
  rotate_left
  · obtain rfl : k = J.rels.length := by omega
    repeat' (first | (first | ((with_reducible apply l_add); exact rfl; exact rfl; omega; omega; exact rfl) | ((with_reducible apply l_pure tabOk); exact rfl; exact rfl) | ((with_reducible apply l_load); exact rfl; (((with_reducible apply Loads.sl tabOk); exact rfl; ((exact hS.rowCj 0 rfl (by assumption) rfl)))); exact rfl) | ((with_reducible apply l_ix tabOk); exact rfl; exact rfl; exact rfl; ((exact rfl)); ((omega)); exact rfl)) | (first | (with_reducible apply c_seq) | (with_reducible apply c_region) | (with_reducible apply l_nil) | (with_reducible apply q_then) | (with_reducible apply c_exit) | (with_reducible apply q_then_exit) | (with_reducible apply q_block) | (with_reducible apply q_block_exit)) | (((with_reducible apply c_ifd); exact rfl; all_goals (intro hb hp; try (exfalso; omega)))))
    exact q_loopK (j + 1) (by repeat (first | exact Fr.sub_nil _ | (apply Fr.sub_cons; exact rfl))) ⟨by show j + 1 ≤ _; omega, hyes hal2⟩ hS (by show _ - (j + 1) < _ - j; omega)
  obtain ⟨r, hr⟩ := lt_get (l := J.rels) (i := k) (by omega)
  have hrow2 := map_get (f := rlC) hr
  obtain ⟨b2, off2, hpe2, hro2⟩ := hrel.at_ (i := k) hkt
  subst hpe2
  have hno2 := hno k r hr
  rw [← adrT_some] at hno2
  have hys2 : (adrT (obP os) at_ r).isSome = true → (J.rels.take (k + 1)).all (fun r => (bytesOf (obP os) at_ r).isSome) = true := fun h => all_take_succ hal2 hr (by rw [← adrT_some]; exact h)
  have hadr2 : ∀ w, Sl nF w 7 (.slice (some ⟨gu, 0, none⟩) os.length cu) (os.map rbC) → (∀ o ∈ os, ObV w o) → Fn Try.prog 52 [.slice (some ⟨gu, 0, none⟩) os.length cu, .agg [.string ⟨J.name.toArray⟩, .slice qn J.needs.length en, .slice qs J.segs.length es_, .slice qy J.syms.length ey, .slice (some ⟨b2, off2, none⟩) J.rels.length er, .int .i64 J.entry, .int .i64 (at_ / 16)].toArray, .agg [.int .i64 r.at_, .string ⟨r.name.toArray⟩, .int .i64 r.add].toArray] w (RBf (.tuple #[.int .i64 ((adrT (obP os) at_ r).getD 0), .bool (adrT (obP os) at_ r).isSome]) w) := fun w => hadr w r
  generalize adrT (obP os) at_ r = T at hadr2 hno2 hys2
  unfold rlC at hrow2
  cases T with
  | none =>
    simp only [Option.getD_none, Option.isSome_none] at hadr2
    rw [if_neg (by rw [hno2 rfl]; simp)]
    repeat' (first | (first | ((with_reducible apply l_pure tabOk); exact rfl; exact rfl) | ((with_reducible apply l_load); exact rfl; (((with_reducible apply Loads.sl tabOk); exact rfl; ((exact hS.rowCj 0 rfl (by assumption) rfl)))); exact rfl) | ((with_reducible apply l_ix tabOk); exact rfl; exact rfl; exact rfl; ((exact rfl)); ((omega)); exact rfl)) | (first | (with_reducible apply c_seq) | (with_reducible apply c_region) | (with_reducible apply l_nil) | (with_reducible apply q_then) | (with_reducible apply c_skip) | (with_reducible apply c_block)) | (((with_reducible apply c_ifd); exact rfl; all_goals (intro hb hp; try (exfalso; omega)))))
    (focus ((with_reducible apply c_drawAll _ _ _ (by kernel_rfl) (by kernel_rfl) hS); (repeat' (first | (first | ((with_reducible apply d_pure tabOk); exact rfl; exact rfl) | ((with_reducible apply d_load); exact rfl; (intro wd hd; replace hd : St _ _ wd _ := hd; (first | ((with_reducible apply Loads.sl tabOk); exact rfl; ((exact hd.rowCj 0 rfl (by assumption) rfl))) | ((with_reducible apply Loads.st tabOk); exact rfl; (first | exact hd.roR (by assumption) (by assumption) | exact hd.rowR 0 rfl (by assumption)); exact rfl))); exact rfl) | ((with_reducible apply d_ix tabOk); exact rfl; exact rfl; exact rfl; ((exact rfl)); ((omega)); exact rfl)) | ((with_reducible apply d_call); exact rfl; exact rfl; (intro wd hd; replace hd : St _ _ wd _ := hd; exact hadr2 _ (hd.rowSl 0 rfl) (hoi.now hd).v); exact rfl))); all_goals ((with_reducible apply d_nil); intro w' hS'; clear hS; have hS := hS'; clear hS')))
    repeat' (first | (((with_reducible apply l_pure tabOk); exact rfl; exact rfl)) | (first | (with_reducible apply c_seq) | (with_reducible apply c_region) | (with_reducible apply l_nil) | (with_reducible apply q_then) | (with_reducible apply c_ret) | (with_reducible apply q_then_ret) | (with_reducible apply q_block_ret)) | (((with_reducible apply c_ift); exact rfl; (exact rfl))))
    (apply q_ret1); (repeat (first | exact ResL.nil | (apply ResL.tmp; exact rfl)))
    exact ⟨rfl, hS.sub (List.nil_sublist _)⟩
  | some t =>
    simp only [Option.getD_some, Option.isSome_some] at hadr2
    repeat' (first | (first | ((with_reducible apply l_pure tabOk); exact rfl; exact rfl) | ((with_reducible apply l_load); exact rfl; (((with_reducible apply Loads.sl tabOk); exact rfl; ((exact hS.rowCj 0 rfl (by assumption) rfl)))); exact rfl) | ((with_reducible apply l_ix tabOk); exact rfl; exact rfl; exact rfl; ((exact rfl)); ((omega)); exact rfl)) | (first | (with_reducible apply c_seq) | (with_reducible apply c_region) | (with_reducible apply l_nil) | (with_reducible apply q_then) | (with_reducible apply c_skip) | (with_reducible apply c_block)) | (((with_reducible apply c_ifd); exact rfl; all_goals (intro hb hp; try (exfalso; omega)))))
    (focus ((with_reducible apply c_drawAll _ _ _ (by kernel_rfl) (by kernel_rfl) hS); (repeat' (first | (first | ((with_reducible apply d_pure tabOk); exact rfl; exact rfl) | ((with_reducible apply d_load); exact rfl; (intro wd hd; replace hd : St _ _ wd _ := hd; (first | ((with_reducible apply Loads.sl tabOk); exact rfl; ((exact hd.rowCj 0 rfl (by assumption) rfl))) | ((with_reducible apply Loads.st tabOk); exact rfl; (first | exact hd.roR (by assumption) (by assumption) | exact hd.rowR 0 rfl (by assumption)); exact rfl))); exact rfl) | ((with_reducible apply d_ix tabOk); exact rfl; exact rfl; exact rfl; ((exact rfl)); ((omega)); exact rfl)) | ((with_reducible apply d_call); exact rfl; exact rfl; (intro wd hd; replace hd : St _ _ wd _ := hd; exact hadr2 _ (hd.rowSl 0 rfl) (hoi.now hd).v); exact rfl))); all_goals ((with_reducible apply d_nil); intro w' hS'; clear hS; have hS := hS'; clear hS')))
    repeat' (first | (first | ((with_reducible apply l_add); exact rfl; exact rfl; omega; omega; exact rfl) | ((with_reducible apply l_pure tabOk); exact rfl; exact rfl)) | (first | (with_reducible apply c_seq) | (with_reducible apply c_region) | (with_reducible apply l_nil) | (with_reducible apply q_then) | (with_reducible apply c_skip) | (with_reducible apply q_block)) | (((with_reducible apply c_iff); exact rfl; (exact rfl))))
    exact q_loopK (k + 1) (by repeat (first | exact Fr.sub_nil _ | (apply Fr.sub_cons; exact rfl))) ⟨by show k + 1 ≤ _; omega, hys2 rfl⟩ hS (by show _ - (k + 1) < _ - k; omega)
end Go.Proofs.Ytejnpppejalhfab
/- The board of a link, in plain Lean. -/
namespace Go.Proofs.Ytejnpppejalhfab
open Go.RowKit Go.Sort

def rawsO (l : List Ob) : List Ar := l.flatMap fun o => o.im.segs.map (rawA (o.at_ / 16))
theorem linkAr_raws (l : List Ob) : linkAr l = joined (rawsO l) := rfl
theorem rgt_in (s : Sg) : 0 ≤ rgt s ∧ rgt s ≤ 3 := by unfold rgt; split <;> split <;> decide
theorem raws_seg {b0 : Int} : ∀ {l : List Sg} {e : Int}, Ch l → l.all sgOk = true → 1 ≤ b0 → (∀ s, l[0]? = some s → e ≤ b0 + s.pg) → (∀ s, l.getLast? = some s → b0 + s.pg + s.n ≤ 256) → RiseF e (l.map (rawA b0)) ∧ (∀ s, l.getLast? = some s → endOf e (l.map (rawA b0)) = b0 + s.pg + s.n)
  | [], e, _, _, _, _, _ => ⟨trivial, fun s h => by simp at h⟩
  | s :: l, e, hch, hs, hb, h0, hl => by
    have hch' : Ch l := fun j a b h1 h2 => hch (j + 1) a b (by simpa using h1) (by simpa using h2)
    simp only [List.all_cons, Bool.and_eq_true] at hs
    have hso := hs.1
    unfold sgOk at hso
    have hso := of_decide_eq_true hso
    have h00 := h0 s rfl
    have key : ∀ t, l[0]? = some t → b0 + s.pg + s.n ≤ b0 + t.pg := fun t ht => by
      have := hch 0 s t rfl (by simpa using ht)
      omega
    have hl' : ∀ t, l.getLast? = some t → b0 + t.pg + t.n ≤ 256 := fun t ht => hl t (by rw [List.getLast?_cons, ht]; rfl)
    obtain ⟨i1, i2⟩ := raws_seg (e := b0 + s.pg + s.n) hch' hs.2 hb key hl'
    have hfin : b0 + s.pg + s.n ≤ 256 := by
      cases l with
      | nil => exact hl s rfl
      | cons t l =>
        have h1 := key t rfl
        obtain ⟨x, hx⟩ : ∃ x, (t :: l).getLast? = some x := ⟨_, List.getLast?_eq_some_getLast (by simp)⟩
        have h2 := hl' x hx
        have h3 : RiseF (b0 + s.pg + s.n) ((t :: l).map (rawA b0)) := i1
        have h4 := i2 x hx
        have h5 := endOf_ge h3
        omega
    refine ⟨⟨⟨?_, ?_, ?_, ?_, (rgt_in s).1, (rgt_in s).2⟩, h00, i1⟩, fun t ht => ?_⟩
    · show 1 ≤ b0 + s.pg; omega
    · show b0 + s.pg ≤ 255; omega
    · show 1 ≤ s.n; omega
    · show s.n ≤ 256 - (b0 + s.pg); omega
    · cases l with
      | nil =>
        simp only [List.getLast?_singleton, Option.some.injEq] at ht
        subst ht
        rfl
      | cons u l => exact i2 t (by rw [List.getLast?_cons_cons] at ht; exact ht)
theorem seg_last {I : Im} (h : ImOk I) : ∃ s, I.segs.getLast? = some s ∧ lastEnd I = s.pg + s.n := by
  cases hl : I.segs.getLast? with
  | none =>
    rw [List.getLast?_eq_none_iff] at hl
    have := h.s1
    rw [hl] at this
    simp at this
  | some s => exact ⟨s, rfl, by unfold lastEnd; rw [hl]⟩
theorem raws_rise {os : List Ob} {nx : Int} (hP : PkI (os, nx)) (hk : ∀ o ∈ os, checkIm o.im = 0) (hx : nx ≤ 256) : RiseF 1 (rawsO os) := by
  have key : ∀ i, i ≤ os.length → RiseF 1 (rawsO (os.take i)) ∧ endOf 1 (rawsO (os.take i)) ≤ 1 + endsN (os.take i) := by
    intro i
    induction i with
    | zero => intro _; exact ⟨trivial, Int.le_refl _⟩
    | succ i ih =>
      intro hi
      obtain ⟨h1, h2⟩ := ih (by omega)
      obtain ⟨o, ho⟩ : ∃ o, os[i]? = some o := ⟨os[i], by simp⟩
      have hat : o.at_ = (1 + endsN (os.take i)) * 16 := hP.at_ i o ho
      have e1 : rawsO (os.take (i + 1)) = rawsO (os.take i) ++ o.im.segs.map (rawA (o.at_ / 16)) := by
        unfold rawsO
        rw [List.take_add_one, ho]
        simp
      have hen : endsN (os.take (i + 1)) = endsN (os.take i) + lastEnd o.im := by
        rw [List.take_add_one, ho]
        simp only [Option.toList_some, endsN_app, endsN]
        omega
      have hz := check_zeroL (hk o (List.mem_of_getElem? ho))
      have hpos : ∀ l : List Ob, (∀ o ∈ l, o ∈ os) → 0 ≤ endsN l := fun l hl => (ends_le fun o ho => (check_zeroL (hk o (hl o ho))).1).1
      have q1 := hpos (os.take i) fun o ho => List.mem_of_mem_take ho
      have q2 := hpos (os.drop (i + 1)) fun o ho => List.mem_of_mem_drop ho
      have hnx : nx = 1 + endsN os := hP.nx
      have hall : endsN os = endsN (os.take (i + 1)) + endsN (os.drop (i + 1)) := by rw [← endsN_app, List.take_append_drop]
      obtain ⟨sl, hsl, hle⟩ := seg_last hz.1
      have hb0 : o.at_ / 16 = 1 + endsN (os.take i) := by omega
      rw [e1, hb0]
      have hr := raws_seg (b0 := 1 + endsN (os.take i)) (e := endOf 1 (rawsO (os.take i))) hz.2.2.1 hz.1.s2 (by omega) (fun s hs => by
        have := List.all_eq_true.1 hz.1.s2 s (List.mem_of_getElem? hs)
        unfold sgOk at this
        have := of_decide_eq_true this
        omega) (fun s hs => by rw [hsl] at hs; cases hs; omega)
      refine ⟨riseF_append.2 ⟨h1, hr.1⟩, ?_⟩
      have e2 : endOf 1 (rawsO (os.take i) ++ o.im.segs.map (rawA (1 + endsN (os.take i)))) = endOf (endOf 1 (rawsO (os.take i))) (o.im.segs.map (rawA (1 + endsN (os.take i)))) := by
        generalize rawsO (os.take i) = A
        generalize o.im.segs.map (rawA (1 + endsN (os.take i))) = C
        generalize (1 : Int) = e
        induction A generalizing e with
        | nil => rfl
        | cons a A ih => exact ih _
      rw [e2, hr.2 sl hsl, hen]
      omega
  have := (key os.length (Nat.le_refl _)).1
  rwa [List.take_of_length_le (Nat.le_refl _)] at this
theorem paint_lay {pre : List Ar} {a : Ar} (h : RiseF 1 (pre ++ [a])) (m : Int) (hm : m = a.mk') : layW (paint pre) m a.pg a.fin = paint (pre ++ [a]) := by
  funext p
  subst hm
  rw [paint_add h]
  obtain ⟨h1, h2, h3, -⟩ := riseF_append.1 h
  unfold layW
  by_cases hp : a.pg ≤ p ∧ p < a.fin
  · rw [if_pos hp, paint_above h1 (by omega)]
    show _ = 0 + (if a.pg ≤ p ∧ p < a.fin then a.mk' else 0)
    rw [if_pos hp]
    omega
  · rw [if_neg hp]
    show _ = paint pre p + (if a.pg ≤ p ∧ p < a.fin then a.mk' else 0)
    rw [if_neg hp]
    omega
theorem board_areas {os : List Ob} (h : RiseF 1 (rawsO os)) : aUpto (paint (rawsO os)) 255 = linkAr os := by
  obtain ⟨h1, h2⟩ := joined_spec h
  have : paint (rawsO os) = paint (joined (rawsO os)) := funext fun p => (h2 p).symm
  rw [this, areas_of_paint h1, linkAr_raws]
theorem pad_at {d : List UInt8} {N n : Nat} (hn : n < N) (hd : d.length ≤ N * 16) : ((d ++ List.replicate (N * 16 - d.length) 0).drop (n * 16)).take 16 = dataAt d n := by
  unfold dataAt
  rw [List.drop_append, List.take_append]
  congr 1
  rw [List.drop_replicate, List.take_replicate]
  congr 1
  simp only [List.length_take, List.length_drop]
  omega
end Go.Proofs.Ytejnpppejalhfab
/- The reference's fixesOf. -/
namespace Go.Proofs.Ytejnpppejalhfab
open Go.RowKit Go.Sort
theorem fxOf8 {at_ pg fr a e : Int} {s : List UInt8} (hs : s.length = 8) (hf : fr = at_ - 16 * pg) (ha : a = max fr 0) (he : e = min (fr + 8) 16) : fxOf at_ s pg = if a < e then [⟨a, (s.drop (a - fr).toNat).take ((e - fr).toNat - (a - fr).toNat)⟩] else [] := by
  unfold fxOf
  dsimp only []
  rw [hs, ← hf, ← ha, show min (fr + ((8 : Nat) : Int)) 16 = e by omega]
  by_cases h : a < e
  · rw [if_pos h, if_pos h, show (e - a).toNat = (e - fr).toNat - (a - fr).toNat by omega]
  · rw [if_neg h, if_neg h]
set_option maxRecDepth 100000 in
set_option maxHeartbeats 8000000 in
theorem fixesOf_fn {os : List Ob} {w : World} {lv : Value} {o : Ob} {page : Int} (hl : Sl nF w 7 lv (os.map rbC)) (hoi : ObsI w os) (ho : o ∈ os) (hsy : symsIn (obP os) o.at_ o.im.rels = true) (hpg : 0 ≤ page ∧ page ≤ 4000) : Fn Try.prog 54 [lv, .agg (rbC o).toArray, .int .i64 page] w (fun v w' => St nF w w' [.row 124 2 v ((fxAll (obP os) o.at_ o.im.rels page).map fxC)]) := by
  have hov := hoi.v o ho
  obtain ⟨bo, hbo⟩ := hoi.b o ho
  have hadr := fun w (r : Rl) (h1 : Sl nF w 7 lv (os.map rbC)) (h2 : ∀ o ∈ os, ObV w o) => adrR_fn (own := o) (r := r) (bo := bo) h1 h2 (fun o ho => by obtain ⟨b, q1, q2, q3⟩ := hoi.b o ho; exact ⟨b, q1, by omega, by omega⟩) ⟨hbo.1, by omega, by omega⟩ hoi.y
  have hz := check_zeroL (hoi.k o ho)
  have hd16 : o.at_ / 16 = bo := by omega
  have hrn := hz.2.1
  have hrl := hz.2.2.2.rels
  clear hz
  unfold rbC
  rw [hd16]
  obtain ⟨J, un, us, uy, ur, at_⟩ := o
  replace hov : ImV w J un us uy ur := hov
  dsimp only at hbo hadr hsy hd16 hrn hrl ⊢
  have hrel := hov.rels
  obtain ⟨qn, en, rfl⟩ := hov.needs.len
  obtain ⟨qs, es_, rfl⟩ := hov.segs.len
  obtain ⟨qy, ey, rfl⟩ := hov.syms.len
  obtain ⟨qr, er, rfl⟩ := hov.rels.len
  have hadr2 : ∀ (r : Rl) w, Sl nF w 7 lv (os.map rbC) → (∀ o ∈ os, ObV w o) → Fn Try.prog 52 [lv, .agg [.string ⟨J.name.toArray⟩, .slice qn J.needs.length en, .slice qs J.segs.length es_, .slice qy J.syms.length ey, .slice qr J.rels.length er, .int .i64 J.entry, .int .i64 bo].toArray, .agg [.int .i64 r.at_, .string ⟨r.name.toArray⟩, .int .i64 r.add].toArray] w (RBf (.tuple #[.int .i64 ((adrT (obP os) at_ r).getD 0), .bool (adrT (obP os) at_ r).isSome]) w) := fun r w => by rw [← hd16]; exact hadr w r
  clear hadr
  refine fn_enter (fn := Try.f54) ⟨Try.func54, by kernel_rfl, by kernel_rfl⟩ (by exact rfl) Try.ntmps54 (by exact rfl) ?_
  have hS := St.start w
  obtain ⟨pl, cl, rfl⟩ := hl.len
  repeat' (first | (first | ((with_reducible apply l_pure tabOk); exact rfl; exact rfl) | ((with_reducible apply l_box hS); exact rfl; exact rfl; exact rfl; intro g w' hS'; clear hS; have hS := hS'; clear hS')) | (first | (with_reducible apply c_seq) | (with_reducible apply c_region) | (with_reducible apply l_nil) | (with_reducible apply q_then) | (with_reducible apply c_block)))
  rename Nat => gb
  replace hS := hS.addNil 124 2
  refine c_loopK (X := Nat × (Option Addr × Nat × Nat) × List (List Value)) (fun x => [(8, .int .i64 (x.1 : Nat)), (7, .slice x.2.1.1 x.2.1.2.1 x.2.1.2.2)]) [0, 2, 4] rfl (fun x => [.row 124 2 (.slice x.2.1.1 x.2.1.2.1 x.2.1.2.2) x.2.2]) (fun x => x.1 ≤ J.rels.length ∧ x.2.1.2.1 = x.2.2.length ∧ x.2.2.length ≤ x.1 ∧ x.2.2 = (fxAll (obP os) at_ (J.rels.take x.1) page).map fxC) (fun x => J.rels.length - x.1) (0, (none, 0, 0), []) (by repeat (first | exact Fr.sub_nil _ | (apply Fr.sub_cons; exact rfl))) ⟨Nat.zero_le _, rfl, Nat.le_refl _, rfl⟩ hS ?_
  clear hS
  rintro ⟨k, ⟨q, m, d⟩, R⟩ w3 ⟨hk, hm, hRl, hR⟩ hS
  dsimp only [List.cons_append, List.nil_append] at hk hm hRl hR hS ⊢
  by_cases hkt : k < J.rels.length
  rotate_left
  · obtain rfl : k = J.rels.length := by omega
    rw [List.take_of_length_le (Nat.le_refl _)] at hR
    repeat' (first | (first | ((with_reducible apply l_pure tabOk); exact rfl; exact rfl) | ((with_reducible apply l_load); exact rfl; (((with_reducible apply Loads.sl tabOk); exact rfl; ((exact hS.blkC 1 rfl rfl)))); exact rfl)) | (first | (with_reducible apply c_seq) | (with_reducible apply c_region) | (with_reducible apply l_nil) | (with_reducible apply q_then) | (with_reducible apply c_exit) | (with_reducible apply c_ret) | (with_reducible apply q_then_exit) | (with_reducible apply q_block_exit)) | (((with_reducible apply c_ifd); exact rfl; all_goals (intro hb hp; try (exfalso; omega)))))
    (apply q_ret1); (repeat (first | exact ResL.nil | (apply ResL.tmp; exact rfl)))
    rw [hR] at hS
    exact hS.sub (List.Sublist.cons_cons _ (List.nil_sublist _))
  obtain ⟨r, hr⟩ := lt_get (l := J.rels) (i := k) (by omega)
  have hrow2 := map_get (f := rlC) hr
  obtain ⟨b2, off2, hpe2, hro2⟩ := hrel.at_ (i := k) hkt
  subst hpe2
  have hadr3 := hadr2 r
  have hbs := List.all_eq_true.1 hsy r (List.mem_of_getElem? hr)
  rw [← adrT_some] at hbs
  obtain ⟨t, ht⟩ := Option.isSome_iff_exists.1 hbs
  simp only [ht, Option.getD_some, Option.isSome_some] at hadr3
  have hbt : bytesT (obP os) at_ r = leB t 8 := by
    unfold bytesT
    rw [bytesOf_adr, ht]
    rfl
  have hst := fxAll_step (os := obP os) (at_ := at_) hr page
  have hrb := (hrl k r hr).1
  rw [hbt, fxOf8 (fr := bo * 16 + r.at_ - page * 16) (leB_len t 8) (by omega) rfl rfl] at hst
  clear hadr2 hrl hbs
  unfold rlC at hrow2
  have hl8 := leB_len t 8
  have hby : ∀ w, Fn Try.prog 69 [.int .i64 t, .int .i64 8] w (RBf (.string ⟨(leB t 8).toArray⟩) w) := fun w => Bytes_fn t 8 w (by decide)
  generalize leB t 8 = bs8 at hst hbt hl8 hby
  by_cases hlt : max (bo * 16 + r.at_ - page * 16) 0 < min (bo * 16 + r.at_ - page * 16 + 8) 16
  · rw [if_pos hlt] at hst
    repeat' (first | (first | ((with_reducible apply l_pure tabOk); exact rfl; exact rfl) | ((with_reducible apply l_load); exact rfl; (((with_reducible apply Loads.sl tabOk); exact rfl; ((exact hS.blkC 1 rfl rfl)))); exact rfl)) | (first | (with_reducible apply c_seq) | (with_reducible apply c_region) | (with_reducible apply l_nil) | (with_reducible apply q_then) | (with_reducible apply c_skip) | (with_reducible apply c_block)) | (((with_reducible apply c_ifd); exact rfl; all_goals (intro hb hp; try (exfalso; omega)))))
    (focus ((with_reducible apply c_drawAll _ _ _ (by kernel_rfl) (by kernel_rfl) hS); (repeat' (first | (first | ((with_reducible apply d_pure tabOk); exact rfl; exact rfl) | ((with_reducible apply d_load); exact rfl; (intro wd hd; replace hd : St _ _ wd _ := hd; (first | ((with_reducible apply Loads.sl tabOk); exact rfl; ((exact hd.blkC 1 rfl rfl))) | ((with_reducible apply Loads.st tabOk); exact rfl; (first | exact hd.blkR 1 rfl | exact hd.roR (by assumption) (by assumption)); exact rfl))); exact rfl) | ((with_reducible apply d_ix tabOk); exact rfl; exact rfl; exact rfl; ((exact rfl)); ((omega)); exact rfl)) | ((with_reducible apply d_call); exact rfl; exact rfl; (intro wd hd; replace hd : St _ _ wd _ := hd; exact hadr3 _ (hl.now hd) (hoi.now hd).v); exact rfl))); all_goals ((with_reducible apply d_nil); intro w' hS'; clear hS; have hS := hS'; clear hS')))
    repeat' (first | (((with_reducible apply l_pure tabOk); exact rfl; exact rfl)) | (first | (with_reducible apply c_seq) | (with_reducible apply c_region) | (with_reducible apply l_nil) | (with_reducible apply q_then)) | ((with_reducible apply l_call); exact rfl; exact rfl; exact hby _; exact rfl; rintro _ w' ⟨rfl, hS'⟩; replace hS := hS.transA hS'; simp only [appA] at hS; clear hS'))
    (focus ((with_reducible apply c_drawAll _ _ _ (by kernel_rfl) (by kernel_rfl) hS); (repeat' ((first | ((with_reducible apply d_add); exact rfl; exact rfl; omega; omega; exact rfl) | ((with_reducible apply d_sub); exact rfl; exact rfl; omega; omega; exact rfl) | ((with_reducible apply d_mul); exact rfl; exact rfl; omega; omega; exact rfl) | ((with_reducible apply d_pure tabOk); exact rfl; exact rfl) | ((with_reducible apply d_load); exact rfl; (intro wd hd; replace hd : St _ _ wd _ := hd; (first | ((with_reducible apply Loads.sc tabOk); exact rfl; (first | exact hd.blkC 1 rfl rfl | exact hd.roC0 (by assumption) (by assumption) rfl)) | ((with_reducible apply Loads.sl tabOk); exact rfl; ((exact hd.blkC 1 rfl rfl))))); exact rfl) | ((with_reducible apply d_ix tabOk); exact rfl; exact rfl; exact rfl; ((exact rfl)); ((omega)); exact rfl)))); all_goals ((with_reducible apply d_nil); intro w' hS'; clear hS; have hS := hS'; clear hS')))
    repeat' (first | (first | ((with_reducible apply l_add); exact rfl; exact rfl; omega; omega; exact rfl) | ((with_reducible apply l_sub); exact rfl; exact rfl; omega; omega; exact rfl) | ((with_reducible apply l_pure tabOk); exact rfl; exact rfl) | ((with_reducible apply l_build tabOk); exact rfl; exact rfl; ((exact (rfl : _ = some [_, _]))); exact rfl) | ((with_reducible apply l_bslice hS tabOk); exact rfl; exact rfl; exact rfl; exact rfl; exact rfl; exact rfl; exact rfl; intro g w' hS'; clear hS; have hS := hS'; clear hS')) | (first | (with_reducible apply c_seq) | (with_reducible apply c_region) | (with_reducible apply l_nil) | (with_reducible apply q_then) | (with_reducible apply q_block)) | (((with_reducible apply c_ifd); exact rfl; all_goals (intro hb hp; try (exfalso; omega)))) | ((with_reducible apply l_min); exact rfl; exact rfl; exact rfl) | ((with_reducible apply l_max); exact rfl; exact rfl; exact rfl) | ((with_reducible apply l_strSub tabOk); exact rfl; exact rfl; exact rfl; exact rfl; ((omega)); ((omega)); ((omega)); exact rfl) | ((with_reducible apply l_append hS tabOk 1); exact rfl; exact rfl; exact rfl; exact rfl; exact hS.rowRo 0 rfl; exact rfl; ((omega)); exact rfl; intro p' cap' w' hS'; simp only [List.set] at hS'; clear hS; have hS := hS'; clear hS'))
    replace hS := St.reorder [1, 2] hS (by decide) rfl
    refine q_loopK (k + 1, (p', R.length + 1, cap'), _) (by repeat (first | exact Fr.sub_nil _ | (apply Fr.sub_cons; exact rfl))) ⟨by show k + 1 ≤ _; omega, by show R.length + 1 = (R ++ [_]).length; rw [List.length_append]; rfl, by show (R ++ [_]).length ≤ k + 1; rw [List.length_append]; simp only [List.length_cons, List.length_nil]; omega, ?_⟩ hS (by show _ - (k + 1) < _ - k; omega)
    show R ++ [_] = (fxAll (obP os) at_ (J.rels.take (k + 1)) page).map fxC
    rw [hst, List.map_append, ← hR]
    rfl
  · rw [if_neg hlt, List.append_nil] at hst
    repeat' (first | (first | ((with_reducible apply l_pure tabOk); exact rfl; exact rfl) | ((with_reducible apply l_load); exact rfl; (((with_reducible apply Loads.sl tabOk); exact rfl; ((exact hS.blkC 1 rfl rfl)))); exact rfl)) | (first | (with_reducible apply c_seq) | (with_reducible apply c_region) | (with_reducible apply l_nil) | (with_reducible apply q_then) | (with_reducible apply c_skip) | (with_reducible apply c_block)) | (((with_reducible apply c_ifd); exact rfl; all_goals (intro hb hp; try (exfalso; omega)))))
    (focus ((with_reducible apply c_drawAll _ _ _ (by kernel_rfl) (by kernel_rfl) hS); (repeat' (first | (first | ((with_reducible apply d_pure tabOk); exact rfl; exact rfl) | ((with_reducible apply d_load); exact rfl; (intro wd hd; replace hd : St _ _ wd _ := hd; (first | ((with_reducible apply Loads.sl tabOk); exact rfl; ((exact hd.blkC 1 rfl rfl))) | ((with_reducible apply Loads.st tabOk); exact rfl; (first | exact hd.blkR 1 rfl | exact hd.roR (by assumption) (by assumption)); exact rfl))); exact rfl) | ((with_reducible apply d_ix tabOk); exact rfl; exact rfl; exact rfl; ((exact rfl)); ((omega)); exact rfl)) | ((with_reducible apply d_call); exact rfl; exact rfl; (intro wd hd; replace hd : St _ _ wd _ := hd; exact hadr3 _ (hl.now hd) (hoi.now hd).v); exact rfl))); all_goals ((with_reducible apply d_nil); intro w' hS'; clear hS; have hS := hS'; clear hS')))
    repeat' (first | (((with_reducible apply l_pure tabOk); exact rfl; exact rfl)) | (first | (with_reducible apply c_seq) | (with_reducible apply c_region) | (with_reducible apply l_nil) | (with_reducible apply q_then)) | ((with_reducible apply l_call); exact rfl; exact rfl; exact hby _; exact rfl; rintro _ w' ⟨rfl, hS'⟩; replace hS := hS.transA hS'; simp only [appA] at hS; clear hS'))
    (focus ((with_reducible apply c_drawAll _ _ _ (by kernel_rfl) (by kernel_rfl) hS); (repeat' ((first | ((with_reducible apply d_add); exact rfl; exact rfl; omega; omega; exact rfl) | ((with_reducible apply d_sub); exact rfl; exact rfl; omega; omega; exact rfl) | ((with_reducible apply d_mul); exact rfl; exact rfl; omega; omega; exact rfl) | ((with_reducible apply d_pure tabOk); exact rfl; exact rfl) | ((with_reducible apply d_load); exact rfl; (intro wd hd; replace hd : St _ _ wd _ := hd; (first | ((with_reducible apply Loads.sc tabOk); exact rfl; (first | exact hd.blkC 1 rfl rfl | exact hd.roC0 (by assumption) (by assumption) rfl)) | ((with_reducible apply Loads.sl tabOk); exact rfl; ((exact hd.blkC 1 rfl rfl))))); exact rfl) | ((with_reducible apply d_ix tabOk); exact rfl; exact rfl; exact rfl; ((exact rfl)); ((omega)); exact rfl)))); all_goals ((with_reducible apply d_nil); intro w' hS'; clear hS; have hS := hS'; clear hS')))
    repeat' (first | (first | ((with_reducible apply l_add); exact rfl; exact rfl; omega; omega; exact rfl) | ((with_reducible apply l_pure tabOk); exact rfl; exact rfl)) | (first | (with_reducible apply c_seq) | (with_reducible apply c_region) | (with_reducible apply l_nil) | (with_reducible apply q_then) | (with_reducible apply c_skip) | (with_reducible apply q_block)) | (((with_reducible apply c_ifd); exact rfl; all_goals (intro hb hp; try (exfalso; omega)))) | ((with_reducible apply l_min); exact rfl; exact rfl; exact rfl) | ((with_reducible apply l_max); exact rfl; exact rfl; exact rfl))
    exact q_loopK (k + 1, (q, m, d), R) (by repeat (first | exact Fr.sub_nil _ | (apply Fr.sub_cons; exact rfl))) ⟨by show k + 1 ≤ _; omega, hm, by show R.length ≤ k + 1; omega, by show R = (fxAll (obP os) at_ (J.rels.take (k + 1)) page).map fxC; rw [hst, hR]⟩ hS (by show _ - (k + 1) < _ - k; omega)
end Go.Proofs.Ytejnpppejalhfab
