/- Texts that the proof stands on, one behind the other: Lk18, Lk19, LawLkL, Op1, OpU, OpI, OpL. -/
import Derived.Deep.Slices
import Derived.OpenShut
import Derived.WideShapes
import Derived.ProofKit
import Derived.Test.YtejnpppejalhfabRows
import Derived.Test.YtejnpppejalhfabPLinkLinks9
/- The reference's LinkedOf. -/
namespace Go.Proofs.Ytejnpppejalhfab
open Go.RowKit Go.Sort
section
variable {P : Program} {n : Nat} {ds : List Deferred} {E : Fr} {w : World} {dst : Option Nat} {ty : TypeId} {pos : String} {after : Array Edge} {F : Nat → Prop} {w0 : World} {Γ : List Asr} {T : Tab}
/-- 'string(b)', b a row of bytes of one's own that was made, empty or not -/
theorem g_convT (hS : St F w0 w Γ) (hT : TabOk P T) {t u e i sz2 g m cap : Nat} {z2 : Value} {x : Operand} {l : List UInt8} (ht : T.get t = some (.sl e 1 1 false [.int .u8 0])) (he : T.get e = some (.sc (.int .u8) 1 (.int .u8 0))) (hu2 : T.get u = some (.sc .string sz2 z2)) (hx : E.ev x = some (.slice (some ⟨g, 0, none⟩) m cap)) (hm : m = l.length) (hi : Γ[i]? = some (.row e 1 (.slice (some ⟨g, 0, none⟩) m cap) (bR l))) :
    Gets P ⟨dst, .convert t u x, ty, pos, after, none⟩ n ds E w (fun v' w' => v' = .string ⟨l.toArray⟩ ∧ w' = w) := by
  refine Gets.of_at fun a ha => ?_
  obtain ⟨ji, zv, hu, hinfo, _⟩ := hT.sl ht
  obtain ⟨_, hus, _⟩ := hT.sc hu2
  obtain ⟨_, hue, _⟩ := hT.sc he
  subst hm
  have hrun := run_convert_bytes_back (P := P) w t u e ⟨g, 0, none⟩ cap l hu hue hus (fun j hj => by
      rw [add_zero_at]
      have := hS.rowC i hi (k := j) (j := 0) (r := [.int .u8 l[j].toNat]) (u := .int .u8 l[j].toNat) (by unfold bR; simp [hj]) rfl
      simpa using this)
  simp only [execOp, ha.ev hx, Sem.run_bind, hrun, Result.andThen_ok, Sem.run_pure]
end
section
variable {P : Program} {n : Nat} {ds : List Deferred} {E : Fr} {w : World} {Q : Exit → Act → World → Prop} {ops : Array Oper} {S : World → Prop} {q fuel : Nat} {li : Array Bool} {d : Nat} {op : Op} {ty : TypeId} {pos : String} {after : Array Edge} {T : Tab}
theorem t_runs (i : Nat) {v : Value} (hi : ops[i]? = some ⟨some d, op, ty, pos, after, none⟩) (hs : Region.noSelect ops = true) (hf : Region.free .any ops li i = true) (hr : (Region.ready .any ops li).contains i = true) (hqi : Nat.beq q i = false)
    (hQ : ∀ c (a : Act) w, Q (.panic c) (a.put (some d) v) w → Q (.panic c) a w) (hS : li.getD q false = true ∨ S w) (h : ∀ a, Has n ds a E → Runs P ⟨some d, op, ty, pos, after, none⟩ a v) (hd : Nat.blt d n = true) (k : WT P ops Q S q fuel (li.setIfInBounds i true) n ds ((d, v) :: E) w) : WT P ops Q S q (fuel + 1) li n ds E w := fun a ha =>
  till_pure hi (Region.noSelect_spec hs) hQ (fun e => by subst e; rw [Nat.beq_refl] at hqi; cases hqi) fuel li a w (Region.free_spec hi hf) (by simpa using hr) hS (Or.inl ⟨rfl, fun w _ => h a ha w⟩) (k _ (ha.put d v hd))
theorem t_build (i : Nat) (hT : TabOk P T) {t s : Nat} {fs : List (Nat × Nat × Bool)} {z L : List Value} {parts : Array (Nat × Operand)} {ps : List (Nat × Value)} (hi : ops[i]? = some ⟨some d, .build t parts, ty, pos, after, none⟩) (hs : Region.noSelect ops = true) (hf : Region.free .any ops li i = true) (hr : (Region.ready .any ops li).contains i = true) (hqi : Nat.beq q i = false)
    (hQ : ∀ c (a : Act) w v, Q (.panic c) (a.put (some d) v) w → Q (.panic c) a w) (hS : li.getD q false = true ∨ S w) (ht : T.get t = some (.st s fs z)) (hp : evP E parts.toList = some ps) (hL : fillL (fun i => (fs[i]?).map fun f => (f.1, f.2.1)) z ps = some L) (hd : Nat.blt d n = true) (k : WT P ops Q S q fuel (li.setIfInBounds i true) n ds ((d, .agg L.toArray) :: E) w) : WT P ops Q S q (fuel + 1) li n ds E w :=
  t_runs i hi hs hf hr hqi (fun c a w => hQ c a w _) hS (fun a ha => r_build hT ht hp hL a ha) hd k
end
section
variable {P : Program} {n : Nat} {ds : List Deferred} {E E' : Fr} {w : World} {F : Nat → Prop} {w0 : World} {Γ : List Asr}
/-- a stretch that tells one thing anew, in slot d; of the rest the slots ks are kept -/
theorem c_varK {X : Type} (f : X → Value) (d : Nat) (p : X → Prop) (ks : List Nat) (_hE : Fr.only E ks = some E') {x y : Code} {Q1 Q2 : Exit → Act → World → Prop} (_hS : St F w0 w Γ) (hx : WC P x (Exit.then (fun a' w' => ∃ m, Has n ds a' ((d, f m) :: E') ∧ (p m ∧ St F w0 w' Γ)) Q2) n ds E w) (hz : ∀ m w', p m ∧ St F w0 w' Γ → WC P y Q1 n ds ((d, f m) :: E') w') : WC P x (Exit.then (y.wp P Q1) Q2) n ds E w := fun a ha =>
  Code.wp_mono (fun e a' w' q => by
    cases e with
    | normal => obtain ⟨m, h1, h2⟩ := q; exact hz m w' h2 a' h1
    | exit i => exact q
    | goto l => exact q
    | ret => exact q
    | panic c => exact q
    | outgrown => exact q) (hx a ha)
end
theorem areas_fn (b : Int → Int) (hm : ∀ p, Mark (b p)) (h0 : b 0 = 0) (w : World) : Fn Try.prog 55 [.agg (bdC b).toArray] w (fun v w' => St nF w w' [.row 131 4 v ((aUpto b 255).map arC)]) :=
  ⟨⟨_, Try.func55, by kernel_rfl, by kernel_rfl⟩, (areasOf_any b hm h0 w).mono fun e w' ⟨v, he, ho, hb⟩ => ⟨v, he, st_of_own ho hb⟩⟩
theorem mark_fn (prot : Int) (h : 0 ≤ prot ∧ prot ≤ 3) (w : World) : Fn Try.prog 53 [.int .i64 prot, .bool false] w (fun v' w' => v' = .int .i64 (1 + 2 * prot) ∧ w' = w) :=
  (Fn.of_same (v := .int .i64 (1 + 2 * prot + (if false = true then 8 else 0))) ⟨Try.func53, by kernel_rfl, by kernel_rfl⟩ (mark_any prot false h w)).mono fun v w' ⟨h1, h2⟩ => ⟨by rw [h1]; simp, h2⟩
abbrev LdS (g7 g8 : Nat) (q : Option Addr) (m d : Nat) (b : Int → Int) (R : List (List Value)) (N : List (Sh × Value)) : List Asr :=
  .blk g8 [.slice none 0 0, .slice q m d, .int .i64 0] :: .row 49 3 (.slice q m d) R :: .blk g7 (bdC b) :: N.map fxRow
set_option maxRecDepth 100000 in
set_option maxHeartbeats 8000000 in
theorem LinkedOf_fn {w : World} {M : Ob} {Lb : List Ob} {vl : Value} (hM : ObV w M) (hL : Sl nF w 6 vl (Lb.map imR)) (hLo : ∀ o ∈ Lb, ObV w o) (h0 : linkC M Lb = 0) : Fn Try.prog 15 [imgV M, vl] w (fun v w' => ∃ (s : List Ob × Int) (va vs : Value) (N : List (Sh × Value)), allP (M :: Lb) 8 0 (plStep ([], 1) M) = some s ∧ N.map (·.1) = linkSh (obP s.1) s.1 ∧ v = lkA va vs (16 + M.im.entry) ∧ St nF w w' (.row 131 4 va ((linkAr s.1).map arC) :: .row 49 3 vs (N.map fun p => shC p.1 p.2) :: N.map fxRow)) := by
  have hbl := hL.bound
  obtain ⟨pl, cl, rfl⟩ := hL.len
  have hall : ∀ o ∈ M :: Lb, ObV w o := fun o ho => by
    rcases List.mem_cons.1 ho with rfl | h
    · exact hM
    · exact hLo o h
  have hM1 := hM
  obtain ⟨I, vn, vs, vy, vr, a0⟩ := M
  replace hM1 : ImV w I vn vs vy vr := hM1
  obtain ⟨pn, cn, rfl⟩ := hM1.needs.len
  obtain ⟨ps, cs, rfl⟩ := hM1.segs.len
  obtain ⟨py, cy, rfl⟩ := hM1.syms.len
  obtain ⟨pr, cr, rfl⟩ := hM1.rels.len
  refine fn_enter (fn := Try.f15) ⟨Try.func15, by kernel_rfl, by kernel_rfl⟩ (by exact rfl) Try.ntmps15 (by exact rfl) ?_
  have hS := St.start w
  show WC _ _ _ _ _ [(0, .agg [.string ⟨I.name.toArray⟩, .slice pn I.needs.length cn, .slice ps I.segs.length cs, .slice py I.syms.length cy, .slice pr I.rels.length cr, .int .i64 I.entry].toArray), (1, .slice pl Lb.length cl)] _
  have h6 : ¬ 6 < Lb.length := fun h => by
    unfold linkC at h0
    rw [if_pos h] at h0
    cases h0
  rw [linkC_eq h6] at h0
  repeat' (first | (first | ((with_reducible apply l_pure tabOk); exact rfl; exact rfl) | ((with_reducible apply l_load); exact rfl; (((with_reducible apply Loads.st tabOk); exact rfl; ((exact hS.blkR 1 rfl)); exact rfl)); exact rfl) | ((with_reducible apply l_box hS); exact rfl; exact rfl; exact rfl; intro g w' hS'; clear hS; have hS := hS'; clear hS') | ((with_reducible apply l_alloc hS tabOk); exact rfl; exact rfl; exact rfl; intro g w' hS'; clear hS; have hS := hS'; clear hS') | ((with_reducible apply l_bslice hS tabOk); exact rfl; exact rfl; exact rfl; exact rfl; exact rfl; exact rfl; exact rfl; intro g w' hS'; clear hS; have hS := hS'; clear hS')) | (first | (with_reducible apply c_seq) | (with_reducible apply c_region) | (with_reducible apply l_nil) | (with_reducible apply q_then)) | ((with_reducible apply l_appendSl hS tabOk 0); exact rfl; exact rfl; exact rfl; exact rfl; exact hL.now hS; ((simp only [List.length_map, List.length_cons, List.length_nil, List.length_append]; omega)); exact rfl; intro p' cap' w' hS'; simp only [List.set] at hS'; clear hS; have hS := hS'; clear hS'))
  obtain ⟨B, hBe⟩ : ∃ B, B = (⟨I, .slice pn I.needs.length cn, .slice ps I.segs.length cs, .slice py I.syms.length cy, .slice pr I.rels.length cr, a0⟩ : Ob) :: Lb := ⟨_, rfl⟩
  have hBl : B.length = Lb.length + 1 := by rw [hBe]; rfl
  generalize hm : (_ : List (List Value)).length + (Lb.map imR).length = m at hS ⊢
  obtain rfl : m = B.length := by rw [hBl, ← hm, List.length_map]; simp only [List.length_cons, List.length_nil]; omega
  have eB : [[.string ⟨I.name.toArray⟩, .slice pn I.needs.length cn, .slice ps I.segs.length cs, .slice py I.syms.length cy, .slice pr I.rels.length cr, .int .i64 I.entry]] ++ Lb.map imR = B.map imR := by rw [hBe]; rfl
  rw [eB] at hS
  have hallB : ∀ o ∈ B, ObV w o := by rw [hBe]; exact hall
  have hB0 : B[0]? = some (⟨I, .slice pn I.needs.length cn, .slice ps I.segs.length cs, .slice py I.syms.length cy, .slice pr I.rels.length cr, a0⟩ : Ob) := by rw [hBe]; rfl
  rw [← hBe] at h0 ⊢
  have hob := fun w (vl : Value) (h1 : Sl nF w 6 vl (B.map imR)) (h2 : ∀ o ∈ B, ObV w o) (h3 : ∀ o ∈ B, checkIm o.im = 0) (h4 : (B.map fun o => o.im.name).Nodup) => objects_fn h1 hB0 h2 (fun o ho => (check_zeroL (h3 o ho)).1) h4 (by omega)
  have hin := fun s (h3 : ∀ o ∈ B, checkIm o.im = 0) (h : allP B 8 0 (plStep ([], 1) _) = some s) => allP_all (List.mem_of_getElem? hB0) h3 h
  have hst : ∀ s, allP B 8 0 (plStep ([], 1) ⟨I, .slice pn I.needs.length cn, .slice ps I.segs.length cs, .slice py I.syms.length cy, .slice pr I.rels.length cr, a0⟩) = some s → Fst ⟨I, .slice pn I.needs.length cn, .slice ps I.segs.length cs, .slice py I.syms.length cy, .slice pr I.rels.length cr, a0⟩ s := fun s hs => allP_inv (Inv := Fst _) (fun s o h _ => fst_step o h) hs (fst_start _)
  dsimp only
  generalize plStep ([], 1) _ = s1 at hob hin hst h0 ⊢
  clear hBe hall hm hM hM1 hLo hL hB0
  generalize allP B 8 0 s1 = RR at hob hin hst h0 ⊢
  unfold linkB at h0
  have hfn : B.find? (fun o => !decide (checkIm o.im = 0)) = none := by
    cases hf : B.find? (fun o => !decide (checkIm o.im = 0)) with
    | none => rfl
    | some o =>
      exfalso
      rw [hf] at h0
      have h1 := List.find?_some hf
      replace h0 : checkIm o.im = 0 := h0
      simp [h0] at h1
  rw [hfn] at h0
  dsimp only at h0
  have hnd : (B.map fun o => o.im.name).Nodup := by
    refine Classical.byContradiction fun hc => ?_
    rw [if_neg hc] at h0
    cases h0
  rw [if_pos hnd] at h0
  have hckB : ∀ o ∈ B, checkIm o.im = 0 := fun o ho => by
    rw [List.find?_eq_none] at hfn
    have := hfn o ho
    simpa using this
  ((with_reducible apply l_call); exact rfl; exact rfl; exact hob _ _ (hS.rowSl 0 rfl) (fun o ho => (hallB o ho).now hS) hckB hnd; exact rfl; rintro v w' hv)
  rcases hv with ⟨rfl, rfl, hS'⟩ | ⟨s, rfl, h256, rfl, hS'⟩ | ⟨s, u, rfl, h256, rfl, hS'⟩
  · cases h0
  · dsimp only at h0
    rw [if_pos h256] at h0
    cases h0
  replace hS := hS.transA hS'; simp only [appA] at hS; clear hS'
  dsimp only at h0
  rw [if_neg (by omega)] at h0
  have hsa : symsAll (obP s.1) s.1 = true := by
    refine Classical.byContradiction fun hc => ?_
    rw [if_neg hc] at h0
    cases h0
  obtain ⟨hA, hP⟩ := hin s hckB rfl
  obtain ⟨rs, hrs⟩ := hst s rfl
  have hoi := obsI_of hallB hckB (by omega) hA hP
  clear hin hob hst h0 hfn hnd
  obtain ⟨os, nx⟩ := s
  dsimp only at hoi hS h256 hsa hrs
  have hrise := raws_rise hP hoi.k h256
  have hosn := hoi.n
  obtain ⟨pu, cu, rfl⟩ := hS.rowSlice 0 rfl
  rw [List.length_map] at hS ⊢
  replace hS := St.reorder [0, 2, 3] hS (by decide) rfl
  repeat' (first | (first | ((with_reducible apply l_pure tabOk); exact rfl; exact rfl) | ((with_reducible apply l_alloc hS tabOk); exact rfl; exact rfl; exact rfl; intro g w' hS'; clear hS; have hS := hS'; clear hS')) | (first | (with_reducible apply c_seq) | (with_reducible apply c_region) | (with_reducible apply l_nil) | (with_reducible apply q_then) | (with_reducible apply c_block)))
  rename_i g2 w2 g4 w4 g18 w18 w19 w20 g7 w7
  replace hS := hS.addNil 49 3
  replace hS := St.reorder [1, 0, 2, 3, 4, 5] hS (by decide) rfl
  generalize hz : TI.zeroCells (.ar 256 256 1 false _) = Z at hS
  obtain rfl : Z = bdC (paint []) := by rw [← hz]; kernel_rfl
  clear hz
  replace hS := St.reorder [3, 4, 5, 0, 1, 2] hS (by decide) rfl
  refine c_loopK (Γ := []) (X := Nat × (Option Addr × Nat × Nat) × List (List Value) × List (Sh × Value)) (fun x => [(9, .int .i64 (x.1 : Nat))]) [5, 7, 8, 4, 2] rfl (fun x => .row 113 7 (.slice pu os.length cu) (os.map rbC) :: .blk g4 [.slice none 0 0, .slice none 0 0, .int .i64 0] :: .blk g2 [.string ⟨I.name.toArray⟩, .slice pn I.needs.length cn, .slice ps I.segs.length cs, .slice py I.syms.length cy, .slice pr I.rels.length cr, .int .i64 I.entry] :: LdS g7 g x.2.1.1 x.2.1.2.1 x.2.1.2.2 (paint (rawsO (os.take x.1))) x.2.2.1 x.2.2.2) (fun x => x.1 ≤ os.length ∧ x.2.2.1 = x.2.2.2.map (fun p => shC p.1 p.2) ∧ x.2.1.2.1 = x.2.2.1.length ∧ x.2.2.2.map (·.1) = linkSh (obP os) (os.take x.1) ∧ x.2.2.2.length ≤ 1530 * x.1) (fun x => os.length - x.1) (0, (none, 0, 0), [], []) (by repeat (first | exact Fr.sub_nil _ | (apply Fr.sub_cons; exact rfl))) ⟨Nat.zero_le _, rfl, rfl, rfl, Nat.le_refl _⟩ hS ?_
  clear hS
  rintro ⟨i, ⟨q, m, d⟩, R, N⟩ w8 ⟨hi, hR, hm, hN, hNl⟩ hS
  dsimp only [List.append_nil] at hi hR hm hN hNl hS ⊢
  simp only [LdS, List.cons_append, List.append_nil] at hS
  have hRl := congrArg List.length hR
  rw [List.length_map] at hRl
  by_cases hlt : i < os.length
  rotate_left
  · rw [List.take_of_length_le (by omega)] at hS hN
    have hb00 : paint (rawsO os) 0 = 0 := paint_below hrise (by omega)
    have hmk : ∀ p, Mark (paint (rawsO os) p) := fun p => mark_paint p hrise
    have har := fun w => areas_fn (paint (rawsO os)) hmk hb00 w
    rw [board_areas hrise] at har
    rw [hrs] at hosn
    simp only [List.length_cons] at hosn
    have hrow0 : (os.map rbC)[0]? = some [.string ⟨I.name.toArray⟩, .slice pn I.needs.length cn, .slice ps I.segs.length cs, .slice py I.syms.length cy, .slice pr I.rels.length cr, .int .i64 I.entry, .int .i64 1] := by rw [hrs]; rfl
    have hos0 : 0 < os.length := by rw [hrs]; simp
    obtain ⟨gu, hgu⟩ := hS.rowSome 0 rfl hos0
    subst hgu
    have hent : 0 ≤ I.entry ∧ I.entry < 4096 := by
      have h1 := check_zeroL (hoi.k _ (by rw [hrs]; exact List.mem_cons_self))
      obtain ⟨se, hse, -⟩ := h1.2.2.2.entry
      exact own_small h1.1.s2 hse
    repeat' (first | (first | ((with_reducible apply l_pure tabOk); exact rfl; exact rfl) | ((with_reducible apply l_load); exact rfl; (((with_reducible apply Loads.ar tabOk); exact rfl; ((exact hS.blkR 5 rfl)); exact rfl)); exact rfl)) | (first | (with_reducible apply c_seq) | (with_reducible apply c_region) | (with_reducible apply l_nil) | (with_reducible apply q_then) | (with_reducible apply c_exit) | (with_reducible apply q_then_exit) | (with_reducible apply q_block_exit)) | (((with_reducible apply c_ifd); exact rfl; all_goals (intro hb hp; try (exfalso; omega)))))
    ((with_reducible apply l_call); exact rfl; exact rfl; exact har _; exact rfl; rintro va w' hS')
    obtain ⟨qa, da, rfl⟩ := hS'.rowSlice 0 rfl
    replace hS := hS.transA hS'; simp only [appA] at hS; clear hS'
    repeat' (first | (first | ((with_reducible apply l_pure tabOk); exact rfl; exact rfl) | (((with_reducible apply l_store hS tabOk (i := 4)); exact rfl; exact rfl; exact rfl; exact rfl; exact rfl; exact rfl; exact rfl; exact rfl; ((exact (rfl : _ = [_, _, _]))); intro w' hS'; simp only [List.set] at hS'; clear hS; have hS := hS'; clear hS'))) | (first | (with_reducible apply c_seq) | (with_reducible apply l_nil) | (with_reducible apply q_then)))
    (focus ((with_reducible apply c_draw _ _ _ 9 (by kernel_rfl) (by kernel_rfl) hS); (simp only [List.take_succ_cons, List.take_zero, List.drop_succ_cons, List.drop_zero]); (repeat' ((first | ((with_reducible apply d_add); exact rfl; exact rfl; omega; omega; exact rfl) | ((with_reducible apply d_mul); exact rfl; exact rfl; omega; omega; exact rfl) | ((with_reducible apply d_pure tabOk); exact rfl; exact rfl) | ((with_reducible apply d_load); exact rfl; (intro wd hd; replace hd : St _ _ wd _ := hd; (((with_reducible apply Loads.sc tabOk); exact rfl; (first | exact hd.blkC 3 rfl rfl | exact hd.rowCj 1 rfl (by assumption) rfl)))); exact rfl) | ((with_reducible apply d_ix tabOk); exact rfl; exact rfl; exact rfl; ((exact rfl)); ((omega)); exact rfl)))); all_goals ((with_reducible apply d_nil); intro w' hS'; clear hS; have hS := hS'; clear hS')))
    repeat' (first | (first | ((with_reducible apply l_load); exact rfl; (((with_reducible apply Loads.st tabOk); exact rfl; ((exact hS.blkR 4 rfl)); exact rfl)); exact rfl) | (first | ((with_reducible apply l_store hS tabOk (i := 2)); exact rfl; exact rfl; exact rfl; exact rfl; exact rfl; exact rfl; exact rfl; exact rfl; ((exact (rfl : _ = [_, _, _]))); intro w' hS'; simp only [List.set] at hS'; clear hS; have hS := hS'; clear hS') | ((with_reducible apply l_store hS tabOk (i := 4)); exact rfl; exact rfl; exact rfl; exact rfl; exact rfl; exact rfl; exact rfl; exact rfl; ((exact (rfl : _ = [_, _, _]))); intro w' hS'; simp only [List.set] at hS'; clear hS; have hS := hS'; clear hS'))) | (first | (with_reducible apply c_seq) | (with_reducible apply c_region) | (with_reducible apply l_nil) | (with_reducible apply q_then) | (with_reducible apply c_ret)))
    have hS2 : St nF w w' (.row 131 4 (.slice qa ((linkAr os).map arC).length da) ((linkAr os).map arC) :: .row 49 3 (.slice q m d) R :: N.map fxRow) := by
      have h := hS.reorderT 7 [0, 5] (by decide) rfl
      simpa only [appA, List.drop_succ_cons, List.drop_zero] using h
    rw [hR] at hS2
    refine q_ret (vs := [lkA (.slice qa ((linkAr os).map arC).length da) (.slice q m d) (1 * 16 + I.entry)]) rfl ?_ rfl ⟨(os, nx), _, _, N, rfl, hN, rfl, hS2⟩
    refine ResL.cell rfl ?_ ResL.nil
    unfold lkA
    ((with_reducible apply Loads.st tabOk); exact rfl; ((exact hS.blkR 2 rfl)); exact rfl)
  obtain ⟨o, ho⟩ := lt_get (l := os) (i := i) (by omega)
  have hom := List.mem_of_getElem? ho
  have hov := hoi.v o hom
  obtain ⟨b0, hb1, hb2, hb3⟩ := hoi.b o hom
  have hb16 : o.at_ / 16 = b0 := by omega
  have hsym := List.all_eq_true.1 hsa o hom
  obtain ⟨z1, z2, z3, z4⟩ := check_zeroL (hoi.k o hom)
  have hraw : rawsO (os.take (i + 1)) = rawsO (os.take i) ++ o.im.segs.map (rawA b0) := by
    unfold rawsO
    rw [List.take_add_one, ho]
    simp [hb16]
  have hrall : ∃ r, rawsO os = rawsO (os.take i) ++ (o.im.segs.map (rawA b0) ++ r) := ⟨rawsO (os.drop (i + 1)), by
    rw [← List.append_assoc, ← hraw]
    unfold rawsO
    rw [← List.flatMap_append, List.take_append_drop]⟩
  have hlst := linkSh_step (os := obP os) ho
  rw [hb16] at hlst
  have hfx := fun w (h1 : Sl nF w 7 (.slice pu os.length cu) (os.map rbC)) (h2 : ObsI w os) page (hp : 0 ≤ page ∧ page ≤ 4000) => fixesOf_fn (o := o) (page := page) h1 h2 hom hsym hp
  have hrow : (os.map rbC)[i]? = some [.string ⟨o.im.name.toArray⟩, o.vn, o.vs, o.vy, o.vr, .int .i64 o.im.entry, .int .i64 (o.at_ / 16)] := map_get (f := rbC) ho
  rw [hb16] at hrow
  have hz5 := z1.s3
  obtain ⟨J, un, us, uy, ur, at_⟩ := o
  replace hov : ImV w J un us uy ur := hov
  dsimp only at hrow hb1 hraw hrall hlst hfx z1 z2 z3 z4 hz5
  have hsgs := hov.segs
  obtain ⟨qn, en, rfl⟩ := hov.needs.len
  obtain ⟨qs, es_, rfl⟩ := hov.segs.len
  obtain ⟨qy, ey, rfl⟩ := hov.syms.len
  obtain ⟨qr, er, rfl⟩ := hov.rels.len
  obtain ⟨gu, hgu⟩ := hS.rowSome 0 rfl (by omega)
  subst hgu
  repeat' (first | (((with_reducible apply l_pure tabOk); exact rfl; exact rfl)) | (first | (with_reducible apply c_seq) | (with_reducible apply c_region) | (with_reducible apply l_nil) | (with_reducible apply q_then) | (with_reducible apply c_skip) | (with_reducible apply c_block)) | (((with_reducible apply c_ifd); exact rfl; all_goals (intro hb hp; try (exfalso; omega)))))
  refine c_loopK (Γ := []) (X := Nat × (Option Addr × Nat × Nat) × List (List Value) × List (Sh × Value)) (fun x => [(10, .int .i64 (x.1 : Nat))]) [9, 5, 7, 8, 4, 2] rfl (fun x => .row 113 7 (.slice (some ⟨gu, 0, none⟩) os.length cu) (os.map rbC) :: .blk g4 [.slice none 0 0, .slice none 0 0, .int .i64 0] :: .blk g2 [.string ⟨I.name.toArray⟩, .slice pn I.needs.length cn, .slice ps I.segs.length cs, .slice py I.syms.length cy, .slice pr I.rels.length cr, .int .i64 I.entry] :: LdS g7 g x.2.1.1 x.2.1.2.1 x.2.1.2.2 (paint (rawsO (os.take i) ++ (J.segs.take x.1).map (rawA b0))) x.2.2.1 x.2.2.2) (fun x => x.1 ≤ J.segs.length ∧ x.2.2.1 = x.2.2.2.map (fun p => shC p.1 p.2) ∧ x.2.1.2.1 = x.2.2.1.length ∧ x.2.2.2.map (·.1) = linkSh (obP os) (os.take i) ++ (pgsO b0 (J.segs.take x.1)).map (shOf (obP os) (b0 * 16) J.rels) ∧ x.2.2.2.length ≤ 1530 * i + 255 * x.1) (fun x => J.segs.length - x.1) (0, (q, m, d), R, N) (by repeat (first | exact Fr.sub_nil _ | (apply Fr.sub_cons; exact rfl))) ⟨Nat.zero_le _, hR, hm, by rw [hN]; simp [pgsO], by show N.length ≤ _; omega⟩ (by simpa only [LdS, List.take_zero, List.map_nil, List.append_nil] using hS) ?_
  clear hS hR hm hN hNl hRl
  rintro ⟨k, ⟨q, m, d⟩, R, N⟩ w9 ⟨hk, hR, hm, hN, hNl⟩ hS
  dsimp only [List.append_nil] at hk hR hm hN hNl hS ⊢
  simp only [LdS, List.cons_append, List.append_nil] at hS
  have hRl := congrArg List.length hR
  rw [List.length_map] at hRl
  by_cases hkt : k < J.segs.length
  rotate_left
  · obtain rfl : k = J.segs.length := by omega
    rw [List.take_of_length_le (Nat.le_refl _), ← hraw] at hS
    rw [List.take_of_length_le (Nat.le_refl _)] at hN
    repeat' (first | (first | ((with_reducible apply l_add); exact rfl; exact rfl; omega; omega; exact rfl) | ((with_reducible apply l_pure tabOk); exact rfl; exact rfl) | ((with_reducible apply l_load); exact rfl; (((with_reducible apply Loads.sl tabOk); exact rfl; ((exact hS.rowCj 0 rfl (by assumption) rfl)))); exact rfl) | ((with_reducible apply l_ix tabOk); exact rfl; exact rfl; exact rfl; ((exact rfl)); ((omega)); exact rfl)) | (first | (with_reducible apply c_seq) | (with_reducible apply c_region) | (with_reducible apply l_nil) | (with_reducible apply q_then) | (with_reducible apply c_exit) | (with_reducible apply q_then_exit) | (with_reducible apply q_block) | (with_reducible apply q_block_exit)) | (((with_reducible apply c_ifd); exact rfl; all_goals (intro hb hp; try (exfalso; omega)))))
    refine q_loopK (i + 1, (q, m, d), R, N) (by repeat (first | exact Fr.sub_nil _ | (apply Fr.sub_cons; exact rfl))) ⟨by show i + 1 ≤ _; omega, hR, hm, ?_, by show N.length ≤ _; omega⟩ (by simpa only [LdS, List.append_nil] using hS) (by show _ - (i + 1) < _ - i; omega)
    show N.map (·.1) = linkSh (obP os) (os.take (i + 1))
    rw [hN, hlst]
    rfl
  obtain ⟨sg, hsg⟩ := lt_get (l := J.segs) (i := k) (by omega)
  have hsr : (J.segs.map sgC)[k]? = some [.int .i64 sg.pg, .int .i64 sg.n, .string ⟨sg.data.toArray⟩, .bool sg.wr, .bool sg.ex] := map_get (f := sgC) hsg
  obtain ⟨b2, off2, hpe2, hro2⟩ := hsgs.at_ (i := k) hkt
  subst hpe2
  have hso := List.all_eq_true.1 z1.s2 sg (List.mem_of_getElem? hsg)
  unfold sgOk at hso
  have hso := of_decide_eq_true hso
  obtain ⟨pre, hpre⟩ : ∃ pre, pre = rawsO (os.take i) ++ (J.segs.take k).map (rawA b0) := ⟨_, rfl⟩
  have hpre2 : rawsO (os.take i) ++ (J.segs.take (k + 1)).map (rawA b0) = pre ++ [rawA b0 sg] := by
    rw [hpre, List.take_add_one, hsg]
    simp
  have hrp : RiseF 1 (pre ++ [rawA b0 sg]) := by
    obtain ⟨r, hr⟩ := hrall
    rw [← hpre2]
    have e : rawsO os = (rawsO (os.take i) ++ (J.segs.take (k + 1)).map (rawA b0)) ++ ((J.segs.drop (k + 1)).map (rawA b0) ++ r) := by
      rw [hr]
      conv => lhs; rw [← List.take_append_drop (k + 1) J.segs]
      simp only [List.map_append, List.append_assoc]
    rw [e] at hrise
    exact (riseF_append.1 hrise).1
  have hok1 : (rawA b0 sg).ok := (riseF_append.1 hrp).2.1
  have hfin := hok1.2.2.2.1
  replace hfin : sg.n ≤ 256 - (b0 + sg.pg) := hfin
  have hpl := paint_lay hrp (1 + 2 * rgt sg) (by show _ = 1 + 2 * rgt sg + (if false = true then 8 else 0); simp)
  rw [← hpre] at hS
  have hrg := rgt_in sg
  have hpgs := pgsO_step (b0 := b0) hsg
  clear hrall hpre hsr
  have hsr : (J.segs.map sgC)[k]? = some [.int .i64 sg.pg, .int .i64 sg.n, .string ⟨sg.data.toArray⟩, .bool sg.wr, .bool sg.ex] := map_get (f := sgC) hsg
  repeat' (first | (first | ((with_reducible apply l_pure tabOk); exact rfl; exact rfl) | ((with_reducible apply l_load); exact rfl; (first | ((with_reducible apply Loads.sc tabOk); exact rfl; ((exact hS.blkC 0 rfl rfl))) | ((with_reducible apply Loads.sl tabOk); exact rfl; ((exact hS.rowCj 0 rfl (by assumption) rfl))) | ((with_reducible apply Loads.st tabOk); exact rfl; ((exact hS.roR (by assumption) (by assumption))); exact rfl)); exact rfl) | ((with_reducible apply l_ix tabOk); exact rfl; exact rfl; exact rfl; ((exact rfl)); ((omega)); exact rfl) | ((with_reducible apply l_alloc hS tabOk); exact rfl; exact rfl; exact rfl; intro g w' hS'; clear hS; have hS := hS'; clear hS') | (((with_reducible apply l_store hS tabOk (i := 0)); exact rfl; exact rfl; exact rfl; exact rfl; exact rfl; exact rfl; exact rfl; exact rfl; ((exact (rfl : _ = [_, _, _, _, _]))); intro w' hS'; simp only [List.set] at hS'; clear hS; have hS := hS'; clear hS'))) | (first | (with_reducible apply c_seq) | (with_reducible apply c_region) | (with_reducible apply l_nil) | (with_reducible apply q_then) | (with_reducible apply c_skip) | (with_reducible apply c_block)) | ((with_reducible apply c_ifd); exact rfl; all_goals (intro hb hp; try (exfalso; omega))))
  rename Nat => g11
  refine c_varK (X := Unit) (fun _ => .int .i64 (if sg.wr then 1 else 0)) 12 (fun _ => True) [9, 5, 7, 8, 4, 2, 10, 11] rfl hS ?_ ?_
  · cases hwr : sg.wr with
    | true =>
      rw [hwr] at hS
      repeat' (first | (first | ((with_reducible apply l_add); exact rfl; exact rfl; omega; omega; exact rfl) | ((with_reducible apply l_pure tabOk); exact rfl; exact rfl)) | (first | (with_reducible apply c_region) | (with_reducible apply l_nil)) | (((with_reducible apply c_ift); exact rfl; (exact rfl))))
      refine q_var () (by repeat (first | exact Fr.sub_nil _ | (apply Fr.sub_cons; exact rfl))) trivial hS
    | false =>
      rw [hwr] at hS
      repeat' (first | ((with_reducible apply c_skip)) | (((with_reducible apply c_iff); exact rfl; (exact rfl))))
      refine q_var () (by repeat (first | exact Fr.sub_nil _ | (apply Fr.sub_cons; exact rfl))) trivial hS
  rintro - w' ⟨-, hS'⟩
  clear hS; have hS := hS'; clear hS'
  repeat' (first | (first | ((with_reducible apply l_pure tabOk); exact rfl; exact rfl) | ((with_reducible apply l_load); exact rfl; (((with_reducible apply Loads.sc tabOk); exact rfl; ((exact hS.blkC 0 rfl rfl)))); exact rfl)) | (first | (with_reducible apply c_seq) | (with_reducible apply c_region) | (with_reducible apply l_nil) | (with_reducible apply q_then)))
  refine c_varK (X := Unit) (fun _ => .int .i64 (rgt sg)) 12 (fun _ => True) [9, 5, 7, 8, 4, 2, 10, 11] rfl hS ?_ ?_
  · unfold rgt
    cases hex : sg.ex with
    | true =>
      rw [hex] at hS
      cases hwr : sg.wr with
      | true =>
        rw [hwr] at hS
        repeat' (first | (first | ((with_reducible apply l_add); exact rfl; exact rfl; omega; omega; exact rfl) | ((with_reducible apply l_pure tabOk); exact rfl; exact rfl)) | (first | (with_reducible apply c_region) | (with_reducible apply l_nil)) | (((with_reducible apply c_ift); exact rfl; (exact rfl))))
        refine q_var () (by repeat (first | exact Fr.sub_nil _ | (apply Fr.sub_cons; exact rfl))) trivial hS
      | false =>
        rw [hwr] at hS
        repeat' (first | (first | ((with_reducible apply l_add); exact rfl; exact rfl; omega; omega; exact rfl) | ((with_reducible apply l_pure tabOk); exact rfl; exact rfl)) | (first | (with_reducible apply c_region) | (with_reducible apply l_nil)) | (((with_reducible apply c_ift); exact rfl; (exact rfl))))
        refine q_var () (by repeat (first | exact Fr.sub_nil _ | (apply Fr.sub_cons; exact rfl))) trivial hS
    | false =>
      rw [hex] at hS
      cases hwr : sg.wr with
      | true =>
        rw [hwr] at hS
        repeat' (first | ((with_reducible apply c_skip)) | (((with_reducible apply c_iff); exact rfl; (exact rfl))))
        refine q_var () (by repeat (first | exact Fr.sub_nil _ | (apply Fr.sub_cons; exact rfl))) trivial hS
      | false =>
        rw [hwr] at hS
        repeat' (first | ((with_reducible apply c_skip)) | (((with_reducible apply c_iff); exact rfl; (exact rfl))))
        refine q_var () (by repeat (first | exact Fr.sub_nil _ | (apply Fr.sub_cons; exact rfl))) trivial hS
  rintro - w' ⟨-, hS'⟩
  clear hS; have hS := hS'; clear hS'
  repeat' (((with_reducible apply c_seq)))
  have hlz : ((sg.n * 16 - sg.data.length).toNat : Int) = sg.n * 16 - sg.data.length := Int.toNat_of_nonneg (by omega)
  refine c_heldS 13 rfl hS (by kernel_rfl) ?_
  intro wh hh
  clear hS
  have hS := hh
  clear hh
  ((with_reducible apply a_take 0 tabOk); exact rfl; kernel_rfl; kernel_rfl; kernel_rfl; exact (fun _ _ _ h => h); exact hS; exact rfl; exact rfl)
  ((with_reducible apply a_takeL 1); exact rfl; kernel_rfl; kernel_rfl; kernel_rfl; exact (fun _ _ _ h => h); exact hS; exact rfl; (intro wd hd; replace hd : St _ _ wd _ := hd; (((with_reducible apply Loads.sc tabOk); exact rfl; ((exact hd.blkC 0 rfl rfl))))); exact rfl)
  ((with_reducible apply a_take 2 tabOk); exact rfl; kernel_rfl; kernel_rfl; kernel_rfl; exact (fun _ _ _ h => h); exact hS; exact rfl; exact rfl)
  ((with_reducible apply a_takeL 3); exact rfl; kernel_rfl; kernel_rfl; kernel_rfl; exact (fun _ _ _ h => h); exact hS; exact rfl; (intro wd hd; replace hd : St _ _ wd _ := hd; (((with_reducible apply Loads.sc tabOk); exact rfl; ((exact hd.blkC 0 rfl rfl))))); exact rfl)
  ((with_reducible apply a_takeR 4); exact rfl; kernel_rfl; kernel_rfl; kernel_rfl; exact (fun _ _ _ h => h); exact hS; (intro a ha; exact r_mul rfl rfl (by omega) (by omega) a ha _); exact rfl)
  ((with_reducible apply a_take 5 tabOk); exact rfl; kernel_rfl; kernel_rfl; kernel_rfl; exact (fun _ _ _ h => h); exact hS; exact rfl; exact rfl)
  ((with_reducible apply a_takeL 6); exact rfl; kernel_rfl; kernel_rfl; kernel_rfl; exact (fun _ _ _ h => h); exact hS; exact rfl; (intro wd hd; replace hd : St _ _ wd _ := hd; (((with_reducible apply Loads.sc tabOk); exact rfl; ((exact hd.blkC 0 rfl rfl))))); exact rfl)
  ((with_reducible apply a_take 7 tabOk); exact rfl; kernel_rfl; kernel_rfl; kernel_rfl; exact (fun _ _ _ h => h); exact hS; exact rfl; exact rfl)
  ((with_reducible apply a_takeR 8); exact rfl; kernel_rfl; kernel_rfl; kernel_rfl; exact (fun _ _ _ h => h); exact hS; (intro a ha; exact r_sub rfl rfl (by omega) (by omega) a ha _); exact rfl)
  refine a_one (i := 9) (by kernel_rfl) ?_
  refine o_gets rfl (g_make hS tabOk (m := (sg.n * 16 - sg.data.length).toNat) rfl rfl rfl hlz hlz (by omega) (by omega) rfl) rfl ?_
  rintro _ w' ⟨gz, rfl, hS'⟩
  clear hS; have hS := hS'; clear hS'
  refine ⟨hS.drop, ?_⟩
  refine a_one (i := 10) (by kernel_rfl) ?_
  refine o_gets rfl (g_convT hS tabOk (i := 0) (l := List.replicate (sg.n * 16 - sg.data.length).toNat 0) rfl rfl rfl rfl (by rw [List.length_replicate]) (by unfold bR; rw [List.map_replicate]; rfl)) rfl ?_
  rintro _ _ ⟨rfl, rfl⟩
  refine ⟨hS.drop, ?_⟩
  ((with_reducible apply a_takeR 11); exact rfl; kernel_rfl; kernel_rfl; kernel_rfl; exact (fun _ _ _ h => h); exact hS.drop; (intro a ha; exact r_cat rfl rfl (by rw [List.length_replicate]; omega) a ha _); exact rfl)
  ((with_reducible apply a_take 12 tabOk); exact rfl; kernel_rfl; kernel_rfl; kernel_rfl; exact (fun _ _ _ h => h); exact hS.drop; exact rfl; exact rfl)
  refine a_done (by kernel_rfl) ?_
  replace hS := hS.drop
  repeat' (first | (((with_reducible apply l_pure tabOk); exact rfl; exact rfl)) | (first | (with_reducible apply c_seq) | (with_reducible apply c_region) | (with_reducible apply l_nil) | (with_reducible apply q_then) | (with_reducible apply c_block)))
  have hrl : (sg.n * 16 - sg.data.length).toNat = sg.n.toNat * 16 - sg.data.length := by omega
  have hDat : ∀ n : Nat, n < sg.n.toNat → ((sg.data ++ List.replicate (sg.n * 16 - sg.data.length).toNat 0).drop (n * 16)).take 16 = dataAt sg.data n := fun n hn => by rw [hrl]; exact pad_at hn (by omega)
  have hDl : (sg.data ++ List.replicate (sg.n * 16 - sg.data.length).toNat 0).length = sg.n.toNat * 16 := by rw [List.length_append, List.length_replicate]; omega
  generalize sg.data ++ List.replicate (sg.n * 16 - sg.data.length).toNat 0 = D at hDat hDl ⊢
  clear hrl hlz
  have e0 : bdC (layW (paint pre) (1 + 2 * rgt sg) (b0 + sg.pg) (b0 + sg.pg + ((0 : Nat) : Int))) = bdC (paint pre) := by
    rw [show ((0 : Nat) : Int) = 0 from rfl, Int.add_zero]
    exact layW_start _ _ _
  rw [← e0] at hS
  refine c_loopK (Γ := []) (X := Nat × (Option Addr × Nat × Nat) × List (List Value) × List (Sh × Value)) (fun x => [(14, .int .i64 (x.1 : Nat))]) [9, 5, 7, 8, 4, 2, 10, 11, 12, 13] rfl (fun x => .blk g11 [.int .i64 sg.pg, .int .i64 sg.n, .string ⟨sg.data.toArray⟩, .bool sg.wr, .bool sg.ex] :: .row 113 7 (.slice (some ⟨gu, 0, none⟩) os.length cu) (os.map rbC) :: .blk g4 [.slice none 0 0, .slice none 0 0, .int .i64 0] :: .blk g2 [.string ⟨I.name.toArray⟩, .slice pn I.needs.length cn, .slice ps I.segs.length cs, .slice py I.syms.length cy, .slice pr I.rels.length cr, .int .i64 I.entry] :: LdS g7 g x.2.1.1 x.2.1.2.1 x.2.1.2.2 (layW (paint pre) (1 + 2 * rgt sg) (b0 + sg.pg) (b0 + sg.pg + (x.1 : Nat))) x.2.2.1 x.2.2.2) (fun x => x.1 ≤ sg.n.toNat ∧ x.2.2.1 = x.2.2.2.map (fun p => shC p.1 p.2) ∧ x.2.1.2.1 = x.2.2.1.length ∧ x.2.2.2.map (·.1) = linkSh (obP os) (os.take i) ++ (pgsO b0 (J.segs.take k) ++ pgsS b0 sg x.1).map (shOf (obP os) (b0 * 16) J.rels) ∧ x.2.2.2.length ≤ 1530 * i + 255 * k + x.1) (fun x => sg.n.toNat - x.1) (0, (q, m, d), R, N) (by repeat (first | exact Fr.sub_nil _ | (apply Fr.sub_cons; exact rfl))) ⟨Nat.zero_le _, hR, hm, by rw [hN]; simp [pgsS], by show N.length ≤ _; omega⟩ (by simpa only [LdS, List.append_nil, List.cons_append] using hS) ?_
  clear hS hR hm hN hNl hRl
  have hfx2 : ∀ w, Sl nF w 7 (.slice (some ⟨gu, 0, none⟩) os.length cu) (os.map rbC) → ObsI w os → ∀ page : Int, 0 ≤ page ∧ page ≤ 4000 → Fn Try.prog 54 [.slice (some ⟨gu, 0, none⟩) os.length cu, .agg [.string ⟨J.name.toArray⟩, .slice qn J.needs.length en, .slice (some ⟨b2, off2, none⟩) J.segs.length es_, .slice qy J.syms.length ey, .slice qr J.rels.length er, .int .i64 J.entry, .int .i64 b0].toArray, .int .i64 page] w (fun v w' => St nF w w' [.row 124 2 v ((fxAll (obP os) (b0 * 16) J.rels page).map fxC)]) := fun w h1 h2 page hp => by
    have h := hfx w h1 h2 page hp
    unfold rbC at h
    dsimp only at h
    rw [show at_ / 16 = b0 from hb16, hb1] at h
    exact h
  clear hfx
  rintro ⟨n, ⟨q, m, d⟩, R, N⟩ w10 ⟨hn, hR, hm, hN, hNl⟩ hS
  dsimp only [List.append_nil] at hn hR hm hN hNl hS ⊢
  simp only [LdS, List.cons_append, List.append_nil] at hS
  have hRl := congrArg List.length hR
  rw [List.length_map] at hRl
  by_cases hnt : (n : Int) < sg.n
  rotate_left
  · have hnn : n = sg.n.toNat := by omega
    have e1 : layW (paint pre) (1 + 2 * rgt sg) (b0 + sg.pg) (b0 + sg.pg + (n : Nat)) = paint (rawsO (os.take i) ++ (J.segs.take (k + 1)).map (rawA b0)) := by
      rw [hpre2, ← hpl, show ((n : Nat) : Int) = sg.n by omega]
      rfl
    rw [e1] at hS
    repeat' (first | (first | ((with_reducible apply l_add); exact rfl; exact rfl; omega; omega; exact rfl) | ((with_reducible apply l_pure tabOk); exact rfl; exact rfl) | ((with_reducible apply l_load); exact rfl; (((with_reducible apply Loads.sc tabOk); exact rfl; ((exact hS.blkC 0 rfl rfl)))); exact rfl)) | (first | (with_reducible apply c_seq) | (with_reducible apply c_region) | (with_reducible apply l_nil) | (with_reducible apply q_then) | (with_reducible apply c_exit) | (with_reducible apply q_then_exit) | (with_reducible apply q_block) | (with_reducible apply q_block_exit)) | (((with_reducible apply c_ifd); exact rfl; all_goals (intro hb hp; try (exfalso; omega)))))
    replace hS := hS.drop
    refine q_loopK (k + 1, (q, m, d), R, N) (by repeat (first | exact Fr.sub_nil _ | (apply Fr.sub_cons; exact rfl))) ⟨by show k + 1 ≤ _; omega, hR, hm, ?_, by show N.length ≤ _; omega⟩ (by simpa only [LdS, List.append_nil, List.cons_append] using hS) (by show _ - (k + 1) < _ - k; omega)
    show N.map (·.1) = linkSh (obP os) (os.take i) ++ (pgsO b0 (J.segs.take (k + 1))).map _
    rw [hN, hpgs, hnn]
  have hjn : ((b0 + sg.pg + n).toNat : Int) = b0 + sg.pg + n := Int.toNat_of_nonneg (by omega)
  repeat' (first | (first | ((with_reducible apply l_pure tabOk); exact rfl; exact rfl) | ((with_reducible apply l_load); exact rfl; (((with_reducible apply Loads.sc tabOk); exact rfl; ((exact hS.blkC 0 rfl rfl)))); exact rfl)) | (first | (with_reducible apply c_seq) | (with_reducible apply c_region) | (with_reducible apply l_nil) | (with_reducible apply q_then) | (with_reducible apply c_skip) | (with_reducible apply c_block)) | (((with_reducible apply c_ifd); exact rfl; all_goals (intro hb hp; try (exfalso; omega)))))
  (focus ((with_reducible apply c_drawAll _ _ _ (by kernel_rfl) (by kernel_rfl) hS); (repeat' ((first | ((with_reducible apply d_add); exact rfl; exact rfl; omega; omega; exact rfl) | ((with_reducible apply d_pure tabOk); exact rfl; exact rfl) | ((with_reducible apply d_load); exact rfl; (intro wd hd; replace hd : St _ _ wd _ := hd; (((with_reducible apply Loads.sc tabOk); exact rfl; (first | exact hd.blkC 0 rfl rfl | exact hd.rowCj 1 rfl (by assumption) rfl)))); exact rfl) | ((with_reducible apply d_ix tabOk); exact rfl; exact rfl; exact rfl; ((exact rfl)); ((omega)); exact rfl)))); all_goals ((with_reducible apply d_nil); intro w' hS'; clear hS; have hS := hS'; clear hS')))
  repeat' (first | (((with_reducible apply l_pure tabOk); exact rfl; exact rfl)) | (first | (with_reducible apply c_seq) | (with_reducible apply c_region) | (with_reducible apply l_nil) | (with_reducible apply q_then)) | ((with_reducible apply l_call); exact rfl; exact rfl; exact mark_fn _ hrg _; exact rfl; rintro _ _ ⟨rfl, rfl⟩) | ((with_reducible apply l_ixa tabOk); exact rfl; exact rfl; exact rfl; exact hjn; omega; exact rfl))
  refine l_gets0 (g_store hS tabOk (i := 6) (L := bdC (layW (paint pre) (1 + 2 * rgt sg) (b0 + sg.pg) (b0 + sg.pg + (n : Nat)))) rfl rfl rfl rfl rfl (by rw [bdC_len]; show 0 + _ * 1 + 1 ≤ 256; omega) (by intro u hu; simp [Value.cells] at hu; subst hu; rfl)) ?_
  rintro - w11 hS'
  simp only [List.cons_append, List.set_cons_succ, List.set_cons_zero] at hS'
  have hset : setL (bdC (layW (paint pre) (1 + 2 * rgt sg) (b0 + sg.pg) (b0 + sg.pg + (n : Nat)))) (0 + (b0 + sg.pg + n).toNat * 1) (Value.int .i64 (1 + 2 * rgt sg)).cells.toList = bdC (layW (paint pre) (1 + 2 * rgt sg) (b0 + sg.pg) (b0 + sg.pg + ((n + 1 : Nat) : Int))) := by
    have := layW_step (paint pre) (1 + 2 * rgt sg) (b0 + sg.pg) (b0 + sg.pg + n).toNat (by omega)
    rw [hjn] at this
    rw [show b0 + sg.pg + ((n + 1 : Nat) : Int) = b0 + sg.pg + n + 1 by omega, ← this]
    simp [setL, Value.cells]
  rw [hset] at hS'
  clear hset
  clear hS; have hS := hS'; clear hS'
  repeat' ((first | (with_reducible apply l_nil) | (with_reducible apply q_then)))
  refine c_till (fun w' => St nF w w' [.blk g [.slice none 0 0, .slice q m d, .int .i64 0], .row 113 7 (.slice (some ⟨gu, 0, none⟩) os.length cu) (os.map rbC)]) 21 22 rfl hS (by kernel_rfl) ?_
  intro w12 hS'
  clear hS; have hS := hS'; clear hS'
  have hH := hS.reorderT 5 [4, 1] (by decide) rfl
  replace hH := hH.sub (List.sublist_append_left [_, _] _)
  ((with_reducible apply t_pure 0 tabOk); exact rfl; kernel_rfl; kernel_rfl; kernel_rfl; exact rfl; exact (fun _ _ _ h => h); exact Or.inr hH; exact rfl; exact rfl)
  ((with_reducible apply t_takeL 1); exact rfl; kernel_rfl; kernel_rfl; kernel_rfl; kernel_rfl; exact rfl; exact rfl; exact (fun _ _ _ h => h); exact hH; exact rfl; (intro w2 hw2; (replace hw2 : St _ _ w2 _ := hw2; (((with_reducible apply Loads.sl tabOk); exact rfl; ((exact hw2.blkC 0 rfl rfl)))))); exact rfl)
  ((with_reducible apply t_pure 2 tabOk); exact rfl; kernel_rfl; kernel_rfl; kernel_rfl; exact rfl; exact (fun _ _ _ h => h); exact Or.inr hH; exact rfl; exact rfl)
  ((with_reducible apply t_pure 3 tabOk); exact rfl; kernel_rfl; kernel_rfl; kernel_rfl; exact rfl; exact (fun _ _ _ h => h); exact Or.inr hH; exact rfl; exact rfl)
  ((with_reducible apply t_pure 4 tabOk); exact rfl; kernel_rfl; kernel_rfl; kernel_rfl; exact rfl; exact (fun _ _ _ h => h); exact Or.inr hH; exact rfl; exact rfl)
  ((with_reducible apply t_runs 5); exact rfl; kernel_rfl; kernel_rfl; kernel_rfl; exact rfl; exact (fun _ _ _ h => h); exact Or.inr hH; (intro a ha; exact r_mul rfl rfl (by omega) (by omega) a ha _); exact rfl)
  ((with_reducible apply t_pure 6 tabOk); exact rfl; kernel_rfl; kernel_rfl; kernel_rfl; exact rfl; exact (fun _ _ _ h => h); exact Or.inr hH; exact rfl; exact rfl)
  ((with_reducible apply t_runs 7); exact rfl; kernel_rfl; kernel_rfl; kernel_rfl; exact rfl; exact (fun _ _ _ h => h); exact Or.inr hH; (intro a ha; exact r_add rfl rfl (by omega) (by omega) a ha _); exact rfl)
  ((with_reducible apply t_runs 8); exact rfl; kernel_rfl; kernel_rfl; kernel_rfl; exact rfl; exact (fun _ _ _ h => h); exact Or.inr hH; (intro a ha; exact r_mul rfl rfl (by omega) (by omega) a ha _); exact rfl)
  ((with_reducible apply t_runs 9); exact rfl; kernel_rfl; kernel_rfl; kernel_rfl; exact rfl; exact (fun _ _ _ h => h); exact Or.inr hH; (intro a ha; exact r_strSub tabOk rfl rfl rfl rfl (by omega) (by omega) (by omega) a ha _); exact rfl)
  ((with_reducible apply t_pure 10 tabOk); exact rfl; kernel_rfl; kernel_rfl; kernel_rfl; exact rfl; exact (fun _ _ _ h => h); exact Or.inr hH; exact rfl; exact rfl)
  ((with_reducible apply t_pure 11 tabOk); exact rfl; kernel_rfl; kernel_rfl; kernel_rfl; exact rfl; exact (fun _ _ _ h => h); exact Or.inr hH; exact rfl; exact rfl)
  ((with_reducible apply t_pure 12 tabOk); exact rfl; kernel_rfl; kernel_rfl; kernel_rfl; exact rfl; exact (fun _ _ _ h => h); exact Or.inr hH; exact rfl; exact rfl)
  have hstr : List.take ((((n : Int) + 1) * 16).toNat - ((n : Int) * 16).toNat) (List.drop ((n : Int) * 16).toNat D) = dataAt sg.data n := by
    rw [show (((n : Int) + 1) * 16).toNat - ((n : Int) * 16).toNat = 16 by omega, show ((n : Int) * 16).toNat = n * 16 by omega]
    exact hDat n (by omega)
  rw [hstr]
  clear hstr
  ((with_reducible apply t_runs 13); exact rfl; kernel_rfl; kernel_rfl; kernel_rfl; exact rfl; exact (fun _ _ _ h => h); exact Or.inr hH; (intro a ha; exact r_ix tabOk (j := i) rfl rfl rfl rfl (by omega) a ha _); exact rfl)
  ((with_reducible apply t_takeL 14); exact rfl; kernel_rfl; kernel_rfl; kernel_rfl; kernel_rfl; exact rfl; exact rfl; exact (fun _ _ _ h => h); exact hH; exact rfl; (intro w2 hw2; (replace hw2 : St _ _ w2 _ := hw2; (((with_reducible apply Loads.st tabOk); exact rfl; ((exact hw2.rowR 1 rfl (by assumption))); exact rfl)))); exact rfl)
  ((with_reducible apply t_pure 15 tabOk); exact rfl; kernel_rfl; kernel_rfl; kernel_rfl; exact rfl; exact (fun _ _ _ h => h); exact Or.inr hH; exact rfl; exact rfl)
  refine t_one (i := 16) (by kernel_rfl) ?_
  refine p_gets rfl (g_call (first := []) (caps := []) rfl rfl (hfx2 _ (hS.rowSl 1 rfl) (hoi.now hS) _ ⟨by omega, by omega⟩)) rfl ?_
  rintro vf w' hS'
  obtain ⟨pf, cf, rfl⟩ := hS'.rowSlice 0 rfl
  replace hS := hS.transA hS'; simp only [appA] at hS; clear hS'
  have hH := hS.reorderT 6 [5, 2] (by decide) rfl
  replace hH := hH.sub (List.sublist_append_left [_, _] _)
  refine ⟨Or.inr (Or.inr hH), ?_⟩
  ((with_reducible apply t_build 17 tabOk); exact rfl; kernel_rfl; kernel_rfl; kernel_rfl; exact rfl; exact (fun _ _ _ _ h => h); exact Or.inr hH; exact rfl; exact rfl; ((exact (rfl : _ = some [_, _, _]))); exact rfl)
  refine t_one (i := 18) (by kernel_rfl) ?_
  refine p_gets rfl (g_bslice hS tabOk rfl rfl rfl rfl rfl rfl) rfl ?_
  rintro _ w' ⟨g9, rfl, hS'⟩
  clear hS; have hS := hS'; clear hS'
  have hH := hS.reorderT 7 [6, 3] (by decide) rfl
  replace hH := hH.sub (List.sublist_append_left [_, _] _)
  refine ⟨Or.inr (Or.inr hH), ?_⟩
  refine t_one (i := 19) (by kernel_rfl) ?_
  refine p_gets rfl (g_append hS tabOk (i := 7) rfl rfl rfl rfl (hS.rowRo 0 rfl) rfl (by omega)) rfl ?_
  rintro _ w' ⟨p', c', rfl, hS'⟩
  simp only [List.set] at hS'
  clear hS; have hS := hS'; clear hS'
  have hH := hS.reorderT 7 [6, 3] (by decide) rfl
  replace hH := hH.sub (List.sublist_append_left [_, _] _)
  refine ⟨Or.inr (Or.inr hH), ?_⟩
  ((with_reducible apply t_pure 20 tabOk); exact rfl; kernel_rfl; kernel_rfl; kernel_rfl; exact rfl; exact (fun _ _ _ h => h); exact Or.inr hH; exact rfl; exact rfl)
  refine t_one (i := 21) (by kernel_rfl) ?_
  refine p_gets0 (Φ := fun _ w' => St _ _ w' _) rfl (g_store hS tabOk (i := 6) rfl rfl rfl rfl rfl (Nat.le_of_ble_eq_true rfl) (by intro u hu; simp [Value.cells] at hu; subst hu; rfl)) ?_
  intro _ w' hS'
  simp only [List.set] at hS'
  clear hS; have hS := hS'; clear hS'
  refine ⟨Or.inl rfl, ?_⟩
  refine t_done (by kernel_rfl) ?_
  repeat' (first | (first | ((with_reducible apply l_add); exact rfl; exact rfl; omega; omega; exact rfl) | ((with_reducible apply l_pure tabOk); exact rfl; exact rfl)) | (first | (with_reducible apply c_region) | (with_reducible apply l_nil) | (with_reducible apply q_then) | (with_reducible apply q_block)))
  have hS2 := hS.drop.perm (List.perm_append_singleton _ _).symm
  clear hS hH
  obtain ⟨Y, hY⟩ : ∃ Y : Sh × Value, Y = (shOf (obP os) (b0 * 16) J.rels (pgK b0 sg n), .slice pf ((fxAll (obP os) (b0 * 16) J.rels (b0 + sg.pg + n)).map fxC).length cf) := ⟨_, rfl⟩
  have hYr : R ++ [[Value.int .i64 (b0 + sg.pg + n), .string ⟨(dataAt sg.data n).toArray⟩, .slice pf ((fxAll (obP os) (b0 * 16) J.rels (b0 + sg.pg + n)).map fxC).length cf]] = (N ++ [Y]).map (fun p => shC p.1 p.2) := by
    rw [List.map_append, ← hR, hY]
    rfl
  refine q_loopK (n + 1, (p', R.length + 1, c'), (N ++ [Y]).map (fun p => shC p.1 p.2), N ++ [Y]) (by repeat (first | exact Fr.sub_nil _ | (apply Fr.sub_cons; exact rfl))) ⟨by show n + 1 ≤ _; omega, rfl, by show R.length + 1 = ((N ++ [Y]).map (fun p => shC p.1 p.2)).length; rw [List.length_map, List.length_append, hRl]; rfl, ?_, by show (N ++ [Y]).length ≤ _; rw [List.length_append]; simp only [List.length_cons, List.length_nil]; omega⟩ ?_ (by show _ - (n + 1) < _ - n; omega)
  · show (N ++ [Y]).map (·.1) = linkSh (obP os) (os.take i) ++ (pgsO b0 (J.segs.take k) ++ pgsS b0 sg (n + 1)).map _
    rw [List.map_append, hN, pgsS_succ, hY]
    simp only [List.map_append, List.map_cons, List.map_nil, List.append_assoc]
  · have e : (N ++ [Y]).map fxRow = N.map fxRow ++ [fxRow Y] := by rw [List.map_append]; rfl
    simp only [LdS, List.append_nil, List.cons_append]
    rw [← hYr, e]
    subst hY
    simp only [List.append_nil, List.cons_append] at hS2 ⊢
    exact hS2
end Go.Proofs.Ytejnpppejalhfab
/- The reference's SameSheets and SameLinked, of what is the same. -/
namespace Go.Proofs.Ytejnpppejalhfab
open Go.RowKit Go.Sort
theorem eqFx (a b : Fx) : EqIs Try.prog 124 (fxC a) (fxC b) (decide (a = b)) := by
  refine ⟨fun w => ?_, by kernel_rfl⟩
  cases a
  cases b
  unfold fxC
  simp [go_sem]
  repeat' split
  all_goals simp_all
theorem neS {α : Type} [DecidableEq α] (x : α) : (!decide (x = x)) = false := by simp
set_option maxRecDepth 100000 in
set_option maxHeartbeats 8000000 in
theorem SameSheets_fn {A B : List (Sh × Value)} {w : World} {va vb : Value} (hA : ShsV w A va) (hB : ShsV w B vb) (he : shs A = shs B) : Fn Try.prog 57 [va, vb] w (RBf (.bool true) w) := by
  have hsa := hA.sl
  have hsb := hB.sl
  have bnd := hA.sl.bound
  have hlen : A.length = B.length := by have := congrArg List.length he; rwa [shs_len, shs_len] at this
  obtain ⟨pa, ca, rfl⟩ := hA.sl.len
  obtain ⟨pb, cb, rfl⟩ := hB.sl.len
  rw [← hlen] at hsb ⊢
  refine fn_enter (fn := Try.f57) ⟨Try.func57, by kernel_rfl, by kernel_rfl⟩ (by exact rfl) Try.ntmps57 (by exact rfl) ?_
  have hS := St.start w
  have hnl := neS (A.length : Int)
  repeat' (first | (((with_reducible apply l_pure tabOk); exact rfl; exact rfl)) | (first | (with_reducible apply c_seq) | (with_reducible apply c_region) | (with_reducible apply l_nil) | (with_reducible apply q_then) | (with_reducible apply c_skip) | (with_reducible apply c_block)) | (((with_reducible apply c_iff); exact rfl; (assumption))))
  refine c_loopK (X := Nat) (fun x => [(5, .int .i64 (x : Nat))]) [0, 1] rfl (fun _ => []) (fun x => x ≤ A.length) (fun x => A.length - x) 0 (by repeat (first | exact Fr.sub_nil _ | (apply Fr.sub_cons; exact rfl))) (Nat.zero_le _) hS ?_
  clear hS
  intro i w1 hi hS
  dsimp only [List.cons_append, List.nil_append] at hi hS ⊢
  by_cases hlt : i < A.length
  rotate_left
  · repeat' (first | (((with_reducible apply l_pure tabOk); exact rfl; exact rfl)) | (first | (with_reducible apply c_seq) | (with_reducible apply c_region) | (with_reducible apply l_nil) | (with_reducible apply q_then) | (with_reducible apply c_exit) | (with_reducible apply c_ret) | (with_reducible apply q_then_exit) | (with_reducible apply q_block_exit)) | (((with_reducible apply c_ifd); exact rfl; all_goals (intro hb hp; try (exfalso; omega)))))
    (apply q_ret1); (repeat (first | exact ResL.nil | (apply ResL.tmp; exact rfl)))
    exact ⟨rfl, hS⟩
  obtain ⟨x, hx⟩ := lt_get (l := A) (i := i) (by omega)
  obtain ⟨y, hy⟩ := lt_get (l := B) (i := i) (by omega)
  have hxy : x.1 = y.1 := by
    have h1 := shs_at hx
    have h2 := shs_at hy
    rw [he, h2] at h1
    exact (Option.some.inj h1).symm
  have hrow := map_get (f := fun p => shC p.1 p.2) hx
  have hrow2 := map_get (f := fun p => shC p.1 p.2) hy
  have hfx := hA.fx x (List.mem_of_getElem? hx)
  have hfy := hB.fx y (List.mem_of_getElem? hy)
  obtain ⟨b, off, hpe, hro⟩ := hsa.parts.2.resolve_left (fun h => by have := congrArg List.length h; simp at this; rw [this] at hlt; simp at hlt)
  obtain ⟨b2, off2, hpe2, hro2⟩ := hsb.parts.2.resolve_left (fun h => by have := congrArg List.length h; simp at this; rw [this] at hlen; simp at hlen; rw [hlen] at hlt; simp at hlt)
  subst hpe hpe2
  replace hro := hro.2.2
  replace hro2 := hro2.2.2
  obtain ⟨S, u⟩ := x
  obtain ⟨S2, u2⟩ := y
  dsimp only at hxy
  subst hxy
  dsimp only [shC] at hrow hrow2 hfx hfy
  have bf := hfx.bound
  obtain ⟨pu, cu, rfl⟩ := hfx.len
  obtain ⟨pu2, cu2, rfl⟩ := hfy.len
  have q1 := neS S.page
  have q2 := neS S.data
  have q3 := neS (S.fixes.length : Int)
  repeat' (first | (((with_reducible apply l_pure tabOk); exact rfl; exact rfl)) | (first | (with_reducible apply c_seq) | (with_reducible apply c_region) | (with_reducible apply l_nil) | (with_reducible apply q_then) | (with_reducible apply c_skip) | (with_reducible apply c_block)) | (((with_reducible apply c_ifd); exact rfl; all_goals (intro hb hp; try (exfalso; omega)))))
  (focus ((with_reducible apply c_drawAll _ _ _ (by kernel_rfl) (by kernel_rfl) hS); (repeat' ((first | ((with_reducible apply d_pure tabOk); exact rfl; exact rfl) | ((with_reducible apply d_load); exact rfl; (intro wd hd; replace hd : St _ _ wd _ := hd; (first | ((with_reducible apply Loads.sc tabOk); exact rfl; (first | exact hd.roC0 (by assumption) (by assumption) rfl | exact hd.roC (by assumption) (by assumption) rfl)) | ((with_reducible apply Loads.sl tabOk); exact rfl; ((exact hd.roC (by assumption) (by assumption) rfl))))); exact rfl) | ((with_reducible apply d_ix tabOk); exact rfl; exact rfl; exact rfl; ((exact rfl)); ((omega)); exact rfl) | (first | ((with_reducible apply d_yes); exact rfl; exact rfl; exact rfl; exact rfl; (assumption)) | ((with_reducible apply d_pick2); exact rfl; ((assumption)); exact rfl; exact rfl))))); all_goals ((with_reducible apply d_nil); intro w' hS'; clear hS; have hS := hS'; clear hS')))
  repeat' (first | (((with_reducible apply l_pure tabOk); exact rfl; exact rfl)) | (first | (with_reducible apply c_seq) | (with_reducible apply c_region) | (with_reducible apply l_nil) | (with_reducible apply q_then) | (with_reducible apply c_skip) | (with_reducible apply c_block)) | (((with_reducible apply c_iff); exact rfl; (assumption))))
  refine c_loopK (X := Nat) (fun x => [(6, .int .i64 (x : Nat))]) [0, 1, 5] rfl (fun _ => []) (fun x => x ≤ S.fixes.length) (fun x => S.fixes.length - x) 0 (by repeat (first | exact Fr.sub_nil _ | (apply Fr.sub_cons; exact rfl))) (Nat.zero_le _) hS ?_
  clear hS
  intro k w2 hk hS
  dsimp only [List.cons_append, List.nil_append] at hk hS ⊢
  by_cases hkt : k < S.fixes.length
  · obtain ⟨f, hf⟩ := lt_get (l := S.fixes) (i := k) (by omega)
    have hrow3 := map_get (f := fxC) hf
    obtain ⟨b3, off3, hpe3, hro3⟩ := hfx.at_ (i := k) hkt
    obtain ⟨b4, off4, hpe4, hro4⟩ := hfy.at_ (i := k) hkt
    subst hpe3 hpe4
    have hd : (!decide (f = f)) = false := by simp
    repeat' (first | (first | ((with_reducible apply l_pure tabOk); exact rfl; exact rfl) | ((with_reducible apply l_load); exact rfl; (((with_reducible apply Loads.sl tabOk); exact rfl; ((exact hS.roC (by assumption) (by assumption) rfl)))); exact rfl) | ((with_reducible apply l_ix tabOk); exact rfl; exact rfl; exact rfl; ((exact rfl)); ((omega)); exact rfl)) | (first | (with_reducible apply c_seq) | (with_reducible apply c_region) | (with_reducible apply l_nil) | (with_reducible apply q_then) | (with_reducible apply c_skip) | (with_reducible apply c_block)) | (((with_reducible apply c_ifd); exact rfl; all_goals (intro hb hp; try (exfalso; omega)))))
    (focus ((with_reducible apply c_drawAll _ _ _ (by kernel_rfl) (by kernel_rfl) hS); (repeat' (first | (first | ((with_reducible apply d_pure tabOk); exact rfl; exact rfl) | ((with_reducible apply d_load); exact rfl; (intro wd hd; replace hd : St _ _ wd _ := hd; (first | ((with_reducible apply Loads.sl tabOk); exact rfl; ((exact hd.roC (by assumption) (by assumption) rfl))) | ((with_reducible apply Loads.st tabOk); exact rfl; ((exact hd.roR (by assumption) (by assumption))); exact rfl))); exact rfl) | ((with_reducible apply d_ix tabOk); exact rfl; exact rfl; exact rfl; ((exact rfl)); ((omega)); exact rfl)) | ((with_reducible apply d_nes); exact rfl; exact rfl; exact eqFx f f; exact rfl))); all_goals ((with_reducible apply d_nil); intro w' hS'; clear hS; have hS := hS'; clear hS')))
    repeat' (first | (first | ((with_reducible apply l_add); exact rfl; exact rfl; omega; omega; exact rfl) | ((with_reducible apply l_pure tabOk); exact rfl; exact rfl)) | (first | (with_reducible apply c_region) | (with_reducible apply l_nil) | (with_reducible apply q_then) | (with_reducible apply c_skip) | (with_reducible apply q_block)) | (((with_reducible apply c_iff); exact rfl; (assumption))))
    exact q_loopK (k + 1) (by repeat (first | exact Fr.sub_nil _ | (apply Fr.sub_cons; exact rfl))) (by show k + 1 ≤ _; omega) hS (by show _ - (k + 1) < _ - k; omega)
  · repeat' (first | (first | ((with_reducible apply l_add); exact rfl; exact rfl; omega; omega; exact rfl) | ((with_reducible apply l_pure tabOk); exact rfl; exact rfl) | ((with_reducible apply l_load); exact rfl; (((with_reducible apply Loads.sl tabOk); exact rfl; ((exact hS.roC (by assumption) (by assumption) rfl)))); exact rfl) | ((with_reducible apply l_ix tabOk); exact rfl; exact rfl; exact rfl; ((exact rfl)); ((omega)); exact rfl)) | (first | (with_reducible apply c_seq) | (with_reducible apply c_region) | (with_reducible apply l_nil) | (with_reducible apply q_then) | (with_reducible apply c_exit) | (with_reducible apply q_then_exit) | (with_reducible apply q_block) | (with_reducible apply q_block_exit)) | (((with_reducible apply c_ifd); exact rfl; all_goals (intro hb hp; try (exfalso; omega)))))
    exact q_loopK (i + 1) (by repeat (first | exact Fr.sub_nil _ | (apply Fr.sub_cons; exact rfl))) (by show i + 1 ≤ _; omega) hS (by show _ - (i + 1) < _ - i; omega)
set_option maxRecDepth 100000 in
set_option maxHeartbeats 8000000 in
theorem SameLinked_fn {A : List Ar} {X Y : List (Sh × Value)} {w : World} {va vs vb vt : Value} {en : Int} (h1 : Sl nF w 4 va (A.map arC)) (h2 : Sl nF w 4 vb (A.map arC)) (h3 : ShsV w X vs) (h4 : ShsV w Y vt) (he : shs X = shs Y) : Fn Try.prog 17 [lkA va vs en, lkA vb vt en] w (RBf (.bool true) w) := by
  have hsh := fun w (h3 : ShsV w X vs) (h4 : ShsV w Y vt) => SameSheets_fn h3 h4 he
  have q : decide (A = A) = true := by simp
  have hsa := fun w (h1 : Sl nF w 4 va (A.map arC)) (h2 : Sl nF w 4 vb (A.map arC)) => same_fn h1 h2
  rw [q] at hsa
  obtain ⟨p1, c1, rfl⟩ := h1.len
  obtain ⟨p2, c2, rfl⟩ := h2.len
  obtain ⟨p3, c3, rfl⟩ := h3.sl.len
  obtain ⟨p4, c4, rfl⟩ := h4.sl.len
  have q0 : decide (en = en) = true := by simp
  unfold lkA
  refine fn_enter (fn := Try.f17) ⟨Try.func17, by kernel_rfl, by kernel_rfl⟩ (by exact rfl) Try.ntmps17 (by exact rfl) ?_
  have hS := St.start w
  repeat' (first | (first | ((with_reducible apply l_pure tabOk); exact rfl; exact rfl) | ((with_reducible apply l_load); exact rfl; (first | ((with_reducible apply Loads.sc tabOk); exact rfl; (first | exact hS.blkC 0 rfl rfl | exact hS.blkC 1 rfl rfl)) | ((with_reducible apply Loads.sl tabOk); exact rfl; (first | exact hS.blkC 0 rfl rfl | exact hS.blkC 1 rfl rfl))); exact rfl) | ((with_reducible apply l_box hS); exact rfl; exact rfl; exact rfl; intro g w' hS'; clear hS; have hS := hS'; clear hS') | (first | ((with_reducible apply l_yes); exact rfl; exact rfl; exact rfl; exact rfl; first | exact rfl | assumption) | ((with_reducible apply l_pick1); exact rfl; (first | exact rfl | assumption); exact rfl; exact rfl))) | (first | (with_reducible apply c_seq) | (with_reducible apply c_region) | (with_reducible apply l_nil) | (with_reducible apply q_then) | (with_reducible apply c_ret)) | ((with_reducible apply l_call); exact rfl; exact rfl; exact hsa _ (h1.now hS) (h2.now hS); exact rfl; rintro _ w' ⟨rfl, hS'⟩; replace hS := hS.transA hS'; simp only [appA] at hS; clear hS') | ((with_reducible apply l_call); exact rfl; exact rfl; exact hsh _ (h3.now hS) (h4.now hS); exact rfl; rintro _ w' ⟨rfl, hS'⟩; replace hS := hS.transA hS'; simp only [appA] at hS; clear hS'))
  (apply q_ret1); (repeat (first | exact ResL.nil | (apply ResL.tmp; exact rfl)))
  exact ⟨rfl, hS.sub (List.nil_sublist _)⟩
end Go.Proofs.Ytejnpppejalhfab
/- The law LinkLinks: its walk. -/
namespace Go.Proofs.Ytejnpppejalhfab
open Go.RowKit Go.Sort
theorem Link_bad {w : World} {M : Ob} {Lb : List Ob} {vl : Value} (hM : ObV w M) (hL : Sl nF w 6 vl (Lb.map imR)) (hLo : ∀ o ∈ Lb, ObV w o) (hB : ∀ o ∈ M :: Lb, ImB o.im ∧ ImD o.im) (h : linkC M Lb ≠ 0) : Fn Try.prog 13 [imgV M, vl] w (RBf (.tuple #[.agg [.slice none 0 0, .slice none 0 0, .int .i64 0].toArray, .int .i64 (linkC M Lb)]) w) :=
  (Link_fn hM hL hLo hB).mono fun v w' hv => by
    rcases hv with ⟨-, h1, h2⟩ | ⟨h1, -⟩
    · exact ⟨h1, h2⟩
    · exact absurd h1 h
theorem Link_good {w : World} {M : Ob} {Lb : List Ob} {vl : Value} (hM : ObV w M) (hL : Sl nF w 6 vl (Lb.map imR)) (hLo : ∀ o ∈ Lb, ObV w o) (hB : ∀ o ∈ M :: Lb, ImB o.im ∧ ImD o.im) (h : linkC M Lb = 0) : Fn Try.prog 13 [imgV M, vl] w (fun v w' => ∃ (s : List Ob × Int) (pa : Option Addr) (ca : Nat) (ps : Option Addr) (cs : Nat) (N : List (Sh × Value)), allP (M :: Lb) 8 0 (plStep ([], 1) M) = some s ∧ N.map (·.1) = linkSh (obP s.1) s.1 ∧ v = .tuple #[.agg [.slice pa (linkAr s.1).length ca, .slice ps N.length cs, .int .i64 (16 + M.im.entry)].toArray, .int .i64 0] ∧ St nF w w' (.row 131 4 (.slice pa (linkAr s.1).length ca) ((linkAr s.1).map arC) :: .row 49 3 (.slice ps N.length cs) (N.map fun p => shC p.1 p.2) :: N.map fxRow)) :=
  (Link_fn hM hL hLo hB).mono fun v w' hv => by
    rcases hv with ⟨h1, -⟩ | ⟨-, s, va, vs, N, h1, h2, h3, h4⟩
    · exact absurd h h1
    · obtain ⟨pa, ca, rfl⟩ := h4.rowSlice 0 rfl
      obtain ⟨ps, cs, rfl⟩ := h4.rowSlice 1 rfl
      rw [List.length_map] at h3 h4
      rw [List.length_map] at h3 h4
      exact ⟨s, pa, ca, ps, cs, N, h1, h2, h3, h4⟩
theorem LinkedOf_good {w : World} {M : Ob} {Lb : List Ob} {vl : Value} (hM : ObV w M) (hL : Sl nF w 6 vl (Lb.map imR)) (hLo : ∀ o ∈ Lb, ObV w o) (h : linkC M Lb = 0) : Fn Try.prog 15 [imgV M, vl] w (fun v w' => ∃ (s : List Ob × Int) (pa : Option Addr) (ca : Nat) (ps : Option Addr) (cs : Nat) (N : List (Sh × Value)), allP (M :: Lb) 8 0 (plStep ([], 1) M) = some s ∧ N.map (·.1) = linkSh (obP s.1) s.1 ∧ v = .agg [.slice pa (linkAr s.1).length ca, .slice ps N.length cs, .int .i64 (16 + M.im.entry)].toArray ∧ St nF w w' (.row 131 4 (.slice pa (linkAr s.1).length ca) ((linkAr s.1).map arC) :: .row 49 3 (.slice ps N.length cs) (N.map fun p => shC p.1 p.2) :: N.map fxRow)) :=
  (LinkedOf_fn hM hL hLo h).mono fun v w' hv => by
    obtain ⟨s, va, vs, N, h1, h2, h3, h4⟩ := hv
    obtain ⟨pa, ca, rfl⟩ := h4.rowSlice 0 rfl
    obtain ⟨ps, cs, rfl⟩ := h4.rowSlice 1 rfl
    rw [List.length_map] at h3 h4
    rw [List.length_map] at h3 h4
    exact ⟨s, pa, ca, ps, cs, N, h1, h2, h3, h4⟩
theorem St.memSl {F : Nat → Prop} {w0 w : World} {Γ : List Asr} {e sz : Nat} {v : Value} {rows : List (List Value)} (hS : St F w0 w Γ) (h : Asr.row e sz v rows ∈ Γ) : Sl nF w sz v rows := by
  obtain ⟨j, hj⟩ := List.mem_iff_getElem?.1 h
  exact hS.rowSl j hj
/-- sheets that came, with their fixes, in a world -/
theorem St.shsV {F : Nat → Prop} {w0 w : World} {Γ : List Asr} {N : List (Sh × Value)} {v : Value} (hS : St F w0 w Γ) (hi : .row 49 3 v (N.map fun p => shC p.1 p.2) ∈ Γ) (hN : ∀ p ∈ N, fxRow p ∈ Γ) : ShsV w N v :=
  ⟨hS.memSl hi, fun p hp => hS.memSl (hN p hp)⟩
set_option maxRecDepth 100000 in
set_option maxHeartbeats 4000000 in
theorem LinkLinks_fn {w : World} {M : Ob} {Lb : List Ob} {vl : Value} (hM : ObV w M) (hL : Sl nF w 6 vl (Lb.map imR)) (hLo : ∀ o ∈ Lb, ObV w o) (hB : ∀ o ∈ M :: Lb, ImB o.im ∧ ImD o.im) : Fn Try.prog 4 [imgV M, vl] w (RBf (.bool true) w) := by
  have hbad := fun w (h1 : ObV w M) (h2 : Sl nF w 6 vl (Lb.map imR)) (h3 : ∀ o ∈ Lb, ObV w o) => Link_bad h1 h2 h3 hB
  have hgood := fun w (h1 : ObV w M) (h2 : Sl nF w 6 vl (Lb.map imR)) (h3 : ∀ o ∈ Lb, ObV w o) => Link_good h1 h2 h3 hB
  have herr := fun w (h1 : ObV w M) (h2 : Sl nF w 6 vl (Lb.map imR)) (h3 : ∀ o ∈ Lb, ObV w o) => LinkError_fn h1 h2 h3 hB
  have hof := fun w (h1 : ObV w M) (h2 : Sl nF w 6 vl (Lb.map imR)) (h3 : ∀ o ∈ Lb, ObV w o) => LinkedOf_good h1 h2 h3
  have hsl := fun (w : World) => SameLinked_fn (A := []) (X := []) (Y := []) (w := w) (en := 0) (Sl.nil0 w 4) (Sl.nil0 w 4) ⟨Sl.nil0 w 3, fun _ h => nomatch h⟩ ⟨Sl.nil0 w 3, fun _ h => nomatch h⟩ rfl
  have hsl2 := fun (w : World) (A : List Ar) (X Y : List (Sh × Value)) va vb vs vt h1 h2 h3 h4 he => SameLinked_fn (A := A) (X := X) (Y := Y) (w := w) (va := va) (vb := vb) (vs := vs) (vt := vt) (en := 16 + M.im.entry) h1 h2 h3 h4 he
  obtain ⟨pl, cl, rfl⟩ := hL.len
  have hM1 := hM
  obtain ⟨I, vn, vs, vy, vr, a0⟩ := M
  replace hM1 : ImV w I vn vs vy vr := hM1
  obtain ⟨pn, cn, rfl⟩ := hM1.needs.len
  obtain ⟨ps, cs, rfl⟩ := hM1.segs.len
  obtain ⟨py, cy, rfl⟩ := hM1.syms.len
  obtain ⟨pr, cr, rfl⟩ := hM1.rels.len
  unfold imgV imC at hbad hgood herr hof ⊢
  unfold lkA at hsl hsl2
  dsimp only at hbad hgood herr hof hsl2 ⊢
  by_cases hc : linkC ⟨I, .slice pn I.needs.length cn, .slice ps I.segs.length cs, .slice py I.syms.length cy, .slice pr I.rels.length cr, a0⟩ Lb = 0
  rotate_left
  · have hbad2 := fun w h1 h2 h3 => hbad w h1 h2 h3 hc
    clear hgood hof hbad hsl2
    generalize linkC _ Lb = c at hbad2 herr hc
    have hd : decide (c = 0) = false := decide_eq_false hc
    have hdc : decide (c = c) = true := by simp
    refine fn_enter (fn := Try.f4) ⟨Try.func4, by kernel_rfl, by kernel_rfl⟩ (by exact rfl) Try.ntmps4 (by exact rfl) ?_
    have hS := St.start w
    repeat' (first | (first | ((with_reducible apply l_pure tabOk); exact rfl; exact rfl) | ((with_reducible apply l_load); exact rfl; (((with_reducible apply Loads.st tabOk); exact rfl; (first | exact hS.blkR 0 rfl | exact hS.blkR 1 rfl); exact rfl)); exact rfl) | ((with_reducible apply l_box hS); exact rfl; exact rfl; exact rfl; intro g w' hS'; clear hS; have hS := hS'; clear hS') | ((with_reducible apply l_alloc hS tabOk); exact rfl; exact rfl; exact rfl; intro g w' hS'; clear hS; have hS := hS'; clear hS') | (((with_reducible apply l_store hS tabOk (i := 0)); exact rfl; exact rfl; exact rfl; exact rfl; exact rfl; exact rfl; exact rfl; exact rfl; ((exact (rfl : _ = [_, _, _]))); intro w' hS'; simp only [List.set] at hS'; clear hS; have hS := hS'; clear hS')) | (first | ((with_reducible apply l_yes); exact rfl; exact rfl; exact rfl; exact rfl; first | exact rfl | assumption) | ((with_reducible apply l_pick1); exact rfl; (first | exact rfl | assumption); exact rfl; exact rfl))) | (first | (with_reducible apply c_seq) | (with_reducible apply c_region) | (with_reducible apply l_nil) | (with_reducible apply q_then) | (with_reducible apply c_skip) | (with_reducible apply c_ret)) | (((with_reducible apply c_iff); exact rfl; (assumption))) | ((with_reducible apply l_call); exact rfl; exact rfl; exact hbad2 _ (hM.now hS) (hL.now hS) (fun o ho => (hLo o ho).now hS); exact rfl; rintro _ w' ⟨rfl, hS'⟩; replace hS := hS.transA hS'; simp only [appA] at hS; clear hS') | ((with_reducible apply l_call); exact rfl; exact rfl; exact herr _ (hM.now hS) (hL.now hS) (fun o ho => (hLo o ho).now hS); exact rfl; rintro _ w' ⟨rfl, hS'⟩; replace hS := hS.transA hS'; simp only [appA] at hS; clear hS') | ((with_reducible apply l_call); exact rfl; exact rfl; exact hsl _; exact rfl; rintro _ w' ⟨rfl, hS'⟩; replace hS := hS.transA hS'; simp only [appA] at hS; clear hS') | ((with_reducible apply l_call); exact rfl; exact rfl; exact linkBegun_fn _; exact rfl; rintro _ w' ⟨rfl, hS'⟩; replace hS := hS.transA hS'; simp only [appA] at hS; clear hS'))
    (apply q_ret1); (repeat (first | exact ResL.nil | (apply ResL.tmp; exact rfl)))
    exact ⟨rfl, hS.sub (List.nil_sublist _)⟩
  · have hgood2 := fun w h1 h2 h3 => hgood w h1 h2 h3 hc
    have hof2 := fun w h1 h2 h3 => hof w h1 h2 h3 hc
    rw [hc] at herr
    clear hgood hof hbad hsl
    generalize allP _ 8 0 (plStep ([], 1) _) = RR at hgood2 hof2
    have hd : decide ((0 : Int) = 0) = true := rfl
    refine fn_enter (fn := Try.f4) ⟨Try.func4, by kernel_rfl, by kernel_rfl⟩ (by exact rfl) Try.ntmps4 (by exact rfl) ?_
    have hS := St.start w
    repeat' (first | (first | ((with_reducible apply l_pure tabOk); exact rfl; exact rfl) | ((with_reducible apply l_load); exact rfl; (((with_reducible apply Loads.st tabOk); exact rfl; ((exact hS.blkR 0 rfl)); exact rfl)); exact rfl) | ((with_reducible apply l_box hS); exact rfl; exact rfl; exact rfl; intro g w' hS'; clear hS; have hS := hS'; clear hS')) | (first | (with_reducible apply c_seq) | (with_reducible apply c_region) | (with_reducible apply l_nil) | (with_reducible apply q_then)))
    ((with_reducible apply l_call); exact rfl; exact rfl; exact hgood2 _ (hM.now hS) (hL.now hS) (fun o ho => (hLo o ho).now hS); exact rfl; rintro _ w' ⟨s, pa, ca, ps', cs', N, hs, hN, rfl, hS'⟩)
    replace hS := (hS.trans hS').perm List.perm_append_comm
    simp only [List.cons_append, List.nil_append] at hS
    clear hS'
    repeat' (first | (first | ((with_reducible apply l_pure tabOk); exact rfl; exact rfl) | ((with_reducible apply l_load); exact rfl; (((with_reducible apply Loads.st tabOk); exact rfl; (first | exact hS.blkR 1 rfl | exact hS.blkR 2 rfl); exact rfl)); exact rfl) | ((with_reducible apply l_alloc hS tabOk); exact rfl; exact rfl; exact rfl; intro g w' hS'; clear hS; have hS := hS'; clear hS') | (((with_reducible apply l_store hS tabOk (i := 0)); exact rfl; exact rfl; exact rfl; exact rfl; exact rfl; exact rfl; exact rfl; exact rfl; ((exact (rfl : _ = [_, _, _]))); intro w' hS'; simp only [List.set] at hS'; clear hS; have hS := hS'; clear hS'))) | (first | (with_reducible apply c_seq) | (with_reducible apply c_region) | (with_reducible apply l_nil) | (with_reducible apply q_then)) | (((with_reducible apply c_ift); exact rfl; (exact rfl))) | ((with_reducible apply l_call); exact rfl; exact rfl; exact herr _ (hM.now hS) (hL.now hS) (fun o ho => (hLo o ho).now hS); exact rfl; rintro _ w' ⟨rfl, hS'⟩; replace hS := hS.transA hS'; simp only [appA] at hS; clear hS'))
    ((with_reducible apply l_call); exact rfl; exact rfl; exact hof2 _ (hM.now hS) (hL.now hS) (fun o ho => (hLo o ho).now hS); exact rfl; rintro _ w' ⟨s', pb, cb, pt, ct, N', hs', hN', rfl, hS'⟩)
    obtain rfl : s = s' := Option.some.inj (hs.symm.trans hs')
    replace hS := (hS.trans hS').perm List.perm_append_comm
    simp only [List.cons_append, List.nil_append] at hS
    clear hS'
    have hsame := fun w h1 h2 h3 h4 => hsl2 w (linkAr s.1) N N' (.slice pa (linkAr s.1).length ca) (.slice pb (linkAr s.1).length cb) (.slice ps' N.length cs') (.slice pt N'.length ct) h1 h2 h3 h4 (hN.trans hN'.symm)
    clear hsl2
    repeat' (first | (first | ((with_reducible apply l_pure tabOk); exact rfl; exact rfl) | ((with_reducible apply l_load); exact rfl; (((with_reducible apply Loads.st tabOk); exact rfl; (first | exact hS.blkR 0 rfl | exact hS.blkR 1 rfl); exact rfl)); exact rfl) | (((with_reducible apply l_store hS tabOk (i := 0)); exact rfl; exact rfl; exact rfl; exact rfl; exact rfl; exact rfl; exact rfl; exact rfl; ((exact (rfl : _ = [_, _, _]))); intro w' hS'; simp only [List.set] at hS'; clear hS; have hS := hS'; clear hS')) | (first | ((with_reducible apply l_yes); exact rfl; exact rfl; exact rfl; exact rfl; (exact rfl)) | ((with_reducible apply l_pick1); exact rfl; ((exact rfl)); exact rfl; exact rfl))) | (first | (with_reducible apply c_seq) | (with_reducible apply c_region) | (with_reducible apply l_nil) | (with_reducible apply q_then)) | ((with_reducible apply l_call); exact rfl; exact rfl; exact linkBegun_fn _; exact rfl; rintro _ w' ⟨rfl, hS'⟩; replace hS := hS.transA hS'; simp only [appA] at hS; clear hS'))
    have m1 : Sl nF w' 4 (.slice pa (linkAr s.1).length ca) ((linkAr s.1).map arC) := hS.memSl (e := 131) (by simp only [List.mem_cons, true_or, or_true])
    have m2 : Sl nF w' 4 (.slice pb (linkAr s.1).length cb) ((linkAr s.1).map arC) := hS.memSl (e := 131) (by simp only [List.mem_cons, List.mem_append, true_or, or_true])
    have m3 : ShsV w' N (.slice ps' N.length cs') := hS.shsV (by simp only [List.mem_cons, true_or, or_true]) (fun p hp => by
      repeat apply List.mem_cons_of_mem
      exact List.mem_append_left _ (List.mem_map.2 ⟨p, hp, rfl⟩))
    have m4 : ShsV w' N' (.slice pt N'.length ct) := hS.shsV (by simp only [List.mem_cons, List.mem_append, true_or, or_true]) (fun p hp => by
      repeat apply List.mem_cons_of_mem
      refine List.mem_append_right _ ?_
      repeat apply List.mem_cons_of_mem
      exact List.mem_map.2 ⟨p, hp, rfl⟩)
    repeat' (first | (first | ((with_reducible apply l_pure tabOk); exact rfl; exact rfl) | (((with_reducible apply l_pick1); exact rfl; ((exact rfl)); exact rfl; exact rfl))) | (first | (with_reducible apply l_nil) | (with_reducible apply q_then) | (with_reducible apply c_ret)) | ((with_reducible apply l_call); exact rfl; exact rfl; exact hsame _ m1 m2 m3 m4; exact rfl; rintro _ w' ⟨rfl, hS'⟩; replace hS := hS.transA hS'; simp only [appA] at hS; clear hS'))
    (apply q_ret1); (repeat (first | exact ResL.nil | (apply ResL.tmp; exact rfl)))
    exact ⟨rfl, hS.sub (List.nil_sublist _)⟩
end Go.Proofs.Ytejnpppejalhfab
/- Arguments that are slices, opened: what their elements' cells are. -/
namespace Go.Proofs.Ytejnpppejalhfab
open Go.ChangeShapes Go.WideShapes Go.ChangeAt Go.RowKit Go.Deep

/-- these rows are what these things' cells are -/
def RowsAre {α : Type} (R : α → List Value → Prop) (xs : List α) (rows : List (List Value)) : Prop := rows.length = xs.length ∧ ∀ (i : Nat) (x : α) (r : List Value), xs[i]? = some x → rows[i]? = some r → R x r

section
variable {H : Type} {enc : TypeId × Value → H} {P : Program} {w : World} {base : Nat} {spare : Nat → Bool} {held : Bool}
end
end Go.Proofs.Ytejnpppejalhfab
/- Arguments opened, with the bounds of the second form. -/
namespace Go.Proofs.Ytejnpppejalhfab
open Go.ChangeShapes Go.WideShapes Go.ChangeAt Go.RowKit Go.Deep

section bulk
variable {H : Type}
theorem bk_one (d : DataW H) : 1 ≤ Rows.uptoBulk d := by
  cases d with
  | lit l => cases l <;> simp [Rows.uptoBulk]
  | nil => simp [Rows.uptoBulk]
  | ptr d => simp [Rows.uptoBulk]
  | slice elems spare => simp [Rows.uptoBulk]
  | agg parts => simp [Rows.uptoBulk]
  | iface t d => simp [Rows.uptoBulk]
  | map entries => simp [Rows.uptoBulk]
  | held h => simp [Rows.uptoBulk]
theorem bk_mem {d : DataW H} {l : List (DataW H)} (h : d ∈ l) : Rows.uptoBulk d ≤ Rows.uptoBulkAll l := by
  induction l with
  | nil => cases h
  | cons x r ih =>
    simp only [Rows.uptoBulkAll]
    rcases List.mem_cons.1 h with rfl | e
    · omega
    · have := ih e; omega
theorem bk_len (l : List (DataW H)) : l.length ≤ Rows.uptoBulkAll l := by
  induction l with
  | nil => simp [Rows.uptoBulkAll]
  | cons x r ih => have := bk_one x; simp only [Rows.uptoBulkAll, List.length_cons]; omega
theorem bk_slice (l s : List (DataW H)) : Rows.uptoBulkAll l + 1 ≤ Rows.uptoBulk (.slice l s) := by
  simp only [Rows.uptoBulk]; omega
theorem bk_agg {d : DataW H} {l : List (DataW H)} (h : d ∈ l) : Rows.uptoBulk d + 1 ≤ Rows.uptoBulk (.agg l) := by
  have := bk_mem h
  simp only [Rows.uptoBulk]; omega
theorem bk_str (b : List UInt8) : Rows.uptoBulk (DataW.lit (H := H) (.string b)) = b.length + 1 := by simp [Rows.uptoBulk]
theorem bk_bound {l : List (DataW H)} (hk : Rows.uptoSmall H l = true) : Rows.uptoBulkAll l ≤ 1048576 := of_decide_eq_true hk
end bulk
section
variable {H : Type} {enc : TypeId × Value → H} {P : Program} {w : World} {base : Nat} {spare : Nat → Bool} {held : Bool}
/-- a slice, opened; of each element, and of what it holds: sz, bounded by the bulk -/
theorem open_slB {α : Type} [Inhabited α] {t e : TypeId} {fuel sz : Nat} {cs : List Value} {y : DataW H × List MemPlace} (ht : P.underlying t = some (.slice e)) (hsz : P.cellsOf e = sz) (hpos : 0 < sz) (R : α → List Value → Prop) (B : α → Nat) (hR1 : ∀ x r, R x r → r.all (·.oneCell') = true)
    (hR : ∀ (n : Nat) (cs' : List Value) (z : DataW H × List MemPlace), cs'.length = sz → DataW.trod enc P w base spare held n e cs' = some z → ∃ x : α, R x cs' ∧ B x ≤ Rows.uptoBulk z.1) (h : DataW.trod enc P w base spare held fuel t cs = some y) :
    ∃ v xs rows, cs = [v] ∧ Sl nF w sz v rows ∧ RowsAre R xs rows ∧ v.oneCell' = true ∧ xs.length + 1 ≤ Rows.uptoBulk y.1 ∧ ∀ x ∈ xs, B x + 1 ≤ Rows.uptoBulk y.1 := by
  rcases open_slice ht h with ⟨rfl, rfl⟩ | ⟨a, len, cap, m, n, D, Pl, rfl, hb, hl, hm, hmm, rfl, hx⟩
  · exact ⟨_, [], [], rfl, Or.inl ⟨_, _, rfl, rfl⟩, ⟨rfl, fun i x r h => by simp at h⟩, rfl, by simp [Rows.uptoBulk], by simp⟩
  · have hlm : len ≤ m := by rw [hmm]; split <;> omega
    rw [hsz] at hx
    have key : ∀ i, ∃ r x, i < len → w.cells? base (a.add (i * sz)) sz = some r ∧ R x r ∧ r.length = sz ∧ B x ≤ Rows.uptoBulk (D i) := fun i => by
      by_cases hi : i < len
      · obtain ⟨cs', h1, h2⟩ := hx i (by omega)
        have hl := (World.cells?_some h1).2.1
        obtain ⟨x, hr, hb⟩ := hR n cs' _ hl h2
        exact ⟨cs', x, fun _ => ⟨h1, hr, hl, hb⟩⟩
      · exact ⟨[], default, fun h => (hi h).elim⟩
    obtain ⟨r, hr⟩ := Classical.axiomOfChoice key
    obtain ⟨x, hr⟩ := Classical.axiomOfChoice hr
    refine ⟨_, (List.range len).map x, (List.range len).map r, rfl, ?_, ⟨by simp, fun i y r' h1 h2 => ?_⟩, rfl, ?_, fun y hy => ?_⟩
    · by_cases h0 : len = 0
      · subst h0; exact Or.inl ⟨_, _, rfl, rfl⟩
      · obtain ⟨b, off, spot⟩ := a
        have hcell : ∀ i, i < len → ∀ j, j < sz → w.cell? (((⟨b, off, spot⟩ : Addr).add (i * sz)).add j) = (r i)[j]? := fun i hi j hj => (World.cells?_some (hr i hi).1).2.2 j hj
        have h00 := hcell 0 (by omega) 0 hpos
        obtain ⟨u0, hu0⟩ : ∃ u, (r 0)[0]? = some u := ⟨(r 0)[0]'(by rw [(hr 0 (by omega)).2.2.1]; exact hpos), by simp⟩
        rw [hu0] at h00
        simp only [Nat.zero_mul, Addr.add, if_true] at h00
        have hspot : spot = none := by
          cases spot with
          | none => rfl
          | some s => simp [World.cell?] at h00; split at h00 <;> simp at h00
        subst hspot
        have hbl := World.block_lt_of_cell? w _ h00
        refine Or.inr ⟨b, off, cap, by simp, by simpa using hl, hm, ⟨hbl, id, fun r' hr' => ?_, fun r' hr' => ?_, fun k r' hk j u hj => ?_⟩⟩
        · obtain ⟨i, hi, rfl⟩ := List.mem_map.1 hr'
          exact (hr i (by simpa using hi)).2.2.1
        · obtain ⟨i, hi, rfl⟩ := List.mem_map.1 hr'
          exact hR1 _ _ (hr i (by simpa using hi)).2.1
        · have hk' : k < len := by have := lt_of_getE hk; simpa using this
          simp [hk'] at hk
          subst hk
          have hjl : j < sz := by have := lt_of_getE hj; rwa [(hr k hk').2.2.1] at this
          have := hcell k hk' j hjl
          rw [hj] at this
          rwa [Addr.add_mid, Addr.add_mid] at this
    · have hi : i < len := by have := lt_of_getE h1; simpa using this
      simp [hi] at h1 h2
      subst h1 h2
      exact (hr i hi).2.1
    · have h1 := bk_slice ((List.range len).map D) ((List.range (m - len)).map fun j => D (len + j))
      have h2 := bk_len ((List.range len).map D)
      simp only [List.length_map, List.length_range] at h2 ⊢
      omega
    · obtain ⟨i, hi, rfl⟩ := List.mem_map.1 hy
      have h1 := bk_slice ((List.range len).map D) ((List.range (m - len)).map fun j => D (len + j))
      have h2 : Rows.uptoBulk (D i) ≤ Rows.uptoBulkAll ((List.range len).map D) := bk_mem (List.mem_map.2 ⟨i, hi, rfl⟩)
      have h3 := (hr i (by simpa using hi)).2.2.2
      show B (x i) + 1 ≤ Rows.uptoBulk (DataW.slice ((List.range len).map D) ((List.range (m - len)).map fun j => D (len + j)))
      omega
/-- rows that are equal to cells -/
theorem rows_map {α : Type} {f : α → List Value} {xs : List α} {rows : List (List Value)} (h : RowsAre (fun a r => r = f a) xs rows) : rows = xs.map f := by
  obtain ⟨h1, h2⟩ := h
  apply List.ext_getElem?
  intro i
  rw [List.getElem?_map]
  by_cases hi : i < xs.length
  · rw [List.getElem?_eq_getElem hi, List.getElem?_eq_getElem (by omega)]
    simp only [Option.map_some, Option.some.injEq]
    exact h2 i _ _ (List.getElem?_eq_getElem hi) (List.getElem?_eq_getElem (by omega))
  · rw [List.getElem?_eq_none (by omega), List.getElem?_eq_none (by omega)]; rfl
end
section
variable {H : Type} {enc : TypeId × Value → H} {W : World} {base b0 : Nat} {sp : Nat → Bool} {held : Bool}
theorem uI {n : Nat} {t : TypeId} {c : Value} {o : Option (DataW H × List MemPlace)} (ht : (Try.prog).underlying t = some (.int .i64)) (h : DataW.trod enc Try.prog W base sp held n t [c] = o) (ho : o.isSome = true) : ∃ k : Int, c = .int .i64 k ∧ (Lit.int .i64 k).wf = true := by
  obtain ⟨x, hx⟩ := Option.isSome_iff_exists.1 ho
  obtain ⟨k, hk, _, hw⟩ := DataW.trod_int ht (h.trans hx)
  simp only [List.cons.injEq, and_true] at hk
  exact ⟨k, hk, hw⟩
theorem uB {n : Nat} {t : TypeId} {c : Value} {o : Option (DataW H × List MemPlace)} (ht : (Try.prog).underlying t = some .bool) (h : DataW.trod enc Try.prog W base sp held n t [c] = o) (ho : o.isSome = true) : ∃ b : Bool, c = .bool b := by
  obtain ⟨x, hx⟩ := Option.isSome_iff_exists.1 ho
  obtain ⟨b, hb, _⟩ := DataW.trod_bool ht (h.trans hx)
  simp only [List.cons.injEq, and_true] at hb
  exact ⟨b, hb⟩
theorem uS {n : Nat} {t : TypeId} {c : Value} {x : DataW H × List MemPlace} (ht : (Try.prog).underlying t = some .string) (h : DataW.trod enc Try.prog W base sp held n t [c] = some x) : ∃ l : List UInt8, c = .string ⟨l.toArray⟩ ∧ l.length ≤ maxLen ∧ l.length + 1 ≤ Rows.uptoBulk x.1 := by
  obtain ⟨s, hs, rfl, hl⟩ := DataW.trod_string ht h
  simp only [List.cons.injEq, and_true] at hs
  obtain ⟨⟨l⟩⟩ := s
  exact ⟨l, hs, by simpa [ByteArray.size] using hl, by rw [bk_str]; exact Nat.le_refl _⟩
theorem gE {α : Type} {l : List α} {i : Nat} (h : i < l.length) : ∃ x, l[i]? = some x := ⟨l[i], by simp⟩
theorem uc_int : (Try.prog).cellsOf 3 = 1 := by kernel_rfl
theorem uc_bool : (Try.prog).cellsOf 4 = 1 := by kernel_rfl
theorem uc_string : (Try.prog).cellsOf 9 = 1 := by kernel_rfl
/-- part i of a struct's reading -/
theorem bk_part {xs : List (DataW H × List MemPlace)} {i : Nat} {x : DataW H × List MemPlace} (h : xs[i]? = some x) : Rows.uptoBulk x.1 + 1 ≤ Rows.uptoBulk (DataW.agg (xs.map (·.1))) := bk_agg (List.mem_map.2 ⟨x, List.mem_of_getElem? h, rfl⟩)
end
end Go.Proofs.Ytejnpppejalhfab
/- An image that came in. -/
namespace Go.Proofs.Ytejnpppejalhfab
open Go.ChangeShapes Go.WideShapes Go.ChangeAt Go.RowKit

section
variable {H : Type} {enc : TypeId × Value → H} {W : World} {base b0 : Nat} {sp : Nat → Bool} {held : Bool}
instance : Inhabited Sg := ⟨zeroSg⟩
instance : Inhabited Sy := ⟨⟨[], 0⟩⟩
instance : Inhabited Rl := ⟨⟨0, [], 0⟩⟩
theorem uc_seg : (Try.prog).cellsOf 82 = 5 := by kernel_rfl
theorem uc_sym : (Try.prog).cellsOf 85 = 2 := by kernel_rfl
theorem uc_rel : (Try.prog).cellsOf 87 = 3 := by kernel_rfl
theorem uc_needs : (Try.prog).cellsOf 22 = 1 := by kernel_rfl
theorem uc_segs : (Try.prog).cellsOf 23 = 1 := by kernel_rfl
theorem uc_syms : (Try.prog).cellsOf 24 = 1 := by kernel_rfl
theorem uc_rels : (Try.prog).cellsOf 25 = 1 := by kernel_rfl
/-- a number that an int holds -/
def InI (n : Int) : Prop := -9223372036854775808 ≤ n ∧ n ≤ 9223372036854775807
theorem InI.of {n : Int} (h : (Lit.int .i64 n).wf = true) : InI n := by
  unfold InI
  simpa [Lit.wf, IntKind.min, IntKind.max, IntKind.signed, IntKind.bits] using h
structure SgI (s : Sg) : Prop where
  pg : InI s.pg
  n : InI s.n
set_option maxRecDepth 100000 in
theorem open_seg {n : Nat} {cs : List Value} {z : DataW H × List MemPlace} (hl : cs.length = 5) (h : DataW.trod enc Try.prog W base sp held n 82 cs = some z) : ∃ a : Sg, (cs = sgC a ∧ SgI a) ∧ a.data.length ≤ Rows.uptoBulk z.1 := by
  match cs, hl with
  | [c0, c1, c2, c3, c4], _ =>
    obtain ⟨xs, n, _, rfl, _, hl, hf⟩ := DataW.trod_struct Try.underlying82 h
    have f0 := hf 0 _ rfl
    have f1 := hf 1 _ rfl
    have f2 := hf 2 _ rfl
    have f3 := hf 3 _ rfl
    have f4 := hf 4 _ rfl
    simp only [List.getElem_toArray, List.getElem_cons_zero, List.getElem_cons_succ, uc_int, uc_bool, uc_string, List.drop_succ_cons, List.drop_zero, List.take_succ_cons, List.take_zero] at f0 f1 f2 f3 f4
    have hl : xs.length = 5 := hl
    obtain ⟨y2, e2⟩ := gE (l := xs) (i := 2) (by omega)
    rw [e2] at f2
    obtain ⟨k0, rfl, i0⟩ := uI Try.underlying3 f0 (by obtain ⟨y, e⟩ := gE (l := xs) (i := 0) (by omega); rw [e]; rfl)
    obtain ⟨k1, rfl, i1⟩ := uI Try.underlying3 f1 (by obtain ⟨y, e⟩ := gE (l := xs) (i := 1) (by omega); rw [e]; rfl)
    obtain ⟨l2, rfl, _, b2⟩ := uS Try.underlying9 f2
    obtain ⟨k3, rfl⟩ := uB Try.underlying4 f3 (by obtain ⟨y, e⟩ := gE (l := xs) (i := 3) (by omega); rw [e]; rfl)
    obtain ⟨k4, rfl⟩ := uB Try.underlying4 f4 (by obtain ⟨y, e⟩ := gE (l := xs) (i := 4) (by omega); rw [e]; rfl)
    have := bk_part e2
    exact ⟨⟨k0, k1, l2, k3, k4⟩, ⟨rfl, ⟨InI.of i0, InI.of i1⟩⟩, by show l2.length ≤ Rows.uptoBulk (DataW.agg _); omega⟩
set_option maxRecDepth 100000 in
theorem open_sym {n : Nat} {cs : List Value} {z : DataW H × List MemPlace} (hl : cs.length = 2) (h : DataW.trod enc Try.prog W base sp held n 85 cs = some z) : ∃ a : Sy, (cs = syC a ∧ InI a.at_) ∧ a.name.length ≤ Rows.uptoBulk z.1 := by
  match cs, hl with
  | [c0, c1], _ =>
    obtain ⟨xs, n, _, rfl, _, hl, hf⟩ := DataW.trod_struct Try.underlying85 h
    have f0 := hf 0 _ rfl
    have f1 := hf 1 _ rfl
    simp only [List.getElem_toArray, List.getElem_cons_zero, List.getElem_cons_succ, uc_int, uc_string, List.drop_succ_cons, List.drop_zero, List.take_succ_cons, List.take_zero] at f0 f1
    have hl : xs.length = 2 := hl
    obtain ⟨y0, e0⟩ := gE (l := xs) (i := 0) (by omega)
    rw [e0] at f0
    obtain ⟨l0, rfl, _, b0⟩ := uS Try.underlying9 f0
    obtain ⟨k1, rfl, i1⟩ := uI Try.underlying3 f1 (by obtain ⟨y, e⟩ := gE (l := xs) (i := 1) (by omega); rw [e]; rfl)
    have := bk_part e0
    exact ⟨⟨l0, k1⟩, ⟨rfl, InI.of i1⟩, by show l0.length ≤ Rows.uptoBulk (DataW.agg _); omega⟩
set_option maxRecDepth 100000 in
theorem open_rel {n : Nat} {cs : List Value} {z : DataW H × List MemPlace} (hl : cs.length = 3) (h : DataW.trod enc Try.prog W base sp held n 87 cs = some z) : ∃ a : Rl, (cs = rlC a ∧ InI a.at_ ∧ InI a.add) ∧ a.name.length ≤ Rows.uptoBulk z.1 := by
  match cs, hl with
  | [c0, c1, c2], _ =>
    obtain ⟨xs, n, _, rfl, _, hl, hf⟩ := DataW.trod_struct Try.underlying87 h
    have f0 := hf 0 _ rfl
    have f1 := hf 1 _ rfl
    have f2 := hf 2 _ rfl
    simp only [List.getElem_toArray, List.getElem_cons_zero, List.getElem_cons_succ, uc_int, uc_string, List.drop_succ_cons, List.drop_zero, List.take_succ_cons, List.take_zero] at f0 f1 f2
    have hl : xs.length = 3 := hl
    obtain ⟨y1, e1⟩ := gE (l := xs) (i := 1) (by omega)
    rw [e1] at f1
    obtain ⟨k0, rfl, i0⟩ := uI Try.underlying3 f0 (by obtain ⟨y, e⟩ := gE (l := xs) (i := 0) (by omega); rw [e]; rfl)
    obtain ⟨l1, rfl, _, b1⟩ := uS Try.underlying9 f1
    obtain ⟨k2, rfl, i2⟩ := uI Try.underlying3 f2 (by obtain ⟨y, e⟩ := gE (l := xs) (i := 2) (by omega); rw [e]; rfl)
    have := bk_part e1
    exact ⟨⟨k0, l1, k2⟩, ⟨rfl, InI.of i0, InI.of i2⟩, by show l1.length ≤ Rows.uptoBulk (DataW.agg _); omega⟩
theorem open_str1 {n : Nat} {cs : List Value} {z : DataW H × List MemPlace} (hl : cs.length = 1) (h : DataW.trod enc Try.prog W base sp held n 9 cs = some z) : ∃ l : List UInt8, cs = stC l ∧ l.length ≤ Rows.uptoBulk z.1 := by
  match cs, hl with
  | [c0], _ =>
    obtain ⟨l, rfl, _, hb⟩ := uS Try.underlying9 h
    exact ⟨l, rfl, by omega⟩
theorem rows_map2 {α : Type} {f : α → List Value} {G : α → Prop} {xs : List α} {rows : List (List Value)} (h : RowsAre (fun a r => r = f a ∧ G a) xs rows) : rows = xs.map f ∧ ∀ x ∈ xs, G x := by
  refine ⟨rows_map ⟨h.1, fun i x r h1 h2 => (h.2 i x r h1 h2).1⟩, fun x hx => ?_⟩
  obtain ⟨i, hi⟩ := List.mem_iff_getElem?.1 hx
  have hl := lt_of_getE hi
  exact (h.2 i x _ hi (List.getElem?_eq_getElem (by rw [h.1]; exact hl))).2
/-- all numbers of an image are numbers that an int holds -/
structure ImI (I : Im) : Prop where
  segs : ∀ s ∈ I.segs, SgI s
  syms : ∀ s ∈ I.syms, InI s.at_
  rels : ∀ r ∈ I.rels, InI r.at_ ∧ InI r.add
  entry : InI I.entry
structure ImBd (I : Im) (N : Nat) : Prop where
  name : I.name.length ≤ N
  needs : I.needs.length ≤ N
  segs : I.segs.length ≤ N
  syms : I.syms.length ≤ N
  rels : I.rels.length ≤ N
  need1 : ∀ s ∈ I.needs, s.length ≤ N
  seg1 : ∀ s ∈ I.segs, s.data.length ≤ N
  sym1 : ∀ s ∈ I.syms, s.name.length ≤ N
  rel1 : ∀ s ∈ I.rels, s.name.length ≤ N
set_option maxRecDepth 100000 in
theorem open_imgC {n : Nat} {cs : List Value} {z : DataW H × List MemPlace} (hl : cs.length = 6) (h : DataW.trod enc Try.prog W base sp held n 27 cs = some z) :
    ∃ I vn vs vy vr, .agg cs.toArray = imA I vn vs vy vr ∧ ImV W I vn vs vy vr ∧ ImI I ∧ ImBd I (Rows.uptoBulk z.1) ∧ cs.all (·.oneCell') = true := by
  match cs, hl with
  | [c0, c1, c2, c3, c4, c5], _ =>
    obtain ⟨xs, n, _, rfl, _, hl, hf⟩ := DataW.trod_struct Try.underlying27 h
    have f0 := hf 0 _ rfl
    have f1 := hf 1 _ rfl
    have f2 := hf 2 _ rfl
    have f3 := hf 3 _ rfl
    have f4 := hf 4 _ rfl
    have f5 := hf 5 _ rfl
    simp only [List.getElem_toArray, List.getElem_cons_zero, List.getElem_cons_succ, uc_int, uc_string, uc_needs, uc_segs, uc_syms, uc_rels, List.drop_succ_cons, List.drop_zero, List.take_succ_cons, List.take_zero] at f0 f1 f2 f3 f4 f5
    have hl : xs.length = 6 := hl
    obtain ⟨y0, e0⟩ := gE (l := xs) (i := 0) (by omega)
    obtain ⟨y1, e1⟩ := gE (l := xs) (i := 1) (by omega)
    obtain ⟨y2, e2⟩ := gE (l := xs) (i := 2) (by omega)
    obtain ⟨y3, e3⟩ := gE (l := xs) (i := 3) (by omega)
    obtain ⟨y4, e4⟩ := gE (l := xs) (i := 4) (by omega)
    obtain ⟨y5, e5⟩ := gE (l := xs) (i := 5) (by omega)
    rw [e0] at f0
    rw [e1] at f1
    rw [e2] at f2
    rw [e3] at f3
    rw [e4] at f4
    obtain ⟨l0, rfl, _, b0⟩ := uS Try.underlying9 f0
    obtain ⟨v1, x1, r1, hv1, s1, ra1, o1, n1, m1⟩ := open_slB Try.underlying22 uc_string (by decide) (fun a r => r = stC a) (fun a => a.length) (fun x r h => by subst h; rfl) (fun _ _ _ hl hz => open_str1 hl hz) f1
    obtain ⟨v2, x2, r2, hv2, s2, ra2, o2, n2, m2⟩ := open_slB Try.underlying23 uc_seg (by decide) (fun a r => r = sgC a ∧ SgI a) (fun a => a.data.length) (fun x r h => by obtain ⟨rfl, _⟩ := h; rfl) (fun _ _ _ hl hz => open_seg hl hz) f2
    obtain ⟨v3, x3, r3, hv3, s3, ra3, o3, n3, m3⟩ := open_slB Try.underlying24 uc_sym (by decide) (fun a r => r = syC a ∧ InI a.at_) (fun a => a.name.length) (fun x r h => by obtain ⟨rfl, _⟩ := h; rfl) (fun _ _ _ hl hz => open_sym hl hz) f3
    obtain ⟨v4, x4, r4, hv4, s4, ra4, o4, n4, m4⟩ := open_slB Try.underlying25 uc_rel (by decide) (fun a r => r = rlC a ∧ InI a.at_ ∧ InI a.add) (fun a => a.name.length) (fun x r h => by obtain ⟨rfl, _⟩ := h; rfl) (fun _ _ _ hl hz => open_rel hl hz) f4
    obtain ⟨k5, rfl, i5⟩ := uI Try.underlying3 f5 (by rw [e5]; rfl)
    simp only [List.cons.injEq, and_true] at hv1 hv2 hv3 hv4
    subst hv1 hv2 hv3 hv4
    obtain rfl := rows_map ra1
    obtain ⟨rfl, g2⟩ := rows_map2 ra2
    obtain ⟨rfl, g3⟩ := rows_map2 ra3
    obtain ⟨rfl, g4⟩ := rows_map2 ra4
    have p0 := bk_part e0
    have p1 := bk_part e1
    have p2 := bk_part e2
    have p3 := bk_part e3
    have p4 := bk_part e4
    refine ⟨⟨l0, x1, x2, x3, x4, k5⟩, c1, c2, c3, c4, rfl, ⟨s1, s2, s3, s4⟩, ⟨g2, g3, g4, InI.of i5⟩, ?_, ?_⟩
    · generalize Rows.uptoBulk (DataW.agg (xs.map (·.1))) = N at *
      refine ⟨by show l0.length ≤ N; omega, by show x1.length ≤ N; omega, by show x2.length ≤ N; omega, by show x3.length ≤ N; omega, by show x4.length ≤ N; omega, fun s hs => ?_, fun s hs => ?_, fun s hs => ?_, fun s hs => ?_⟩
      · have := m1 s hs; omega
      · have := m2 s hs; omega
      · have := m3 s hs; omega
      · have := m4 s hs; omega
    · simp only [List.all_cons, List.all_nil, Bool.and_true, o1, o2, o3, o4]
      rfl
theorem uc_image : (Try.prog).cellsOf 27 = 6 := by kernel_rfl
set_option maxRecDepth 100000 in
theorem open_image {v : Value} {d : DataW H} {ps : List MemPlace} (hval : Value.okWide Try.prog W .any b0 27 v) (h : DataW.Trod enc Try.prog W base sp held 27 v d ps) :
    ∃ I vn vs vy vr, v = imA I vn vs vy vr ∧ ImV W I vn vs vy vr ∧ ImI I ∧ ImBd I (Rows.uptoBulk d) := by
  obtain ⟨cs, rfl, hsz⟩ := okWide_struct Try.underlying27 hval
  obtain ⟨fuel, hf⟩ := h
  have hc : (Value.agg cs).cells = cs := rfl
  rw [hc] at hf
  have hlen : cs.toList.length = 6 := by rw [Array.length_toList, hsz, uc_image]
  obtain ⟨I, vn, vs, vy, vr, h1, h2, h3, h4, _⟩ := open_imgC hlen hf
  rw [Array.toArray_toList] at h1
  exact ⟨I, vn, vs, vy, vr, h1, h2, h3, h4⟩
end
end Go.Proofs.Ytejnpppejalhfab
/- A slice of images that came in. -/
namespace Go.Proofs.Ytejnpppejalhfab
open Go.ChangeShapes Go.WideShapes Go.ChangeAt Go.RowKit

section
variable {H : Type} {enc : TypeId × Value → H} {W : World} {base b0 : Nat} {sp : Nat → Bool} {held : Bool}
instance : Inhabited Ob := ⟨⟨⟨[], [], [], [], [], 0⟩, .slice none 0 0, .slice none 0 0, .slice none 0 0, .slice none 0 0, 0⟩⟩
theorem ImBd.mono2 {I : Im} {N M : Nat} (h : ImBd I N) (hle : N ≤ M) : ImBd I M := ⟨Nat.le_trans h.name hle, Nat.le_trans h.needs hle, Nat.le_trans h.segs hle, Nat.le_trans h.syms hle, Nat.le_trans h.rels hle, fun s hs => Nat.le_trans (h.need1 s hs) hle, fun s hs => Nat.le_trans (h.seg1 s hs) hle, fun s hs => Nat.le_trans (h.sym1 s hs) hle, fun s hs => Nat.le_trans (h.rel1 s hs) hle⟩
set_option maxRecDepth 100000 in
theorem open_images {v : Value} {d : DataW H} {ps : List MemPlace} (hval : Value.okWide Try.prog W .any b0 36 v) (h : DataW.Trod enc Try.prog W base sp held 36 v d ps) :
    ∃ L : List Ob, Sl nF W 6 v (L.map imR) ∧ (∀ o ∈ L, ObV W o ∧ ImI o.im ∧ ImBd o.im (Rows.uptoBulk d)) := by
  obtain ⟨a, len, cap, rfl⟩ := okWide_slice Try.underlying36 hval
  obtain ⟨fuel, hf⟩ := h
  obtain ⟨v, xs, rows, hv, hsl, hra, _, _, hb⟩ := open_slB (α := Ob × Nat) Try.underlying36 uc_image (by decide) (fun x r => r = imR x.1 ∧ (ObV W x.1 ∧ ImI x.1.im ∧ ImBd x.1.im x.2 ∧ r.all (·.oneCell') = true)) (fun x => x.2) (fun x r h => h.2.2.2.2) (fun n cs' z hl hz => by
    obtain ⟨I, vn, vs, vy, vr, h1, h2, h3, h4, h5⟩ := open_imgC hl hz
    have h6 : cs' = imC I vn vs vy vr := by
      have : cs'.toArray = (imC I vn vs vy vr).toArray := Value.agg.inj h1
      have := congrArg Array.toList this
      simpa using this
    exact ⟨(⟨I, vn, vs, vy, vr, 0⟩, _), ⟨h6, h2, h3, h4, h5⟩, Nat.le_refl _⟩) hf
  have hv : (Value.slice a len cap) = v := by simpa [Value.cells] using hv
  subst hv
  have hrows : rows = (xs.map (·.1)).map imR := by
    rw [List.map_map]
    apply List.ext_getElem?
    intro i
    rw [List.getElem?_map]
    by_cases hi : i < xs.length
    · rw [List.getElem?_eq_getElem hi, List.getElem?_eq_getElem (by have := hra.1; omega)]
      simp only [Option.map_some, Option.some.injEq]
      exact (hra.2 i _ _ (List.getElem?_eq_getElem hi) (List.getElem?_eq_getElem (by have := hra.1; omega))).1
    · rw [List.getElem?_eq_none (by have := hra.1; omega), List.getElem?_eq_none (by omega)]; rfl
  refine ⟨xs.map (·.1), by rwa [hrows] at hsl, fun o ho => ?_⟩
  obtain ⟨x, hx, rfl⟩ := List.mem_map.1 ho
  obtain ⟨i, hi⟩ := List.mem_iff_getElem?.1 hx
  have hl := lt_of_getE hi
  have h1 := (hra.2 i x _ hi (List.getElem?_eq_getElem (by rw [hra.1]; exact hl))).2
  have h2 := hb x hx
  exact ⟨h1.1, h1.2.1, h1.2.2.1.mono2 (by show x.2 ≤ Rows.uptoBulk d; have h3 : x.2 + 1 ≤ Rows.uptoBulk d := h2; omega)⟩
end
end Go.Proofs.Ytejnpppejalhfab
