/- Texts that the proof stands on, one behind the other: Lk8, Lk7, Lk9, Lk10, Lk11, PlLink, Sc22, Im2. -/
import Derived.Test.YtejnpppejalhfabPLinkLong4
/- The linker's fix. -/
namespace Go.Proofs.Ytejnpppejalhfab
open Go.RowKit Go.Sort
def gK (b : Bx) : Nat × Int × List UInt8 × List Fx := (b.g, keyB b)
def gF (at_ : Int) (s : List UInt8) (b : Bx) : Nat × Int × List UInt8 × List Fx := (b.g, b.pg, b.data, b.fx ++ fxOf at_ s b.pg)
theorem fix_put {bs bs' : List Bx} {at_ : Int} {s : List UInt8} {d n k : Nat} {off : Int} {b1 b2 : Bx} (hK : bs'.map gK = bs.map (gF at_ (s.take d))) (hnd : (bs.map (·.pg)).Nodup) (hk : bs'[k]? = some b1) (hpg : b1.pg = (at_ + d) / 16) (hb : (b2.g, keyB b2) = (b1.g, b1.pg, b1.data, b1.fx ++ [⟨off, (s.drop d).take n⟩]))
    (h0 : 0 ≤ at_) (hd : d < s.length) (hoff : off = (at_ + d) % 16) (hal : d = 0 ∨ off = 0) (hn : (n : Int) = min ((s.length : Int) - d) (16 - off)) : (bs'.set k b2).map gK = bs.map (gF at_ (s.take (d + n))) := by
  have hat : ∀ j : Nat, (bs'[j]?).map gK = (bs[j]?).map (gF at_ (s.take d)) := fun j => by
    have := congrArg (fun l : List (Nat × Int × List UInt8 × List Fx) => l[j]?) hK
    simpa only [List.getElem?_map] using this
  have hkl := (List.getElem?_eq_some_iff.1 hk).1
  obtain ⟨b0, hb0⟩ : ∃ b0, bs[k]? = some b0 := by
    have := hat k
    rw [hk] at this
    cases h : bs[k]? with
    | none => rw [h] at this; cases this
    | some x => exact ⟨x, rfl⟩
  have hk0 := hat k
  rw [hk, hb0] at hk0
  simp only [Option.map_some, Option.some.injEq, gK, gF, keyB, Prod.mk.injEq] at hk0 hb
  obtain ⟨e1, e2, e3, e4⟩ := hk0
  obtain ⟨f1, f2, f3, f4⟩ := hb
  apply List.ext_getElem?
  intro j
  rw [List.getElem?_map, List.getElem?_map, List.getElem?_set]
  by_cases hj : k = j
  · subst hj
    rw [if_pos rfl, if_pos hkl, hb0]
    simp only [Option.map_some, gK, gF, keyB, Option.some.injEq, Prod.mk.injEq]
    refine ⟨by rw [f1, e1], by rw [f2, e2], by rw [f3, e3], ?_⟩
    rw [f4, e4, fxOf_step h0 hd hoff hal hn, if_pos (by rw [← e2]; exact hpg), List.append_assoc]
  · rw [if_neg hj, hat j]
    cases hj2 : bs[j]? with
    | none => rfl
    | some x =>
      have hne : x.pg ≠ (at_ + d) / 16 := fun e => by
        have h1 : (bs.map (·.pg))[j]? = some ((at_ + d) / 16) := by rw [List.getElem?_map, hj2]; simp [e]
        have h2 : (bs.map (·.pg))[k]? = some ((at_ + d) / 16) := by rw [List.getElem?_map, hb0]; simp [← e2, hpg]
        obtain ⟨l1, v1⟩ := List.getElem?_eq_some_iff.1 h1
        obtain ⟨l2, v2⟩ := List.getElem?_eq_some_iff.1 h2
        exact hj ((List.getElem_inj hnd).1 (v2.trans v1.symm))
      simp only [Option.map_some, gF]
      rw [fxOf_step h0 hd hoff hal hn, if_neg hne, List.append_nil]
theorem keyG_kv {bs bs' : List Bx} {f : Bx → Int × List UInt8 × List Fx} (hf : ∀ b, (f b).1 = b.pg) (h : bs'.map gK = bs.map fun b => (b.g, f b)) : bs'.map kvB = bs.map kvB := by
  have h2 := congrArg (List.map fun (x : Nat × Int × List UInt8 × List Fx) => (Value.int .i64 x.2.1, Value.pointer (some ⟨x.1, 0, none⟩))) h
  rw [List.map_map, List.map_map] at h2
  refine Eq.trans ?_ (h2.trans ?_)
  · rfl
  · apply List.map_congr_left
    intro b _
    show (Value.int .i64 (f b).1, _) = _
    rw [hf]
    rfl
set_option maxRecDepth 100000 in
set_option maxHeartbeats 8000000 in
theorem fix_fn {F : Nat → Prop} {w0 w : World} {Γ : List Asr} {r c : Nat} {es : Array MapEntry} {bs : List Bx} {at_ : Int} {s : List UInt8} (hS0 : St F w0 w ((.obj r (.map es c) :: bxs bs) ++ Γ)) (hM : MapG (.int .i64) es (bs.map kvB)) (hs : s.length = 8) (h0 : 0 ≤ at_) (h1 : at_ ≤ 1000000000) (hp : ∀ d : Nat, d < 8 → ∃ b ∈ bs, b.pg = (at_ + d) / 16) (hnd : (bs.map (·.pg)).Nodup) (hfx : ∀ b ∈ bs, b.fx.length ≤ 1000000) :
    Fn Try.prog 101 [.map (some r), .int .i64 at_, .string ⟨s.toArray⟩] w (fun _ w' => ∃ bs' : List Bx, bs'.map gK = bs.map (gF at_ s) ∧ St (fps (.obj r (.map es c) :: bxs bs)) w w' (.obj r (.map es c) :: bxs bs')) := by
  refine fn_enter (fn := Try.f101) ⟨Try.func101, by kernel_rfl, by kernel_rfl⟩ (by exact rfl) Try.ntmps101 (by exact rfl) ?_
  have hS := St.startM hS0
  generalize hG : fps (.obj r (.map es c) :: bxs bs) = G at hS ⊢
  repeat' (((with_reducible apply c_block)))
  refine c_loopK (Γ := []) (X := Nat × Int × List UInt8 × List Bx) (fun x => [(1, .int .i64 x.2.1), (2, .string ⟨x.2.2.1.toArray⟩)]) [0] rfl (fun x => .obj r (.map es c) :: bxs x.2.2.2) (fun x => x.1 ≤ 8 ∧ x.2.1 = at_ + (x.1 : Nat) ∧ x.2.2.1 = s.drop x.1 ∧ (x.1 = 0 ∨ x.1 = 8 ∨ (at_ + (x.1 : Nat)) % 16 = 0) ∧ x.2.2.2.map gK = bs.map (gF at_ (s.take x.1))) (fun x => 8 - x.1) (0, at_, s, bs) (by repeat (first | exact Fr.sub_nil _ | (apply Fr.sub_cons; exact rfl))) ⟨by omega, by simp, rfl, Or.inl rfl, by unfold gF; simp only [List.take_zero, fxOf_nil, List.append_nil]; rfl⟩ (by simpa only [List.append_nil] using hS) ?_
  clear hS
  rintro ⟨d, a, t, bs'⟩ w1 ⟨hd, ha, ht, hal, hK⟩ hS
  dsimp only [] at hd ha ht hal hK hS ⊢
  simp only [List.append_nil] at hS
  have hM' : MapG (.int .i64) es (bs'.map kvB) := by rw [keyG_kv (f := fun b => (b.pg, b.data, b.fx ++ fxOf at_ (s.take d) b.pg)) (fun _ => rfl) hK]; exact hM
  by_cases hlt : d < 8
  rotate_left
  · obtain rfl : d = 8 := by omega
    rw [List.drop_of_length_le (by omega)] at ht
    subst ht
    repeat' (first | (((with_reducible apply l_pure tabOk); exact rfl; exact rfl)) | (first | (with_reducible apply c_seq) | (with_reducible apply c_region) | (with_reducible apply l_nil) | (with_reducible apply q_then) | (with_reducible apply c_exit) | (with_reducible apply q_then_exit) | (with_reducible apply q_block_exit)) | (((with_reducible apply c_iff); exact rfl; (exact rfl))))
    (apply q_ret0); (repeat ((exact ResL.nil)))
    refine ⟨bs', ?_, hS⟩
    rw [hK, List.take_of_length_le (by omega)]
  have hdl : t.length = 8 - d := by rw [ht, List.length_drop]; omega
  have hne : (!decide (t = [])) = true := by rw [decide_eq_false (fun e => by rw [e] at hdl; simp only [List.length_nil] at hdl; omega)]; rfl
  have hat : ∀ j : Nat, (bs'[j]?).map gK = (bs[j]?).map (gF at_ (s.take d)) := fun j => by
    have := congrArg (fun l : List (Nat × Int × List UInt8 × List Fx) => l[j]?) hK
    simpa only [List.getElem?_map] using this
  obtain ⟨k, b1, hk, hpg, hfl⟩ : ∃ (k : Nat) (b1 : Bx), bs'[k]? = some b1 ∧ b1.pg = (at_ + d) / 16 ∧ b1.fx.length ≤ 1000001 := by
    obtain ⟨b0, hb0, hb0p⟩ := hp d hlt
    obtain ⟨k, hk0⟩ := List.mem_iff_getElem?.1 hb0
    have := hat k
    rw [hk0] at this
    cases h : bs'[k]? with
    | none => rw [h] at this; cases this
    | some x =>
      rw [h] at this
      simp only [Option.map_some, Option.some.injEq, gK, gF, keyB, Prod.mk.injEq] at this
      refine ⟨k, x, h, by rw [this.2.1]; exact hb0p, ?_⟩
      have h1 := hfx b0 hb0
      have h2 := fxOf_len at_ (s.take d) b0.pg
      rw [this.2.2.2, List.length_append]
      omega
  clear hat
  replace hS := hS.perm ((bxs_pick hk).cons _)
  have hkv : (Value.int .i64 b1.pg, Value.pointer (some ⟨b1.g, 0, none⟩)) ∈ bs'.map kvB := List.mem_map.2 ⟨_, List.mem_of_getElem? hk, rfl⟩
  have e1 : a.tmod 16 = a % 16 := Int.tmod_eq_emod_of_nonneg (by omega)
  have e2 : a.tdiv 16 = b1.pg := by rw [Int.tdiv_eq_ediv_of_nonneg (by omega), ha]; exact hpg.symm
  rw [← e2] at hkv
  obtain ⟨n, hn⟩ : ∃ n : Nat, (n : Int) = min (t.length : Int) (16 - a.tmod 16) := ⟨(min (t.length : Int) (16 - a.tmod 16)).toNat, by omega⟩
  have hfin := fun b2 hb => fix_put (b2 := b2) (n := n) hK hnd hk hpg hb h0 (by omega) (off := a.tmod 16) (by omega) (by omega) (by omega)
  obtain ⟨g, pg, data, p, cp, fx⟩ := b1
  unfold bxB bxR at hS
  dsimp only at hS hkv hfl hpg e2 hfin
  repeat' (first | (first | ((with_reducible apply l_sub); exact rfl; exact rfl; omega; omega; exact rfl) | ((with_reducible apply l_pure tabOk); exact rfl; exact rfl)) | (first | (with_reducible apply c_seq) | (with_reducible apply c_region) | (with_reducible apply l_nil) | (with_reducible apply q_then) | (with_reducible apply c_skip) | (with_reducible apply c_block)) | (((with_reducible apply c_ift); exact rfl; (assumption))) | ((with_reducible apply l_remT); exact rfl; exact rfl; omega; exact rfl) | ((with_reducible apply l_quoT); exact rfl; exact rfl; omega; omega; omega; exact rfl) | ((with_reducible apply l_min); exact rfl; exact rfl; exact rfl; rw [← hn]) | ((with_reducible apply l_gets); exact rfl; exact g_look hS (i := 0) mt_sheets ut_int rfl rfl rfl hM' (k := .int .i64 (a.tdiv 16)) rfl hkv false; rintro _ _ ⟨rfl, rfl⟩))
  rw [← ht] at hfin
  refine c_till (fun w' => (Asr.blk g [Value.int IntKind.i64 pg, Value.string { data := data.toArray }, Value.slice p fx.length cp]).holds w') 14 15 rfl hS (by kernel_rfl) ?_
  intro w10 hS'
  clear hS; have hS := hS'; clear hS'
  have hH := hS.at_ (i := 1) rfl
  ((with_reducible apply t_pure 0 tabOk); exact rfl; kernel_rfl; kernel_rfl; kernel_rfl; exact rfl; exact (fun _ _ _ h => h); exact Or.inr hH; exact rfl; exact rfl)
  ((with_reducible apply t_pure 1 tabOk); exact rfl; kernel_rfl; kernel_rfl; kernel_rfl; exact rfl; exact (fun _ _ _ h => h); exact Or.inr hH; exact rfl; exact rfl)
  ((with_reducible apply t_pure 2 tabOk); exact rfl; kernel_rfl; kernel_rfl; kernel_rfl; exact rfl; exact (fun _ _ _ h => h); exact Or.inr hH; exact rfl; exact rfl)
  ((with_reducible apply t_pure 3 tabOk); exact rfl; kernel_rfl; kernel_rfl; kernel_rfl; exact rfl; exact (fun _ _ _ h => h); exact Or.inr hH; exact rfl; exact rfl)
  ((with_reducible apply t_takeL 4); exact rfl; kernel_rfl; kernel_rfl; kernel_rfl; kernel_rfl; exact rfl; exact rfl; exact (fun _ _ _ h => h); exact hH; exact rfl; (intro w2 hw2; ((with_reducible apply Loads.sl tabOk); exact rfl; exact holdC hw2 rfl)); exact rfl)
  ((with_reducible apply t_pure 5 tabOk); exact rfl; kernel_rfl; kernel_rfl; kernel_rfl; exact rfl; exact (fun _ _ _ h => h); exact Or.inr hH; exact rfl; exact rfl)
  ((with_reducible apply t_pure 6 tabOk); exact rfl; kernel_rfl; kernel_rfl; kernel_rfl; exact rfl; exact (fun _ _ _ h => h); exact Or.inr hH; exact rfl; exact rfl)
  ((with_reducible apply t_pure 7 tabOk); exact rfl; kernel_rfl; kernel_rfl; kernel_rfl; exact rfl; exact (fun _ _ _ h => h); exact Or.inr hH; exact rfl; exact rfl)
  refine t_one (i := 8) (by kernel_rfl) ?_
  refine p_gets rfl (Gets.of_runs fun a ha => r_strTo tabOk rfl rfl rfl (by omega) (by omega) a ha _) rfl ?_
  rintro _ _ ⟨rfl, rfl⟩
  refine ⟨Or.inr (Or.inr hH), ?_⟩
  refine t_one (i := 9) (by kernel_rfl) ?_
  ((with_reducible apply p_build tabOk); exact rfl; exact rfl; exact rfl; ((exact (rfl : _ = some [_, _]))); exact rfl)
  refine ⟨Or.inr (Or.inr hH), ?_⟩
  refine t_one (i := 10) (by kernel_rfl) ?_
  refine p_gets rfl (g_bslice hS tabOk rfl rfl rfl rfl rfl rfl) rfl ?_
  rintro _ w' ⟨g9, rfl, hS'⟩
  clear hS; have hS := hS'; clear hS'
  have hH := hS.at_ (i := 2) rfl
  refine ⟨Or.inr (Or.inr hH), ?_⟩
  refine t_one (i := 11) (by kernel_rfl) ?_
  refine p_gets rfl (g_append hS tabOk (i := 3) rfl rfl rfl rfl (hS.rowRo 0 rfl) rfl (by simp only [List.length_map]; omega)) rfl ?_
  rintro _ w' ⟨p', c', rfl, hS'⟩
  simp only [List.set] at hS'
  clear hS; have hS := hS'; clear hS'
  have hH := hS.at_ (i := 2) rfl
  refine ⟨Or.inr (Or.inr hH), ?_⟩
  ((with_reducible apply t_pure 12 tabOk); exact rfl; kernel_rfl; kernel_rfl; kernel_rfl; exact rfl; exact (fun _ _ _ h => h); exact Or.inr hH; exact rfl; exact rfl)
  ((with_reducible apply t_pure 13 tabOk); exact rfl; kernel_rfl; kernel_rfl; kernel_rfl; exact rfl; exact (fun _ _ _ h => h); exact Or.inr hH; exact rfl; exact rfl)
  refine t_one (i := 14) (by kernel_rfl) ?_
  refine p_gets0 (Φ := fun _ w' => St _ _ w' _) rfl (g_store hS tabOk (i := 2) rfl rfl rfl rfl rfl (Nat.le_of_ble_eq_true rfl) (by intro u hu; simp [Value.cells] at hu; subst hu; rfl)) ?_
  intro _ w' hS'
  simp only [List.set] at hS'
  clear hS; have hS := hS'; clear hS'
  refine ⟨Or.inl rfl, ?_⟩
  refine t_done (by kernel_rfl) ?_
  repeat' (((with_reducible apply q_then)))
  (focus ((with_reducible apply c_drawAll _ _ _ (by kernel_rfl) (by kernel_rfl) hS); (repeat' (first | (first | ((with_reducible apply d_add); exact rfl; exact rfl; omega; omega; exact rfl) | ((with_reducible apply d_pure tabOk); exact rfl; exact rfl)) | ((with_reducible apply d_strFrom tabOk); exact rfl; exact rfl; exact rfl; omega; omega; exact rfl))); all_goals ((with_reducible apply d_nil); intro w' hS'; clear hS; have hS := hS'; clear hS')))
  repeat' ((first | (with_reducible apply l_nil) | (with_reducible apply q_block)))
  rw [Int.toNat_natCast, List.length_map] at hS
  have hf2 := hfin ⟨g, pg, data, p', c', fx ++ [⟨a.tmod 16, t.take n⟩]⟩ rfl
  have hS2 := hS.drop
  clear hS
  replace hS2 : St G w w' (.obj r (.map es c) :: bxB ⟨g, pg, data, p', c', fx ++ [⟨a.tmod 16, t.take n⟩]⟩ :: bxR ⟨g, pg, data, p', c', fx ++ [⟨a.tmod 16, t.take n⟩]⟩ :: bxs (bs'.eraseIdx k)) := by
    unfold bxB bxR
    dsimp only []
    rw [List.length_append, List.map_append]
    exact hS2
  replace hS2 := hS2.perm ((bxs_put hk).cons _)
  exact q_loopK (d + n, a + n, t.drop (n : Int).toNat, _) (by repeat (first | exact Fr.sub_nil _ | (apply Fr.sub_cons; exact rfl))) ⟨by show d + n ≤ 8; omega, by show a + n = at_ + ((d + n : Nat) : Int); omega, by show t.drop (n : Int).toNat = s.drop (d + n); rw [Int.toNat_natCast, ht, List.drop_drop], by show d + n = 0 ∨ d + n = 8 ∨ (at_ + ((d + n : Nat) : Int)) % 16 = 0; omega, hf2⟩ (by simpa only [List.append_nil] using hS2) (by show 8 - (d + n) < 8 - d; omega)
end Go.Proofs.Ytejnpppejalhfab
/- The linker's sheets of an object. -/
namespace Go.Proofs.Ytejnpppejalhfab
open Go.RowKit Go.Sort
set_option maxRecDepth 100000 in
set_option maxHeartbeats 8000000 in
theorem sheets_fn {w : World} {I : Im} {vn vs vy vr : Value} {b0 : Int} (hI : ImV w I vn vs vy vr) (hs2 : I.segs.all sgOk = true) (hch : Ch I.segs) (h0 : 1 ≤ b0) (h1 : b0 ≤ 100000) :
    Fn Try.prog 99 [.agg (obC ⟨I, vn, vs, vy, vr, b0 * 16⟩).toArray] w (fun v w' => ∃ r es c bs, v = .map (some r) ∧ MapG (.int .i64) es (bs.map kvB) ∧ bs.map keyB = pgsO b0 I.segs ∧ St nF w w' (.obj r (.map es c) :: bxs bs)) := by
  have bn := hI.needs.bound; have bs := hI.segs.bound; have by_ := hI.syms.bound; have br := hI.rels.bound; obtain ⟨pn, cn, rfl⟩ := hI.needs.len; obtain ⟨ps, cs, rfl⟩ := hI.segs.len; obtain ⟨py, cy, rfl⟩ := hI.syms.len; obtain ⟨pr, cr, rfl⟩ := hI.rels.len
  show Fn _ _ [.agg [.string ⟨I.name.toArray⟩, .slice pn I.needs.length cn, .slice ps I.segs.length cs, .slice py I.syms.length cy, .slice pr I.rels.length cr, .int .i64 I.entry, .int .i64 (b0 * 16)].toArray] _ _
  refine fn_enter (fn := Try.f99) ⟨Try.func99, by kernel_rfl, by kernel_rfl⟩ (by exact rfl) Try.ntmps99 (by exact rfl) ?_
  have hS := St.start w
  repeat' (first | (first | ((with_reducible apply l_pure tabOk); exact rfl; exact rfl) | ((with_reducible apply l_load); exact rfl; (((with_reducible apply Loads.sl tabOk); exact rfl; ((exact hS.blkC 1 rfl rfl)))); exact rfl) | ((with_reducible apply l_box hS); exact rfl; exact rfl; exact rfl; intro g w' hS'; clear hS; have hS := hS'; clear hS')) | (first | (with_reducible apply c_seq) | (with_reducible apply c_region) | (with_reducible apply l_nil) | (with_reducible apply q_then) | (with_reducible apply c_block)) | ((with_reducible apply l_gets); exact rfl; exact g_makeMap hS; rintro _ w' ⟨r, rfl, hS'⟩; clear hS; have hS := hS'; clear hS'))
  obtain ⟨g1, hg1⟩ : ∃ g1, g1 = g := ⟨_, rfl⟩
  rw [← hg1] at hS ⊢
  clear hg1
  refine c_loopK (Γ := []) (X := Nat × List Bx × Array MapEntry × Nat) (fun x => [(15, .int .i64 (x.1 : Nat))]) [1, 3, 13, 14] rfl (fun x => .obj r (.map x.2.2.1 x.2.2.2) :: .blk g1 [.string ⟨I.name.toArray⟩, .slice pn I.needs.length cn, .slice ps I.segs.length cs, .slice py I.syms.length cy, .slice pr I.rels.length cr, .int .i64 I.entry, .int .i64 (b0 * 16)] :: bxs x.2.1) (fun x => x.1 ≤ I.segs.length ∧ MapG (.int .i64) x.2.2.1 (x.2.1.map kvB) ∧ x.2.1.map keyB = pgsO b0 (I.segs.take x.1) ∧ ∀ b ∈ x.2.1, ∀ s, I.segs[x.1]? = some s → b.pg < b0 + s.pg) (fun x => I.segs.length - x.1) (0, [], #[], 0) (by repeat (first | exact Fr.sub_nil _ | (apply Fr.sub_cons; exact rfl))) ⟨Nat.zero_le _, MapG.nil _, rfl, fun _ h => nomatch h⟩ hS ?_
  clear hS
  rintro ⟨j, bs, es, c⟩ w1 ⟨hj, hM, hK, hB⟩ hS
  dsimp only [] at hj hM hK hB hS ⊢
  simp only [List.cons_append, List.append_nil] at hS
  by_cases hlt : j < I.segs.length
  rotate_left
  · rw [List.take_of_length_le (by omega)] at hK
    repeat' (first | (((with_reducible apply l_pure tabOk); exact rfl; exact rfl)) | (first | (with_reducible apply c_seq) | (with_reducible apply c_region) | (with_reducible apply l_nil) | (with_reducible apply q_then) | (with_reducible apply c_exit) | (with_reducible apply c_ret) | (with_reducible apply q_then_exit) | (with_reducible apply q_block_exit)) | (((with_reducible apply c_ifd); exact rfl; all_goals (intro hb hp; try (exfalso; omega)))))
    (apply q_ret1); (repeat (first | exact ResL.nil | (apply ResL.tmp; exact rfl)))
    replace hS := St.reorderT 2 [0] hS (by decide) rfl
    simp only [appA, List.drop_succ_cons, List.drop_zero] at hS
    exact ⟨r, es, c, bs, rfl, hM, hK, hS⟩
  obtain ⟨s, hs⟩ := lt_get (l := I.segs) (i := j) (by omega)
  have hrow := map_get (f := sgC) hs
  unfold sgC at hrow
  obtain ⟨b, off, rfl, hro⟩ := hI.segs.at_ (i := j) hlt
  obtain ⟨y1, y2, y3, y4, y5⟩ := sg_ok hs2 hs
  obtain ⟨m, hm⟩ : ∃ m : Nat, (m : Int) = s.n := ⟨s.n.toNat, by omega⟩
  repeat' (first | (first | ((with_reducible apply l_pure tabOk); exact rfl; exact rfl) | ((with_reducible apply l_load); exact rfl; (first | ((with_reducible apply Loads.sc tabOk); exact rfl; ((exact hS.blkC 0 rfl rfl))) | ((with_reducible apply Loads.st tabOk); exact rfl; ((exact hS.roR (by assumption) (by assumption))); exact rfl)); exact rfl) | ((with_reducible apply l_ix tabOk); exact rfl; exact rfl; exact rfl; ((exact rfl)); ((omega)); exact rfl) | ((with_reducible apply l_alloc hS tabOk); exact rfl; exact rfl; exact rfl; intro g w' hS'; clear hS; have hS := hS'; clear hS') | (((with_reducible apply l_store hS tabOk (i := 0)); exact rfl; exact rfl; exact rfl; exact rfl; exact rfl; exact rfl; exact rfl; exact rfl; ((exact (rfl : _ = [_, _, _, _, _]))); intro w' hS'; simp only [List.set] at hS'; clear hS; have hS := hS'; clear hS'))) | (first | (with_reducible apply c_seq) | (with_reducible apply c_region) | (with_reducible apply l_nil) | (with_reducible apply q_then) | (with_reducible apply c_skip) | (with_reducible apply c_block)) | (((with_reducible apply c_ifd); exact rfl; all_goals (intro hb hp; try (exfalso; omega)))))
  rename Nat => g5
  refine c_loopK (Γ := []) (X := Nat × List Bx × Array MapEntry × Nat) (fun x => [(21, .int .i64 (x.1 : Nat))]) [1, 3, 13, 14, 15, 5, 20] rfl (fun x => .blk g5 [.int .i64 s.pg, .int .i64 s.n, .string ⟨s.data.toArray⟩, .bool s.wr, .bool s.ex] :: .obj r (.map x.2.2.1 x.2.2.2) :: .blk g1 [.string ⟨I.name.toArray⟩, .slice pn I.needs.length cn, .slice (some ⟨b, off, none⟩) I.segs.length cs, .slice py I.syms.length cy, .slice pr I.rels.length cr, .int .i64 I.entry, .int .i64 (b0 * 16)] :: bxs x.2.1) (fun x => x.1 ≤ m ∧ MapG (.int .i64) x.2.2.1 (x.2.1.map kvB) ∧ x.2.1.map keyB = pgsO b0 (I.segs.take j) ++ pgsS b0 s x.1 ∧ ∀ b ∈ x.2.1, b.pg < b0 + s.pg + x.1) (fun x => m - x.1) (0, bs, es, c) (by repeat (first | exact Fr.sub_nil _ | (apply Fr.sub_cons; exact rfl))) ⟨Nat.zero_le _, hM, by rw [hK]; simp [pgsS], fun x hx => by have := hB x hx s hs; show _ < _ + ((0 : Nat) : Int); omega⟩ (by simpa only [List.append_nil] using hS) ?_
  clear hS hM hK hB
  rintro ⟨n, bs, es, c⟩ w2 ⟨hn, hM, hK, hB⟩ hS
  dsimp only [] at hn hM hK hB hS ⊢
  simp only [List.cons_append, List.append_nil] at hS
  by_cases hnt : n < m
  rotate_left
  · obtain rfl : n = m := by omega
    repeat' (first | (first | ((with_reducible apply l_add); exact rfl; exact rfl; omega; omega; exact rfl) | ((with_reducible apply l_pure tabOk); exact rfl; exact rfl)) | (first | (with_reducible apply c_seq) | (with_reducible apply c_region) | (with_reducible apply l_nil) | (with_reducible apply q_then) | (with_reducible apply c_exit) | (with_reducible apply q_then_exit) | (with_reducible apply q_block) | (with_reducible apply q_block_exit)) | (((with_reducible apply c_ifd); exact rfl; all_goals (intro hb hp; try (exfalso; omega)))))
    replace hS := St.reorderT 3 [1, 2] hS (by decide) rfl
    simp only [appA, List.drop_succ_cons, List.drop_zero] at hS
    refine q_loopK (j + 1, bs, es, c) (by repeat (first | exact Fr.sub_nil _ | (apply Fr.sub_cons; exact rfl))) ⟨by show j + 1 ≤ _; omega, hM, ?_, ?_⟩ (by simpa only [List.append_nil] using hS) (by show _ - (j + 1) < _ - j; omega)
    · show bs.map keyB = pgsO b0 (I.segs.take (j + 1))
      rw [pgsO_step hs, hK, show s.n.toNat = n by omega]
    · intro x hx s' hs'
      have h2 := hB x hx
      have h3 := hch j s s' hs hs'
      show x.pg < b0 + s'.pg
      omega
  have hno : ∀ v, (Value.int .i64 (b0 + s.pg + n), v) ∉ bs.map kvB := fun v hv => by
    obtain ⟨x, hx, e⟩ := List.mem_map.1 hv
    have h2 := hB x hx
    unfold kvB at e
    simp only [Prod.mk.injEq, Value.int.injEq] at e
    omega
  have hquo : (b0 * 16).tdiv 16 = b0 := Int.mul_tdiv_cancel _ (by omega)
  rw [← hquo] at hno
  have fin : ∀ (w' : World) (g7 : Nat), St nF w w' (.row 5 1 (.slice (some ⟨g7, 0, none⟩) 16 16) (bR (dataAt s.data n)) :: .blk g5 [.int .i64 s.pg, .int .i64 s.n, .string ⟨s.data.toArray⟩, .bool s.wr, .bool s.ex] :: .obj r (.map es c) :: .blk g1 [.string ⟨I.name.toArray⟩, .slice pn I.needs.length cn, .slice (some ⟨b, off, none⟩) I.segs.length cs, .slice py I.syms.length cy, .slice pr I.rels.length cr, .int .i64 I.entry, .int .i64 (b0 * 16)] :: bxs bs) → ∀ (g9 : Nat) (w9 : World) (es' : Array MapEntry) (c' : Nat), St nF w w9 (.blk g9 [.int .i64 ((b0 * 16).tdiv 16 + s.pg + n), .string ⟨(dataAt s.data n).toArray⟩, .slice none 0 0] :: .row 5 1 (.slice (some ⟨g7, 0, none⟩) 16 16) (bR (dataAt s.data n)) :: .blk g5 [.int .i64 s.pg, .int .i64 s.n, .string ⟨s.data.toArray⟩, .bool s.wr, .bool s.ex] :: .obj r (.map es' c') :: .blk g1 [.string ⟨I.name.toArray⟩, .slice pn I.needs.length cn, .slice (some ⟨b, off, none⟩) I.segs.length cs, .slice py I.syms.length cy, .slice pr I.rels.length cr, .int .i64 I.entry, .int .i64 (b0 * 16)] :: bxs bs) → MapG (.int .i64) es' (bs.map kvB ++ [(.int .i64 ((b0 * 16).tdiv 16 + s.pg + n), .pointer (some ⟨g9, 0, none⟩))]) → ∃ bx : Bx, St nF w w9 (.blk g5 [.int .i64 s.pg, .int .i64 s.n, .string ⟨s.data.toArray⟩, .bool s.wr, .bool s.ex] :: .obj r (.map es' c') :: .blk g1 [.string ⟨I.name.toArray⟩, .slice pn I.needs.length cn, .slice (some ⟨b, off, none⟩) I.segs.length cs, .slice py I.syms.length cy, .slice pr I.rels.length cr, .int .i64 I.entry, .int .i64 (b0 * 16)] :: bxs (bs ++ [bx])) ∧ MapG (.int .i64) es' ((bs ++ [bx]).map kvB) ∧ (bs ++ [bx]).map keyB = pgsO b0 (I.segs.take j) ++ pgsS b0 s (n + 1) ∧ ∀ b ∈ bs ++ [bx], b.pg < b0 + s.pg + ((n + 1 : Nat) : Int) := by
    intro w' g7 _ g9 w9 es' c' hS hM'
    rw [hquo] at hS hM'
    refine ⟨⟨g9, b0 + s.pg + n, dataAt s.data n, none, 0, []⟩, ?_, ?_, ?_, ?_⟩
    · replace hS := hS.addNil 124 2
      replace hS := St.reorderT 6 [3, 4, 5, 1, 0] hS (by decide) rfl
      simp only [appA, List.drop_succ_cons, List.drop_zero] at hS
      exact hS.perm ((((bxs_snoc ⟨g9, b0 + s.pg + n, dataAt s.data n, none, 0, []⟩ bs).cons _).cons _).cons _)
    · rw [List.map_append]
      exact hM'
    · rw [List.map_append, hK, pgsS_succ, List.append_assoc]
      rfl
    · intro x hx
      rcases List.mem_append.1 hx with h | h
      · have := hB x h; omega
      · have : x.pg = b0 + s.pg + n := by simp only [List.mem_singleton] at h; rw [h]
        omega
  by_cases hfr : (n : Int) * 16 < s.data.length
  · repeat' (first | (first | ((with_reducible apply l_add); exact rfl; exact rfl; omega; omega; exact rfl) | ((with_reducible apply l_mul); exact rfl; exact rfl; omega; omega; exact rfl) | ((with_reducible apply l_pure tabOk); exact rfl; exact rfl) | ((with_reducible apply l_load); exact rfl; (((with_reducible apply Loads.sc tabOk); exact rfl; (first | exact hS.blkC 1 rfl rfl | exact hS.blkC 3 rfl rfl))); exact rfl)) | (first | (with_reducible apply c_seq) | (with_reducible apply c_region) | (with_reducible apply l_nil) | (with_reducible apply q_then) | (with_reducible apply c_skip) | (with_reducible apply c_block)) | (((with_reducible apply c_ifd); exact rfl; all_goals (intro hb hp; try (exfalso; omega)))) | ((with_reducible apply l_make hS tabOk (m := 16)); exact rfl; exact rfl; exact rfl; exact rfl; exact rfl; omega; omega; exact rfl; exact rfl; intro g7 w' hS'; clear hS; have hS := hS'; clear hS') | ((with_reducible apply l_strFrom tabOk); exact rfl; exact rfl; exact rfl; omega; omega; exact rfl) | ((with_reducible apply l_gets); exact rfl; exact g_copyS hS tabOk (i := 0) (old := List.replicate 16 0) rfl rfl rfl rfl; rintro _ w' ⟨rfl, hS'⟩; simp only [List.set] at hS'; clear hS; have hS := hS'; clear hS') | ((with_reducible apply l_quoT); exact rfl; exact rfl; omega; omega; omega; exact rfl))
    have hd : List.take 16 (List.drop ((n : Int) * 16).toNat s.data) ++ List.drop (List.take 16 (List.drop ((n : Int) * 16).toNat s.data)).length (List.replicate 16 0) = dataAt s.data n := by
      unfold dataAt
      rw [show ((n : Int) * 16).toNat = n * 16 by omega, List.drop_replicate]
    rw [hd] at hS
    have hf := fin _ _ hS
    clear fin
    repeat' (first | (first | ((with_reducible apply l_build tabOk); exact rfl; exact rfl; ((exact (rfl : _ = some [_, _, _]))); exact rfl) | ((with_reducible apply l_box hS); exact rfl; exact rfl; exact rfl; intro g w' hS'; clear hS; have hS := hS'; clear hS')) | ((with_reducible apply l_convS hS tabOk 0); exact rfl; exact rfl; exact rfl; exact rfl; exact rfl; (rw [dataAt_len]; omega); exact rfl))
    refine l_gets0 (g_updN hS (i := 3) mt_sheets ut_int rfl rfl rfl rfl hM (k := .int .i64 ((b0 * 16).tdiv 16 + s.pg + n)) rfl hno) ?_
    rintro - w9 ⟨es', c', hM', hS'⟩
    simp only [List.set] at hS'
    obtain ⟨bx, hS2, hM2, hK2, hB2⟩ := hf _ w9 es' c' hS' hM'
    clear hf hS hS' hM'
    have hS := hS2
    repeat' (first | (first | ((with_reducible apply l_add); exact rfl; exact rfl; omega; omega; exact rfl) | ((with_reducible apply l_pure tabOk); exact rfl; exact rfl)) | (first | (with_reducible apply c_region) | (with_reducible apply l_nil) | (with_reducible apply q_then) | (with_reducible apply q_block)))
    exact q_loopK (n + 1, bs ++ [bx], es', c') (by repeat (first | exact Fr.sub_nil _ | (apply Fr.sub_cons; exact rfl))) ⟨by show n + 1 ≤ m; omega, hM2, hK2, hB2⟩ (by simpa only [List.append_nil] using hS) (by show m - (n + 1) < m - n; omega)
  · repeat' (first | (first | ((with_reducible apply l_add); exact rfl; exact rfl; omega; omega; exact rfl) | ((with_reducible apply l_mul); exact rfl; exact rfl; omega; omega; exact rfl) | ((with_reducible apply l_pure tabOk); exact rfl; exact rfl) | ((with_reducible apply l_load); exact rfl; (((with_reducible apply Loads.sc tabOk); exact rfl; (first | exact hS.blkC 1 rfl rfl | exact hS.blkC 3 rfl rfl))); exact rfl)) | (first | (with_reducible apply c_seq) | (with_reducible apply c_region) | (with_reducible apply l_nil) | (with_reducible apply q_then) | (with_reducible apply c_skip) | (with_reducible apply c_block)) | (((with_reducible apply c_ifd); exact rfl; all_goals (intro hb hp; try (exfalso; omega)))) | ((with_reducible apply l_make hS tabOk (m := 16)); exact rfl; exact rfl; exact rfl; exact rfl; exact rfl; omega; omega; exact rfl; exact rfl; intro g7 w' hS'; clear hS; have hS := hS'; clear hS') | ((with_reducible apply l_quoT); exact rfl; exact rfl; omega; omega; omega; exact rfl))
    have hd : List.replicate 16 [Value.int .u8 0] = bR (dataAt s.data n) := by
      unfold dataAt
      rw [List.drop_of_length_le (by omega)]
      rfl
    rw [hd] at hS
    have hf := fin _ _ hS
    clear fin
    repeat' (first | (first | ((with_reducible apply l_build tabOk); exact rfl; exact rfl; ((exact (rfl : _ = some [_, _, _]))); exact rfl) | ((with_reducible apply l_box hS); exact rfl; exact rfl; exact rfl; intro g w' hS'; clear hS; have hS := hS'; clear hS')) | ((with_reducible apply l_convS hS tabOk 0); exact rfl; exact rfl; exact rfl; exact rfl; exact rfl; (rw [dataAt_len]; omega); exact rfl))
    refine l_gets0 (g_updN hS (i := 3) mt_sheets ut_int rfl rfl rfl rfl hM (k := .int .i64 ((b0 * 16).tdiv 16 + s.pg + n)) rfl hno) ?_
    rintro - w9 ⟨es', c', hM', hS'⟩
    simp only [List.set] at hS'
    obtain ⟨bx, hS2, hM2, hK2, hB2⟩ := hf _ w9 es' c' hS' hM'
    clear hf hS hS' hM'
    have hS := hS2
    repeat' (first | (first | ((with_reducible apply l_add); exact rfl; exact rfl; omega; omega; exact rfl) | ((with_reducible apply l_pure tabOk); exact rfl; exact rfl)) | (first | (with_reducible apply c_region) | (with_reducible apply l_nil) | (with_reducible apply q_then) | (with_reducible apply q_block)))
    exact q_loopK (n + 1, bs ++ [bx], es', c') (by repeat (first | exact Fr.sub_nil _ | (apply Fr.sub_cons; exact rfl))) ⟨by show n + 1 ≤ m; omega, hM2, hK2, hB2⟩ (by simpa only [List.append_nil] using hS) (by show m - (n + 1) < m - n; omega)
end Go.Proofs.Ytejnpppejalhfab
/- The linker lays an object down. -/
namespace Go.Proofs.Ytejnpppejalhfab
open Go.RowKit Go.Sort
theorem put8 (n : Int) (w : World) : Fn Try.prog 93 [.int .i64 n, .int .i64 8] w (RBf (.tuple #[.string ⟨(leB n 8).toArray⟩, .int .i64 0]) w) :=
  Fn.of_rb ⟨Try.func93, by kernel_rfl, by kernel_rfl⟩ (rb_below (put_yes n 8 w (by decide) (by decide)))
theorem St.rotA {F : Nat → Prop} {w0 w : World} {Γ : List Asr} (m : Nat) (h : St F w0 w Γ) : St F w0 w (Γ.drop m ++ Γ.take m) := by
  refine h.perm ?_
  conv => lhs; rw [← List.take_append_drop m Γ]
  exact List.perm_append_comm
abbrev LyS (go : Nat) (pa : Option Addr) (ca : Nat) (ps : Option Addr) (cs : Nat) (en : Int) (A : List Ar) (Lp : List (Sh × Value)) : List Asr :=
  [.blk go [.slice pa A.length ca, .slice ps Lp.length cs, .int .i64 en], .row 131 4 (.slice pa A.length ca) (A.map arC), .row 49 3 (.slice ps Lp.length cs) (Lp.map fun p => shC p.1 p.2)]
def fxRow (p : Sh × Value) : Asr := .row 124 2 p.2 (p.1.fixes.map fxC)
def bxSh (b : Bx) : Sh × Value := (⟨b.pg, b.data, b.fx⟩, b.v)
def keyF (f : Int → List Fx) (k : Int × List UInt8 × List Fx) : Int × List UInt8 × List Fx := (k.1, k.2.1, f k.1)
theorem bx_keys {bs : List Bx} {K : List (Int × List UInt8 × List Fx)} {f : Int → List Fx} (hK : bs.map keyB = K.map (keyF f)) : (bs.map (·.pg) = K.map (·.1)) ∧ (∀ k ∈ K, ∃ b ∈ bs, b.pg = k.1) ∧ (∀ b ∈ bs, ∃ k ∈ K, b.pg = k.1 ∧ b.data = k.2.1 ∧ b.fx = f k.1) := by
  refine ⟨?_, fun k hk => ?_, fun b hb => ?_⟩
  · have := congrArg (List.map (·.1)) hK
    rw [List.map_map, List.map_map] at this
    exact this
  · have : keyF f k ∈ bs.map keyB := by rw [hK]; exact List.mem_map.2 ⟨k, hk, rfl⟩
    obtain ⟨b, hb, e⟩ := List.mem_map.1 this
    exact ⟨b, hb, congrArg (·.1) e⟩
  · have : keyB b ∈ K.map (keyF f) := by rw [← hK]; exact List.mem_map.2 ⟨b, hb, rfl⟩
    obtain ⟨k, hk, e⟩ := List.mem_map.1 this
    exact ⟨k, hk, (congrArg (·.1) e).symm, (congrArg (·.2.1) e).symm, (congrArg (·.2.2) e).symm⟩
theorem bx_fix {bs bs2 : List Bx} {K : List (Int × List UInt8 × List Fx)} {f g : Int → List Fx} {at_ : Int} {s : List UInt8} (hK : bs.map keyB = K.map (keyF f)) (h2 : bs2.map gK = bs.map (gF at_ s)) (hg : ∀ p, g p = f p ++ fxOf at_ s p) : bs2.map keyB = K.map (keyF g) := by
  have e1 : bs2.map keyB = (bs2.map gK).map (·.2) := by rw [List.map_map]; rfl
  have e2 : (bs.map (gF at_ s)).map (·.2) = (bs.map keyB).map fun k => (k.1, k.2.1, k.2.2 ++ fxOf at_ s k.1) := by rw [List.map_map, List.map_map]; rfl
  rw [e1, h2, e2, hK, List.map_map]
  apply List.map_congr_left
  intro k _
  show (k.1, k.2.1, f k.1 ++ fxOf at_ s k.1) = keyF g k
  unfold keyF
  rw [hg]
theorem bx_shs {bs : List Bx} {K : List (Int × List UInt8 × List Fx)} {f : Int → List Fx} (hK : bs.map keyB = K.map (keyF f)) : (bs.map bxSh).map (·.1) = K.map fun k => ⟨k.1, k.2.1, f k.1⟩ := by
  have e : (bs.map bxSh).map (·.1) = (bs.map keyB).map fun k => (⟨k.1, k.2.1, k.2.2⟩ : Sh) := by rw [List.map_map, List.map_map]; rfl
  rw [e, hK, List.map_map]
  rfl
theorem c_mid {P : Program} {n : Nat} {ds : List Deferred} {E : Fr} {w : World} {X : Type} (Ef : X → Fr) (I : X → World → Prop) {x y : Code} {Q1 Q2 : Exit → Act → World → Prop} (hx : WC P x (Exit.then (fun a' w' => ∃ m, Has n ds a' (Ef m) ∧ I m w') Q2) n ds E w) (hz : ∀ m w', I m w' → WC P y Q1 n ds (Ef m) w') : WC P x (Exit.then (y.wp P Q1) Q2) n ds E w := fun a ha =>
  Code.wp_mono (fun e a' w' q => by
    cases e with
    | normal => obtain ⟨m, h1, h2⟩ := q; exact hz m w' h2 a' h1
    | exit i => exact q
    | goto l => exact q
    | ret => exact q
    | panic c => exact q
    | outgrown => exact q) (hx a ha)
theorem c_mid3 {P : Program} {n : Nat} {ds : List Deferred} {E : Fr} {w : World} {X : Type} (Ef : X → Fr) (I : X → World → Prop) {x y z : Code} {Q1 Q2 Q3 : Exit → Act → World → Prop} (hx : WC P x (Exit.then (y.wp P (Exit.then (fun a' w' => ∃ m, Has n ds a' (Ef m) ∧ I m w') Q2)) Q3) n ds E w) (hz : ∀ m w', I m w' → WC P z Q1 n ds (Ef m) w') : WC P x (Exit.then (y.wp P (Exit.then (z.wp P Q1) Q2)) Q3) n ds E w := fun a ha =>
  Code.wp_mono (fun e a' w' q => by
    cases e with
    | normal =>
      refine Code.wp_mono (fun e a2 w2 q2 => ?_) q
      cases e with
      | normal => obtain ⟨m, h1, h2⟩ := q2; exact hz m w2 h2 a2 h1
      | exit i => exact q2
      | goto l => exact q2
      | ret => exact q2
      | panic c => exact q2
      | outgrown => exact q2
    | exit i => exact q
    | goto l => exact q
    | ret => exact q
    | panic c => exact q
    | outgrown => exact q) (hx a ha)
theorem a_build {P : Program} {n : Nat} {ds : List Deferred} {E : Fr} {w : World} {Q : Exit → Act → World → Prop} {ops : Array Oper} {d : Nat} {ty : TypeId} {pos : String} {after : Array Edge} (i : Nat) {T : Tab} {S : World → Prop} {fuel : Nat} {li : Array Bool} (hT : TabOk P T) {t s : Nat} {fs : List (Nat × Nat × Bool)} {z L : List Value} {parts : Array (Nat × Operand)} {ps : List (Nat × Value)} (hi : ops[i]? = some ⟨some d, .build t parts, ty, pos, after, none⟩) (hs : Region.noSelect ops = true) (hf : Region.free .any ops li i = true) (hr : (Region.ready .any ops li).contains i = true)
    (hQ : ∀ c (a : Act) w v, Q (.panic c) (a.put (some d) v) w → Q (.panic c) a w) (hS : S w) (ht : T.get t = some (.st s fs z)) (hp : evP E parts.toList = some ps) (hL : fillL (fun i => (fs[i]?).map fun f => (f.1, f.2.1)) z ps = some L) (hd : Nat.blt d n = true) (k : WA P ops Q S fuel (li.setIfInBounds i true) n ds ((d, .agg L.toArray) :: E) w) : WA P ops Q S (fuel + 1) li n ds E w :=
  a_takeR i hi hs hf hr (fun c a w h => hQ c a w _ h) hS (fun a ha => r_build hT ht hp hL _ ha) hd k
theorem hold_load {w : World} {x : Bx} (h : (bxB x).holds w) : Loads Try.prog 49 ⟨x.g, 0, none⟩ (.agg [.int .i64 x.pg, .string ⟨x.data.toArray⟩, .slice x.p x.fx.length x.c].toArray) w := by
  unfold bxB at h
  (with_reducible apply Loads.st tabOk)
  · exact rfl
  · exact fun j v hj => by rw [Nat.zero_add]; exact holdC h hj
  · exact rfl
theorem join_nil {A : List Ar} {a : Ar} (h : A.length = 0) : joinStep A a = A ++ [a] := by
  obtain rfl := List.length_eq_zero_iff.1 h
  rfl
theorem last_at {A : List Ar} {k : Nat} {b : Ar} (hk : k + 1 = A.length) (hb : A[k]? = some b) : A.getLast? = some b := by
  rw [List.getLast?_eq_getElem?, ← hk]; exact hb
theorem join_set {A : List Ar} {a b : Ar} {k : Nat} (hk : k + 1 = A.length) (hb : A[k]? = some b) (hal : b.alike a) : joinStep A a = A.set k { b with n := b.n + a.n } := by
  unfold joinStep
  rw [last_at hk hb]
  dsimp only
  rw [if_pos hal]
  obtain ⟨o, rfl⟩ := List.getLast?_eq_some_iff.1 (last_at hk hb)
  rw [List.dropLast_concat]
  rw [List.length_append, List.length_singleton] at hk
  obtain rfl : k = o.length := by omega
  simp
theorem join_app {A : List Ar} {a b : Ar} {k : Nat} (hk : k + 1 = A.length) (hb : A[k]? = some b) (hal : ¬ b.alike a) : joinStep A a = A ++ [a] := by
  unfold joinStep
  rw [last_at hk hb]
  dsimp only
  rw [if_neg hal]
def pgN (b0 : Int) (l : List Sg) : Nat := (pgsO b0 l).length
theorem pgN_step {b0 : Int} {l : List Sg} {j : Nat} {s : Sg} (h : l[j]? = some s) : pgN b0 (l.take (j + 1)) = pgN b0 (l.take j) + s.n.toNat := by
  unfold pgN
  rw [pgsO_step h, List.length_append, pgsS_len]
set_option maxRecDepth 100000 in
set_option maxHeartbeats 8000000 in
theorem lay_fn {F : Nat → Prop} {w0 w : World} {Γ : List Asr} {go gw da dq : Nat} {qa qs : Option Addr} {en : Int} {A : List Ar} {Lp : List (Sh × Value)} {lv : Value} {os : List Ob} {o : Ob} {b0 : Int}
    (hS0 : St F w0 w (LyS go qa da qs dq en A Lp ++ Γ)) (hc : Bs (fps (LyS go qa da qs dq en A Lp)) w ⟨gw, 2, none⟩ lv) (hl : Sl (fps (LyS go qa da qs dq en A Lp)) w 7 lv (os.map obC)) (hO : ∀ x ∈ os, ImF (fps (LyS go qa da qs dq en A Lp)) w x)
    (hr : ∀ x ∈ os, ∀ s ∈ x.im.syms, -9223372036854775808 ≤ x.at_ + s.at_ ∧ x.at_ + s.at_ ≤ 9223372036854775807) (ho : o ∈ os) (hat : o.at_ = b0 * 16) (h0 : 1 ≤ b0) (h1 : b0 ≤ 100000) (hs2 : o.im.segs.all sgOk = true) (hch : Ch o.im.segs) (hpl : Plc o.im) (hrl : o.im.rels.length ≤ 16) (hsl : o.im.segs.length ≤ 6)
    (hA : AOk A) (hAl : A.length ≤ 100000) (hLl : Lp.length ≤ 100000) :
    Fn Try.prog 48 [.pointer (some ⟨gw, 0, none⟩), .agg (obC o).toArray, .pointer (some ⟨go, 0, none⟩)] w (fun v w' => (symsIn (obP os) o.at_ o.im.rels = false ∧ v = .int .i64 7 ∧ St (fps (LyS go qa da qs dq en A Lp)) w w' []) ∨ (symsIn (obP os) o.at_ o.im.rels = true ∧ v = .int .i64 0 ∧ ∃ qa' da' qs' dq' N, N.map (·.1) = shO (obP os) o.im b0 ∧ St (fps (LyS go qa da qs dq en A Lp)) w w' (LyS go qa' da' qs' dq' en (arsO A b0 o.im.segs) (Lp ++ N) ++ N.map fxRow))) := by
  refine fn_enter (fn := Try.f48) ⟨Try.func48, by kernel_rfl, by kernel_rfl⟩ (by exact rfl) Try.ntmps48 (by exact rfl) ?_
  have hS := St.startM hS0
  generalize hG : fps (LyS go qa da qs dq en A Lp) = G at hS hc hl hO ⊢
  clear hS0 hG
  have hOo := hO o ho
  obtain ⟨I, vn, vs, vy, vr, at_⟩ := o
  dsimp only at hat hs2 hch hpl hrl hsl ⊢
  subst hat
  have hI : ImV w I vn vs vy vr := hOo.now hS
  have bn := hI.needs.bound; have bs := hI.segs.bound; have by_ := hI.syms.bound; have br := hI.rels.bound; obtain ⟨pn, cn, rfl⟩ := hI.needs.len; obtain ⟨ps, cs, rfl⟩ := hI.segs.len; obtain ⟨py, cy, rfl⟩ := hI.syms.len; obtain ⟨pr, cr, rfl⟩ := hI.rels.len
  unfold obC
  simp only [LyS] at hS
  repeat' (first | (first | ((with_reducible apply l_pure tabOk); exact rfl; exact rfl) | ((with_reducible apply l_load); exact rfl; (((with_reducible apply Loads.st tabOk); exact rfl; ((exact hS.blkR 0 rfl)); exact rfl)); exact rfl) | ((with_reducible apply l_box hS); exact rfl; exact rfl; exact rfl; intro g w' hS'; clear hS; have hS := hS'; clear hS')) | (first | (with_reducible apply c_seq) | (with_reducible apply c_region) | (with_reducible apply l_nil) | (with_reducible apply q_then)))
  obtain ⟨g4, hg4⟩ : ∃ g4, g4 = g := ⟨_, rfl⟩
  rw [← hg4] at hS ⊢
  clear hg4 hI
  have hI : ImV _ I (.slice pn I.needs.length cn) (.slice ps I.segs.length cs) (.slice py I.syms.length cy) (.slice pr I.rels.length cr) := hOo.now hS
  ((with_reducible apply l_call); exact rfl; exact rfl; exact sheets_fn hI hs2 hch h0 h1; exact rfl; rintro _ w' ⟨r, es, c, bs, rfl, hM, hK, hS'⟩)
  replace hS := (hS.trans hS').perm List.perm_append_comm
  clear hS'
  simp only [List.cons_append, List.nil_append] at hS
  repeat' (first | (first | ((with_reducible apply l_pure tabOk); exact rfl; exact rfl) | ((with_reducible apply l_load); exact rfl; (((with_reducible apply Loads.sl tabOk); exact rfl; ((exact hS.blkC 0 rfl rfl)))); exact rfl)) | (first | (with_reducible apply c_seq) | (with_reducible apply c_region) | (with_reducible apply l_nil) | (with_reducible apply q_then) | (with_reducible apply c_block)))
  refine c_loopK (Γ := []) (X := Nat × List Bx) (fun x => [(26, .int .i64 (x.1 : Nat))]) [0, 2, 4, 7, 24, 25] rfl (fun x => .blk g4 [.string ⟨I.name.toArray⟩, .slice pn I.needs.length cn, .slice ps I.segs.length cs, .slice py I.syms.length cy, .slice pr I.rels.length cr, .int .i64 I.entry, .int .i64 (b0 * 16)] :: (LyS go qa da qs dq en A Lp ++ (.obj r (.map es c) :: bxs x.2))) (fun x => x.1 ≤ I.rels.length ∧ symsIn (obP os) (b0 * 16) (I.rels.take x.1) = true ∧ MapG (.int .i64) es (x.2.map kvB) ∧ x.2.map keyB = (pgsO b0 I.segs).map (keyF (fxAll (obP os) (b0 * 16) (I.rels.take x.1)))) (fun x => I.rels.length - x.1) (0, bs) (by repeat (first | exact Fr.sub_nil _ | (apply Fr.sub_cons; exact rfl))) ⟨Nat.zero_le _, rfl, hM, ?_⟩ (by simpa only [LyS, List.cons_append, List.nil_append, List.append_nil] using hS) ?_
  · rw [hK]
    refine (List.map_id' _).symm.trans (List.map_congr_left fun k hk => ?_)
    obtain ⟨s, -, hk⟩ := List.mem_flatMap.1 hk
    obtain ⟨m, -, rfl⟩ := pgsS_mem hk
    rfl
  clear hS hM hK
  have hrels : Sl G w 3 (.slice pr I.rels.length cr) (I.rels.map rlC) := hOo.rels
  rintro ⟨i, bs⟩ w1 ⟨hi, hsy, hM, hK⟩ hS
  dsimp only [] at hi hsy hM hK hS ⊢
  simp only [LyS, List.cons_append, List.nil_append, List.append_nil] at hS
  by_cases hlt : i < I.rels.length
  rotate_left
  · rw [List.take_of_length_le (by omega)] at hsy hK
    repeat' (first | (first | ((with_reducible apply l_pure tabOk); exact rfl; exact rfl) | ((with_reducible apply l_load); exact rfl; (((with_reducible apply Loads.sl tabOk); exact rfl; ((exact hS.blkC 0 rfl rfl)))); exact rfl)) | (first | (with_reducible apply c_seq) | (with_reducible apply c_region) | (with_reducible apply l_nil) | (with_reducible apply q_then) | (with_reducible apply c_block) | (with_reducible apply c_exit) | (with_reducible apply q_then_exit) | (with_reducible apply q_block_exit)) | (((with_reducible apply c_ifd); exact rfl; all_goals (intro hb hp; try (exfalso; omega)))))
    refine c_loopK (Γ := []) (X := Nat × (Option Addr × Nat) × (Option Addr × Nat) × List Ar × List (Sh × Value)) (fun x => [(65, .int .i64 (x.1 : Nat))]) [2, 4, 7, 63, 64] rfl (fun x => .blk g4 [.string ⟨I.name.toArray⟩, .slice pn I.needs.length cn, .slice ps I.segs.length cs, .slice py I.syms.length cy, .slice pr I.rels.length cr, .int .i64 I.entry, .int .i64 (b0 * 16)] :: (LyS go x.2.1.1 x.2.1.2 x.2.2.1.1 x.2.2.1.2 en x.2.2.2.1 x.2.2.2.2 ++ (.obj r (.map es c) :: bxs bs))) (fun x => x.1 ≤ I.segs.length ∧ x.2.2.2.1 = arsO A b0 (I.segs.take x.1) ∧ x.2.2.2.2 = Lp ++ (bs.take (pgN b0 (I.segs.take x.1))).map bxSh ∧ AOk x.2.2.2.1 ∧ x.2.2.2.1.length ≤ A.length + x.1) (fun x => I.segs.length - x.1) (0, (qa, da), (qs, dq), A, Lp) (by repeat (first | exact Fr.sub_nil _ | (apply Fr.sub_cons; exact rfl))) ⟨Nat.zero_le _, rfl, by simp [pgN, pgsO], hA, Nat.le_refl _⟩ (by simpa only [LyS, List.cons_append, List.nil_append, List.append_nil] using hS) ?_
    clear hS
    rintro ⟨j, ⟨qa, da⟩, ⟨qs, dq⟩, A', L'⟩ w2 ⟨hj, hA', hL', hAo, hAl'⟩ hS
    dsimp only [] at hj hA' hL' hAo hAl' hS ⊢
    simp only [LyS, List.cons_append, List.nil_append, List.append_nil] at hS
    have hbl : bs.length = pgN b0 I.segs := by
      have := congrArg List.length hK
      rwa [List.length_map, List.length_map] at this
    by_cases hjt : j < I.segs.length
    rotate_left
    · rw [List.take_of_length_le (l := I.segs) (by omega)] at hA' hL'
      rw [List.take_of_length_le (l := bs) (by omega)] at hL'
      repeat' (first | (((with_reducible apply l_pure tabOk); exact rfl; exact rfl)) | (first | (with_reducible apply c_seq) | (with_reducible apply c_region) | (with_reducible apply l_nil) | (with_reducible apply q_then) | (with_reducible apply c_exit) | (with_reducible apply c_ret) | (with_reducible apply q_then_exit) | (with_reducible apply q_block_exit)) | (((with_reducible apply c_ifd); exact rfl; all_goals (intro hb hp; try (exfalso; omega)))))
      (apply q_ret1); (repeat (first | exact ResL.nil | (apply ResL.tmp; exact rfl)))
      refine Or.inr ⟨hsy, rfl, qa, da, qs, dq, bs.map bxSh, bx_shs hK, ?_⟩
      rw [← hA', ← hL']
      rw [List.map_map]
      refine hS.drop.sub ?_
      exact (List.Sublist.refl (LyS go qa da qs dq en A' L')).append ((List.sublist_append_right _ _).cons _)
    obtain ⟨s, hs⟩ := lt_get (l := I.segs) (i := j) (by omega)
    have hrow : (I.segs.map sgC)[j]? = some [.int .i64 s.pg, .int .i64 s.n, .string ⟨s.data.toArray⟩, .bool s.wr, .bool s.ex] := map_get (f := sgC) hs
    have hsegs : Sl G w 5 (.slice ps I.segs.length cs) (I.segs.map sgC) := hOo.segs
    obtain ⟨b, off, rfl, hro⟩ := hsegs.atF (i := j) hjt
    obtain ⟨y1, y2, y3, y4, y5⟩ := sg_ok hs2 hs
    have hquo : (b0 * 16).tdiv 16 = b0 := Int.mul_tdiv_cancel _ (by omega)
    repeat' (first | (first | ((with_reducible apply l_add); exact rfl; exact rfl; omega; omega; exact rfl) | ((with_reducible apply l_pure tabOk); exact rfl; exact rfl) | ((with_reducible apply l_load); exact rfl; (first | ((with_reducible apply Loads.sc tabOk); exact rfl; (first | exact hS.blkC 0 rfl rfl | exact hS.blkC 1 rfl rfl)) | ((with_reducible apply Loads.st tabOk); exact rfl; ((exact hS.roR (by assumption) (by assumption))); exact rfl)); exact rfl) | ((with_reducible apply l_ix tabOk); exact rfl; exact rfl; exact rfl; ((exact rfl)); ((omega)); exact rfl) | ((with_reducible apply l_alloc hS tabOk); exact rfl; exact rfl; exact rfl; intro g w' hS'; clear hS; have hS := hS'; clear hS') | (((with_reducible apply l_store hS tabOk (i := 0)); exact rfl; exact rfl; exact rfl; exact rfl; exact rfl; exact rfl; exact rfl; exact rfl; ((exact (rfl : _ = [_, _, _, _, _]))); intro w' hS'; simp only [List.set] at hS'; clear hS; have hS := hS'; clear hS'))) | (first | (with_reducible apply c_seq) | (with_reducible apply c_region) | (with_reducible apply l_nil) | (with_reducible apply q_then) | (with_reducible apply c_skip) | (with_reducible apply c_block)) | (((with_reducible apply c_ifd); exact rfl; all_goals (intro hb hp; try (exfalso; omega)))) | ((with_reducible apply l_quoT); exact rfl; exact rfl; omega; omega; omega; exact rfl))
    rw [hquo]
    obtain ⟨g5, hg5⟩ : ∃ g5, g5 = g := ⟨_, rfl⟩
    rw [← hg5] at hS ⊢
    clear hg5
    refine c_mid (X := Nat) (fun g6 => [(15, .pointer (some ⟨g5, 0, none⟩)), (16, .int .i64 (b0 + s.pg)), (17, .pointer (some ⟨g6, 0, none⟩)), (65, .int .i64 (j : Nat)), (2, .pointer (some ⟨go, 0, none⟩)), (4, .pointer (some ⟨g4, 0, none⟩)), (7, .map (some r)), (63, .slice (some ⟨b, off, none⟩) I.segs.length cs), (64, .int .i64 (I.segs.length : Nat))]) (fun g6 w' => St G w w' (.blk g6 [.int .i64 (b0 + s.pg), .int .i64 s.n, .int .i64 (rgt s), .bool false] :: .blk g5 [.int .i64 s.pg, .int .i64 s.n, .string ⟨s.data.toArray⟩, .bool s.wr, .bool s.ex] :: .blk g4 [.string ⟨I.name.toArray⟩, .slice pn I.needs.length cn, .slice (some ⟨b, off, none⟩) I.segs.length cs, .slice py I.syms.length cy, .slice pr I.rels.length cr, .int .i64 I.entry, .int .i64 (b0 * 16)] :: (LyS go qa da qs dq en A' L' ++ (.obj r (.map es c) :: bxs bs)))) ?_ ?_
    · have hrg := fun w => rights_fn s w
      unfold sgC at hrg
      refine c_heldS 8 rfl hS (by kernel_rfl) ?_
      intro wh hh
      clear hS
      have hS := hh
      clear hh
      ((with_reducible apply a_take 0 tabOk); exact rfl; kernel_rfl; kernel_rfl; kernel_rfl; exact (fun _ _ _ h => h); exact hS; exact rfl; exact rfl)
      ((with_reducible apply a_take 1 tabOk); exact rfl; kernel_rfl; kernel_rfl; kernel_rfl; exact (fun _ _ _ h => h); exact hS; exact rfl; exact rfl)
      ((with_reducible apply a_takeL 2); exact rfl; kernel_rfl; kernel_rfl; kernel_rfl; exact (fun _ _ _ h => h); exact hS; exact rfl; (intro wd hd; replace hd : St _ _ wd _ := hd; (((with_reducible apply Loads.sc tabOk); exact rfl; ((exact hd.blkC 0 rfl rfl))))); exact rfl)
      ((with_reducible apply a_takeL 3); exact rfl; kernel_rfl; kernel_rfl; kernel_rfl; exact (fun _ _ _ h => h); exact hS; exact rfl; (intro wd hd; replace hd : St _ _ wd _ := hd; (((with_reducible apply Loads.st tabOk); exact rfl; ((exact hd.blkR 0 rfl)); exact rfl))); exact rfl)
      refine a_two (i := 4) (j := 6) (by kernel_rfl) ?_ ?_
      · refine o_gets rfl (g_call (first := []) (caps := []) rfl rfl (hrg _)) rfl ?_
        rintro _ w' ⟨rfl, hS'⟩
        replace hS := hS.transA hS'
        simp only [appA] at hS
        clear hS'
        refine ⟨hS, ?_⟩
        ((with_reducible apply a_build 5 tabOk); exact rfl; kernel_rfl; kernel_rfl; kernel_rfl; exact (fun _ _ _ _ h => h); exact hS; exact rfl; exact rfl; ((exact (rfl : _ = some [_, _, _, _]))); exact rfl)
        refine a_one (i := 6) (by kernel_rfl) ?_
        refine o_gets rfl (g_allocT hS tabOk rfl rfl) rfl ?_
        rintro _ w' ⟨g, rfl, hS'⟩
        clear hS; have hS := hS'; clear hS'
        refine ⟨hS.drop, ?_⟩
        refine a_one (i := 7) (by kernel_rfl) ?_
        refine o_gets0 (Φ := fun _ w' => St _ _ w' _) rfl (g_store hS tabOk (i := 0) rfl rfl rfl rfl rfl (Nat.le_of_ble_eq_true rfl) (List.all_eq_true.1 rfl)) ?_
        intro _ w' hS'
        simp only [List.set] at hS'
        clear hS; have hS := hS'; clear hS'
        refine ⟨hS.drop, ?_⟩
        refine a_done (by kernel_rfl) ?_
        exact q_join g (by repeat (first | exact Fr.sub_nil _ | (apply Fr.sub_cons; exact rfl))) hS
      · refine o_gets rfl (g_allocT hS tabOk rfl rfl) rfl ?_
        rintro _ w' ⟨g, rfl, hS'⟩
        clear hS; have hS := hS'; clear hS'
        refine ⟨hS.drop, ?_⟩
        refine a_one (i := 4) (by kernel_rfl) ?_
        refine o_gets rfl (g_call (first := []) (caps := []) rfl rfl (hrg _)) rfl ?_
        rintro _ w' ⟨rfl, hS'⟩
        replace hS := hS.transA hS'
        simp only [appA] at hS
        clear hS'
        refine ⟨hS.drop, ?_⟩
        ((with_reducible apply a_build 5 tabOk); exact rfl; kernel_rfl; kernel_rfl; kernel_rfl; exact (fun _ _ _ _ h => h); exact hS.drop; exact rfl; exact rfl; ((exact (rfl : _ = some [_, _, _, _]))); exact rfl)
        refine a_one (i := 7) (by kernel_rfl) ?_
        refine o_gets0 (Φ := fun _ w' => St _ _ w' _) rfl (g_store hS tabOk (i := 0) rfl rfl rfl rfl rfl (Nat.le_of_ble_eq_true rfl) (List.all_eq_true.1 rfl)) ?_
        intro _ w' hS'
        simp only [List.set] at hS'
        clear hS; have hS := hS'; clear hS'
        refine ⟨hS.drop, ?_⟩
        refine a_done (by kernel_rfl) ?_
        exact q_join g (by repeat (first | exact Fr.sub_nil _ | (apply Fr.sub_cons; exact rfl))) hS
    clear hS hro hquo
    intro g6 w3 hS
    simp only [LyS, List.cons_append, List.nil_append, List.append_nil] at hS
    repeat' (first | (first | ((with_reducible apply l_pure tabOk); exact rfl; exact rfl) | ((with_reducible apply l_load); exact rfl; (((with_reducible apply Loads.sl tabOk); exact rfl; ((exact hS.blkC 3 rfl rfl)))); exact rfl)) | (first | (with_reducible apply c_seq) | (with_reducible apply c_region) | (with_reducible apply l_nil) | (with_reducible apply q_then)))
    replace hS := St.reorderT 7 [4, 3, 0, 1, 2, 5, 6] hS (by decide) rfl
    simp only [appA, List.drop_succ_cons, List.drop_zero] at hS
    refine c_mid3 (X := Option Addr × Nat × List Ar) (fun _ => [(15, .pointer (some ⟨g5, 0, none⟩)), (16, .int .i64 (b0 + s.pg)), (65, .int .i64 (j : Nat)), (2, .pointer (some ⟨go, 0, none⟩)), (4, .pointer (some ⟨g4, 0, none⟩)), (7, .map (some r)), (63, .slice (some ⟨b, off, none⟩) I.segs.length cs), (64, .int .i64 (I.segs.length : Nat))]) (fun m w' => m.2.2 = joinStep A' (rawA b0 s) ∧ St G w w' (.blk g5 [.int .i64 s.pg, .int .i64 s.n, .string ⟨s.data.toArray⟩, .bool s.wr, .bool s.ex] :: .blk g4 [.string ⟨I.name.toArray⟩, .slice pn I.needs.length cn, .slice (some ⟨b, off, none⟩) I.segs.length cs, .slice py I.syms.length cy, .slice pr I.rels.length cr, .int .i64 I.entry, .int .i64 (b0 * 16)] :: (LyS go m.1 m.2.1 qs dq en m.2.2 L' ++ (.obj r (.map es c) :: bxs bs)))) ?_ ?_
    · by_cases hA0 : A'.length = 0
      · have hap := join_nil (a := rawA b0 s) hA0
        (focus ((with_reducible apply c_drawAll _ _ _ (by kernel_rfl) (by kernel_rfl) hS); (repeat' ((first | ((with_reducible apply d_pure tabOk); exact rfl; exact rfl) | (first | ((with_reducible apply d_no); exact rfl; exact rfl; exact rfl; exact rfl; (first | exact rfl | assumption); exact rfl) | ((with_reducible apply d_partd); exact rfl; exact rfl; exact rfl; all_goals (intro hb hp; try (exfalso; omega))) | ((with_reducible apply d_pick2); exact rfl; (first | exact rfl | assumption); exact rfl; exact rfl))))); all_goals ((with_reducible apply d_nil); intro w' hS'; clear hS; have hS := hS'; clear hS')))
        repeat' (first | (first | (with_reducible apply l_nil) | (with_reducible apply q_then)) | (((with_reducible apply c_iff); exact rfl; (exact rfl))))
        refine c_till (fun w' => (Asr.blk go [.slice qa A'.length da, .slice qs L'.length dq, .int .i64 en]).holds w' ∧ (Asr.blk g6 [.int .i64 (b0 + s.pg), .int .i64 s.n, .int .i64 (rgt s), .bool false]).holds w') 10 11 rfl hS (by kernel_rfl) ?_
        intro w10 hS'
        clear hS; have hS := hS'; clear hS'
        have hH := And.intro (hS.at_ (i := 1) rfl) (hS.at_ (i := 2) rfl)
        ((with_reducible apply t_pure 0 tabOk); exact rfl; kernel_rfl; kernel_rfl; kernel_rfl; exact rfl; exact (fun _ _ _ h => h); exact Or.inr hH; exact rfl; exact rfl)
        ((with_reducible apply t_pure 1 tabOk); exact rfl; kernel_rfl; kernel_rfl; kernel_rfl; exact rfl; exact (fun _ _ _ h => h); exact Or.inr hH; exact rfl; exact rfl)
        ((with_reducible apply t_pure 2 tabOk); exact rfl; kernel_rfl; kernel_rfl; kernel_rfl; exact rfl; exact (fun _ _ _ h => h); exact Or.inr hH; exact rfl; exact rfl)
        ((with_reducible apply t_pure 3 tabOk); exact rfl; kernel_rfl; kernel_rfl; kernel_rfl; exact rfl; exact (fun _ _ _ h => h); exact Or.inr hH; exact rfl; exact rfl)
        ((with_reducible apply t_takeL 4); exact rfl; kernel_rfl; kernel_rfl; kernel_rfl; kernel_rfl; exact rfl; exact rfl; exact (fun _ _ _ h => h); exact hH; exact rfl; (intro w2 hw2; ((with_reducible apply Loads.sl tabOk); exact rfl; exact holdC hw2.1 rfl)); exact rfl)
        ((with_reducible apply t_takeL 5); exact rfl; kernel_rfl; kernel_rfl; kernel_rfl; kernel_rfl; exact rfl; exact rfl; exact (fun _ _ _ h => h); exact hH; exact rfl; (intro w2 hw2; ((with_reducible apply Loads.st tabOk); exact rfl; (exact fun j v hj => by rw [Nat.zero_add]; exact holdC hw2.2 hj); exact rfl)); exact rfl)
        refine t_one (i := 6) (by kernel_rfl) ?_
        refine p_gets rfl (g_bslice hS tabOk rfl rfl rfl rfl rfl rfl) rfl ?_
        rintro _ w' ⟨g9, rfl, hS'⟩
        clear hS; have hS := hS'; clear hS'
        have hH := And.intro (hS.at_ (i := 2) rfl) (hS.at_ (i := 3) rfl)
        refine ⟨Or.inr (Or.inr hH), ?_⟩
        refine t_one (i := 7) (by kernel_rfl) ?_
        refine p_gets rfl (g_append hS tabOk (i := 1) rfl rfl rfl rfl (hS.rowRo 0 rfl) rfl (by simp only [List.length_map]; omega)) rfl ?_
        rintro _ w' ⟨p', c', rfl, hS'⟩
        simp only [List.set] at hS'
        clear hS; have hS := hS'; clear hS'
        have hH := And.intro (hS.at_ (i := 2) rfl) (hS.at_ (i := 3) rfl)
        refine ⟨Or.inr (Or.inr hH), ?_⟩
        ((with_reducible apply t_pure 8 tabOk); exact rfl; kernel_rfl; kernel_rfl; kernel_rfl; exact rfl; exact (fun _ _ _ h => h); exact Or.inr hH; exact rfl; exact rfl)
        ((with_reducible apply t_pure 9 tabOk); exact rfl; kernel_rfl; kernel_rfl; kernel_rfl; exact rfl; exact (fun _ _ _ h => h); exact Or.inr hH; exact rfl; exact rfl)
        refine t_one (i := 10) (by kernel_rfl) ?_
        refine p_gets0 (Φ := fun _ w' => St _ _ w' _) rfl (g_store hS tabOk (i := 2) rfl rfl rfl rfl rfl (Nat.le_of_ble_eq_true rfl) (by intro u hu; simp [Value.cells] at hu; subst hu; rfl)) ?_
        intro _ w' hS'
        simp only [List.set] at hS'
        clear hS; have hS := hS'; clear hS'
        refine ⟨Or.inl rfl, ?_⟩
        refine t_done (by kernel_rfl) ?_
        repeat' (fail)
        replace hS := St.reorderT 8 [4, 5, 2, 1, 6, 7] hS (by decide) rfl
        simp only [appA, List.drop_succ_cons, List.drop_zero] at hS
        rw [List.length_map] at hS
        refine q_join (p', c', A' ++ [rawA b0 s]) (by repeat (first | exact Fr.sub_nil _ | (apply Fr.sub_cons; exact rfl))) ⟨hap.symm, ?_⟩
        simp only [LyS, List.cons_append, List.nil_append, List.length_append, List.map_append, List.length_cons, List.length_nil, Nat.zero_add]
        exact hS
      · obtain ⟨k, hk⟩ : ∃ k, k + 1 = A'.length := ⟨A'.length - 1, by omega⟩
        have hix : ((k : Nat) : Int) = (A'.length : Int) - 1 := by omega
        have hkl : k < A'.length := by omega
        obtain ⟨y, hy⟩ := lt_get (l := A') (i := k) (by omega)
        have hrow : (A'.map arC)[k]? = some [.int .i64 y.pg, .int .i64 y.n, .int .i64 y.prot, .bool y.z] := map_get (f := arC) hy
        obtain ⟨u1, u2, u3, u4, u5, u6⟩ := hAo y (List.mem_of_getElem? hy)
        rcases hS.rowForm 0 rfl with ⟨h1, h2⟩ | ⟨ba, cap, h1, h2, h3⟩
        · exfalso
          simp only [Value.slice.injEq] at h1
          omega
        simp only [Value.slice.injEq] at h1
        obtain ⟨rfl, -, rfl⟩ := h1
        clear h2 h3
        by_cases e1 : y.pg + y.n = b0 + s.pg
        · have d1 : decide (y.pg + y.n = b0 + s.pg) = true := decide_eq_true e1
          by_cases e2 : y.prot = rgt s
          · have d2 : decide (y.prot = rgt s) = true := decide_eq_true e2
            have hap := join_set (a := rawA b0 s) hk hy ⟨e1, e2, u1⟩
            (focus ((with_reducible apply c_drawAll _ _ _ (by kernel_rfl) (by kernel_rfl) hS); (repeat' ((first | ((with_reducible apply d_add); exact rfl; exact rfl; omega; omega; exact rfl) | ((with_reducible apply d_sub); exact rfl; exact rfl; omega; omega; exact rfl) | ((with_reducible apply d_pure tabOk); exact rfl; exact rfl) | ((with_reducible apply d_load); exact rfl; (intro wd hd; replace hd : St _ _ wd _ := hd; (first | ((with_reducible apply Loads.sc tabOk); exact rfl; (first | exact hd.blkC 2 rfl rfl | exact hd.rowC0 0 rfl (by assumption) rfl | exact hd.rowCj 0 rfl (by assumption) rfl)) | ((with_reducible apply Loads.sl tabOk); exact rfl; ((exact hd.blkC 1 rfl rfl))))); exact rfl) | ((with_reducible apply d_ix tabOk); exact rfl; exact rfl; exact rfl; ((assumption)); ((omega)); exact rfl) | (first | ((with_reducible apply d_yes); exact rfl; exact rfl; exact rfl; exact rfl; (assumption)) | ((with_reducible apply d_partd); exact rfl; exact rfl; exact rfl; all_goals (intro hb hp; try (exfalso; omega))) | ((with_reducible apply d_pick1); exact rfl; ((assumption)); exact rfl; exact rfl))))); all_goals ((with_reducible apply d_nil); intro w' hS'; clear hS; have hS := hS'; clear hS')))
            repeat' (first | (first | (with_reducible apply l_nil) | (with_reducible apply q_then)) | (((with_reducible apply c_ift); exact rfl; (assumption))))
            (focus ((with_reducible apply c_draw _ _ _ 14 (by kernel_rfl) (by kernel_rfl) hS); (simp only [List.take_succ_cons, List.take_zero, List.drop_succ_cons, List.drop_zero]); (repeat' ((first | ((with_reducible apply d_add); exact rfl; exact rfl; omega; omega; exact rfl) | ((with_reducible apply d_sub); exact rfl; exact rfl; omega; omega; exact rfl) | ((with_reducible apply d_pure tabOk); exact rfl; exact rfl) | ((with_reducible apply d_load); exact rfl; (intro wd hd; replace hd : St _ _ wd _ := hd; (first | ((with_reducible apply Loads.sc tabOk); exact rfl; (first | exact hd.blkC 3 rfl rfl | exact hd.rowCj 0 rfl (by assumption) rfl)) | ((with_reducible apply Loads.sl tabOk); exact rfl; ((exact hd.blkC 1 rfl rfl))))); exact rfl) | ((with_reducible apply d_ix tabOk); exact rfl; exact rfl; exact rfl; ((assumption)); ((omega)); exact rfl)))); all_goals ((with_reducible apply d_nil); intro w' hS'; clear hS; have hS := hS'; clear hS')))
            repeat' (first | ((with_reducible apply l_nil)) | ((with_reducible apply l_storeRj hS tabOk (i := 0)); exact rfl; exact rfl; exact rfl; exact rfl; assumption; exact rfl; exact rfl; exact rfl; exact rfl; exact rfl; intro w' hS'; simp only [List.set] at hS'; clear hS; have hS := hS'; clear hS'))
            replace hS := St.reorderT 7 [3, 4, 1, 0, 5, 6] hS (by decide) rfl
            simp only [appA, List.drop_succ_cons, List.drop_zero] at hS
            refine q_join (some ⟨ba, 0, none⟩, da, A'.set k { y with n := y.n + s.n }) (by repeat (first | exact Fr.sub_nil _ | (apply Fr.sub_cons; exact rfl))) ⟨hap.symm, ?_⟩
            simp only [LyS, List.cons_append, List.nil_append, List.length_set, List.map_set]
            exact hS
          · have d2 : decide (y.prot = rgt s) = false := decide_eq_false e2
            have hap := join_app (a := rawA b0 s) hk hy (fun h => e2 h.2.1)
            (focus ((with_reducible apply c_drawAll _ _ _ (by kernel_rfl) (by kernel_rfl) hS); (repeat' ((first | ((with_reducible apply d_add); exact rfl; exact rfl; omega; omega; exact rfl) | ((with_reducible apply d_sub); exact rfl; exact rfl; omega; omega; exact rfl) | ((with_reducible apply d_pure tabOk); exact rfl; exact rfl) | ((with_reducible apply d_load); exact rfl; (intro wd hd; replace hd : St _ _ wd _ := hd; (first | ((with_reducible apply Loads.sc tabOk); exact rfl; (first | exact hd.blkC 2 rfl rfl | exact hd.rowC0 0 rfl (by assumption) rfl | exact hd.rowCj 0 rfl (by assumption) rfl)) | ((with_reducible apply Loads.sl tabOk); exact rfl; ((exact hd.blkC 1 rfl rfl))))); exact rfl) | ((with_reducible apply d_ix tabOk); exact rfl; exact rfl; exact rfl; ((assumption)); ((omega)); exact rfl) | (first | ((with_reducible apply d_yes); exact rfl; exact rfl; exact rfl; exact rfl; (assumption)) | ((with_reducible apply d_partd); exact rfl; exact rfl; exact rfl; all_goals (intro hb hp; try (exfalso; omega))) | ((with_reducible apply d_pick1); exact rfl; ((assumption)); exact rfl; exact rfl))))); all_goals ((with_reducible apply d_nil); intro w' hS'; clear hS; have hS := hS'; clear hS')))
            repeat' (first | (first | (with_reducible apply l_nil) | (with_reducible apply q_then)) | (((with_reducible apply c_iff); exact rfl; (assumption))))
            refine c_till (fun w' => (Asr.blk go [.slice (some ⟨ba, 0, none⟩) A'.length da, .slice qs L'.length dq, .int .i64 en]).holds w' ∧ (Asr.blk g6 [.int .i64 (b0 + s.pg), .int .i64 s.n, .int .i64 (rgt s), .bool false]).holds w') 10 11 rfl hS (by kernel_rfl) ?_
            intro w10 hS'
            clear hS; have hS := hS'; clear hS'
            have hH := And.intro (hS.at_ (i := 1) rfl) (hS.at_ (i := 2) rfl)
            ((with_reducible apply t_pure 0 tabOk); exact rfl; kernel_rfl; kernel_rfl; kernel_rfl; exact rfl; exact (fun _ _ _ h => h); exact Or.inr hH; exact rfl; exact rfl)
            ((with_reducible apply t_pure 1 tabOk); exact rfl; kernel_rfl; kernel_rfl; kernel_rfl; exact rfl; exact (fun _ _ _ h => h); exact Or.inr hH; exact rfl; exact rfl)
            ((with_reducible apply t_pure 2 tabOk); exact rfl; kernel_rfl; kernel_rfl; kernel_rfl; exact rfl; exact (fun _ _ _ h => h); exact Or.inr hH; exact rfl; exact rfl)
            ((with_reducible apply t_pure 3 tabOk); exact rfl; kernel_rfl; kernel_rfl; kernel_rfl; exact rfl; exact (fun _ _ _ h => h); exact Or.inr hH; exact rfl; exact rfl)
            ((with_reducible apply t_takeL 4); exact rfl; kernel_rfl; kernel_rfl; kernel_rfl; kernel_rfl; exact rfl; exact rfl; exact (fun _ _ _ h => h); exact hH; exact rfl; (intro w2 hw2; ((with_reducible apply Loads.sl tabOk); exact rfl; exact holdC hw2.1 rfl)); exact rfl)
            ((with_reducible apply t_takeL 5); exact rfl; kernel_rfl; kernel_rfl; kernel_rfl; kernel_rfl; exact rfl; exact rfl; exact (fun _ _ _ h => h); exact hH; exact rfl; (intro w2 hw2; ((with_reducible apply Loads.st tabOk); exact rfl; (exact fun j v hj => by rw [Nat.zero_add]; exact holdC hw2.2 hj); exact rfl)); exact rfl)
            refine t_one (i := 6) (by kernel_rfl) ?_
            refine p_gets rfl (g_bslice hS tabOk rfl rfl rfl rfl rfl rfl) rfl ?_
            rintro _ w' ⟨g9, rfl, hS'⟩
            clear hS; have hS := hS'; clear hS'
            have hH := And.intro (hS.at_ (i := 2) rfl) (hS.at_ (i := 3) rfl)
            refine ⟨Or.inr (Or.inr hH), ?_⟩
            refine t_one (i := 7) (by kernel_rfl) ?_
            refine p_gets rfl (g_append hS tabOk (i := 1) rfl rfl rfl rfl (hS.rowRo 0 rfl) rfl (by simp only [List.length_map]; omega)) rfl ?_
            rintro _ w' ⟨p', c', rfl, hS'⟩
            simp only [List.set] at hS'
            clear hS; have hS := hS'; clear hS'
            have hH := And.intro (hS.at_ (i := 2) rfl) (hS.at_ (i := 3) rfl)
            refine ⟨Or.inr (Or.inr hH), ?_⟩
            ((with_reducible apply t_pure 8 tabOk); exact rfl; kernel_rfl; kernel_rfl; kernel_rfl; exact rfl; exact (fun _ _ _ h => h); exact Or.inr hH; exact rfl; exact rfl)
            ((with_reducible apply t_pure 9 tabOk); exact rfl; kernel_rfl; kernel_rfl; kernel_rfl; exact rfl; exact (fun _ _ _ h => h); exact Or.inr hH; exact rfl; exact rfl)
            refine t_one (i := 10) (by kernel_rfl) ?_
            refine p_gets0 (Φ := fun _ w' => St _ _ w' _) rfl (g_store hS tabOk (i := 2) rfl rfl rfl rfl rfl (Nat.le_of_ble_eq_true rfl) (by intro u hu; simp [Value.cells] at hu; subst hu; rfl)) ?_
            intro _ w' hS'
            simp only [List.set] at hS'
            clear hS; have hS := hS'; clear hS'
            refine ⟨Or.inl rfl, ?_⟩
            refine t_done (by kernel_rfl) ?_
            repeat' (fail)
            replace hS := St.reorderT 8 [4, 5, 2, 1, 6, 7] hS (by decide) rfl
            simp only [appA, List.drop_succ_cons, List.drop_zero] at hS
            rw [List.length_map] at hS
            refine q_join (p', c', A' ++ [rawA b0 s]) (by repeat (first | exact Fr.sub_nil _ | (apply Fr.sub_cons; exact rfl))) ⟨hap.symm, ?_⟩
            simp only [LyS, List.cons_append, List.nil_append, List.length_append, List.map_append, List.length_cons, List.length_nil, Nat.zero_add]
            exact hS
        · have d1 : decide (y.pg + y.n = b0 + s.pg) = false := decide_eq_false e1
          have hap := join_app (a := rawA b0 s) hk hy (fun h => e1 h.1)
          (focus ((with_reducible apply c_drawAll _ _ _ (by kernel_rfl) (by kernel_rfl) hS); (repeat' ((first | ((with_reducible apply d_add); exact rfl; exact rfl; omega; omega; exact rfl) | ((with_reducible apply d_sub); exact rfl; exact rfl; omega; omega; exact rfl) | ((with_reducible apply d_pure tabOk); exact rfl; exact rfl) | ((with_reducible apply d_load); exact rfl; (intro wd hd; replace hd : St _ _ wd _ := hd; (first | ((with_reducible apply Loads.sc tabOk); exact rfl; (first | exact hd.rowC0 0 rfl (by assumption) rfl | exact hd.rowCj 0 rfl (by assumption) rfl)) | ((with_reducible apply Loads.sl tabOk); exact rfl; ((exact hd.blkC 1 rfl rfl))))); exact rfl) | ((with_reducible apply d_ix tabOk); exact rfl; exact rfl; exact rfl; ((assumption)); ((omega)); exact rfl) | (first | ((with_reducible apply d_yes); exact rfl; exact rfl; exact rfl; exact rfl; (assumption)) | ((with_reducible apply d_no); exact rfl; exact rfl; exact rfl; exact rfl; ((assumption)); exact rfl) | ((with_reducible apply d_partd); exact rfl; exact rfl; exact rfl; all_goals (intro hb hp; try (exfalso; omega))) | ((with_reducible apply d_pick1); exact rfl; ((assumption)); exact rfl; exact rfl) | ((with_reducible apply d_pick2); exact rfl; ((assumption)); exact rfl; exact rfl))))); all_goals ((with_reducible apply d_nil); intro w' hS'; clear hS; have hS := hS'; clear hS')))
          repeat' (first | (first | (with_reducible apply l_nil) | (with_reducible apply q_then)) | (((with_reducible apply c_iff); exact rfl; (exact rfl))))
          refine c_till (fun w' => (Asr.blk go [.slice (some ⟨ba, 0, none⟩) A'.length da, .slice qs L'.length dq, .int .i64 en]).holds w' ∧ (Asr.blk g6 [.int .i64 (b0 + s.pg), .int .i64 s.n, .int .i64 (rgt s), .bool false]).holds w') 10 11 rfl hS (by kernel_rfl) ?_
          intro w10 hS'
          clear hS; have hS := hS'; clear hS'
          have hH := And.intro (hS.at_ (i := 1) rfl) (hS.at_ (i := 2) rfl)
          ((with_reducible apply t_pure 0 tabOk); exact rfl; kernel_rfl; kernel_rfl; kernel_rfl; exact rfl; exact (fun _ _ _ h => h); exact Or.inr hH; exact rfl; exact rfl)
          ((with_reducible apply t_pure 1 tabOk); exact rfl; kernel_rfl; kernel_rfl; kernel_rfl; exact rfl; exact (fun _ _ _ h => h); exact Or.inr hH; exact rfl; exact rfl)
          ((with_reducible apply t_pure 2 tabOk); exact rfl; kernel_rfl; kernel_rfl; kernel_rfl; exact rfl; exact (fun _ _ _ h => h); exact Or.inr hH; exact rfl; exact rfl)
          ((with_reducible apply t_pure 3 tabOk); exact rfl; kernel_rfl; kernel_rfl; kernel_rfl; exact rfl; exact (fun _ _ _ h => h); exact Or.inr hH; exact rfl; exact rfl)
          ((with_reducible apply t_takeL 4); exact rfl; kernel_rfl; kernel_rfl; kernel_rfl; kernel_rfl; exact rfl; exact rfl; exact (fun _ _ _ h => h); exact hH; exact rfl; (intro w2 hw2; ((with_reducible apply Loads.sl tabOk); exact rfl; exact holdC hw2.1 rfl)); exact rfl)
          ((with_reducible apply t_takeL 5); exact rfl; kernel_rfl; kernel_rfl; kernel_rfl; kernel_rfl; exact rfl; exact rfl; exact (fun _ _ _ h => h); exact hH; exact rfl; (intro w2 hw2; ((with_reducible apply Loads.st tabOk); exact rfl; (exact fun j v hj => by rw [Nat.zero_add]; exact holdC hw2.2 hj); exact rfl)); exact rfl)
          refine t_one (i := 6) (by kernel_rfl) ?_
          refine p_gets rfl (g_bslice hS tabOk rfl rfl rfl rfl rfl rfl) rfl ?_
          rintro _ w' ⟨g9, rfl, hS'⟩
          clear hS; have hS := hS'; clear hS'
          have hH := And.intro (hS.at_ (i := 2) rfl) (hS.at_ (i := 3) rfl)
          refine ⟨Or.inr (Or.inr hH), ?_⟩
          refine t_one (i := 7) (by kernel_rfl) ?_
          refine p_gets rfl (g_append hS tabOk (i := 1) rfl rfl rfl rfl (hS.rowRo 0 rfl) rfl (by simp only [List.length_map]; omega)) rfl ?_
          rintro _ w' ⟨p', c', rfl, hS'⟩
          simp only [List.set] at hS'
          clear hS; have hS := hS'; clear hS'
          have hH := And.intro (hS.at_ (i := 2) rfl) (hS.at_ (i := 3) rfl)
          refine ⟨Or.inr (Or.inr hH), ?_⟩
          ((with_reducible apply t_pure 8 tabOk); exact rfl; kernel_rfl; kernel_rfl; kernel_rfl; exact rfl; exact (fun _ _ _ h => h); exact Or.inr hH; exact rfl; exact rfl)
          ((with_reducible apply t_pure 9 tabOk); exact rfl; kernel_rfl; kernel_rfl; kernel_rfl; exact rfl; exact (fun _ _ _ h => h); exact Or.inr hH; exact rfl; exact rfl)
          refine t_one (i := 10) (by kernel_rfl) ?_
          refine p_gets0 (Φ := fun _ w' => St _ _ w' _) rfl (g_store hS tabOk (i := 2) rfl rfl rfl rfl rfl (Nat.le_of_ble_eq_true rfl) (by intro u hu; simp [Value.cells] at hu; subst hu; rfl)) ?_
          intro _ w' hS'
          simp only [List.set] at hS'
          clear hS; have hS := hS'; clear hS'
          refine ⟨Or.inl rfl, ?_⟩
          refine t_done (by kernel_rfl) ?_
          repeat' (fail)
          replace hS := St.reorderT 8 [4, 5, 2, 1, 6, 7] hS (by decide) rfl
          simp only [appA, List.drop_succ_cons, List.drop_zero] at hS
          rw [List.length_map] at hS
          refine q_join (p', c', A' ++ [rawA b0 s]) (by repeat (first | exact Fr.sub_nil _ | (apply Fr.sub_cons; exact rfl))) ⟨hap.symm, ?_⟩
          simp only [LyS, List.cons_append, List.nil_append, List.length_append, List.map_append, List.length_cons, List.length_nil, Nat.zero_add]
          exact hS
    rintro ⟨qa', da', A2⟩ w4 ⟨hA2, hS⟩
    dsimp only [] at hA2 hS ⊢
    have hA3 : A2 = arsO A b0 (I.segs.take (j + 1)) := by rw [hA2, hA', arsO_step hs]
    have hrg : 0 ≤ rgt s ∧ rgt s ≤ 3 := by unfold rgt; split <;> split <;> decide
    have hA4 : AOk A2 := by
      rw [hA2]
      refine hAo.step ⟨rfl, ?_, ?_, ?_, hrg⟩
      · show 0 ≤ b0 + s.pg
        omega
      · show 0 ≤ s.n
        omega
      · show b0 + s.pg + s.n ≤ 200000
        omega
    have hA5 : A2.length ≤ A.length + (j + 1) := by
      have := joinStep_len A' (rawA b0 s)
      rw [hA2]
      omega
    clear hA2 hA' hAo hAl' hA
    simp only [LyS, List.cons_append, List.nil_append, List.append_nil] at hS
    repeat' (first | (first | ((with_reducible apply l_pure tabOk); exact rfl; exact rfl) | ((with_reducible apply l_load); exact rfl; (((with_reducible apply Loads.sc tabOk); exact rfl; ((exact hS.blkC 0 rfl rfl)))); exact rfl)) | (first | (with_reducible apply c_seq) | (with_reducible apply c_region) | (with_reducible apply l_nil) | (with_reducible apply q_then) | (with_reducible apply c_block)))
    obtain ⟨m, hm⟩ : ∃ m : Nat, (m : Int) = s.n := ⟨s.n.toNat, by omega⟩
    refine c_loopK (Γ := []) (X := Nat × (Option Addr × Nat) × List (Sh × Value)) (fun x => [(151, .int .i64 (x.1 : Nat))]) [16, 65, 2, 4, 7, 63, 64, 150] rfl (fun x => .blk g4 [.string ⟨I.name.toArray⟩, .slice pn I.needs.length cn, .slice (some ⟨b, off, none⟩) I.segs.length cs, .slice py I.syms.length cy, .slice pr I.rels.length cr, .int .i64 I.entry, .int .i64 (b0 * 16)] :: (LyS go qa' da' x.2.1.1 x.2.1.2 en A2 x.2.2 ++ (.obj r (.map es c) :: bxs bs))) (fun x => x.1 ≤ m ∧ x.2.2 = Lp ++ (bs.take (pgN b0 (I.segs.take j) + x.1)).map bxSh) (fun x => m - x.1) (0, (qs, dq), L') (by repeat (first | exact Fr.sub_nil _ | (apply Fr.sub_cons; exact rfl))) ⟨Nat.zero_le _, hL'⟩ (by simpa only [LyS, List.cons_append, List.nil_append, List.append_nil] using hS.drop) ?_
    clear hS hL'
    rintro ⟨n, ⟨qs, dq⟩, L'⟩ w5 ⟨hn, hL'⟩ hS
    dsimp only [] at hn hL' hS ⊢
    simp only [LyS, List.cons_append, List.nil_append, List.append_nil] at hS
    by_cases hnt : n < m
    rotate_left
    · obtain rfl : n = m := by omega
      repeat' (first | (first | ((with_reducible apply l_add); exact rfl; exact rfl; omega; omega; exact rfl) | ((with_reducible apply l_pure tabOk); exact rfl; exact rfl)) | (first | (with_reducible apply c_seq) | (with_reducible apply c_region) | (with_reducible apply l_nil) | (with_reducible apply q_then) | (with_reducible apply c_exit) | (with_reducible apply q_then_exit) | (with_reducible apply q_block) | (with_reducible apply q_block_exit)) | (((with_reducible apply c_ifd); exact rfl; all_goals (intro hb hp; try (exfalso; omega)))))
      refine q_loopK (j + 1, (qa', da'), (qs, dq), A2, L') (by repeat (first | exact Fr.sub_nil _ | (apply Fr.sub_cons; exact rfl))) ⟨by show j + 1 ≤ _; omega, hA3, ?_, hA4, hA5⟩ (by simpa only [LyS, List.cons_append, List.nil_append, List.append_nil] using hS) (by show _ - (j + 1) < _ - j; omega)
      show L' = Lp ++ (bs.take (pgN b0 (I.segs.take (j + 1)))).map bxSh
      rw [hL', pgN_step hs, show s.n.toNat = n by omega]
    obtain ⟨x, hx, hxk⟩ : ∃ x : Bx, bs[pgN b0 (I.segs.take j) + n]? = some x ∧ x.pg = b0 + s.pg + n := by
      have h1 := pgsO_at (b0 := b0) hs (show n < s.n.toNat by omega)
      have h2 := congrArg (fun l : List (Int × List UInt8 × List Fx) => l[pgN b0 (I.segs.take j) + n]?) hK
      rw [List.getElem?_map, List.getElem?_map] at h2
      unfold pgN at h2 ⊢
      rw [h1] at h2
      cases h3 : bs[(pgsO b0 (I.segs.take j)).length + n]? with
      | none => rw [h3] at h2; cases h2
      | some x =>
        rw [h3] at h2
        simp only [Option.map_some, Option.some.injEq] at h2
        exact ⟨x, rfl, congrArg (·.1) h2⟩
    have hxm := List.mem_of_getElem? hx
    have hkv : (Value.int .i64 (b0 + s.pg + n), Value.pointer (some ⟨x.g, 0, none⟩)) ∈ bs.map kvB := List.mem_map.2 ⟨x, hxm, by unfold kvB; rw [hxk]⟩
    have hLl2 : L'.length ≤ 101540 := by
      have h1 := pgs_len_le (b0 := b0) hs2
      rw [hL', List.length_append, List.length_map, List.length_take]
      unfold pgN at hbl
      omega
    repeat' (first | (((with_reducible apply l_pure tabOk); exact rfl; exact rfl)) | (first | (with_reducible apply c_seq) | (with_reducible apply c_region) | (with_reducible apply l_nil) | (with_reducible apply q_then) | (with_reducible apply c_skip) | (with_reducible apply c_block)) | (((with_reducible apply c_ifd); exact rfl; all_goals (intro hb hp; try (exfalso; omega)))))
    refine c_till (fun w' => (Asr.blk go [.slice qa' A2.length da', .slice qs L'.length dq, .int .i64 en]).holds w') 16 17 rfl hS (by kernel_rfl) ?_
    intro w10 hS'
    clear hS; have hS := hS'; clear hS'
    have hH := hS.at_ (i := 1) rfl
    ((with_reducible apply t_pure 0 tabOk); exact rfl; kernel_rfl; kernel_rfl; kernel_rfl; exact rfl; exact (fun _ _ _ h => h); exact Or.inr hH; exact rfl; exact rfl)
    ((with_reducible apply t_pure 1 tabOk); exact rfl; kernel_rfl; kernel_rfl; kernel_rfl; exact rfl; exact (fun _ _ _ h => h); exact Or.inr hH; exact rfl; exact rfl)
    ((with_reducible apply t_pure 2 tabOk); exact rfl; kernel_rfl; kernel_rfl; kernel_rfl; exact rfl; exact (fun _ _ _ h => h); exact Or.inr hH; exact rfl; exact rfl)
    ((with_reducible apply t_pure 3 tabOk); exact rfl; kernel_rfl; kernel_rfl; kernel_rfl; exact rfl; exact (fun _ _ _ h => h); exact Or.inr hH; exact rfl; exact rfl)
    ((with_reducible apply t_takeL 4); exact rfl; kernel_rfl; kernel_rfl; kernel_rfl; kernel_rfl; exact rfl; exact rfl; exact (fun _ _ _ h => h); exact hH; exact rfl; (intro w2 hw2; ((with_reducible apply Loads.sl tabOk); exact rfl; exact holdC hw2 rfl)); exact rfl)
    ((with_reducible apply t_pure 5 tabOk); exact rfl; kernel_rfl; kernel_rfl; kernel_rfl; exact rfl; exact (fun _ _ _ h => h); exact Or.inr hH; exact rfl; exact rfl)
    ((with_reducible apply t_pure 6 tabOk); exact rfl; kernel_rfl; kernel_rfl; kernel_rfl; exact rfl; exact (fun _ _ _ h => h); exact Or.inr hH; exact rfl; exact rfl)
    ((with_reducible apply t_pure 7 tabOk); exact rfl; kernel_rfl; kernel_rfl; kernel_rfl; exact rfl; exact (fun _ _ _ h => h); exact Or.inr hH; exact rfl; exact rfl)
    refine t_one (i := 8) (by kernel_rfl) ?_
    refine p_gets rfl (Gets.of_runs fun a ha => r_add rfl rfl (by omega) (by omega) a ha _) rfl ?_
    rintro _ _ ⟨rfl, rfl⟩
    refine ⟨Or.inr (Or.inr hH), ?_⟩
    refine t_one (i := 9) (by kernel_rfl) ?_
    refine p_gets rfl (g_look hS (i := 4) mt_sheets ut_int rfl rfl rfl hM (k := .int .i64 (b0 + s.pg + n)) rfl hkv false) rfl ?_
    rintro _ _ ⟨rfl, rfl⟩
    refine ⟨Or.inr (Or.inr hH), ?_⟩
    refine t_one (i := 10) (by kernel_rfl) ?_
    refine p_gets rfl (Gets.pure (v := .pointer (some ⟨x.g, 0, none⟩)) tabOk (by exact rfl)) rfl ?_
    rintro _ _ ⟨rfl, rfl⟩
    refine ⟨Or.inr (Or.inr hH), ?_⟩
    have hxh := hS.holds (bxB x) (by simp only [List.mem_cons, bxs, List.mem_append]; exact Or.inr (Or.inr (Or.inr (Or.inr (Or.inr (Or.inl (List.mem_map.2 ⟨x, hxm, rfl⟩)))))))
    refine t_one (i := 11) (by kernel_rfl) ?_
    refine p_gets rfl (g_load rfl (hold_load hxh)) rfl ?_
    rintro _ _ ⟨rfl, rfl⟩
    refine ⟨Or.inr (Or.inr hH), ?_⟩
    clear hxh
    refine t_one (i := 12) (by kernel_rfl) ?_
    refine p_gets rfl (g_bslice hS tabOk rfl rfl rfl rfl rfl rfl) rfl ?_
    rintro _ w' ⟨g9, rfl, hS'⟩
    clear hS; have hS := hS'; clear hS'
    have hH := hS.at_ (i := 2) rfl
    refine ⟨Or.inr (Or.inr hH), ?_⟩
    refine t_one (i := 13) (by kernel_rfl) ?_
    refine p_gets rfl (g_append hS tabOk (i := 4) rfl rfl rfl rfl (hS.rowRo 0 rfl) rfl (by simp only [List.length_map]; omega)) rfl ?_
    rintro _ w' ⟨p', c', rfl, hS'⟩
    simp only [List.set] at hS'
    clear hS; have hS := hS'; clear hS'
    have hH := hS.at_ (i := 2) rfl
    refine ⟨Or.inr (Or.inr hH), ?_⟩
    ((with_reducible apply t_pure 14 tabOk); exact rfl; kernel_rfl; kernel_rfl; kernel_rfl; exact rfl; exact (fun _ _ _ h => h); exact Or.inr hH; exact rfl; exact rfl)
    ((with_reducible apply t_pure 15 tabOk); exact rfl; kernel_rfl; kernel_rfl; kernel_rfl; exact rfl; exact (fun _ _ _ h => h); exact Or.inr hH; exact rfl; exact rfl)
    refine t_one (i := 16) (by kernel_rfl) ?_
    refine p_gets0 (Φ := fun _ w' => St _ _ w' _) rfl (g_store hS tabOk (i := 2) rfl rfl rfl rfl rfl (Nat.le_of_ble_eq_true rfl) (by intro u hu; simp [Value.cells] at hu; subst hu; rfl)) ?_
    intro _ w' hS'
    simp only [List.set] at hS'
    clear hS; have hS := hS'; clear hS'
    refine ⟨Or.inl rfl, ?_⟩
    refine t_done (by kernel_rfl) ?_
    repeat' (first | (first | ((with_reducible apply l_add); exact rfl; exact rfl; omega; omega; exact rfl) | ((with_reducible apply l_pure tabOk); exact rfl; exact rfl)) | (first | (with_reducible apply c_region) | (with_reducible apply l_nil) | (with_reducible apply q_then) | (with_reducible apply q_block)))
    rw [List.length_map] at hS
    have hS2 := hS.drop
    clear hS
    refine q_loopK (n + 1, (p', c'), L' ++ [bxSh x]) (by repeat (first | exact Fr.sub_nil _ | (apply Fr.sub_cons; exact rfl))) ⟨by show n + 1 ≤ m; omega, ?_⟩ ?_ (by show m - (n + 1) < m - n; omega)
    · show L' ++ [bxSh x] = Lp ++ (bs.take (pgN b0 (I.segs.take j) + (n + 1))).map bxSh
      rw [hL', ← Nat.add_assoc, List.take_add_one, hx]
      simp only [Option.toList_some, List.map_append, List.map_cons, List.map_nil, List.append_assoc]
    · simp only [LyS, List.cons_append, List.nil_append, List.append_nil, List.length_append, List.map_append, List.length_cons, List.length_nil, Nat.zero_add]
      exact hS2
  obtain ⟨x, hx⟩ := lt_get (l := I.rels) (i := i) (by omega)
  have hrow : (I.rels.map rlC)[i]? = some [.int .i64 x.at_, .string ⟨x.name.toArray⟩, .int .i64 x.add] := map_get (f := rlC) hx
  obtain ⟨b, off, rfl, hro⟩ := hrels.atF (i := i) hlt
  obtain ⟨⟨x1, x2⟩, x3⟩ := hpl.rels i x hx
  obtain ⟨k1, k2, k3⟩ := bx_keys hK
  have hnd : (bs.map (·.pg)).Nodup := by rw [k1]; exact pgs_nodup hch hs2
  have hpp : ∀ d : Nat, d < 8 → ∃ b ∈ bs, b.pg = (b0 * 16 + x.at_ + d) / 16 := fun d hd => by
    obtain ⟨k, hk, e⟩ := pgs_there (b0 := b0) (x3 d (by omega) (by omega))
    obtain ⟨b, hb, e2⟩ := k2 k hk
    exact ⟨b, hb, by rw [e2, e]; congr 1; omega⟩
  have hfx : ∀ b ∈ bs, b.fx.length ≤ 1000000 := fun b hb => by
    obtain ⟨k, -, -, -, e⟩ := k3 b hb
    have := fxAll_len (obP os) (b0 * 16) (I.rels.take i) k.1
    rw [List.length_take] at this
    rw [e]
    omega
  have hnext : ∀ (s : List UInt8) (bs2 : List Bx), bytesOf (obP os) (b0 * 16) x = some s → bs2.map gK = bs.map (gF (b0 * 16 + x.at_) s) → i + 1 ≤ I.rels.length ∧ symsIn (obP os) (b0 * 16) (I.rels.take (i + 1)) = true ∧ MapG (.int .i64) es (bs2.map kvB) ∧ bs2.map keyB = (pgsO b0 I.segs).map (keyF (fxAll (obP os) (b0 * 16) (I.rels.take (i + 1)))) := fun s bs2 hb h2 => by
    refine ⟨by omega, all_take_succ hsy hx (by rw [hb]; rfl), ?_, bx_fix hK h2 fun p => ?_⟩
    · rw [keyG_kv (f := fun b => (b.pg, b.data, b.fx ++ fxOf (b0 * 16 + x.at_) s b.pg)) (fun _ => rfl) h2]; exact hM
    · rw [fxAll_step hx]
      unfold bytesT
      rw [hb]
      rfl
  by_cases hn : x.name = []
  · have hd : (!decide (x.name = [])) = false := by rw [decide_eq_true hn]; rfl
    have hby : bytesOf (obP os) (b0 * 16) x = some (leB (IntKind.i64.wrap (b0 * 16 + x.add)) 8) := by unfold bytesOf; rw [if_pos hn]; rfl
    repeat' (first | (first | ((with_reducible apply l_add); exact rfl; exact rfl; omega; omega; exact rfl) | ((with_reducible apply l_pure tabOk); exact rfl; exact rfl) | ((with_reducible apply l_load); exact rfl; (first | ((with_reducible apply Loads.sc tabOk); exact rfl; (first | exact hS.blkC 0 rfl rfl | exact hS.blkC 1 rfl rfl)) | ((with_reducible apply Loads.st tabOk); exact rfl; ((exact hS.roR (by assumption) (by assumption))); exact rfl)); exact rfl) | ((with_reducible apply l_ix tabOk); exact rfl; exact rfl; exact rfl; ((exact rfl)); ((omega)); exact rfl) | ((with_reducible apply l_alloc hS tabOk); exact rfl; exact rfl; exact rfl; intro g w' hS'; clear hS; have hS := hS'; clear hS') | (((with_reducible apply l_store hS tabOk (i := 0)); exact rfl; exact rfl; exact rfl; exact rfl; exact rfl; exact rfl; exact rfl; exact rfl; ((exact (rfl : _ = [_, _, _]))); intro w' hS'; simp only [List.set] at hS'; clear hS; have hS := hS'; clear hS'))) | (first | (with_reducible apply c_seq) | (with_reducible apply c_region) | (with_reducible apply l_nil) | (with_reducible apply q_then) | (with_reducible apply c_skip) | (with_reducible apply c_block)) | (first | ((with_reducible apply c_iff); exact rfl; (assumption)) | ((with_reducible apply c_ifd); exact rfl; all_goals (intro hb hp; try (exfalso; omega)))) | ((with_reducible apply l_call); exact rfl; exact rfl; exact put8 _ _; exact rfl; rintro _ w' ⟨rfl, hS'⟩; replace hS := hS.transA hS'; simp only [appA] at hS; clear hS'))
    repeat' (fail)
    replace hS := hS.rotA 5
    simp only [List.drop_succ_cons, List.drop_zero, List.take_succ_cons, List.take_zero] at hS
    ((with_reducible apply l_call); exact rfl; exact rfl; exact fix_fn hS hM (leB_length _ _) (by omega) (by omega) hpp hnd hfx; exact rfl; rintro _ w' ⟨bs2, hK2, hS'⟩)
    replace hS := (St.transM (Θ := .obj r (.map es c) :: bxs bs) hS hS').perm List.perm_append_comm
    clear hS'
    simp only [List.cons_append, List.nil_append] at hS
    replace hS := St.reorderT 5 [1, 2, 3, 4] hS (by decide) rfl
    simp only [appA, List.drop_succ_cons, List.drop_zero] at hS
    repeat' (first | (first | ((with_reducible apply l_add); exact rfl; exact rfl; omega; omega; exact rfl) | ((with_reducible apply l_pure tabOk); exact rfl; exact rfl)) | (first | (with_reducible apply c_region) | (with_reducible apply l_nil) | (with_reducible apply q_then) | (with_reducible apply q_block)))
    exact q_loopK (i + 1, bs2) (by repeat (first | exact Fr.sub_nil _ | (apply Fr.sub_cons; exact rfl))) (hnext _ _ hby hK2) (by simpa only [LyS, List.cons_append, List.nil_append, List.append_nil] using hS) (by show _ - (i + 1) < _ - i; omega)
  · have hd : (!decide (x.name = [])) = true := by rw [decide_eq_false hn]; rfl
    repeat' (first | (first | ((with_reducible apply l_pure tabOk); exact rfl; exact rfl) | ((with_reducible apply l_load); exact rfl; (first | ((with_reducible apply Loads.sc tabOk); exact rfl; (first | exact hS.blkC 0 rfl rfl | exact hS.blkC 1 rfl rfl)) | ((with_reducible apply Loads.st tabOk); exact rfl; ((exact hS.roR (by assumption) (by assumption))); exact rfl)); exact rfl) | ((with_reducible apply l_ix tabOk); exact rfl; exact rfl; exact rfl; ((exact rfl)); ((omega)); exact rfl) | ((with_reducible apply l_alloc hS tabOk); exact rfl; exact rfl; exact rfl; intro g w' hS'; clear hS; have hS := hS'; clear hS') | (((with_reducible apply l_store hS tabOk (i := 0)); exact rfl; exact rfl; exact rfl; exact rfl; exact rfl; exact rfl; exact rfl; exact rfl; ((exact (rfl : _ = [_, _, _]))); intro w' hS'; simp only [List.set] at hS'; clear hS; have hS := hS'; clear hS'))) | (first | (with_reducible apply c_seq) | (with_reducible apply c_region) | (with_reducible apply l_nil) | (with_reducible apply q_then) | (with_reducible apply c_skip) | (with_reducible apply c_block)) | (first | ((with_reducible apply c_ift); exact rfl; (assumption)) | ((with_reducible apply c_ifd); exact rfl; all_goals (intro hb hp; try (exfalso; omega)))))
    have hadr := address_fn (gw := gw) x.name (Bs.of (hS.bs hc)) (hl.now hS) (fun y hy => (hO y hy).now hS) hr
    cases had : adr (obP os) x.name with
    | none =>
      rw [had] at hadr
      unfold AdrV at hadr
      repeat' (first | (((with_reducible apply l_pure tabOk); exact rfl; exact rfl)) | (first | (with_reducible apply c_seq) | (with_reducible apply c_region) | (with_reducible apply l_nil) | (with_reducible apply q_then) | (with_reducible apply c_ret) | (with_reducible apply q_then_ret) | (with_reducible apply q_block_ret)) | (((with_reducible apply c_ift); exact rfl; (exact rfl))) | ((with_reducible apply l_call); exact rfl; exact rfl; exact hadr; exact rfl; rintro _ w' ⟨rfl, hS'⟩; replace hS := hS.transA hS'; simp only [appA] at hS; clear hS'))
      (apply q_ret1); (repeat (first | exact ResL.nil | (apply ResL.tmp; exact rfl)))
      refine Or.inl ⟨all_no hx ?_, rfl, hS.sub (List.nil_sublist _)⟩
      unfold bytesOf
      rw [if_neg hn, had]
      rfl
    | some a =>
      have hby : bytesOf (obP os) (b0 * 16) x = some (leB (IntKind.i64.wrap (a + x.add)) 8) := by unfold bytesOf; rw [if_neg hn, had]; rfl
      rw [had] at hadr
      unfold AdrV at hadr
      repeat' (first | (first | ((with_reducible apply l_add); exact rfl; exact rfl; omega; omega; exact rfl) | ((with_reducible apply l_pure tabOk); exact rfl; exact rfl) | ((with_reducible apply l_load); exact rfl; (((with_reducible apply Loads.sc tabOk); exact rfl; (first | exact hS.blkC 0 rfl rfl | exact hS.blkC 1 rfl rfl))); exact rfl)) | (first | (with_reducible apply c_seq) | (with_reducible apply c_region) | (with_reducible apply l_nil) | (with_reducible apply q_then) | (with_reducible apply c_skip)) | (((with_reducible apply c_iff); exact rfl; (exact rfl))) | ((with_reducible apply l_call); exact rfl; exact rfl; exact hadr; exact rfl; rintro _ w' ⟨rfl, hS'⟩; replace hS := hS.transA hS'; simp only [appA] at hS; clear hS') | ((with_reducible apply l_call); exact rfl; exact rfl; exact put8 _ _; exact rfl; rintro _ w' ⟨rfl, hS'⟩; replace hS := hS.transA hS'; simp only [appA] at hS; clear hS'))
      repeat' (fail)
      repeat' (fail)
      replace hS := hS.rotA 5
      simp only [List.drop_succ_cons, List.drop_zero, List.take_succ_cons, List.take_zero] at hS
      ((with_reducible apply l_call); exact rfl; exact rfl; exact fix_fn hS hM (leB_length _ _) (by omega) (by omega) hpp hnd hfx; exact rfl; rintro _ w' ⟨bs2, hK2, hS'⟩)
      replace hS := (St.transM (Θ := .obj r (.map es c) :: bxs bs) hS hS').perm List.perm_append_comm
      clear hS'
      simp only [List.cons_append, List.nil_append] at hS
      replace hS := St.reorderT 5 [1, 2, 3, 4] hS (by decide) rfl
      simp only [appA, List.drop_succ_cons, List.drop_zero] at hS
      repeat' (first | (first | ((with_reducible apply l_add); exact rfl; exact rfl; omega; omega; exact rfl) | ((with_reducible apply l_pure tabOk); exact rfl; exact rfl)) | (first | (with_reducible apply c_region) | (with_reducible apply l_nil) | (with_reducible apply q_then) | (with_reducible apply q_block)))
      exact q_loopK (i + 1, bs2) (by repeat (first | exact Fr.sub_nil _ | (apply Fr.sub_cons; exact rfl))) (hnext _ _ hby hK2) (by simpa only [LyS, List.cons_append, List.nil_append, List.append_nil] using hS) (by show _ - (i + 1) < _ - i; omega)
end Go.Proofs.Ytejnpppejalhfab
/- slices.Grow and slices.Concat at images. -/
namespace Go.Proofs.Ytejnpppejalhfab
open Go.RowKit Go.Sort
theorem info_image : ∃ i, (Try.prog).info? 27 = some i ∧ i.zero = some (.agg #[.string ⟨#[]⟩, .slice none 0 0, .slice none 0 0, .slice none 0 0, .slice none 0 0, .int .i64 0]) ∧ i.size = 6 ∧ i.bytes = 120 := by
  have h : ((Try.prog).info? 27).map (fun i => (i.zero, i.size, i.bytes)) = some (some (.agg #[.string ⟨#[]⟩, .slice none 0 0, .slice none 0 0, .slice none 0 0, .slice none 0 0, .int .i64 0]), 6, 120) := by kernel_rfl
  cases hq : (Try.prog).info? 27 with
  | none => simp [hq] at h
  | some i =>
    simp [hq] at h
    exact ⟨i, rfl, h.1, h.2.1, h.2.2⟩
theorem st_of_row0 {w w' : World} {e sz : Nat} {v : Value} (h : w'.ownsRow w.heap.size e sz v 0 []) (hb : Below w.heap.size w w') : St nF w w' [.row e sz v []] := by
  refine ⟨hb.os, hb.tape, hb.output, hb.size, fun k hk _ => hb.block k hk, ?_, ?_, List.Pairwise.cons (by simp) List.Pairwise.nil⟩
  · intro A hA
    simp only [List.mem_singleton] at hA
    subst hA
    refine ⟨?_, by simp, by simp⟩
    refine ⟨h.1, ?_⟩
    rcases h.2 with hn | ⟨g, cap, cur, rfl, hg, rest⟩
    · exact .inl hn
    · exact .inr ⟨g, cap, cur, rfl, Nat.zero_le _, rest⟩
  · intro A hA k hk
    simp only [List.mem_singleton] at hA
    subst hA
    exact Or.inl (h.lt k hk).1
def GrowPostI (w : World) (e : Ending) (w' : World) : Prop := ∃ v, e = .returned v ∧ w'.ownsRow w.heap.size 27 6 v 0 [] ∧ Below w.heap.size w w'
set_option maxRecDepth 100000 in
set_option maxHeartbeats 4000000 in
theorem growI (n : Nat) (hn : n ≤ 3000) (w : World) : Calls Try.prog 97 #[.slice none 0 0, .int .i64 n] w (GrowPostI w) := by
  have h1 : ¬ ((n : Int) < 0) := by omega
  by_cases h0 : n = 0
  · subst h0
    go_enter Try.func97, Try.ntmps97
    go_wp2
    go_ret
    exact ⟨_, rfl, World.ownsRow_nil _ _ _ _, Below.refl _ _⟩
  obtain ⟨i0, hi0, hz0, hs0, hy0⟩ := info_image
  have hn1 : wrap64 ((n : Int) - 0) = n := wrap64_small _ (by omega) (by omega)
  have hbys : n * i0.bytes ≤ 140737488355328 := by rw [hy0]; omega
  obtain ⟨Z, hZ⟩ : ∃ Z : Array Value, Z = #[.string ⟨#[]⟩, .slice none 0 0, .slice none 0 0, .slice none 0 0, .slice none 0 0, .int .i64 0] := ⟨_, rfl⟩
  have hrz : ∀ ty, (Builtin.append_ #[36, 3] ty #[.slice none 0 0, .int .i64 n]).run Try.prog w =
      .ok (.slice (some ⟨w.heap.size, 0, none⟩) n (grownCap w n 0 27)) (w.drew.alloc (.cells (#[] ++ Builtin.zeroCells Z n ++ Builtin.zeroCells Z (grownCap w n 0 27 - n)) 27)) := fun ty => by
    have h := Lib.run_append_grow_zeros (P := Try.prog) w 36 3 ty 27 i0 _ .i64 .i64 Try.underlying36 Try.underlying3 hi0 hz0 none 0 0 [] (run_firstCells_none w.drew i0.size 0 0 0) n (by omega) (by omega) (by omega) (by omega) (by omega)
      (by rw [Nat.zero_add]; exact growslice_fits (by omega) hbys)
    rw [Nat.zero_add] at h
    rw [hZ]
    exact h
  have hge := grownCap_ge w n 0 27
  have hcm := grownCap_le_maxLen w n 0 27 (by unfold maxLen; omega)
  have hG63 : grownCap w n 0 27 ≤ 9223372036854775807 := by unfold maxLen at hcm; exact hcm
  have hzz : ∀ k, (Builtin.zeroCells Z k).size = k * 6 := fun k => by rw [hZ]; simp [size_zeroCells]
  generalize grownCap w n 0 27 = G at *
  have HZZ := hid hzz
  have HHI := hid hbys
  have HCM := hid hcm
  clear hbys hi0 hz0 hs0 hy0 hzz hcm h1
  obtain ⟨cur, hcur⟩ : ∃ cur, cur = (#[] ++ Builtin.zeroCells Z n ++ Builtin.zeroCells Z (G - n)) := ⟨_, rfl⟩
  rw [← hcur] at hrz
  have HCU : Hid (cur.size = G * 6) := hid (by
    rw [hcur, Array.size_append, Array.size_append, HZZ.out, HZZ.out]
    simp
    omega)
  clear hcur hZ
  go_enter Try.func97, Try.ntmps97
  go_wp2_with (at_builtin; refine Lib.wpList_append_run _ rfl _ _ _ _ rfl _ _ rfl rfl _ _ (hrz _) ?_)
  go_ret
  refine ⟨_, rfl, ⟨rfl, Or.inr ⟨w.heap.size, G, cur, rfl, Nat.le_refl _, heap_alloc_new w.drew _, Nat.zero_le _, HCM.out, HCU.out, rfl⟩⟩, Below.alloc (Below.drew (Below.refl _ _)) (Nat.le_refl _) _⟩
theorem grow_fn (n : Nat) (hn : n ≤ 3000) (w : World) : Fn Try.prog 97 [.slice none 0 0, .int .i64 n] w (fun v w' => St nF w w' [.row 27 6 v []]) := by
  refine ⟨⟨Try.f97, Try.func97, by kernel_rfl, by kernel_rfl⟩, ?_⟩
  exact (growI n hn w).mono fun e w' ⟨v, he, hs, hb⟩ => ⟨v, he, st_of_row0 hs hb⟩
end Go.Proofs.Ytejnpppejalhfab
/- slices.Concat of images. -/
namespace Go.Proofs.Ytejnpppejalhfab
open Go.RowKit Go.Sort
set_option maxRecDepth 100000 in
set_option maxHeartbeats 8000000 in
theorem concatI {w : World} {c : Nat} {v0 v1 : Value} {ra rb : List (List Value)} (hr : RoAt nF w c 0 1 [[v0], [v1]]) (h0 : Sl nF w 6 v0 ra) (h1 : Sl nF w 6 v1 rb) (hA : ra.length ≤ 1000) (hB : rb.length ≤ 1000) :
    Fn Try.prog 46 [.slice (some ⟨c, 0, none⟩) 2 2] w (fun u w' => St nF w w' [.row 27 6 u (ra ++ rb)]) := by
  obtain ⟨p0, c0, rfl⟩ := h0.form
  obtain ⟨p1, c1, rfl⟩ := h1.form
  refine fn_enter (fn := Try.f46) ⟨Try.func46, by kernel_rfl, by kernel_rfl⟩ (by exact rfl) Try.ntmps46 (by exact rfl) ?_
  have hS := St.start w
  have hi0 : (([[.slice p0 ra.length c0], [.slice p1 rb.length c1]] : List (List Value)))[0]? = some [.slice p0 ra.length c0] := rfl
  have hi1 : (([[.slice p0 ra.length c0], [.slice p1 rb.length c1]] : List (List Value)))[1]? = some [.slice p1 rb.length c1] := rfl
  repeat' (first | (((with_reducible apply l_pure tabOk); exact rfl; exact rfl)) | (first | (with_reducible apply c_seq) | (with_reducible apply c_region) | (with_reducible apply l_nil) | (with_reducible apply q_then) | (with_reducible apply c_block)))
  refine c_rounds 3 ?_
  repeat' (first | (first | ((with_reducible apply l_add); exact rfl; exact rfl; omega; omega; exact rfl) | ((with_reducible apply l_pure tabOk); exact rfl; exact rfl) | ((with_reducible apply l_load); exact rfl; (((with_reducible apply Loads.sl tabOk); exact rfl; ((exact hS.roC0 (by assumption) (by assumption) rfl)))); exact rfl) | ((with_reducible apply l_ix tabOk); exact rfl; exact rfl; exact rfl; ((exact rfl)); ((simp only [List.length_map, List.length_cons, List.length_nil, List.length_append]; omega)); exact rfl)) | (first | (with_reducible apply c_seq) | (with_reducible apply c_region) | (with_reducible apply l_nil) | (with_reducible apply q_then) | (with_reducible apply c_skip) | (with_reducible apply c_block) | (with_reducible apply c_exit) | (with_reducible apply q_then_exit) | (with_reducible apply q_block) | (with_reducible apply q_block_exit)) | (first | ((with_reducible apply c_ift); exact rfl; (exact rfl)) | ((with_reducible apply c_iff); exact rfl; (exact rfl))) | with_reducible apply q_rounds | (with_reducible apply wr_succ))
  have hg := fun w => grow_fn (ra.length + rb.length) (by omega) w
  rw [show ((ra.length + rb.length : Nat) : Int) = 0 + (ra.length : Int) + (rb.length : Int) by omega] at hg
  ((with_reducible apply l_call); exact rfl; exact rfl; exact hg _; exact rfl; rintro v w' hS'; replace hS := hS.transA hS'; simp only [appA] at hS; clear hS')
  repeat' (first | (((with_reducible apply l_pure tabOk); exact rfl; exact rfl)) | (first | (with_reducible apply c_seq) | (with_reducible apply c_region) | (with_reducible apply l_nil) | (with_reducible apply q_then) | (with_reducible apply c_block)))
  refine c_rounds 3 ?_
  repeat' (first | (first | ((with_reducible apply l_add); exact rfl; exact rfl; omega; omega; exact rfl) | ((with_reducible apply l_pure tabOk); exact rfl; exact rfl) | ((with_reducible apply l_load); exact rfl; (((with_reducible apply Loads.sl tabOk); exact rfl; ((exact hS.roC0 (by assumption) (by assumption) rfl)))); exact rfl) | ((with_reducible apply l_ix tabOk); exact rfl; exact rfl; exact rfl; ((exact rfl)); ((simp only [List.length_map, List.length_cons, List.length_nil, List.length_append]; omega)); exact rfl)) | (first | (with_reducible apply c_seq) | (with_reducible apply c_region) | (with_reducible apply l_nil) | (with_reducible apply q_then) | (with_reducible apply c_skip) | (with_reducible apply c_block) | (with_reducible apply c_exit) | (with_reducible apply c_ret) | (with_reducible apply q_then_exit) | (with_reducible apply q_block) | (with_reducible apply q_block_exit)) | (first | ((with_reducible apply c_ift); exact rfl; (exact rfl)) | ((with_reducible apply c_iff); exact rfl; (exact rfl))) | with_reducible apply q_rounds | (with_reducible apply wr_succ) | ((with_reducible apply l_appendSl hS tabOk 0); exact rfl; exact rfl; exact rfl; exact rfl; exact h0.now hS; (simp only [List.length_nil, List.length_append]; omega); exact rfl; intro p' cap' w' hS'; simp only [List.set] at hS'; clear hS; have hS := hS'; clear hS') | ((with_reducible apply l_appendSl hS tabOk 0); exact rfl; exact rfl; exact rfl; exact rfl; exact h1.now hS; (simp only [List.length_nil, List.length_append]; omega); exact rfl; intro p' cap' w' hS'; simp only [List.set] at hS'; clear hS; have hS := hS'; clear hS'))
  (apply q_ret1); (repeat (first | exact ResL.nil | (apply ResL.tmp; exact rfl)))
  exact hS
end Go.Proofs.Ytejnpppejalhfab
/- What a link comes to, in plain Lean. -/
namespace Go.Proofs.Ytejnpppejalhfab
open Go.RowKit Go.Sort

def imR (o : Ob) : List Value := imC o.im o.vn o.vs o.vy o.vr
def endsN : List Ob → Int
  | [] => 0
  | o :: l => lastEnd o.im + endsN l
theorem endsN_app (l m : List Ob) : endsN (l ++ m) = endsN l + endsN m := by
  induction l with
  | nil => simp [endsN]
  | cons o l ih => simp only [List.cons_append, endsN, ih]; omega
/-- where the objects lie -/
structure PkI (s : List Ob × Int) : Prop where
  nx : s.2 = 1 + endsN s.1
  at_ : ∀ (i : Nat) (o : Ob), s.1[i]? = some o → o.at_ = (1 + endsN (s.1.take i)) * 16
theorem PkI.start : PkI ([], 1) := ⟨rfl, fun i o h => by simp at h⟩
theorem PkI.step {s : List Ob × Int} (o : Ob) (h : PkI s) : PkI (plStep s o) := by
  unfold plStep plOs plNext
  by_cases hp : isPl s.1 o.im.name = true
  · rw [if_pos hp, if_pos hp]; exact h
  · rw [if_neg hp, if_neg hp]
    refine ⟨?_, fun i x hx => ?_⟩
    · show s.2 + lastEnd o.im = 1 + endsN (s.1 ++ [_])
      rw [endsN_app, h.nx]
      simp only [endsN]
      omega
    · dsimp only at hx ⊢
      rcases Nat.lt_or_ge i s.1.length with hi | hi
      · rw [List.getElem?_append_left hi] at hx
        rw [List.take_append_of_le_length (by omega)]
        exact h.at_ i x hx
      · rw [List.getElem?_append_right hi] at hx
        obtain ⟨h1, h2⟩ := List.getElem?_eq_some_iff.1 hx
        simp only [List.length_singleton] at h1
        obtain rfl : i = s.1.length := by omega
        simp only [Nat.sub_self, List.getElem_cons_zero] at h2
        subst h2
        rw [List.take_left]
        show s.2 * 16 = _
        rw [h.nx]
theorem needsP_inv {B : List Ob} {Inv : List Ob × Int → Prop} (hst : ∀ s o, Inv s → o ∈ B → Inv (plStep s o)) : ∀ {l : List (List UInt8)} {s s' : List Ob × Int}, needsP B l s = some s' → Inv s → Inv s' := by
  intro l
  induction l with
  | nil => intro s s' h hI; cases h; exact hI
  | cons nm l ih =>
    intro s s' h hI
    unfold needsP at h
    cases hl : lookB B nm with
    | none => rw [hl] at h; cases h
    | some o => rw [hl] at h; exact ih h (hst s o hI (lookB_mem hl).1)
theorem allP_inv {B : List Ob} {Inv : List Ob × Int → Prop} (hst : ∀ s o, Inv s → o ∈ B → Inv (plStep s o)) : ∀ {f n : Nat} {s s' : List Ob × Int}, allP B f n s = some s' → Inv s → Inv s' := by
  intro f
  induction f with
  | zero => intro n s s' h hI; cases h; exact hI
  | succ f ih =>
    intro n s s' h hI
    unfold allP at h
    split at h
    · cases h; exact hI
    · split at h
      · cases h
      · rename_i s2 h2
        exact ih h (needsP_inv hst h2 hI)
def linkAr (l : List Ob) : List Ar := (l.flatMap fun o => o.im.segs.map (rawA (o.at_ / 16))).foldl joinStep []
def linkSh (os : List (Im × Int)) (l : List Ob) : List Sh := l.flatMap fun o => shO os o.im (o.at_ / 16)
def symsAll (os : List (Im × Int)) (l : List Ob) : Bool := l.all fun o => symsIn os o.at_ o.im.rels
theorem linkAr_step {l : List Ob} {j : Nat} {o : Ob} (h : l[j]? = some o) : linkAr (l.take (j + 1)) = arsO (linkAr (l.take j)) (o.at_ / 16) o.im.segs := by
  unfold linkAr arsO
  rw [List.take_add_one, h]
  simp only [Option.toList_some, List.flatMap_append, List.flatMap_cons, List.flatMap_nil, List.append_nil, List.foldl_append]
theorem linkSh_step {os : List (Im × Int)} {l : List Ob} {j : Nat} {o : Ob} (h : l[j]? = some o) : linkSh os (l.take (j + 1)) = linkSh os (l.take j) ++ shO os o.im (o.at_ / 16) := by
  unfold linkSh
  rw [List.take_add_one, h]
  simp only [Option.toList_some, List.flatMap_append, List.flatMap_cons, List.flatMap_nil, List.append_nil]
theorem arsO_ok {A : List Ar} {b0 : Int} (hA : AOk A) (h0 : 1 ≤ b0) (h1 : b0 ≤ 100000) : ∀ {l : List Sg}, l.all sgOk = true → AOk (arsO A b0 l) ∧ (arsO A b0 l).length ≤ A.length + l.length := by
  intro l
  unfold arsO
  induction l generalizing A with
  | nil => exact fun _ => ⟨hA, Nat.le_refl _⟩
  | cons s l ih =>
    intro hs
    simp only [List.all_cons, Bool.and_eq_true] at hs
    have hso := hs.1
    unfold sgOk at hso
    have hso := of_decide_eq_true hso
    have hrg : 0 ≤ rgt s ∧ rgt s ≤ 3 := by unfold rgt; split <;> split <;> decide
    have h2 : AOk (joinStep A (rawA b0 s)) := by
      refine hA.step ⟨rfl, ?_, ?_, ?_, hrg⟩
      · show 0 ≤ b0 + s.pg
        omega
      · show 0 ≤ s.n
        omega
      · show b0 + s.pg + s.n ≤ 200000
        omega
    obtain ⟨i1, i2⟩ := ih h2 hs.2
    refine ⟨i1, ?_⟩
    have h3 : (joinStep A (rawA b0 s)).length ≤ A.length + 1 := by
      unfold joinStep
      split
      · split
        · simp
        · simp
      · simp
    simp only [List.map_cons, List.foldl_cons, List.length_cons]
    omega
theorem check_zeroL {I : Im} (h : checkIm I = 0) : ImOk I ∧ I.rels.length ≤ 16 ∧ Ch I.segs ∧ Plc I := by
  unfold checkIm at h
  have e1 : nmsB I = true := by
    cases hq : nmsB I with
    | true => rfl
    | false => rw [if_pos hq] at h; omega
  rw [if_neg (by rw [e1]; simp)] at h
  have e2 : cntB I = true := by
    cases hq : cntB I with
    | true => rfl
    | false => rw [if_pos hq] at h; omega
  rw [if_neg (by rw [e2]; simp)] at h
  have e3 : sgsB I = true := by
    cases hq : sgsB I with
    | true => rfl
    | false => rw [if_pos hq] at h; omega
  rw [if_neg (by rw [e3]; simp)] at h
  have e4 : aptB I = true := by
    cases hq : aptB I with
    | true => rfl
    | false => rw [if_pos hq] at h; omega
  rw [if_neg (by rw [e4]; simp)] at h
  have e5 : plcB I = true := by
    cases hq : plcB I with
    | true => rfl
    | false => rw [if_pos hq] at h; omega
  have c := of_decide_eq_true e2
  exact ⟨⟨by omega, e3, by omega⟩, by omega, (pB_iff.1 e4).1, pB_iff.1 e5⟩
theorem own_small {l : List Sg} {x : Int} {s : Sg} (hs : l.all sgOk = true) (h : own l x = some s) : 0 ≤ x ∧ x < 4096 := by
  unfold own at h
  have hm := List.mem_of_find?_eq_some h
  have hin := List.find?_some h
  unfold inSg at hin
  have hin := of_decide_eq_true hin
  have hso := List.all_eq_true.1 hs s hm
  unfold sgOk at hso
  have hso := of_decide_eq_true hso
  omega
/-- the error of a link -/
noncomputable def linkC (M : Ob) (Lb : List Ob) : Int :=
  if 6 < Lb.length then 2 else
  match (M :: Lb).find? (fun o => !decide (checkIm o.im = 0)) with
  | some o => checkIm o.im
  | none => if ((M :: Lb).map fun o => o.im.name).Nodup then
      match allP (M :: Lb) 8 0 (plStep ([], 1) M) with
      | none => 6
      | some s => if s.2 > 256 then 3 else if symsAll (obP s.1) s.1 = true then 0 else 7
    else 5
/-- the first object is the main image -/
def Fst (M : Ob) (s : List Ob × Int) : Prop := ∃ r, s.1 = { M with at_ := 16 } :: r
theorem fst_start (M : Ob) : Fst M (plStep ([], 1) M) := ⟨[], rfl⟩
theorem fst_step {M : Ob} {s : List Ob × Int} (o : Ob) (h : Fst M s) : Fst M (plStep s o) := by
  obtain ⟨r, hr⟩ := h
  unfold plStep plOs
  split
  · exact ⟨r, hr⟩
  · exact ⟨r ++ [_], by show s.1 ++ [_] = _; rw [hr]; rfl⟩
end Go.Proofs.Ytejnpppejalhfab
/- THE STEP CALCULUS, part 22: the length of a map of one's own; what is one's own, for a callee that only reads it. -/
namespace Go.Proofs.Ytejnpppejalhfab
open Go.RowKit Go.Sort Go.MapKept

section
variable {P : Program} {n : Nat} {ds : List Deferred} {E : Fr} {w : World} {Q : Exit → Act → World → Prop} {ops : Array Oper} {rest : List Oper} {d : Nat} {dst : Option Nat} {ty : TypeId} {pos : String} {after : Array Edge} {F : Nat → Prop} {w0 : World} {Γ : List Asr} {T : Tab}
theorem g_lenMap (hS : St F w0 w Γ) {t Kt Et : TypeId} {x : Operand} {r c i : Nat} {es : Array MapEntry} (ht : P.underlying t = some (.map Kt Et)) (hx : E.ev x = some (.map (some r))) (hi : Γ[i]? = some (.obj r (.map es c))) :
    Gets P ⟨dst, .call { callee := .builtin .len, args := #[x], argTypes := #[t] }, ty, pos, after, none⟩ n ds E w (fun v' w' => v' = .int .i64 (es.size : Nat) ∧ w' = w) := Gets.of_at fun a ha => by
  have hr : (Builtin.len_ #[t] ty #[.map (some r)]).run P w = .ok (.int .i64 es.size) w := by
    simp [Builtin.len_, run_underlying ht, Go.MapKept.run_getObj_map (hS.at_ hi).1, goInt]
  simp [execOp, resolve, invoke, builtin, ha.ev hx, hr, Result.andThen]
theorem St.ownBs {Θ : List Asr} (hS : St F w0 w (Θ ++ Γ)) (i : Nat) {g k : Nat} {L : List Value} {v : Value} (hi : Γ[i]? = some (.blk g L)) (hk : L[k]? = some v) : Bs (fps Θ) w ⟨g, k, none⟩ v := by
  have hS2 := hS.sub (List.sublist_append_right Θ Γ)
  refine ⟨hS2.blkC i hi hk, fun ⟨A, hA, e⟩ => ?_⟩
  rcases (List.pairwise_append.1 hS.apart).2.2 A hA _ (List.mem_of_getElem? hi) with h1 | h1
  · rw [h1] at e; cases e
  · exact h1 e
theorem St.ownSl {Θ : List Asr} (hS : St F w0 w (Θ ++ Γ)) (i : Nat) {e sz : Nat} {v : Value} {rows : List (List Value)} (hi : Γ[i]? = some (.row e sz v rows)) : Sl (fps Θ) w sz v rows := by
  have hS2 := hS.sub (List.sublist_append_right Θ Γ)
  rcases hS2.rowForm i hi with ⟨rfl, rfl⟩ | ⟨g, cap, rfl, h1, h2⟩
  · exact Or.inl ⟨_, _, rfl, rfl⟩
  · have hr := hS2.rowRo i hi
    refine Or.inr ⟨g, 0, cap, rfl, h1, h2, ⟨hr.lt, fun ⟨A, hA, e⟩ => ?_, hr.len, hr.one, hr.cells⟩⟩
    rcases (List.pairwise_append.1 hS.apart).2.2 A hA _ (List.mem_of_getElem? hi) with h1 | h1
    · rw [h1] at e; cases e
    · exact h1 e
end
end Go.Proofs.Ytejnpppejalhfab
/- An image's names, counts, segments. -/
namespace Go.Proofs.Ytejnpppejalhfab
open Go.RowKit Go.Sort

end Go.Proofs.Ytejnpppejalhfab
