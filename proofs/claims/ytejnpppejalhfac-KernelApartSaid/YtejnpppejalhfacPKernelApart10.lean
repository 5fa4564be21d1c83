/- Texts that the proof stands on, one behind the other: Ke8, PlRun9, Ke23, Ke24, Ke25, Sc27, Ke26, Ke27. -/
import Derived.Test.YtejnpppejalhfacPKernelApart9
/- kernel.Check. -/
namespace Go.Proofs.Ytejnpppejalhfac
open Go.RowKit Go.Sort
set_option maxRecDepth 100000 in
set_option maxHeartbeats 8000000 in
theorem conSp_fn {F:Nat→Prop} {w0 w:World} {Γ:List Asr} {gl gk gc:Nat} {vsh vF vS vsp:Value} {l:List (Sh×Value)} {NF NS:NL} {sp:List Sp}
  (hS0:St F w0 w (lkS gl (.pointer (some ⟨gk,0,none⟩)) vF vS 0 NF NS++Γ)) (hc:Bs (fps (lkS gl (.pointer (some ⟨gk,0,none⟩)) vF vS 0 NF NS)) w ⟨gc,0,none⟩ (.pointer (some ⟨gl,0,none⟩))) (hk:Bs (fps (lkS gl (.pointer (some ⟨gk,0,none⟩)) vF vS 0 NF NS)) w ⟨gk,0,none⟩ vsh) (hL:ShsF (fps (lkS gl (.pointer (some ⟨gk,0,none⟩)) vF vS 0 NF NS)) w l vsh) (hr:riseB 0 (shs l)=true)
  (hsl:Sl (fps (lkS gl (.pointer (some ⟨gk,0,none⟩)) vF vS 0 NF NS)) w 3 vsp (sp.map spC)) (hp:∀ p ∈ sp,SpF (fps (lkS gl (.pointer (some ⟨gk,0,none⟩)) vF vS 0 NF NS)) w p) (h4:sp.length≤4) (hF:∀ x ∈ NF,x.2=[]) (hSl:∀ x ∈ NS,x.2=[]) :
  Fn Try.prog 25 [vsp,.func (.func 26) #[] #[.pointer (some ⟨gc,0,none⟩)]] w (fun v w'=>v=.bool (!(sp.map (·.s)).all (spaceB (shs l) NF.length NS.length))∧∃ NF' NS' room',St (fps (lkS gl (.pointer (some ⟨gk,0,none⟩)) vF vS 0 NF NS)) w w' (lkS gl (.pointer (some ⟨gk,0,none⟩)) vF vS room' NF' NS')∧((sp.map (·.s)).all (spaceB (shs l) NF.length NS.length)=true→room'=roomI (sp.map (·.s))∧Grown NF NF' 1 (allNm (sp.map (·.s)))∧Grown NS NS' 2 (allNm (sp.map (·.s))))):=by
 have hcall:=idxSp_fn hS0 hc hk hL hr hsl hp h4 hF hSl
 refine yEn Try.func25 Try.ntmps25 ?_
 repeat' (first|refine yO ?_|(refine yL ?_;refine ⟨_,hcall,?_⟩;rintro _ w2 ⟨⟨i,rfl,hi⟩,NF',NS',room',h2,hg⟩))
 refine yR1 ?_
 exact ⟨by rw [hi],NF',NS',room',h2,hg⟩
theorem ents_pages {A:List Ar} {nf ns:Int} (hc:checkI A=0):∀ {es:List En} {last:Int},entsB A nf ns last es=true→∀ e ∈ es,last < e.page∧e.page≤255
 |[],_,_,_,h=>by simp at h
 |e::es,last,h,x,hx=>by
  replace h:(entOk A nf ns last e && entsB A nf ns e.page es)=true:=h
  rw [Bool.and_eq_true] at h
  have h1:=h.1
  unfold entOk at h1
  rw [Bool.and_eq_true,decide_eq_true_eq] at h1
  obtain ⟨hs,hl,-⟩:=h1
  obtain ⟨a,ha⟩:=Option.isSome_iff_exists.1 hs
  have h2:=List.find?_some ha
  have h3:=(good_pos hc ha).1
  unfold holdsB at h2
  rw [decide_eq_true_eq] at h2
  unfold Ar.ok at h3
  unfold Ar.fin at h2
  rcases List.mem_cons.1 hx with rfl|hx
  ·omega
  ·have:=ents_pages hc h.2 x hx
   omega
theorem namers_pages {l:List Sh} {nf ns:Int} {L:List Sc} (h:L.all (spaceB l nf ns)=true):∀ n ∈ allNm L,-1000000≤n.1.page∧n.1.page≤1000000:=by
 intro n hn
 unfold allNm at hn
 obtain ⟨s,hs,hn⟩:=List.mem_flatMap.1 hn
 obtain ⟨e,he,rfl⟩:=List.mem_map.1 hn
 have h1:=List.all_eq_true.1 h s hs
 unfold spaceB at h1
 by_cases hl:s.live=true
 ·rw [if_pos hl,Bool.and_eq_true,Bool.and_eq_true,decide_eq_true_eq] at h1
  have:=ents_pages h1.1 h1.2.2 e he
  show -1000000≤e.page∧e.page≤1000000
  omega
 ·rw [if_neg hl,decide_eq_true_eq] at h1
  rw [h1.2] at he
  cases he
theorem addNils {F:Nat→Prop} {w0 w:World} {Γ:List Asr} (h:St F w0 w Γ):∀ n:Nat,St F w0 w (nlR (List.replicate n (.slice none 0 0,[]))++Γ)
 |0=>h
 |n + 1=>(addNils h n).addNil _ _
set_option maxRecDepth 100000 in
set_option maxHeartbeats 8000000 in
theorem checkKer_fn {w:World} {k:KV} (hK:KerV w k):Fn Try.prog 9 [.agg (kvC k).toArray] w (RBf (.int .i64 (checkK k.K)) w):=by
 have b1:=hK.fr.bound
 have b2:=hK.sl.bound
 have b3:=hK.sp.bound
 have b4:=hK.sh.sl.bound
 have hK0:=hK
 obtain ⟨sh,fr,sl,sp,hand,vsh,vfr,vsl,vsp⟩:=k
 obtain ⟨k1,k2,k3,k4,k5⟩:=hK
 dsimp only at b1 b2 b3 b4 k1 k2 k3 k4 k5
 obtain ⟨p1,c1,rfl⟩:=k1.sl.len
 obtain ⟨p2,c2,rfl⟩:=k2.len
 obtain ⟨p3,c3,rfl⟩:=k3.len
 obtain ⟨p4,c4,rfl⟩:=k4.len
 unfold kvC checkK KV.K
 dsimp only
 by_cases hcnt:countsB ⟨shs sh,fr,sl,sp.map (·.s),hand⟩=true
 rotate_left
 ·rw [if_neg hcnt]
  unfold countsB at hcnt
  rw [decide_eq_true_eq] at hcnt
  dsimp only at hcnt
  rw [List.length_map,shs_len] at hcnt
  refine yEn Try.func9 Try.ntmps9 ?_
  have hS:=St.start w
  repeat' (first|refine yO ?_|(refine yM ?_;clear hS;intro g w' hS)|(refine yS ?_ ?_;all_goals (intro hb hp;try (exfalso;omega))))
  all_goals (apply q_ret1)
  all_goals ((repeat (first|exact ResL.nil|(apply ResL.tmp;exact rfl))))
  all_goals (exact ⟨rfl,hS.sub (List.nil_sublist _)⟩)
 rw [if_pos hcnt]
 unfold countsB at hcnt
 rw [decide_eq_true_eq,List.length_map,shs_len] at hcnt
 have hshe:=fun w1 (h:ShsV w1 sh (.slice p1 sh.length c1))=>sheetsK_fn h
 generalize hnf:fr.length=nf at *
 generalize hns:sl.length=ns at *
 refine yEn Try.func9 Try.ntmps9 ?_
 have hS:=St.start w
 repeat' (first|refine yO ?_|(refine yM ?_;clear hS;intro g w' hS)|(refine yS ?_ ?_;all_goals (intro hb hp;try (exfalso;omega))))
 rename Nat=>gk
 refine c_varX (F:=nF) (w0:=w) (X:=Nat×Nat×Nat×Nat) (fun x=>[(1,.pointer (some ⟨gk,0,none⟩)),(3,.pointer (some ⟨x.2.2.2,0,none⟩))]) (fun x=>[.blk x.2.2.2 [.pointer (some ⟨x.2.2.1,0,none⟩)],.blk gk [.slice p1 sh.length c1,.slice p2 nf c2,.slice p3 ns c3,.slice p4 sp.length c4,.int .i64 hand],.blk x.2.2.1 [.pointer (some ⟨gk,0,none⟩),.slice (some ⟨x.1,0,none⟩) nf nf,.slice (some ⟨x.2.1,0,none⟩) ns ns,.int .i64 0],.row 90 1 (.slice (some ⟨x.1,0,none⟩) nf nf) (List.replicate nf [.slice none 0 0]),.row 90 1 (.slice (some ⟨x.2.1,0,none⟩) ns ns) (List.replicate ns [.slice none 0 0])]) (fun _=>True) ?_ ?_
 ·refine c_heldP 1 12 rfl hS (by kernel_rfl) ?_
  intro w1 hS'
  clear hS;have hS:=hS';clear hS'
  simp only [List.take_succ_cons,List.take_zero]
  ((with_reducible apply a_take (nn 0) tabOk);exact rfl;kernel_rfl;kernel_rfl;kernel_rfl;exact (fun _ _ _ h=>h);exact hS;exact rfl;exact rfl)
  (refine xM (nn 1) ?_;refine ⟨hS,?_⟩)
  (refine xA (nn 2) ?_;refine ⟨hS,?_⟩)
  (refine xA (nn 4) ?_;refine ⟨hS,?_⟩)
  (refine xM (nn 5) ?_;refine ⟨hS,?_⟩)
  (refine xA (nn 6) ?_;refine ⟨hS,?_⟩)
  refine a_three (i:=3) (j:=7) (l:=10) (by kernel_rfl) ?_ ?_ ?_
  ·refine o_gets rfl (g_make hS tabOk (m:=nf) rfl rfl rfl rfl rfl (by omega) (by omega) rfl) rfl ?_
   rintro _ w' ⟨gF,rfl,hS'⟩
   clear hS;have hS:=hS';clear hS'
   refine ⟨(hS.sub (by repeat (first|exact List.Sublist.refl _|apply List.Sublist.cons))),?_⟩
   refine a_two (i:=7) (j:=10) (by kernel_rfl) ?_ ?_
   ·refine o_gets rfl (g_make hS tabOk (m:=ns) rfl rfl rfl rfl rfl (by omega) (by omega) rfl) rfl ?_
    rintro _ w' ⟨gS,rfl,hS'⟩
    clear hS;have hS:=hS';clear hS'
    refine ⟨(hS.sub (by repeat (first|exact List.Sublist.refl _|apply List.Sublist.cons))),?_⟩
    (refine xD (nn 8) ?_;refine ⟨(hS.sub (by repeat (first|exact List.Sublist.refl _|apply List.Sublist.cons))),?_⟩)
    refine a_two (i:=9) (j:=10) (by kernel_rfl) ?_ ?_
    ·refine o_gets rfl (g_box hS rfl) rfl ?_
     rintro _ w' ⟨gl,rfl,hS'⟩
     replace hS':St _ _ w' (.blk gl [.pointer (some ⟨gk,0,none⟩),.slice (some ⟨gF,0,none⟩) nf nf,.slice (some ⟨gS,0,none⟩) ns ns,.int .i64 0]::_):=hS'
     clear hS;have hS:=hS';clear hS'
     refine ⟨(hS.sub (by repeat (first|exact List.Sublist.refl _|apply List.Sublist.cons))),?_⟩
     refine a_one (i:=10) (by kernel_rfl) ?_
     refine o_gets rfl (g_allocT hS tabOk rfl rfl) rfl ?_
     rintro _ w' ⟨gc,rfl,hS'⟩
     clear hS;have hS:=hS';clear hS'
     refine ⟨(hS.sub (by repeat (first|exact List.Sublist.refl _|apply List.Sublist.cons))),?_⟩
     refine a_one (i:=11) (by kernel_rfl) ?_
     refine o_gets0 (Φ:=fun _ w'=>St _ _ w' _) rfl (g_store hS tabOk (i:=0) rfl rfl rfl rfl rfl (Nat.le_of_ble_eq_true rfl) (List.all_eq_true.1 rfl)) ?_
     intro _ w' hS'
     simp only [List.set] at hS'
     clear hS;have hS:=hS';clear hS'
     refine ⟨(hS.sub (by repeat (first|exact List.Sublist.refl _|apply List.Sublist.cons))),?_⟩
     refine a_done (by kernel_rfl) ?_
     replace hS:=St.reorder [0,4,1,3,2] hS (by decide) rfl
     exact q_varX (gF,gS,gl,gc) (by exact zS) trivial hS
    ·refine o_gets rfl (g_allocT hS tabOk rfl rfl) rfl ?_
     rintro _ w' ⟨gc,rfl,hS'⟩
     clear hS;have hS:=hS';clear hS'
     refine ⟨(hS.sub (by repeat (first|exact List.Sublist.refl _|apply List.Sublist.cons))),?_⟩
     refine a_one (i:=9) (by kernel_rfl) ?_
     refine o_gets rfl (g_box hS rfl) rfl ?_
     rintro _ w' ⟨gl,rfl,hS'⟩
     replace hS':St _ _ w' (.blk gl [.pointer (some ⟨gk,0,none⟩),.slice (some ⟨gF,0,none⟩) nf nf,.slice (some ⟨gS,0,none⟩) ns ns,.int .i64 0]::_):=hS'
     clear hS;have hS:=hS';clear hS'
     refine ⟨(hS.sub (by repeat (first|exact List.Sublist.refl _|apply List.Sublist.cons))),?_⟩
     refine a_one (i:=11) (by kernel_rfl) ?_
     refine o_gets0 (Φ:=fun _ w'=>St _ _ w' _) rfl (g_store hS tabOk (i:=1) rfl rfl rfl rfl rfl (Nat.le_of_ble_eq_true rfl) (List.all_eq_true.1 rfl)) ?_
     intro _ w' hS'
     simp only [List.set] at hS'
     clear hS;have hS:=hS';clear hS'
     refine ⟨(hS.sub (by repeat (first|exact List.Sublist.refl _|apply List.Sublist.cons))),?_⟩
     refine a_done (by kernel_rfl) ?_
     replace hS:=St.reorder [1,4,0,3,2] hS (by decide) rfl
     exact q_varX (gF,gS,gl,gc) (by exact zS) trivial hS
   ·refine o_gets rfl (g_allocT hS tabOk rfl rfl) rfl ?_
    rintro _ w' ⟨gc,rfl,hS'⟩
    clear hS;have hS:=hS';clear hS'
    refine ⟨(hS.sub (by repeat (first|exact List.Sublist.refl _|apply List.Sublist.cons))),?_⟩
    refine a_one (i:=7) (by kernel_rfl) ?_
    refine o_gets rfl (g_make hS tabOk (m:=ns) rfl rfl rfl rfl rfl (by omega) (by omega) rfl) rfl ?_
    rintro _ w' ⟨gS,rfl,hS'⟩
    clear hS;have hS:=hS';clear hS'
    refine ⟨(hS.sub (by repeat (first|exact List.Sublist.refl _|apply List.Sublist.cons))),?_⟩
    (refine xD (nn 8) ?_;refine ⟨(hS.sub (by repeat (first|exact List.Sublist.refl _|apply List.Sublist.cons))),?_⟩)
    refine a_one (i:=9) (by kernel_rfl) ?_
    refine o_gets rfl (g_box hS rfl) rfl ?_
    rintro _ w' ⟨gl,rfl,hS'⟩
    replace hS':St _ _ w' (.blk gl [.pointer (some ⟨gk,0,none⟩),.slice (some ⟨gF,0,none⟩) nf nf,.slice (some ⟨gS,0,none⟩) ns ns,.int .i64 0]::_):=hS'
    clear hS;have hS:=hS';clear hS'
    refine ⟨(hS.sub (by repeat (first|exact List.Sublist.refl _|apply List.Sublist.cons))),?_⟩
    refine a_one (i:=11) (by kernel_rfl) ?_
    refine o_gets0 (Φ:=fun _ w'=>St _ _ w' _) rfl (g_store hS tabOk (i:=2) rfl rfl rfl rfl rfl (Nat.le_of_ble_eq_true rfl) (List.all_eq_true.1 rfl)) ?_
    intro _ w' hS'
    simp only [List.set] at hS'
    clear hS;have hS:=hS';clear hS'
    refine ⟨(hS.sub (by repeat (first|exact List.Sublist.refl _|apply List.Sublist.cons))),?_⟩
    refine a_done (by kernel_rfl) ?_
    replace hS:=St.reorder [2,4,0,3,1] hS (by decide) rfl
    exact q_varX (gF,gS,gl,gc) (by exact zS) trivial hS
  ·refine o_gets rfl (g_make hS tabOk (m:=ns) rfl rfl rfl rfl rfl (by omega) (by omega) rfl) rfl ?_
   rintro _ w' ⟨gS,rfl,hS'⟩
   clear hS;have hS:=hS';clear hS'
   refine ⟨(hS.sub (by repeat (first|exact List.Sublist.refl _|apply List.Sublist.cons))),?_⟩
   refine a_two (i:=3) (j:=10) (by kernel_rfl) ?_ ?_
   ·refine o_gets rfl (g_make hS tabOk (m:=nf) rfl rfl rfl rfl rfl (by omega) (by omega) rfl) rfl ?_
    rintro _ w' ⟨gF,rfl,hS'⟩
    clear hS;have hS:=hS';clear hS'
    refine ⟨(hS.sub (by repeat (first|exact List.Sublist.refl _|apply List.Sublist.cons))),?_⟩
    (refine xD (nn 8) ?_;refine ⟨(hS.sub (by repeat (first|exact List.Sublist.refl _|apply List.Sublist.cons))),?_⟩)
    refine a_two (i:=9) (j:=10) (by kernel_rfl) ?_ ?_
    ·refine o_gets rfl (g_box hS rfl) rfl ?_
     rintro _ w' ⟨gl,rfl,hS'⟩
     replace hS':St _ _ w' (.blk gl [.pointer (some ⟨gk,0,none⟩),.slice (some ⟨gF,0,none⟩) nf nf,.slice (some ⟨gS,0,none⟩) ns ns,.int .i64 0]::_):=hS'
     clear hS;have hS:=hS';clear hS'
     refine ⟨(hS.sub (by repeat (first|exact List.Sublist.refl _|apply List.Sublist.cons))),?_⟩
     refine a_one (i:=10) (by kernel_rfl) ?_
     refine o_gets rfl (g_allocT hS tabOk rfl rfl) rfl ?_
     rintro _ w' ⟨gc,rfl,hS'⟩
     clear hS;have hS:=hS';clear hS'
     refine ⟨(hS.sub (by repeat (first|exact List.Sublist.refl _|apply List.Sublist.cons))),?_⟩
     refine a_one (i:=11) (by kernel_rfl) ?_
     refine o_gets0 (Φ:=fun _ w'=>St _ _ w' _) rfl (g_store hS tabOk (i:=0) rfl rfl rfl rfl rfl (Nat.le_of_ble_eq_true rfl) (List.all_eq_true.1 rfl)) ?_
     intro _ w' hS'
     simp only [List.set] at hS'
     clear hS;have hS:=hS';clear hS'
     refine ⟨(hS.sub (by repeat (first|exact List.Sublist.refl _|apply List.Sublist.cons))),?_⟩
     refine a_done (by kernel_rfl) ?_
     replace hS:=St.reorder [0,4,1,2,3] hS (by decide) rfl
     exact q_varX (gF,gS,gl,gc) (by exact zS) trivial hS
    ·refine o_gets rfl (g_allocT hS tabOk rfl rfl) rfl ?_
     rintro _ w' ⟨gc,rfl,hS'⟩
     clear hS;have hS:=hS';clear hS'
     refine ⟨(hS.sub (by repeat (first|exact List.Sublist.refl _|apply List.Sublist.cons))),?_⟩
     refine a_one (i:=9) (by kernel_rfl) ?_
     refine o_gets rfl (g_box hS rfl) rfl ?_
     rintro _ w' ⟨gl,rfl,hS'⟩
     replace hS':St _ _ w' (.blk gl [.pointer (some ⟨gk,0,none⟩),.slice (some ⟨gF,0,none⟩) nf nf,.slice (some ⟨gS,0,none⟩) ns ns,.int .i64 0]::_):=hS'
     clear hS;have hS:=hS';clear hS'
     refine ⟨(hS.sub (by repeat (first|exact List.Sublist.refl _|apply List.Sublist.cons))),?_⟩
     refine a_one (i:=11) (by kernel_rfl) ?_
     refine o_gets0 (Φ:=fun _ w'=>St _ _ w' _) rfl (g_store hS tabOk (i:=1) rfl rfl rfl rfl rfl (Nat.le_of_ble_eq_true rfl) (List.all_eq_true.1 rfl)) ?_
     intro _ w' hS'
     simp only [List.set] at hS'
     clear hS;have hS:=hS';clear hS'
     refine ⟨(hS.sub (by repeat (first|exact List.Sublist.refl _|apply List.Sublist.cons))),?_⟩
     refine a_done (by kernel_rfl) ?_
     replace hS:=St.reorder [1,4,0,2,3] hS (by decide) rfl
     exact q_varX (gF,gS,gl,gc) (by exact zS) trivial hS
   ·refine o_gets rfl (g_allocT hS tabOk rfl rfl) rfl ?_
    rintro _ w' ⟨gc,rfl,hS'⟩
    clear hS;have hS:=hS';clear hS'
    refine ⟨(hS.sub (by repeat (first|exact List.Sublist.refl _|apply List.Sublist.cons))),?_⟩
    refine a_one (i:=3) (by kernel_rfl) ?_
    refine o_gets rfl (g_make hS tabOk (m:=nf) rfl rfl rfl rfl rfl (by omega) (by omega) rfl) rfl ?_
    rintro _ w' ⟨gF,rfl,hS'⟩
    clear hS;have hS:=hS';clear hS'
    refine ⟨(hS.sub (by repeat (first|exact List.Sublist.refl _|apply List.Sublist.cons))),?_⟩
    (refine xD (nn 8) ?_;refine ⟨(hS.sub (by repeat (first|exact List.Sublist.refl _|apply List.Sublist.cons))),?_⟩)
    refine a_one (i:=9) (by kernel_rfl) ?_
    refine o_gets rfl (g_box hS rfl) rfl ?_
    rintro _ w' ⟨gl,rfl,hS'⟩
    replace hS':St _ _ w' (.blk gl [.pointer (some ⟨gk,0,none⟩),.slice (some ⟨gF,0,none⟩) nf nf,.slice (some ⟨gS,0,none⟩) ns ns,.int .i64 0]::_):=hS'
    clear hS;have hS:=hS';clear hS'
    refine ⟨(hS.sub (by repeat (first|exact List.Sublist.refl _|apply List.Sublist.cons))),?_⟩
    refine a_one (i:=11) (by kernel_rfl) ?_
    refine o_gets0 (Φ:=fun _ w'=>St _ _ w' _) rfl (g_store hS tabOk (i:=2) rfl rfl rfl rfl rfl (Nat.le_of_ble_eq_true rfl) (List.all_eq_true.1 rfl)) ?_
    intro _ w' hS'
    simp only [List.set] at hS'
    clear hS;have hS:=hS';clear hS'
    refine ⟨(hS.sub (by repeat (first|exact List.Sublist.refl _|apply List.Sublist.cons))),?_⟩
    refine a_done (by kernel_rfl) ?_
    replace hS:=St.reorder [2,4,0,1,3] hS (by decide) rfl
    exact q_varX (gF,gS,gl,gc) (by exact zS) trivial hS
  ·refine o_gets rfl (g_allocT hS tabOk rfl rfl) rfl ?_
   rintro _ w' ⟨gc,rfl,hS'⟩
   clear hS;have hS:=hS';clear hS'
   refine ⟨(hS.sub (by repeat (first|exact List.Sublist.refl _|apply List.Sublist.cons))),?_⟩
   refine a_two (i:=3) (j:=7) (by kernel_rfl) ?_ ?_
   ·refine o_gets rfl (g_make hS tabOk (m:=nf) rfl rfl rfl rfl rfl (by omega) (by omega) rfl) rfl ?_
    rintro _ w' ⟨gF,rfl,hS'⟩
    clear hS;have hS:=hS';clear hS'
    refine ⟨(hS.sub (by repeat (first|exact List.Sublist.refl _|apply List.Sublist.cons))),?_⟩
    refine a_one (i:=7) (by kernel_rfl) ?_
    refine o_gets rfl (g_make hS tabOk (m:=ns) rfl rfl rfl rfl rfl (by omega) (by omega) rfl) rfl ?_
    rintro _ w' ⟨gS,rfl,hS'⟩
    clear hS;have hS:=hS';clear hS'
    refine ⟨(hS.sub (by repeat (first|exact List.Sublist.refl _|apply List.Sublist.cons))),?_⟩
    (refine xD (nn 8) ?_;refine ⟨(hS.sub (by repeat (first|exact List.Sublist.refl _|apply List.Sublist.cons))),?_⟩)
    refine a_one (i:=9) (by kernel_rfl) ?_
    refine o_gets rfl (g_box hS rfl) rfl ?_
    rintro _ w' ⟨gl,rfl,hS'⟩
    replace hS':St _ _ w' (.blk gl [.pointer (some ⟨gk,0,none⟩),.slice (some ⟨gF,0,none⟩) nf nf,.slice (some ⟨gS,0,none⟩) ns ns,.int .i64 0]::_):=hS'
    clear hS;have hS:=hS';clear hS'
    refine ⟨(hS.sub (by repeat (first|exact List.Sublist.refl _|apply List.Sublist.cons))),?_⟩
    refine a_one (i:=11) (by kernel_rfl) ?_
    refine o_gets0 (Φ:=fun _ w'=>St _ _ w' _) rfl (g_store hS tabOk (i:=3) rfl rfl rfl rfl rfl (Nat.le_of_ble_eq_true rfl) (List.all_eq_true.1 rfl)) ?_
    intro _ w' hS'
    simp only [List.set] at hS'
    clear hS;have hS:=hS';clear hS'
    refine ⟨(hS.sub (by repeat (first|exact List.Sublist.refl _|apply List.Sublist.cons))),?_⟩
    refine a_done (by kernel_rfl) ?_
    replace hS:=St.reorder [3,4,0,2,1] hS (by decide) rfl
    exact q_varX (gF,gS,gl,gc) (by exact zS) trivial hS
   ·refine o_gets rfl (g_make hS tabOk (m:=ns) rfl rfl rfl rfl rfl (by omega) (by omega) rfl) rfl ?_
    rintro _ w' ⟨gS,rfl,hS'⟩
    clear hS;have hS:=hS';clear hS'
    refine ⟨(hS.sub (by repeat (first|exact List.Sublist.refl _|apply List.Sublist.cons))),?_⟩
    refine a_one (i:=3) (by kernel_rfl) ?_
    refine o_gets rfl (g_make hS tabOk (m:=nf) rfl rfl rfl rfl rfl (by omega) (by omega) rfl) rfl ?_
    rintro _ w' ⟨gF,rfl,hS'⟩
    clear hS;have hS:=hS';clear hS'
    refine ⟨(hS.sub (by repeat (first|exact List.Sublist.refl _|apply List.Sublist.cons))),?_⟩
    (refine xD (nn 8) ?_;refine ⟨(hS.sub (by repeat (first|exact List.Sublist.refl _|apply List.Sublist.cons))),?_⟩)
    refine a_one (i:=9) (by kernel_rfl) ?_
    refine o_gets rfl (g_box hS rfl) rfl ?_
    rintro _ w' ⟨gl,rfl,hS'⟩
    replace hS':St _ _ w' (.blk gl [.pointer (some ⟨gk,0,none⟩),.slice (some ⟨gF,0,none⟩) nf nf,.slice (some ⟨gS,0,none⟩) ns ns,.int .i64 0]::_):=hS'
    clear hS;have hS:=hS';clear hS'
    refine ⟨(hS.sub (by repeat (first|exact List.Sublist.refl _|apply List.Sublist.cons))),?_⟩
    refine a_one (i:=11) (by kernel_rfl) ?_
    refine o_gets0 (Φ:=fun _ w'=>St _ _ w' _) rfl (g_store hS tabOk (i:=3) rfl rfl rfl rfl rfl (Nat.le_of_ble_eq_true rfl) (List.all_eq_true.1 rfl)) ?_
    intro _ w' hS'
    simp only [List.set] at hS'
    clear hS;have hS:=hS';clear hS'
    refine ⟨(hS.sub (by repeat (first|exact List.Sublist.refl _|apply List.Sublist.cons))),?_⟩
    refine a_done (by kernel_rfl) ?_
    replace hS:=St.reorder [3,4,0,1,2] hS (by decide) rfl
    exact q_varX (gF,gS,gl,gc) (by exact zS) trivial hS
 clear hS
 rintro ⟨gF,gS,gl,gc⟩ w1 - hS
 dsimp only at hS ⊢
 repeat (with_reducible apply c_seq)
 have hform:∀ b:Bool,formB ⟨shs sh,fr,sl,sp.map (·.s),hand⟩=b→(if formB ⟨shs sh,fr,sl,sp.map (·.s),hand⟩=true then (0:Int) else 1)=if b=true then 0 else 1:=fun b h=>by rw [h]
 have hfe:formB ⟨shs sh,fr,sl,sp.map (·.s),hand⟩=((riseB 0 (shs sh) && decide (0≤hand∧hand < (nf:Int))) && ((sp.map (·.s)).all (spaceB (shs sh) nf ns) && (decide (roomI (sp.map (·.s))≤(ns:Int)) && (framesB ⟨shs sh,fr,sl,sp.map (·.s),hand⟩ && slotsB ⟨shs sh,fr,sl,sp.map (·.s),hand⟩)))):=by
  rw [← hnf,← hns];rfl
 cases hsh:riseB 0 (shs sh) with
 |false=>
  rw [hsh] at hshe hfe
  rw [Bool.false_and,Bool.false_and] at hfe
  rw [hfe]
  (focus (refine yD ?_;(repeat' (first|refine yP ?_|(refine yF ?_;refine ⟨_,fun wd hd=>hshe _ (k1.now hd),?_⟩)));all_goals (refine yZ ?_;clear hS;intro w' hS)))
  repeat' ((refine yO ?_))
  refine yR1 ?_
  exact ⟨rfl,hS.sub (List.nil_sublist _)⟩
 |true=>
  rw [hsh] at hshe hfe
  rw [Bool.true_and] at hfe
  by_cases hh:0≤hand∧hand < (nf:Int)
  rotate_left
  ·rw [decide_eq_false hh,Bool.false_and] at hfe
   rw [hfe]
   (focus (refine yD ?_;(repeat' (first|refine yP ?_|(refine yQ ?_ ?_;all_goals (intro hb hp;try (exfalso;omega)))|(refine yF ?_;refine ⟨_,fun wd hd=>hshe _ (k1.now hd),?_⟩)));all_goals (refine yZ ?_;clear hS;intro w' hS)))
   all_goals (repeat' (first|(((with_reducible apply l_pure tabOk);exact rfl;exact rfl))|(first|(with_reducible first|apply c_seq|apply c_region|apply l_nil|apply q_then|apply c_ret|apply q_then_ret))|(((with_reducible apply c_ift);exact rfl;(exact rfl)))))
   all_goals (apply q_ret1)
   all_goals ((repeat (first|exact ResL.nil|(apply ResL.tmp;exact rfl))))
   all_goals (exact ⟨rfl,hS.sub (List.nil_sublist _)⟩)
  rw [decide_eq_true hh,Bool.true_and] at hfe
  replace hS:=St.reorder [2,3,4,0,1] hS (by decide) rfl
  have hS2:St nF w w1 (lkS gl (.pointer (some ⟨gk,0,none⟩)) (.slice (some ⟨gF,0,none⟩) nf nf) (.slice (some ⟨gS,0,none⟩) ns ns) 0 (List.replicate nf (.slice none 0 0,[])) (List.replicate ns (.slice none 0 0,[]))++[.blk gc [.pointer (some ⟨gl,0,none⟩)],.blk gk [.slice p1 sh.length c1,.slice p2 nf c2,.slice p3 ns c3,.slice p4 sp.length c4,.int .i64 hand]]):=by
   have h3:=addNils (addNils hS ns) nf
   unfold lkS nlC
   rw [List.map_replicate,List.map_replicate]
   rw [← List.append_assoc] at h3
   refine h3.perm ?_
   show (_++([_,_,_]++[_,_])).Perm (([_,_,_]++_)++[_,_])
   rw [← List.append_assoc]
   exact List.perm_append_comm.append_right _
  clear hS
  have hS:=hS2.perm List.perm_append_comm
  clear hS2
  simp only [List.cons_append,List.nil_append] at hS
  have hd1:decide (hand < 0)=false:=decide_eq_false (by omega)
  have hd2:decide ((nf:Int)≤hand)=false:=decide_eq_false (by omega)
  refine c_heldP 2 33 rfl hS (by kernel_rfl) ?_
  intro w2 hS'
  clear hS;have hS:=hS';clear hS'
  simp only [List.take_succ_cons,List.take_zero]
  have hH:=hS.sub (List.sublist_append_left [_,_] _)
  ((refine xX (nn 0) ?_;refine ⟨hH,?_⟩))
  ((refine xX (nn 1) ?_;refine ⟨hH,?_⟩))
  refine a_one (i:=2) (by kernel_rfl) ?_
  refine o_gets rfl (g_call (first:=[]) (caps:=[]) rfl rfl (hshe _ (k1.now hS))) rfl ?_
  rintro _ w' ⟨rfl,hS'⟩
  replace hS:=hS.transA hS'
  simp only [appA] at hS
  clear hS'
  refine ⟨(hS.sub (List.sublist_append_left [_,_] _)),?_⟩
  have hH:=hS.sub (List.sublist_append_left [_,_] _)
  ((refine xX (nn 3) ?_;refine ⟨hH,?_⟩));((refine xX (nn 4) ?_;refine ⟨hH,?_⟩));((refine xX (nn 5) ?_;refine ⟨hH,?_⟩));((refine xX (nn 6) ?_;refine ⟨hH,?_⟩));((refine xX (nn 7) ?_;refine ⟨hH,?_⟩));((refine xX (nn 8) ?_;refine ⟨hH,?_⟩));((refine xX (nn 9) ?_;refine ⟨hH,?_⟩));((refine xX (nn 10) ?_;refine ⟨hH,?_⟩));((refine xX (nn 11) ?_;refine ⟨hH,?_⟩));((refine xX (nn 12) ?_;refine ⟨hH,?_⟩));((refine xX (nn 13) ?_;refine ⟨hH,?_⟩));((refine xX (nn 14) ?_;refine ⟨hH,?_⟩));((refine xX (nn 15) ?_;refine ⟨hH,?_⟩));((refine xX (nn 16) ?_;refine ⟨hH,?_⟩));((refine xX (nn 17) ?_;refine ⟨hH,?_⟩));((refine xX (nn 18) ?_;refine ⟨hH,?_⟩));((refine xX (nn 19) ?_;refine ⟨hH,?_⟩));((refine xX (nn 20) ?_;refine ⟨hH,?_⟩))
  refine a_one (i:=21) (by kernel_rfl) ?_
  have hS2:=hS.perm (List.perm_append_comm (l₁:=[_,_]))
  have hcon:=conSp_fn hS2 (St.ownBs hS2 0 rfl rfl) (St.ownBs hS2 1 rfl rfl) ((ShsF.of k1).nowM hS2) hsh (k4.nowM hS2) (fun p hp=>(show SpF nF w p from ⟨(k5 p hp).ar,(k5 p hp).en⟩).nowM hS2) (by omega) (fun x hx=>by rw [(List.mem_replicate.1 hx).2]) (fun x hx=>by rw [(List.mem_replicate.1 hx).2])
  rw [List.length_replicate,List.length_replicate] at hcon
  refine o_getsG rfl rfl rfl rfl rfl (by (assumption)) (g_call (first:=[]) (caps:=[]) rfl rfl hcon) rfl ?_
  clear hcon
  rintro _ w3 ⟨rfl,NF,NS,room,h2,hg⟩
  have hS':=(St.transM hS2 h2).perm List.perm_append_comm
  clear hS2 h2
  unfold lkS at hS'
  simp only [List.cons_append,List.nil_append] at hS'
  clear hS;have hS:=hS';clear hS'
  refine ⟨hS.sub (List.sublist_append_left [_,_] _),?_⟩
  have hH:=hS.sub (List.sublist_append_left [_,_] _)
  cases hall:(sp.map (·.s)).all (spaceB (shs sh) nf ns) with
  |false=>
   rw [hall,Bool.false_and] at hfe
   rw [hfe]
   ((refine xX (nn 22) ?_;refine ⟨hH,?_⟩));((refine xX (nn 23) ?_;refine ⟨hH,?_⟩))
   ((refine xK (nn 24) ?_;refine ⟨hH,?_⟩));((refine xK (nn 25) ?_;refine ⟨hH,?_⟩));((refine xK (nn 26) ?_;refine ⟨hH,?_⟩));((refine xK (nn 27) ?_;refine ⟨hH,?_⟩));((refine xK (nn 28) ?_;refine ⟨hH,?_⟩));((refine xK (nn 29) ?_;refine ⟨hH,?_⟩));((refine xK (nn 30) ?_;refine ⟨hH,?_⟩));((refine xK (nn 31) ?_;refine ⟨hH,?_⟩))
   ((refine xX (nn 32) ?_;refine ⟨hH,?_⟩))
   refine a_done (by kernel_rfl) ?_
   repeat' ((refine yO ?_))
   refine yR1 ?_
   exact ⟨rfl,hS.sub (List.nil_sublist _)⟩
  |true=>
   rw [hall,Bool.true_and] at hfe
   obtain ⟨hroom,hGF,hGS⟩:=hg hall
   ((refine xX (nn 22) ?_;refine ⟨hH,?_⟩));((refine xX (nn 23) ?_;refine ⟨hH,?_⟩));((refine xX (nn 24) ?_;refine ⟨hH,?_⟩));((refine xX (nn 25) ?_;refine ⟨hH,?_⟩));((refine xX (nn 26) ?_;refine ⟨hH,?_⟩));((refine xX (nn 28) ?_;refine ⟨hH,?_⟩));((refine xX (nn 29) ?_;refine ⟨hH,?_⟩));((refine xX (nn 30) ?_;refine ⟨hH,?_⟩))
   refine a_one (i:=27) (by kernel_rfl) ?_
   refine o_getsG rfl rfl rfl rfl rfl rfl (g_load rfl (by exact zLd)) rfl ?_
   rintro _ _ ⟨rfl,rfl⟩
   refine ⟨hH,?_⟩
   ((refine xX (nn 31) ?_;refine ⟨hH,?_⟩))
   ((refine xX (nn 32) ?_;refine ⟨hH,?_⟩))
   refine a_done (by kernel_rfl) ?_
   by_cases hrm:roomI (sp.map (·.s))≤(ns:Int)
   rotate_left
   ·rw [decide_eq_false hrm,Bool.false_and] at hfe
    rw [hfe]
    repeat' (first|refine yO ?_|(refine yS ?_ ?_;all_goals (intro hb hp;try (exfalso;omega))))
    refine yR1 ?_
    exact ⟨rfl,hS.sub (List.nil_sublist _)⟩
   rw [decide_eq_true hrm,Bool.true_and] at hfe
   repeat' (first|refine yO ?_|(refine yS ?_ ?_;all_goals (intro hb hp;try (exfalso;omega))))
   have hpg:=namers_pages hall
   clear hg hH hb hp hd1 hd2 hroom
   refine c_loopK (X:=Nat) (fun x=>[(89,.int .i64 (x:Nat))]) [1,3,87,88] rfl (fun _=>[]) (fun x=>x≤nf∧∀ (j:Nat) f,j < x→fr[j]?=some f→frameB (shs sh) f (namers (sp.map (·.s)) 1 (j:Nat))=true) (fun x=>nf - x) 0 (by exact zS) ⟨Nat.zero_le _,fun j f h=>by omega⟩ hS ?_
   clear hS
   rintro i w4 ⟨hi,hpre⟩ hS
   dsimp only [List.cons_append,List.nil_append] at hi hpre hS ⊢
   by_cases hlt:i < nf
   ·obtain ⟨f,hf⟩:=lt_get (l:=fr) (i:=i) (by omega)
    have hrow:=map_get (f:=fmC) hf
    obtain ⟨b,off,rfl,hro⟩:=k2.at_ (i:=i) (by omega)
    obtain ⟨v,hv⟩:=hGF.2 i (.slice none 0 0,[]) (List.getElem?_replicate_of_lt hlt)
    rw [List.nil_append,allNm_filter] at hv
    have hmem:nsA (v,namers (sp.map (·.s)) 1 ((i:Nat):Int)) ∈ nlR NF:=List.mem_map.2 ⟨_,List.mem_of_getElem? hv,rfl⟩
    have hrowN:(nlC NF)[i]?=some [v]:=map_get (f:=fun (x:Value×List Nm)=>[x.1]) hv
    have hby:∀ n ∈ namers (sp.map (·.s)) 1 ((i:Nat):Int),-1000000≤n.1.page∧n.1.page≤1000000:=fun n hn=>by
     rw [← allNm_filter] at hn
     exact hpg n (List.mem_filter.1 hn).1
    generalize hbyn:namers (sp.map (·.s)) 1 ((i:Nat):Int)=by_ at *
    have hSm:∀ wd Γd,St nF w wd Γd→nsA (v,by_) ∈ Γd→Sl nF wd 7 v (by_.map nmC):=fun wd Γd hd hm=>St.slMem hd hm
    obtain ⟨pv,cv,hvv⟩:=(hSm _ _ hS (by repeat (first|exact List.mem_append_left _ hmem|apply List.mem_cons_of_mem))).form
    subst hvv
    have hfr:=fun wd (a:Bs nF wd ⟨gl,0,none⟩ (.pointer (some ⟨gk,0,none⟩))) (b:Bs nF wd ⟨gk,0,none⟩ (.slice p1 sh.length c1)) (c:ShsV wd sh (.slice p1 sh.length c1)) (d:Sl nF wd 7 (.slice pv (by_.map nmC).length cv) (by_.map nmC))=>lookFrame_fn (f:=f) a b c hsh d hby
    unfold fmC at hfr hrow
    cases hfb:frameB (shs sh) f by_ with
    |false=>
     rw [hfb] at hfr
     have hff:framesB ⟨shs sh,fr,sl,sp.map (·.s),hand⟩=false:=by
      unfold framesB
      rw [List.all_eq_false]
      refine ⟨i,by rw [List.mem_range];show i < fr.length;omega,?_⟩
      show ¬(match fr[i]? with|some f=>frameB (shs sh) f (namers (sp.map (·.s)) 1 ((i:Nat):Int))|none=>true)=true
      rw [hf,hbyn]
      show ¬frameB (shs sh) f by_=true
      rw [hfb];simp
     rw [hff,Bool.false_and] at hfe
     rw [hfe]
     repeat' (first|refine yO ?_|(refine yM ?_;clear hS;intro g w' hS)|(refine yN ?_;clear hS;intro w' hS)|(refine yS ?_ ?_;all_goals (intro hb hp;try (exfalso;omega))))
     (focus (refine yD ?_;(repeat' (first|refine yP ?_|((with_reducible apply d_load);exact rfl;(intro wd hd;replace hd:St _ _ wd _:=hd;(with_reducible apply Loads.sl tabOk);exact rfl;exact hd.rowC0 4 rfl hrowN rfl);exact rfl)|(refine yF ?_;refine ⟨_,fun wd hd=>hfr _ (Bs.of (hd.blkC 3 rfl rfl)) (Bs.of (hd.blkC 2 rfl rfl)) (k1.now hd) (hSm _ _ hd (by repeat (first|exact List.mem_append_left _ hmem|apply List.mem_cons_of_mem))),?_⟩)));all_goals (refine yZ ?_;clear hS;intro w' hS)))
     repeat' ((refine yO ?_))
     refine yR1 ?_
     exact ⟨rfl,hS.sub (List.nil_sublist _)⟩
    |true=>
     rw [hfb] at hfr
     repeat' (first|refine yO ?_|(refine yM ?_;clear hS;intro g w' hS)|(refine yN ?_;clear hS;intro w' hS)|(refine yS ?_ ?_;all_goals (intro hb hp;try (exfalso;omega))))
     (focus (refine yD ?_;(repeat' (first|refine yP ?_|((with_reducible apply d_load);exact rfl;(intro wd hd;replace hd:St _ _ wd _:=hd;(with_reducible apply Loads.sl tabOk);exact rfl;exact hd.rowC0 4 rfl hrowN rfl);exact rfl)|(refine yF ?_;refine ⟨_,fun wd hd=>hfr _ (Bs.of (hd.blkC 3 rfl rfl)) (Bs.of (hd.blkC 2 rfl rfl)) (k1.now hd) (hSm _ _ hd (by repeat (first|exact List.mem_append_left _ hmem|apply List.mem_cons_of_mem))),?_⟩)));all_goals (refine yZ ?_;clear hS;intro w' hS)))
     repeat' ((refine yO ?_))
     refine q_loopK (i + 1) (by exact zS) ⟨by show i + 1≤nf;omega,fun j f' hj hf'=>?_⟩ hS.drop (by show nf - (i + 1) < nf - i;omega)
     rcases Nat.lt_succ_iff_lt_or_eq.1 hj with h|h
     ·exact hpre j f' h hf'
     ·subst h
      rw [hf] at hf'
      cases hf'
      rw [hbyn];exact hfb
   obtain rfl:i=nf:=by omega
   have hff:framesB ⟨shs sh,fr,sl,sp.map (·.s),hand⟩=true:=by
    unfold framesB
    rw [List.all_eq_true]
    intro j hj
    rw [List.mem_range] at hj
    dsimp only at hj
    obtain ⟨f,hf⟩:=lt_get (l:=fr) (i:=j) (by omega)
    show (match fr[j]? with|some f=>frameB (shs sh) f (namers (sp.map (·.s)) 1 ((j:Nat):Int))|none=>true)=true
    rw [hf]
    exact hpre j f (by have:=lt_of_getE hf;omega) hf
   rw [hff,Bool.true_and] at hfe
   rw [hfe]
   repeat' (first|refine yO ?_|(refine yS ?_ ?_;all_goals (intro hb hp;try (exfalso;omega))))
   refine c_loopK (X:=Nat) (fun x=>[(109,.int .i64 (x:Nat))]) [1,3,107,108] rfl (fun _=>[]) (fun x=>x≤ns∧∀ (j:Nat) f,j < x→sl[j]?=some f→slotB f (namers (sp.map (·.s)) 2 (j:Nat))=true) (fun x=>ns - x) 0 (by exact zS) ⟨Nat.zero_le _,fun j f h=>by omega⟩ hS ?_
   clear hS hpre hlt hi hb hp hH
   rintro i w5 ⟨hi,hpre⟩ hS
   dsimp only [List.cons_append,List.nil_append] at hi hpre hS ⊢
   by_cases hlt:i < ns
   rotate_left
   ·obtain rfl:i=ns:=by omega
    have hsf:slotsB ⟨shs sh,fr,sl,sp.map (·.s),hand⟩=true:=by
     unfold slotsB
     rw [List.all_eq_true]
     intro j hj
     rw [List.mem_range] at hj
     dsimp only at hj
     obtain ⟨f,hf⟩:=lt_get (l:=sl) (i:=j) (by omega)
     show (match sl[j]? with|some f=>slotB f (namers (sp.map (·.s)) 2 ((j:Nat):Int))|none=>true)=true
     rw [hf]
     exact hpre j f (by have:=lt_of_getE hf;omega) hf
    rw [hsf]
    repeat' (first|refine yO ?_|(refine yS ?_ ?_;all_goals (intro hb hp;try (exfalso;omega))))
    refine yR1 ?_
    exact ⟨rfl,hS.sub (List.nil_sublist _)⟩
   obtain ⟨f,hf⟩:=lt_get (l:=sl) (i:=i) (by omega)
   have hrow:=map_get (f:=swC) hf
   obtain ⟨b,off,rfl,hro⟩:=k3.at_ (i:=i) (by omega)
   obtain ⟨v,hv⟩:=hGS.2 i (.slice none 0 0,[]) (List.getElem?_replicate_of_lt hlt)
   rw [List.nil_append,allNm_filter] at hv
   have hmem:nsA (v,namers (sp.map (·.s)) 2 ((i:Nat):Int)) ∈ nlR NS:=List.mem_map.2 ⟨_,List.mem_of_getElem? hv,rfl⟩
   have hrowN:(nlC NS)[i]?=some [v]:=map_get (f:=fun (x:Value×List Nm)=>[x.1]) hv
   have hbad:slotB f (namers (sp.map (·.s)) 2 ((i:Nat):Int))=false→slotsB ⟨shs sh,fr,sl,sp.map (·.s),hand⟩=false:=fun h=>by
    unfold slotsB
    rw [List.all_eq_false]
    refine ⟨i,by rw [List.mem_range];show i < sl.length;omega,?_⟩
    show ¬(match sl[i]? with|some f=>slotB f (namers (sp.map (·.s)) 2 ((i:Nat):Int))|none=>true)=true
    rw [hf]
    show ¬slotB f (namers (sp.map (·.s)) 2 ((i:Nat):Int))=true
    rw [h];simp
   have hgood:slotB f (namers (sp.map (·.s)) 2 ((i:Nat):Int))=true→∀ (j:Nat) f,j < i + 1→sl[j]?=some f→slotB f (namers (sp.map (·.s)) 2 (j:Nat))=true:=fun hg j f' hj hf'=>by
    rcases Nat.lt_succ_iff_lt_or_eq.1 hj with h|h
    ·exact hpre j f' h hf'
    ·subst h
     rw [hf] at hf'
     cases hf'
     exact hg
   generalize hbyn:namers (sp.map (·.s)) 2 ((i:Nat):Int)=by_ at hmem hbad hgood hv
   have hSm:∀ wd Γd,St nF w wd Γd→nsA (v,by_) ∈ Γd→Sl nF wd 7 v (by_.map nmC):=fun wd Γd hd hm=>St.slMem hd hm
   obtain ⟨pv,cv,hvv⟩:=(hSm _ _ hS (by repeat (first|exact List.mem_append_right _ hmem|apply List.mem_cons_of_mem))).form
   subst hvv
   unfold swC at hrow
   cases by_ with
   |nil=>
    have e0:slotB f ([]:List Nm)=decide (f=sw0):=rfl
    rw [e0] at hbad hgood
    by_cases hz:f=sw0
    ·have hd:(!decide (f=sw0))=false:=by rw [decide_eq_true hz];rfl
     repeat' (first|refine yO ?_|(refine yM ?_;clear hS;intro g w' hS)|(refine yN ?_;clear hS;intro w' hS)|(refine yS ?_ ?_;all_goals (intro hb hp;try (exfalso;omega)))|((with_reducible apply l_load);exact rfl;((with_reducible apply Loads.sl tabOk);exact rfl;exact hS.rowC0 5 rfl hrowN rfl);exact rfl)|refine yX (eqSw f sw0) ?_)
     exact q_loopK (i + 1) (by exact zS) ⟨by show i + 1≤ns;omega,hgood (decide_eq_true hz)⟩ hS.drop (by show ns - (i + 1) < ns - i;omega)
    ·have hd:(!decide (f=sw0))=true:=by rw [decide_eq_false hz];rfl
     rw [hbad (decide_eq_false hz)]
     repeat' (first|refine yO ?_|(refine yM ?_;clear hS;intro g w' hS)|(refine yN ?_;clear hS;intro w' hS)|(refine yS ?_ ?_;all_goals (intro hb hp;try (exfalso;omega)))|((with_reducible apply l_load);exact rfl;((with_reducible apply Loads.sl tabOk);exact rfl;exact hS.rowC0 5 rfl hrowN rfl);exact rfl)|refine yX (eqSw f sw0) ?_)
     refine yR1 ?_
     exact ⟨rfl,hS.sub (List.nil_sublist _)⟩
   |cons n r=>
    have hal:=fun wd (h:Sl nF wd 7 (.slice pv ((n::r).map nmC).length cv) ((n::r).map nmC))=>alikeN_fn h rfl
    have e0:slotB f (n::r)=(decide (f.refs=((n::r).length:Int)∧f.data.length=16) && alikeN (n::r)):=rfl
    rw [e0] at hbad hgood
    clear e0
    have hml:((n::r).map nmC).length=(n::r).length:=List.length_map _
    have hm0:0 < (n::r).length:=Nat.succ_pos _
    have bnd:=(hSm _ _ hS (by repeat (first|exact List.mem_append_right _ hmem|apply List.mem_cons_of_mem))).bound
    rw [hml] at hal hrowN hSm hmem
    generalize hlen:(n::r).length=m at *
    by_cases h1:f.refs=(m:Int)
    rotate_left
    ·have hd:(!decide (f.refs=(m:Int)))=true:=by rw [decide_eq_false h1];rfl
     rw [hbad (by rw [decide_eq_false (fun h=>h1 h.1),Bool.false_and])]
     repeat' (first|refine yO ?_|(refine yM ?_;clear hS;intro g w' hS)|(refine yN ?_;clear hS;intro w' hS)|(refine yS ?_ ?_;all_goals (intro hb hp;try (exfalso;omega)))|((with_reducible apply l_load);exact rfl;((with_reducible apply Loads.sl tabOk);exact rfl;exact hS.rowC0 5 rfl hrowN rfl);exact rfl))
     refine yR1 ?_
     exact ⟨rfl,hS.sub (List.nil_sublist _)⟩
    have hd:(!decide (f.refs=(m:Int)))=false:=by rw [decide_eq_true h1];rfl
    by_cases h2:f.data.length=16
    rotate_left
    ·have hd2:(!decide ((f.data.length:Int)=16))=true:=by rw [decide_eq_false (by omega)];rfl
     rw [hbad (by rw [decide_eq_false (fun h=>h2 h.2),Bool.false_and])]
     repeat' (first|refine yO ?_|(refine yM ?_;clear hS;intro g w' hS)|(refine yN ?_;clear hS;intro w' hS)|(refine yS ?_ ?_;all_goals (intro hb hp;try (exfalso;omega)))|((with_reducible apply l_load);exact rfl;((with_reducible apply Loads.sl tabOk);exact rfl;exact hS.rowC0 5 rfl hrowN rfl);exact rfl))
     refine yR1 ?_
     exact ⟨rfl,hS.sub (List.nil_sublist _)⟩
    have hd2:(!decide ((f.data.length:Int)=16))=false:=by rw [decide_eq_true (by omega)];rfl
    rw [decide_eq_true ⟨h1,h2⟩,Bool.true_and] at hbad hgood
    cases ha:alikeN (n::r) with
    |false=>
     rw [ha] at hal hbad
     rw [hbad rfl]
     repeat' (first|refine yO ?_|(refine yM ?_;clear hS;intro g w' hS)|(refine yN ?_;clear hS;intro w' hS)|(refine yS ?_ ?_;all_goals (intro hb hp;try (exfalso;omega)))|((with_reducible apply l_load);exact rfl;((with_reducible apply Loads.sl tabOk);exact rfl;exact hS.rowC0 5 rfl hrowN rfl);exact rfl)|(refine yC ?_;refine ⟨_,hal _ (hSm _ _ hS (by repeat (first|exact List.mem_append_right _ hmem|apply List.mem_cons_of_mem))),?_⟩;clear hS;intro w' hS))
     refine yR1 ?_
     exact ⟨rfl,hS.sub (List.nil_sublist _)⟩
    |true=>
     rw [ha] at hal hgood
     repeat' (first|refine yO ?_|(refine yM ?_;clear hS;intro g w' hS)|(refine yN ?_;clear hS;intro w' hS)|(refine yS ?_ ?_;all_goals (intro hb hp;try (exfalso;omega)))|((with_reducible apply l_load);exact rfl;((with_reducible apply Loads.sl tabOk);exact rfl;exact hS.rowC0 5 rfl hrowN rfl);exact rfl)|(refine yC ?_;refine ⟨_,hal _ (hSm _ _ hS (by repeat (first|exact List.mem_append_right _ hmem|apply List.mem_cons_of_mem))),?_⟩;clear hS;intro w' hS))
     exact q_loopK (i + 1) (by exact zS) ⟨by show i + 1≤ns;omega,hgood rfl⟩ hS.drop (by show ns - (i + 1) < ns - i;omega)
end Go.Proofs.Ytejnpppejalhfac
/- Errors and faults of what is to be reached. -/
namespace Go.Proofs.Ytejnpppejalhfac
open Go.RowKit Go.Sort
def liveE (K:Ker) (space:Int):Int:=if checkK K=0 then (if 0≤space∧space < (K.spaces.length:Int)∧(scAt K space.toNat).live=true then 0 else 6) else checkK K
def reachE (K:Ker) (space size way:Int):Int:=if liveE K space=0 then (if size < 1∨8 < size then 3 else if way < 0∨2 < way then 10 else 0) else liveE K space
def fault1 (A:List Ar) (way at_:Int):Option (Int×Int):=match findA A (at_.tdiv 16) with
 |none=>some (1,at_)
 |some a=>if at_ < 0 then some (1,at_) else if (way=1∧¬(a.prot=1∨a.prot=3))∨(way=2∧a.prot < 2) then some (2,at_) else none
def faultK (A:List Ar) (addr size way:Int):Int×Int:=if way=2∧addr.tmod 8≠0 then (3,addr) else ((List.range size.toNat).findSome? fun i=>fault1 A way (addr + (i:Nat))).getD (0,0)
theorem fault1_none {A:List Ar} (hc:checkI A=0) {way at_:Int} (h:fault1 A way at_=none):16≤at_∧at_≤4095∧at_.tdiv 16=at_ / 16∧∃ a,findA A (at_ / 16)=some a:=by
 unfold fault1 at h
 cases hf:findA A (at_.tdiv 16) with
 |none=>rw [hf] at h;cases h
 |some a=>
  rw [hf] at h
  dsimp only at h
  by_cases h0:at_ < 0
  ·rw [if_pos h0] at h;cases h
  ·have e:at_.tdiv 16=at_ / 16:=Int.tdiv_eq_ediv_of_nonneg (by omega)
   rw [e] at hf
   have h1:=(good_pos hc hf).1
   have h2:=(good_pos hc hf).2
   have h3:=List.find?_some hf
   unfold holdsB Ar.fin at h3
   rw [decide_eq_true_eq] at h3
   unfold Ar.ok at h1
   exact ⟨by omega,by omega,e,a,hf⟩
theorem faultK_zero {A:List Ar} (hc:checkI A=0) {addr size way:Int} (h:(faultK A addr size way).1=0) (h1:1≤size):faultK A addr size way=(0,0)∧∀ i:Int,0≤i→i < size→fault1 A way (addr + i)=none:=by
 unfold faultK at h ⊢
 by_cases hw:way=2∧addr.tmod 8≠0
 ·rw [if_pos hw] at h;cases h
 ·rw [if_neg hw] at h ⊢
  cases hf:(List.range size.toNat).findSome? fun i=>fault1 A way (addr + (i:Nat)) with
  |some p=>
   rw [hf] at h
   dsimp only [Option.getD] at h
   exfalso
   obtain ⟨i,-,hi⟩:=List.exists_of_findSome?_eq_some hf
   unfold fault1 at hi
   split at hi
   ·cases hi;cases h
   ·split at hi
    ·cases hi;cases h
    ·split at hi
     ·cases hi;cases h
     ·cases hi
  |none=>
   refine ⟨rfl,fun i h1 h2=>?_⟩
   rw [List.findSome?_eq_none_iff] at hf
   have:=hf i.toNat (List.mem_range.2 (by omega))
   rwa [show ((i.toNat:Nat):Int)=i by omega] at this
end Go.Proofs.Ytejnpppejalhfac
/- kernel.begin, (*work).fault. -/
namespace Go.Proofs.Ytejnpppejalhfac
open Go.RowKit Go.Sort
def restA (k:KV):List Asr:=.row 97 3 k.vsh (shRow k.sh)::(k.sh.map fxA++k.sp.map arAp)
theorem restA_like {k k':KV} (h:KLike k k'):restA k'=restA k:=by
 unfold restA
 rw [h.sh,h.vsh]
 have:k'.sp.map arAp=k.sp.map arAp:=by
  have e:∀ l:List Sp,l.map arAp=(l.map fun p=>(p.va,p.s.areas)).map fun x=>Asr.row 71 4 x.1 (x.2.map arC):=fun l=>by rw [List.map_map];rfl
  rw [e,e,h.ar]
 rw [this]
theorem KRo.own {F:Nat→Prop} {w0 w:World} {g:Nat} {k:KV} {sp:Nat} {vh:Value} {held:List Nat} {Γ:List Asr} (hS:St F w0 w (wkS g k sp vh held++(restA k++Γ))):KRo (fps (wkS g k sp vh held)) w k:=by
 have hmem:∀ {e sz:Nat} {v:Value} {rows:List (List Value)},Asr.row e sz v rows ∈ restA k→Sl (fps (wkS g k sp vh held)) w sz v rows:=fun h=>by
  obtain ⟨j,hj⟩:=List.mem_iff_getElem?.1 (List.mem_append_left Γ h)
  exact hS.ownSl j hj
 refine ⟨⟨hmem List.mem_cons_self,fun p hp=>?_⟩,fun p hp=>?_⟩
 ·exact hmem (e:=100) (List.mem_cons_of_mem _ (List.mem_append_left _ (List.mem_map.2 ⟨p,hp,rfl⟩)))
 ·exact hmem (e:=71) (List.mem_cons_of_mem _ (List.mem_append_right _ (List.mem_map.2 ⟨p,hp,rfl⟩)))
theorem spA_perm (l:List Sp):(spA l).Perm (l.map arAp++l.map enAp):=by
 induction l with
 |nil=>exact List.Perm.refl _
 |cons p l ih=>
  show (arAp p::enAp p::spA l).Perm (arAp p::(l.map arAp++enAp p::l.map enAp))
  exact ((ih.cons _).trans List.perm_middle.symm).cons _
theorem kA_perm (k:KV):(kA k).Perm (frA k::slA k::spA0 k::(k.sp.map enAp++restA k)):=by
 unfold kA restA
 refine (List.Perm.swap _ _ _).trans (List.Perm.cons _ ?_)
 refine (List.Perm.swap _ _ _).trans (List.Perm.cons _ ?_)
 refine (List.Perm.swap _ _ _).trans (List.Perm.cons _ ?_)
 refine List.Perm.trans (List.Perm.cons _ ?_) List.perm_middle.symm
 refine ((spA_perm k.sp).append_left _).trans ?_
 rw [← List.append_assoc]
 exact List.perm_append_comm
theorem kv_bd {k:KV} (h:Right k.K):KBd k:=by
 have hc:=h.cnt
 have h1:k.K.frames.length=k.fr.length:=rfl
 have h2:k.K.slots.length=k.sl.length:=rfl
 have h3:k.K.spaces.length=k.sp.length:=List.length_map _
 have h4:k.K.sheets.length=k.sh.length:=List.length_map _
 refine ⟨by omega,by omega,by omega,by omega,fun x hx=>?_,fun p hp=>?_,fun p hp=>?_⟩
 ·have:=rightS_len ((riseB_all h.rise).1 x.1 (List.mem_map.2 ⟨x,hx,rfl⟩)).1
  omega
 ·have:=(right_bd h p.s (List.mem_map.2 ⟨p,hp,rfl⟩)).1.ar
  have:=(checkI_zero.1 this).1
  omega
 ·have:=(right_bd h p.s (List.mem_map.2 ⟨p,hp,rfl⟩)).2
  omega
set_option maxRecDepth 100000 in
set_option maxHeartbeats 8000000 in
theorem begin_fn {w:World} {k:KV} (hK:KerV w k) (space:Int):Fn Try.prog 10 [.agg (kvC k).toArray,.int .i64 space] w (fun v w'=>(liveE k.K space≠0∧v=.tuple #[.pointer none,.int .i64 (liveE k.K space)]∧St nF w w' [])∨∃ (g sp:Nat) (k':KV),liveE k.K space=0∧space=(sp:Nat)∧v=.tuple #[.pointer (some ⟨g,0,none⟩),.int .i64 0]∧k'.K=k.K∧St nF w w' (wkS g k' sp (.slice none 0 0) []++restA k')):=by
 have hchk:=fun w1 (h:KerV w1 k)=>checkKer_fn h
 by_cases hc0:checkK k.K=0
 rotate_left
 ·have hE:liveE k.K space=checkK k.K:=by unfold liveE;rw [if_neg hc0]
  rw [hE]
  have hd:decide (checkK k.K=0)=false:=decide_eq_false hc0
  generalize checkK k.K=c at hchk hc0 hE hd ⊢
  obtain ⟨sh,fr,sl,sps,hand,vsh,vfr,vsl,vsp⟩:=k
  have hK0:=hK
  obtain ⟨k1,k2,k3,k4,k5⟩:=hK
  dsimp only at k1 k2 k3 k4 k5
  obtain ⟨p1,c1,rfl⟩:=k1.sl.len
  obtain ⟨p2,c2,rfl⟩:=k2.len
  obtain ⟨p3,c3,rfl⟩:=k3.len
  obtain ⟨p4,c4,rfl⟩:=k4.len
  unfold kvC at hchk ⊢
  dsimp only at hchk ⊢
  refine yEn Try.func10 Try.ntmps10 ?_
  have hS:=St.start w
  repeat' (first|refine yO ?_|(refine yM ?_;clear hS;intro g w' hS)|(refine yS ?_ ?_;all_goals (intro hb hp;try (exfalso;omega)))|(refine yC ?_;refine ⟨_,hchk _ (hK0.now hS),?_⟩;clear hS;intro w' hS))
  refine yR2 ?_
  exact Or.inl ⟨hc0,rfl,hS.sub (List.nil_sublist _)⟩
 have hr:=right_iff.1 hc0
 have hown:=fun w1 (h:KerV w1 k)=>own_fn h (kv_bd hr)
 rw [hc0] at hchk
 have h4:=hr.cnt.2.2.2.2.1
 have hlE:liveE k.K space=if 0≤space∧space < (k.K.spaces.length:Int)∧(scAt k.K space.toNat).live=true then 0 else 6:=by unfold liveE;rw [if_pos hc0]
 have hK0:=hK
 have hKl:k.K.spaces.length=k.sp.length:=List.length_map _
 have hsc:∀ (i:Nat) x,k.sp[i]?=some x→scAt k.K i=x.s:=fun i x hx=>scAt_eq (kv_sp hx)
 rw [hKl] at hlE h4
 obtain ⟨lE,hlEq⟩:∃ e,e=liveE k.K space:=⟨_,rfl⟩
 rw [← hlEq] at hlE ⊢
 obtain ⟨sh,fr,sl,sps,hand,vsh,vfr,vsl,vsp⟩:=k
 obtain ⟨k1,k2,k3,k4,k5⟩:=hK
 dsimp only at k1 k2 k3 k4 k5 hlE h4 hsc
 obtain ⟨p1,c1,rfl⟩:=k1.sl.len
 obtain ⟨p2,c2,rfl⟩:=k2.len
 obtain ⟨p3,c3,rfl⟩:=k3.len
 obtain ⟨p4,c4,rfl⟩:=k4.len
 unfold kvC at hchk hown ⊢
 dsimp only at hchk hown ⊢
 by_cases hin:0≤space∧space < (sps.length:Int)
 rotate_left
 ·rw [if_neg (fun h=>hin ⟨h.1,h.2.1⟩)] at hlE
  subst hlE
  refine yEn Try.func10 Try.ntmps10 ?_
  have hS:=St.start w
  repeat' (first|refine yO ?_|(refine yM ?_;clear hS;intro g w' hS)|(refine yS ?_ ?_;all_goals (intro hb hp;try (exfalso;omega)))|(refine yC ?_;refine ⟨_,hchk _ (hK0.now hS),?_⟩;clear hS;intro w' hS))
  all_goals (apply q_ret2)
  all_goals ((repeat (first|exact ResL.nil|(apply ResL.tmp;exact rfl))))
  all_goals (exact Or.inl ⟨by omega,rfl,hS.sub (List.nil_sublist _)⟩)
 obtain ⟨i,rfl⟩:∃ i:Nat,space=(i:Nat):=⟨space.toNat,by omega⟩
 obtain ⟨x,hx⟩:=lt_get (l:=sps) (i:=i) (by omega)
 have hxs:=hsc i x hx
 have hrow:=map_get (f:=spC) hx
 obtain ⟨b,off,rfl,hro⟩:=k4.at_ (i:=i) (by omega)
 unfold spC at hrow
 rw [show (((i:Nat):Int)).toNat=i from rfl,hxs] at hlE
 cases hlv:x.s.live with
 |false=>
  rw [if_neg (fun h=>by rw [hlv] at h;cases h.2.2)] at hlE
  subst hlE
  rw [hlv] at hrow
  refine yEn Try.func10 Try.ntmps10 ?_
  have hS:=St.start w
  repeat' (first|refine yO ?_|(refine yM ?_;clear hS;intro g w' hS)|(refine yS ?_ ?_;all_goals (intro hb hp;try (exfalso;omega)))|(refine yC ?_;refine ⟨_,hchk _ (hK0.now hS),?_⟩;clear hS;intro w' hS))
  refine yR2 ?_
  exact Or.inl ⟨by omega,rfl,hS.sub (List.nil_sublist _)⟩
 |true=>
  rw [if_pos ⟨hin.1,hin.2,hlv⟩] at hlE
  subst hlE
  rw [hlv] at hrow
  refine yEn Try.func10 Try.ntmps10 ?_
  have hS:=St.start w
  repeat' (first|refine yO ?_|(refine yM ?_;clear hS;intro g w' hS)|(refine yS ?_ ?_;all_goals (intro hb hp;try (exfalso;omega)))|(refine yC ?_;refine ⟨_,hchk _ (hK0.now hS),?_⟩;clear hS;intro w' hS)|(refine yL ?_;refine ⟨_,hown _ (hK0.now hS),?_⟩;rintro _ w' ⟨k',rfl,hk',hS'⟩;(replace hS:=hS.trans hS');clear hS'))
  refine yR2 ?_
  refine Or.inr ⟨_,i,k',rfl,rfl,rfl,hk',?_⟩
  replace hS:St nF w w' (.blk _ (wkB k' i (.slice none 0 0))::(kA k'++[_])):=hS
  have h1:St nF w w' (.blk _ (wkB k' i (.slice none 0 0))::kA k'):=hS.sub (List.Sublist.cons_cons _ (List.sublist_append_left _ _))
  have h2:=(h1.perm ((kA_perm k').cons _)).addNil 3 1
  exact h2.perm (List.Perm.swap _ _ _)
end Go.Proofs.Ytejnpppejalhfac
/- (*work).fault. -/
namespace Go.Proofs.Ytejnpppejalhfac
open Go.RowKit Go.Sort
theorem faultK_hit {A:List Ar} {addr size way:Int} {i:Nat} {p:Int×Int} (h0:¬(way=2∧addr.tmod 8≠0)) (hi:(i:Int) < size) (hp:∀ j:Nat,j < i→fault1 A way (addr + (j:Nat))=none) (h:fault1 A way (addr + (i:Nat))=some p):faultK A addr size way=p:=by
 unfold faultK
 rw [if_neg h0]
 have:(List.range size.toNat).findSome? (fun i=>fault1 A way (addr + (i:Nat)))=some p:=by
  rw [List.findSome?_eq_some_iff]
  obtain ⟨m,hm⟩:∃ m,size.toNat=i + (m + 1):=⟨size.toNat - (i + 1),by omega⟩
  refine ⟨List.range i,i,(List.range' (i + 1) m),?_,h,fun j hj=>hp j (List.mem_range.1 hj)⟩
  rw [hm,List.range_eq_range',List.range_eq_range',← List.range'_append_1,Nat.zero_add,List.range'_succ]
 rw [this]
 rfl
theorem faultK_miss {A:List Ar} {addr size way:Int} (h0:¬(way=2∧addr.tmod 8≠0)) (hp:∀ j:Nat,(j:Int) < size→fault1 A way (addr + (j:Nat))=none):faultK A addr size way=(0,0):=by
 unfold faultK
 rw [if_neg h0]
 have:(List.range size.toNat).findSome? (fun i=>fault1 A way (addr + (i:Nat)))=none:=by
  rw [List.findSome?_eq_none_iff]
  intro i hi
  rw [List.mem_range] at hi
  exact hp i (by omega)
 rw [this]
 rfl
set_option maxRecDepth 100000 in
set_option maxHeartbeats 8000000 in
theorem wfault_fn {w:World} {g:Nat} {k:KV} {sp:Nat} {vh:Value} {held:List Nat} (hV:WkV w g k sp vh held) {x:Sp} (hx:k.sp[sp]?=some x) (hc:checkI x.s.areas=0) {addr size way:Int} (hb0:-9223372036854775808≤addr) (hb1:addr≤9223372036854775807) (hs1:1≤size) (hs8:size≤8) (hway:way=0∨way=1∨way=2):Fn Try.prog 65 [.pointer (some ⟨g,0,none⟩),.int .i64 addr,.int .i64 size,.int .i64 way] w (RBf (.agg #[.int .i64 (faultK x.s.areas addr size way).1,.int .i64 (faultK x.s.areas addr size way).2]) w):=by
 have hV0:=hV
 have hspc:=fun w1 (h:WkV w1 g k sp vh held)=>wspace_fn h (lt_of_getE hx)
 obtain ⟨c0,c1,c2,c3,c4,c5,c6,hh,⟨k1,k2,k3,k4,k5⟩⟩:=hV
 obtain ⟨bs,os,cs,hvsp⟩:=k4.form1 hx
 have hrowS:=map_get (f:=spC) hx
 have har:=(k5 x (List.mem_of_getElem? hx)).ar
 rw [hvsp] at hspc k4
 unfold elemP at hspc
 dsimp only at hspc
 unfold spC at hrowS
 have hfnd:=fun w1 (h:Sl nF w1 4 x.va (x.s.areas.map arC)) (p:Int)=>Find_fn p h
 obtain ⟨n,hn⟩:∃ n:Nat,size=(n:Nat):=⟨size.toNat,by omega⟩
 subst hn
 by_cases hal:way=2∧addr.tmod 8≠0
 ·have hF:faultK x.s.areas addr (n:Nat) way=(3,addr):=by unfold faultK;rw [if_pos hal]
  obtain ⟨rfl,hal2⟩:=hal
  have hd:decide (addr.tmod 8=0)=false:=decide_eq_false hal2
  refine yEn Try.func65 Try.ntmps65 ?_
  have hS:=St.start w
  repeat' (first|refine yO ?_|(refine yM ?_;clear hS;intro g w' hS)|(refine yN ?_;clear hS;intro w' hS)|(refine yS ?_ ?_;all_goals (intro hb hp;try (exfalso;omega)))|((with_reducible apply l_remT);exact rfl;exact rfl;omega;exact rfl))
  refine yR1 ?_
  exact ⟨by rw [hF],hS.sub (List.nil_sublist _)⟩
 obtain ⟨F,hF⟩:∃ F,F=faultK x.s.areas addr (n:Nat) way:=⟨_,rfl⟩
 rw [← hF]
 have hstep:∀ i:Nat,(∀ j:Nat,j < i→fault1 x.s.areas way (addr + (j:Nat))=none)→1≤i→addr≤4095∧16≤addr:=fun i h h1=>by
  have h2:=fault1_none hc (h 0 (by omega))
  have h3:addr + ((0:Nat):Int)=addr:=by omega
  rw [h3] at h2
  omega
 rcases hway with rfl|rfl|rfl
 ·refine yEn Try.func65 Try.ntmps65 ?_
  have hS:=St.start w
  repeat' (first|refine yO ?_|(refine yM ?_;clear hS;intro g w' hS))
  replace hS:St nF w w' (.blk _ [.int .i64 0,.int .i64 0]::[]):=hS
  refine c_count hS 23 [0,1,3,8,22] rfl (n) (fun i=>∀ j:Nat,j < i→fault1 x.s.areas 0 (addr + (j:Nat))=none) 0 rfl (Nat.zero_le _) (by (intros;omega)) ?_
  rintro i w1 hi hall hS'
  clear hS;have hS:=hS';clear hS'
  by_cases hlt:i < n
  rotate_left
  ·obtain rfl:i=n:=by omega
   have hff:F=(0,0):=hF.trans (faultK_miss hal (fun j hj=>hall j (by omega)))
   repeat' (first|refine yO ?_|(refine yN ?_;clear hS;intro w' hS)|(refine yS ?_ ?_;all_goals (intro hb hp;try (exfalso;omega))))
   refine yR1 ?_
   exact ⟨by rw [hff],hS.sub (List.nil_sublist _)⟩
  have hbd:-9223372036854775808≤addr + (i:Nat)∧addr + (i:Nat)≤9223372036854775807:=by
   by_cases h0:i=0
   ·subst h0;omega
   ·have:=hstep i hall (by omega);omega
  have hbd1:=hbd.1
  have hbd2:=hbd.2
  have hf2:=fun w1 h=>hfnd w1 h ((addr + (i:Nat)).tdiv 16)
  rw [findI_good hc] at hf2
  cases hfa:findA x.s.areas ((addr + (i:Nat)).tdiv 16) with
  |none=>
   rw [hfa] at hf2
   unfold FindV arC at hf2
   dsimp only [Option.getD,Option.isSome] at hf2
   by_cases hneg:addr + (i:Nat) < 0
   ·have hdn:decide (addr + ((i:Nat):Int) < 0)=true:=decide_eq_true hneg
    have hff:F=(1,addr + (i:Nat)):=hF.trans (faultK_hit hal (by omega) hall (by unfold fault1;rw [hfa]))
    repeat' (first|refine yO ?_|(refine yM ?_;clear hS;intro g w' hS)|(refine yN ?_;clear hS;intro w' hS)|(refine yS ?_ ?_;all_goals (intro hb hp;try (exfalso;omega)))|(refine yC ?_;refine ⟨_,hspc _ (hV0.now hS),?_⟩;clear hS;intro w' hS)|(refine yC1 ?_;refine ⟨_,hS.baseC (k4.cel hrowS rfl) id,?_⟩)|(refine yC ?_;refine ⟨_,hf2 _ (har.now hS),?_⟩;clear hS;intro w' hS)|((with_reducible apply l_quoT);exact rfl;exact rfl;omega;omega;omega;exact rfl))
    refine yR1 ?_
    exact ⟨by rw [hff],hS.sub (List.nil_sublist _)⟩
   ·have hdn:decide (addr + ((i:Nat):Int) < 0)=false:=decide_eq_false hneg
    have hff:F=(1,addr + (i:Nat)):=hF.trans (faultK_hit hal (by omega) hall (by unfold fault1;rw [hfa]))
    repeat' (first|refine yO ?_|(refine yM ?_;clear hS;intro g w' hS)|(refine yN ?_;clear hS;intro w' hS)|(refine yS ?_ ?_;all_goals (intro hb hp;try (exfalso;omega)))|(refine yC ?_;refine ⟨_,hspc _ (hV0.now hS),?_⟩;clear hS;intro w' hS)|(refine yC1 ?_;refine ⟨_,hS.baseC (k4.cel hrowS rfl) id,?_⟩)|(refine yC ?_;refine ⟨_,hf2 _ (har.now hS),?_⟩;clear hS;intro w' hS)|((with_reducible apply l_quoT);exact rfl;exact rfl;omega;omega;omega;exact rfl))
    refine yR1 ?_
    exact ⟨by rw [hff],hS.sub (List.nil_sublist _)⟩
  |some a=>
   rw [hfa] at hf2
   unfold FindV arC at hf2
   dsimp only [Option.getD,Option.isSome] at hf2
   by_cases hneg:addr + (i:Nat) < 0
   ·have hdn:decide (addr + ((i:Nat):Int) < 0)=true:=decide_eq_true hneg
    have hff:F=(1,addr + (i:Nat)):=hF.trans (faultK_hit hal (by omega) hall (by unfold fault1;rw [hfa];exact if_pos hneg))
    repeat' (first|refine yO ?_|(refine yM ?_;clear hS;intro g w' hS)|(refine yN ?_;clear hS;intro w' hS)|(refine yS ?_ ?_;all_goals (intro hb hp;try (exfalso;omega)))|(refine yC ?_;refine ⟨_,hspc _ (hV0.now hS),?_⟩;clear hS;intro w' hS)|(refine yC1 ?_;refine ⟨_,hS.baseC (k4.cel hrowS rfl) id,?_⟩)|(refine yC ?_;refine ⟨_,hf2 _ (har.now hS),?_⟩;clear hS;intro w' hS)|((with_reducible apply l_quoT);exact rfl;exact rfl;omega;omega;omega;exact rfl))
    refine yR1 ?_
    exact ⟨by rw [hff],hS.sub (List.nil_sublist _)⟩
   have hdn:decide (addr + ((i:Nat):Int) < 0)=false:=decide_eq_false hneg
   have hdv:(addr + ((i:Nat):Int)).tdiv 16=(addr + (i:Nat)) / 16:=Int.tdiv_eq_ediv_of_nonneg (by omega)
   have haok:a.ok:=(good_pos hc (by rw [hdv] at hfa;exact hfa)).1
   unfold Ar.ok at haok
   (skip)
   repeat' (first|refine yO ?_|(refine yM ?_;clear hS;intro g w' hS)|(refine yN ?_;clear hS;intro w' hS)|(refine yS ?_ ?_;all_goals (intro hb hp;try (exfalso;omega)))|(refine yC ?_;refine ⟨_,hspc _ (hV0.now hS),?_⟩;clear hS;intro w' hS)|(refine yC1 ?_;refine ⟨_,hS.baseC (k4.cel hrowS rfl) id,?_⟩)|(refine yC ?_;refine ⟨_,hf2 _ (har.now hS),?_⟩;clear hS;intro w' hS)|((with_reducible apply l_quoT);exact rfl;exact rfl;omega;omega;omega;exact rfl))
   have hnx:fault1 x.s.areas 0 (addr + (i:Nat))=none:=by
    unfold fault1
    rw [hfa]
    dsimp only
    rw [if_neg hneg,if_neg]
    omega
   exact q_count (i + 1) (by exact zS) (by omega) (fun j hj=>by
    by_cases e:j=i
    ·rw [e];exact hnx
    ·exact hall j (by omega)) (by omega) (hS.sub (by repeat (first|exact List.Sublist.refl _|apply List.Sublist.cons)))
 ·refine yEn Try.func65 Try.ntmps65 ?_
  have hS:=St.start w
  repeat' (first|refine yO ?_|(refine yM ?_;clear hS;intro g w' hS))
  replace hS:St nF w w' (.blk _ [.int .i64 0,.int .i64 0]::[]):=hS
  refine c_count hS 23 [0,1,3,8,22] rfl (n) (fun i=>∀ j:Nat,j < i→fault1 x.s.areas 1 (addr + (j:Nat))=none) 0 rfl (Nat.zero_le _) (by (intros;omega)) ?_
  rintro i w1 hi hall hS'
  clear hS;have hS:=hS';clear hS'
  by_cases hlt:i < n
  rotate_left
  ·obtain rfl:i=n:=by omega
   have hff:F=(0,0):=hF.trans (faultK_miss hal (fun j hj=>hall j (by omega)))
   repeat' (first|refine yO ?_|(refine yN ?_;clear hS;intro w' hS)|(refine yS ?_ ?_;all_goals (intro hb hp;try (exfalso;omega))))
   refine yR1 ?_
   exact ⟨by rw [hff],hS.sub (List.nil_sublist _)⟩
  have hbd:-9223372036854775808≤addr + (i:Nat)∧addr + (i:Nat)≤9223372036854775807:=by
   by_cases h0:i=0
   ·subst h0;omega
   ·have:=hstep i hall (by omega);omega
  have hbd1:=hbd.1
  have hbd2:=hbd.2
  have hf2:=fun w1 h=>hfnd w1 h ((addr + (i:Nat)).tdiv 16)
  rw [findI_good hc] at hf2
  cases hfa:findA x.s.areas ((addr + (i:Nat)).tdiv 16) with
  |none=>
   rw [hfa] at hf2
   unfold FindV arC at hf2
   dsimp only [Option.getD,Option.isSome] at hf2
   by_cases hneg:addr + (i:Nat) < 0
   ·have hdn:decide (addr + ((i:Nat):Int) < 0)=true:=decide_eq_true hneg
    have hff:F=(1,addr + (i:Nat)):=hF.trans (faultK_hit hal (by omega) hall (by unfold fault1;rw [hfa]))
    repeat' (first|refine yO ?_|(refine yM ?_;clear hS;intro g w' hS)|(refine yN ?_;clear hS;intro w' hS)|(refine yS ?_ ?_;all_goals (intro hb hp;try (exfalso;omega)))|(refine yC ?_;refine ⟨_,hspc _ (hV0.now hS),?_⟩;clear hS;intro w' hS)|(refine yC1 ?_;refine ⟨_,hS.baseC (k4.cel hrowS rfl) id,?_⟩)|(refine yC ?_;refine ⟨_,hf2 _ (har.now hS),?_⟩;clear hS;intro w' hS)|((with_reducible apply l_quoT);exact rfl;exact rfl;omega;omega;omega;exact rfl))
    refine yR1 ?_
    exact ⟨by rw [hff],hS.sub (List.nil_sublist _)⟩
   ·have hdn:decide (addr + ((i:Nat):Int) < 0)=false:=decide_eq_false hneg
    have hff:F=(1,addr + (i:Nat)):=hF.trans (faultK_hit hal (by omega) hall (by unfold fault1;rw [hfa]))
    repeat' (first|refine yO ?_|(refine yM ?_;clear hS;intro g w' hS)|(refine yN ?_;clear hS;intro w' hS)|(refine yS ?_ ?_;all_goals (intro hb hp;try (exfalso;omega)))|(refine yC ?_;refine ⟨_,hspc _ (hV0.now hS),?_⟩;clear hS;intro w' hS)|(refine yC1 ?_;refine ⟨_,hS.baseC (k4.cel hrowS rfl) id,?_⟩)|(refine yC ?_;refine ⟨_,hf2 _ (har.now hS),?_⟩;clear hS;intro w' hS)|((with_reducible apply l_quoT);exact rfl;exact rfl;omega;omega;omega;exact rfl))
    refine yR1 ?_
    exact ⟨by rw [hff],hS.sub (List.nil_sublist _)⟩
  |some a=>
   rw [hfa] at hf2
   unfold FindV arC at hf2
   dsimp only [Option.getD,Option.isSome] at hf2
   by_cases hneg:addr + (i:Nat) < 0
   ·have hdn:decide (addr + ((i:Nat):Int) < 0)=true:=decide_eq_true hneg
    have hff:F=(1,addr + (i:Nat)):=hF.trans (faultK_hit hal (by omega) hall (by unfold fault1;rw [hfa];exact if_pos hneg))
    repeat' (first|refine yO ?_|(refine yM ?_;clear hS;intro g w' hS)|(refine yN ?_;clear hS;intro w' hS)|(refine yS ?_ ?_;all_goals (intro hb hp;try (exfalso;omega)))|(refine yC ?_;refine ⟨_,hspc _ (hV0.now hS),?_⟩;clear hS;intro w' hS)|(refine yC1 ?_;refine ⟨_,hS.baseC (k4.cel hrowS rfl) id,?_⟩)|(refine yC ?_;refine ⟨_,hf2 _ (har.now hS),?_⟩;clear hS;intro w' hS)|((with_reducible apply l_quoT);exact rfl;exact rfl;omega;omega;omega;exact rfl))
    refine yR1 ?_
    exact ⟨by rw [hff],hS.sub (List.nil_sublist _)⟩
   have hdn:decide (addr + ((i:Nat):Int) < 0)=false:=decide_eq_false hneg
   have hdv:(addr + ((i:Nat):Int)).tdiv 16=(addr + (i:Nat)) / 16:=Int.tdiv_eq_ediv_of_nonneg (by omega)
   have haok:a.ok:=(good_pos hc (by rw [hdv] at hfa;exact hfa)).1
   unfold Ar.ok at haok
   (skip)
   have h1:=and1 (p:=a.prot) (by omega) (by omega)
   by_cases hp1:a.prot=1∨a.prot=3
   ·rw [if_pos hp1] at h1
    repeat' (first|refine yO ?_|(refine yM ?_;clear hS;intro g w' hS)|(refine yN ?_;clear hS;intro w' hS)|(refine yS ?_ ?_;all_goals (intro hb hp;try (exfalso;omega)))|(refine yC ?_;refine ⟨_,hspc _ (hV0.now hS),?_⟩;clear hS;intro w' hS)|(refine yC1 ?_;refine ⟨_,hS.baseC (k4.cel hrowS rfl) id,?_⟩)|(refine yC ?_;refine ⟨_,hf2 _ (har.now hS),?_⟩;clear hS;intro w' hS)|((with_reducible apply l_quoT);exact rfl;exact rfl;omega;omega;omega;exact rfl)|((with_reducible apply l_and);exact rfl;exact rfl;exact h1;exact rfl))
    have hnx:fault1 x.s.areas 1 (addr + (i:Nat))=none:=by
     unfold fault1
     rw [hfa]
     dsimp only
     rw [if_neg hneg,if_neg]
     omega
    exact q_count (i + 1) (by exact zS) (by omega) (fun j hj=>by
     by_cases e:j=i
     ·rw [e];exact hnx
     ·exact hall j (by omega)) (by omega) (hS.sub (by repeat (first|exact List.Sublist.refl _|apply List.Sublist.cons)))
   ·rw [if_neg hp1] at h1
    have hff:F=(2,addr + (i:Nat)):=hF.trans (faultK_hit hal (by omega) hall (by
     unfold fault1
     rw [hfa]
     dsimp only
     rw [if_neg hneg,if_pos]
     omega))
    repeat' (first|refine yO ?_|(refine yM ?_;clear hS;intro g w' hS)|(refine yN ?_;clear hS;intro w' hS)|(refine yS ?_ ?_;all_goals (intro hb hp;try (exfalso;omega)))|(refine yC ?_;refine ⟨_,hspc _ (hV0.now hS),?_⟩;clear hS;intro w' hS)|(refine yC1 ?_;refine ⟨_,hS.baseC (k4.cel hrowS rfl) id,?_⟩)|(refine yC ?_;refine ⟨_,hf2 _ (har.now hS),?_⟩;clear hS;intro w' hS)|((with_reducible apply l_quoT);exact rfl;exact rfl;omega;omega;omega;exact rfl)|((with_reducible apply l_and);exact rfl;exact rfl;exact h1;exact rfl))
    refine yR1 ?_
    exact ⟨by rw [hff],hS.sub (List.nil_sublist _)⟩
 ·refine yEn Try.func65 Try.ntmps65 ?_
  have hS:=St.start w
  repeat' (first|refine yO ?_|(refine yM ?_;clear hS;intro g w' hS)|(refine yS ?_ ?_;all_goals (intro hb hp;try (exfalso;omega)))|((with_reducible apply l_remT);exact rfl;exact rfl;omega;exact rfl))
  replace hS:St nF w w' (.blk _ [.int .i64 0,.int .i64 0]::[]):=hS
  refine c_count hS 23 [0,1,3,8,22] rfl (n) (fun i=>∀ j:Nat,j < i→fault1 x.s.areas 2 (addr + (j:Nat))=none) 0 rfl (Nat.zero_le _) (by (intros;omega)) ?_
  rintro i w1 hi hall hS'
  clear hS;have hS:=hS';clear hS'
  by_cases hlt:i < n
  rotate_left
  ·obtain rfl:i=n:=by omega
   have hff:F=(0,0):=hF.trans (faultK_miss hal (fun j hj=>hall j (by omega)))
   repeat' (first|refine yO ?_|(refine yN ?_;clear hS;intro w' hS)|(refine yS ?_ ?_;all_goals (intro hb hp;try (exfalso;omega))))
   refine yR1 ?_
   exact ⟨by rw [hff],hS.sub (List.nil_sublist _)⟩
  have hbd:-9223372036854775808≤addr + (i:Nat)∧addr + (i:Nat)≤9223372036854775807:=by
   by_cases h0:i=0
   ·subst h0;omega
   ·have:=hstep i hall (by omega);omega
  have hbd1:=hbd.1
  have hbd2:=hbd.2
  have hf2:=fun w1 h=>hfnd w1 h ((addr + (i:Nat)).tdiv 16)
  rw [findI_good hc] at hf2
  cases hfa:findA x.s.areas ((addr + (i:Nat)).tdiv 16) with
  |none=>
   rw [hfa] at hf2
   unfold FindV arC at hf2
   dsimp only [Option.getD,Option.isSome] at hf2
   by_cases hneg:addr + (i:Nat) < 0
   ·have hdn:decide (addr + ((i:Nat):Int) < 0)=true:=decide_eq_true hneg
    have hff:F=(1,addr + (i:Nat)):=hF.trans (faultK_hit hal (by omega) hall (by unfold fault1;rw [hfa]))
    repeat' (first|refine yO ?_|(refine yM ?_;clear hS;intro g w' hS)|(refine yN ?_;clear hS;intro w' hS)|(refine yS ?_ ?_;all_goals (intro hb hp;try (exfalso;omega)))|(refine yC ?_;refine ⟨_,hspc _ (hV0.now hS),?_⟩;clear hS;intro w' hS)|(refine yC1 ?_;refine ⟨_,hS.baseC (k4.cel hrowS rfl) id,?_⟩)|(refine yC ?_;refine ⟨_,hf2 _ (har.now hS),?_⟩;clear hS;intro w' hS)|((with_reducible apply l_quoT);exact rfl;exact rfl;omega;omega;omega;exact rfl))
    refine yR1 ?_
    exact ⟨by rw [hff],hS.sub (List.nil_sublist _)⟩
   ·have hdn:decide (addr + ((i:Nat):Int) < 0)=false:=decide_eq_false hneg
    have hff:F=(1,addr + (i:Nat)):=hF.trans (faultK_hit hal (by omega) hall (by unfold fault1;rw [hfa]))
    repeat' (first|refine yO ?_|(refine yM ?_;clear hS;intro g w' hS)|(refine yN ?_;clear hS;intro w' hS)|(refine yS ?_ ?_;all_goals (intro hb hp;try (exfalso;omega)))|(refine yC ?_;refine ⟨_,hspc _ (hV0.now hS),?_⟩;clear hS;intro w' hS)|(refine yC1 ?_;refine ⟨_,hS.baseC (k4.cel hrowS rfl) id,?_⟩)|(refine yC ?_;refine ⟨_,hf2 _ (har.now hS),?_⟩;clear hS;intro w' hS)|((with_reducible apply l_quoT);exact rfl;exact rfl;omega;omega;omega;exact rfl))
    refine yR1 ?_
    exact ⟨by rw [hff],hS.sub (List.nil_sublist _)⟩
  |some a=>
   rw [hfa] at hf2
   unfold FindV arC at hf2
   dsimp only [Option.getD,Option.isSome] at hf2
   by_cases hneg:addr + (i:Nat) < 0
   ·have hdn:decide (addr + ((i:Nat):Int) < 0)=true:=decide_eq_true hneg
    have hff:F=(1,addr + (i:Nat)):=hF.trans (faultK_hit hal (by omega) hall (by unfold fault1;rw [hfa];exact if_pos hneg))
    repeat' (first|refine yO ?_|(refine yM ?_;clear hS;intro g w' hS)|(refine yN ?_;clear hS;intro w' hS)|(refine yS ?_ ?_;all_goals (intro hb hp;try (exfalso;omega)))|(refine yC ?_;refine ⟨_,hspc _ (hV0.now hS),?_⟩;clear hS;intro w' hS)|(refine yC1 ?_;refine ⟨_,hS.baseC (k4.cel hrowS rfl) id,?_⟩)|(refine yC ?_;refine ⟨_,hf2 _ (har.now hS),?_⟩;clear hS;intro w' hS)|((with_reducible apply l_quoT);exact rfl;exact rfl;omega;omega;omega;exact rfl))
    refine yR1 ?_
    exact ⟨by rw [hff],hS.sub (List.nil_sublist _)⟩
   have hdn:decide (addr + ((i:Nat):Int) < 0)=false:=decide_eq_false hneg
   have hdv:(addr + ((i:Nat):Int)).tdiv 16=(addr + (i:Nat)) / 16:=Int.tdiv_eq_ediv_of_nonneg (by omega)
   have haok:a.ok:=(good_pos hc (by rw [hdv] at hfa;exact hfa)).1
   unfold Ar.ok at haok
   (skip)
   have h1:=and2 (p:=a.prot) (by omega) (by omega)
   by_cases hp1:2≤a.prot
   ·rw [if_pos hp1] at h1
    repeat' (first|refine yO ?_|(refine yM ?_;clear hS;intro g w' hS)|(refine yN ?_;clear hS;intro w' hS)|(refine yS ?_ ?_;all_goals (intro hb hp;try (exfalso;omega)))|(refine yC ?_;refine ⟨_,hspc _ (hV0.now hS),?_⟩;clear hS;intro w' hS)|(refine yC1 ?_;refine ⟨_,hS.baseC (k4.cel hrowS rfl) id,?_⟩)|(refine yC ?_;refine ⟨_,hf2 _ (har.now hS),?_⟩;clear hS;intro w' hS)|((with_reducible apply l_quoT);exact rfl;exact rfl;omega;omega;omega;exact rfl)|((with_reducible apply l_and);exact rfl;exact rfl;exact h1;exact rfl))
    have hnx:fault1 x.s.areas 2 (addr + (i:Nat))=none:=by
     unfold fault1
     rw [hfa]
     dsimp only
     rw [if_neg hneg,if_neg]
     omega
    exact q_count (i + 1) (by exact zS) (by omega) (fun j hj=>by
     by_cases e:j=i
     ·rw [e];exact hnx
     ·exact hall j (by omega)) (by omega) (hS.sub (by repeat (first|exact List.Sublist.refl _|apply List.Sublist.cons)))
   ·rw [if_neg hp1] at h1
    have hff:F=(2,addr + (i:Nat)):=hF.trans (faultK_hit hal (by omega) hall (by
     unfold fault1
     rw [hfa]
     dsimp only
     rw [if_neg hneg,if_pos]
     omega))
    repeat' (first|refine yO ?_|(refine yM ?_;clear hS;intro g w' hS)|(refine yN ?_;clear hS;intro w' hS)|(refine yS ?_ ?_;all_goals (intro hb hp;try (exfalso;omega)))|(refine yC ?_;refine ⟨_,hspc _ (hV0.now hS),?_⟩;clear hS;intro w' hS)|(refine yC1 ?_;refine ⟨_,hS.baseC (k4.cel hrowS rfl) id,?_⟩)|(refine yC ?_;refine ⟨_,hf2 _ (har.now hS),?_⟩;clear hS;intro w' hS)|((with_reducible apply l_quoT);exact rfl;exact rfl;omega;omega;omega;exact rfl)|((with_reducible apply l_and);exact rfl;exact rfl;exact h1;exact rfl))
    refine yR1 ?_
    exact ⟨by rw [hff],hS.sub (List.nil_sublist _)⟩
end Go.Proofs.Ytejnpppejalhfac
/- kernel.reach. -/
namespace Go.Proofs.Ytejnpppejalhfac
open Go.RowKit Go.Sort
theorem WkV.own {F:Nat→Prop} {w0 w:World} {g:Nat} {k:KV} {sp:Nat} {vh:Value} {held:List Nat} {Γ:List Asr} (hS:St F w0 w (wkS g k sp vh held++(restA k++Γ))):WkV w g k sp vh held :=
 WkV.of (Γ:=[]) (by rw [List.append_nil];exact St.startM hS) (KRo.own hS)
theorem reach_at {K:Ker} {space size way addr:Int} {sp:Nat} (h0:reachE K space size way=0) (hsp:space=(sp:Nat)) (hF:(faultK (areasOf K sp) addr size way).1=0):Right K∧1≤size∧size≤8∧(way=0∨way=1∨way=2)∧16≤addr∧addr + size≤4096∧∀ i,0≤i→i < size→At K sp ((addr + i) / 16):=by
 unfold reachE at h0
 by_cases hl:liveE K space=0
 rotate_left
 ·rw [if_neg hl] at h0;exact absurd h0 hl
 rw [if_pos hl] at h0
 by_cases h1:size < 1∨8 < size
 ·rw [if_pos h1] at h0;cases h0
 rw [if_neg h1] at h0
 by_cases h2:way < 0∨2 < way
 ·rw [if_pos h2] at h0;cases h0
 unfold liveE at hl
 by_cases h3:checkK K=0
 rotate_left
 ·rw [if_neg h3] at hl;exact absurd hl h3
 rw [if_pos h3] at hl
 have hr:=right_iff.1 h3
 subst hsp
 by_cases h4:0≤((sp:Nat):Int)∧((sp:Nat):Int) < (K.spaces.length:Int)∧(scAt K ((sp:Nat):Int).toNat).live=true
 rotate_left
 ·rw [if_neg h4] at hl;cases hl
 obtain ⟨-,hlt,hlv⟩:=h4
 have hsl:sp < K.spaces.length:=by omega
 have hs:=List.getElem?_eq_getElem hsl
 have hsc:=(right_bd hr _ (List.mem_of_getElem? hs)).1
 have hA:areasOf K sp=K.spaces[sp].areas:=by unfold areasOf;rw [scAt_eq hs]
 have hc:checkI (areasOf K sp)=0:=by rw [hA];exact hsc.ar
 obtain ⟨-,hno⟩:=faultK_zero hc hF (by omega)
 have hf0:=fault1_none hc (hno 0 (by omega) (by omega))
 have hf1:=fault1_none hc (hno (size - 1) (by omega) (by omega))
 refine ⟨hr,by omega,by omega,by omega,by omega,by omega,fun i hi1 hi2=>⟨hlv,?_⟩⟩
 obtain ⟨-,-,-,a,ha⟩:=fault1_none hc (hno i hi1 hi2)
 rw [ha]
 rfl
def faultV (F:Int×Int):Value:=.agg #[.int .i64 F.1,.int .i64 F.2]
set_option maxRecDepth 100000 in
set_option maxHeartbeats 8000000 in
theorem reach_fn {w:World} {k:KV} (hK:KerV w k) {space addr size way:Int} (hb0:-9223372036854775808≤addr) (hb1:addr≤9223372036854775807):Fn Try.prog 39 [.agg (kvC k).toArray,.int .i64 space,.int .i64 addr,.int .i64 size,.int .i64 way] w (fun v w'=>
  (reachE k.K space size way≠0∧v=.tuple #[.pointer none,faultV (0,0),.int .i64 (reachE k.K space size way)]∧St nF w w' []) ∨
  (reachE k.K space size way=0∧(faultK (areasOf k.K space.toNat) addr size way).1≠0∧v=.tuple #[.pointer none,faultV (faultK (areasOf k.K space.toNat) addr size way),.int .i64 0]∧St nF w w' []) ∨
  ∃ (g sp:Nat) (k':KV) (vh:Value) (held:List Nat),reachE k.K space size way=0∧(faultK (areasOf k.K space.toNat) addr size way).1=0∧space=(sp:Nat)∧v=.tuple #[.pointer (some ⟨g,0,none⟩),faultV (0,0),.int .i64 0]∧k'.K=reachK k.K sp addr size (decide (way=1))∧St nF w w' (wkS g k' sp vh held++restA k')):=by
 have hbeg:=fun w1 (h:KerV w1 k)=>begin_fn h space
 have hK0:=hK
 obtain ⟨RE,hRE⟩:∃ e,e=reachE k.K space size way:=⟨_,rfl⟩
 rw [← hRE]
 unfold reachE at hRE
 obtain ⟨sh,fr,sl,sps,hand,vsh,vfr,vsl,vsp⟩:=k
 obtain ⟨k1,k2,k3,k4,k5⟩:=hK
 dsimp only at k1 k2 k3 k4 k5
 obtain ⟨p1,c1,rfl⟩:=k1.sl.len
 obtain ⟨p2,c2,rfl⟩:=k2.len
 obtain ⟨p3,c3,rfl⟩:=k3.len
 obtain ⟨p4,c4,rfl⟩:=k4.len
 generalize hKK:KV.K ⟨sh,fr,sl,sps,hand,.slice p1 sh.length c1,.slice p2 fr.length c2,.slice p3 sl.length c3,.slice p4 sps.length c4⟩=K at hbeg hRE ⊢
 unfold faultV
 dsimp only
 have hpre:∀ w1 Γ1,St nF w w1 Γ1→KerV w1 ⟨sh,fr,sl,sps,hand,.slice p1 sh.length c1,.slice p2 fr.length c2,.slice p3 sl.length c3,.slice p4 sps.length c4⟩:=fun w1 Γ1 h=>hK0.now h
 unfold kvC at hbeg ⊢
 dsimp only at hbeg ⊢
 refine yEn Try.func39 Try.ntmps39 ?_
 have hS:=St.start w
 repeat' (first|refine yO ?_|(refine yM ?_;clear hS;intro g w' hS))
 refine l_call rfl rfl (hbeg _ (hpre _ _ hS)) rfl ?_
 rintro v w2 (⟨he,rfl,hS'⟩|⟨gw,sp,k',he,hsp,rfl,hk',hS'⟩)
 ·replace hS:=hS.transA hS'
  simp only [appA] at hS
  rw [if_neg he] at hRE
  have hd:decide (liveE K space=0)=false:=decide_eq_false he
  rw [← hRE] at he hd ⊢
  repeat' (first|refine yO ?_|(refine yN ?_;clear hS;intro w' hS)|(refine yS ?_ ?_;all_goals (intro hb hp;try (exfalso;omega))))
  refine yR3 ?_
  exact Or.inl ⟨he,rfl,hS.sub (List.nil_sublist _)⟩
 rw [if_pos he] at hRE
 replace hS:=hS.trans hS'
 clear hS' hbeg
 replace hS:=hS.perm List.perm_append_comm
 dsimp only [List.cons_append,List.nil_append] at hS
 have hsub:∀ {w1 L},St nF w w1 L→St nF w w1 []:=fun h=>h.sub (List.nil_sublist _)
 by_cases h1:size < 1∨8 < size
 ·rw [if_pos h1] at hRE
  subst hRE
  repeat' (first|refine yO ?_|(refine yN ?_;clear hS;intro w' hS)|(refine yS ?_ ?_;all_goals (intro hb hp;try (exfalso;omega))))
  all_goals (apply q_ret3)
  all_goals ((repeat (first|exact ResL.nil|(apply ResL.tmp;exact rfl)|(apply ResL.cell;exact rfl;exact zLd))))
  all_goals (exact Or.inl ⟨by omega,rfl,hsub hS⟩)
 rw [if_neg h1] at hRE
 by_cases h2:way < 0∨2 < way
 ·rw [if_pos h2] at hRE
  subst hRE
  repeat' (first|refine yO ?_|(refine yN ?_;clear hS;intro w' hS)|(refine yS ?_ ?_;all_goals (intro hb hp;try (exfalso;omega))))
  all_goals (apply q_ret3)
  all_goals ((repeat (first|exact ResL.nil|(apply ResL.tmp;exact rfl)|(apply ResL.cell;exact rfl;exact zLd))))
  all_goals (exact Or.inl ⟨by omega,rfl,hsub hS⟩)
 rw [if_neg h2] at hRE
 have hRE0:reachE K space size way=0:=by unfold reachE;rw [if_pos he,if_neg h1,if_neg h2]
 subst hsp
 rw [show (((sp:Nat):Int)).toNat=sp from rfl]
 have hr:Right k'.K:=by
  rw [hk']
  unfold liveE at he
  by_cases h3:checkK K=0
  ·exact right_iff.1 h3
  ·rw [if_neg h3] at he;exact absurd he h3
 obtain ⟨x,hx⟩:∃ x,k'.sp[sp]?=some x:=by
  unfold liveE at he
  by_cases h3:checkK K=0
  ·rw [if_pos h3] at he
   by_cases h4:0≤((sp:Nat):Int)∧((sp:Nat):Int) < (K.spaces.length:Int)∧(scAt K ((sp:Nat):Int).toNat).live=true
   ·have:K.spaces.length=k'.sp.length:=by rw [← hk'];exact List.length_map _
    exact lt_get (by omega)
   ·rw [if_neg h4] at he;cases he
  ·rw [if_neg h3] at he;exact absurd he h3
 have hxA:areasOf K sp=x.s.areas:=by rw [← hk'];unfold areasOf;rw [scAt_eq (kv_sp hx)]
 have hsc:=(right_bd hr x.s (List.mem_of_getElem? (kv_sp hx))).1
 obtain ⟨F,hF⟩:∃ F,F=faultK (areasOf K sp) addr size way:=⟨_,rfl⟩
 have hflt:=fun w1 vh held Γ1 (h:St nF w w1 (wkS gw k' sp vh held++(restA k'++Γ1)))=>wfault_fn (WkV.own h) hx hsc.ar hb0 hb1 (size:=size) (way:=way) (by omega) (by omega) (by omega)
 rw [← hxA,← hF] at hflt
 rw [← hF]
 have hback:∀ {w1 a b},St nF w w1 (a::b::(wkS gw k' sp (.slice none 0 0) []++restA k'))→St nF w w1 (wkS gw k' sp (.slice none 0 0) []++(restA k'++[a,b])):=fun h=>by
  rw [← List.append_assoc]
  exact h.perm (List.perm_append_comm (l₁:=[_,_]))
 by_cases hF0:F.1=0
 rotate_left
 ·have hd:decide (F.1=0)=false:=decide_eq_false hF0
  repeat' (first|refine yO ?_|(refine yM ?_;clear hS;intro g w' hS)|(refine yN ?_;clear hS;intro w' hS)|(refine yS ?_ ?_;all_goals (intro hb hp;try (exfalso;omega)))|(refine yC ?_;refine ⟨_,hflt _ _ _ _ (hback hS),?_⟩;clear hS;intro w' hS))
  (focus (refine yW (nn 2) ?_;(repeat' ((refine yP ?_)));all_goals (refine yZ ?_;clear hS;intro w' hS)))
  repeat' (first|refine yO ?_|(refine yN ?_;clear hS;intro w' hS))
  refine yR3 ?_
  exact Or.inr (Or.inl ⟨hRE,hF0,rfl,hsub hS⟩)
 have hd:decide (F.1=0)=true:=decide_eq_true hF0
 obtain ⟨-,hs1,hs8,hwy,ha16,ha4,hAt⟩:=reach_at hRE0 rfl (by rw [← hF];exact hF0)
 repeat' (first|refine yO ?_|(refine yM ?_;clear hS;intro g w' hS)|(refine yN ?_;clear hS;intro w' hS)|(refine yS ?_ ?_;all_goals (intro hb hp;try (exfalso;omega)))|(refine yC ?_;refine ⟨_,hflt _ _ _ _ (hback hS),?_⟩;clear hS;intro w' hS)|((with_reducible apply l_quo);exact rfl;exact rfl;omega;omega;omega;exact rfl))
 replace hS:=hS.sub (List.Sublist.cons _ (List.Sublist.cons_cons _ (List.Sublist.cons _ (List.Sublist.refl _))))
 obtain ⟨B,hB⟩:∃ B,B=bringK K sp (addr / 16) (decide (way=1)) []:=⟨_,rfl⟩
 obtain ⟨C,hC⟩:∃ C,C=bringK B.1 sp ((addr + size - 1) / 16) (decide (way=1)) [B.2]:=⟨_,rfl⟩
 have hrK:reachK K sp addr size (decide (way=1))=if (addr + size - 1) / 16=addr / 16 then B.1 else C.1:=by unfold reachK;rw [← hB,← hC]
 refine c_loopK (F:=nF) (w0:=w) (X:=Nat×KV×Value×List Nat) (fun x=>[(16,.int .i64 (addr / 16 + (x.1:Nat)))]) [2,3,4,11,13] rfl (fun x=>.blk _ [.int .i64 0,.int .i64 0]::(wkS gw x.2.1 sp x.2.2.1 x.2.2.2++restA k')) (Γ:=[]) (fun x=>KLike k' x.2.1∧((x.1=0∧x.2.1.K=K∧x.2.2.2=[])∨(x.1=1∧x.2.1.K=B.1∧x.2.2.2=[B.2])∨(x.1=2∧(addr + size - 1) / 16≠addr / 16∧x.2.1.K=C.1))) (fun x=>2 - x.1) (0,k',.slice none 0 0,[]) (by dsimp only;rw [show addr / 16 + ((0:Nat):Int)=addr / 16 by omega];exact zS) ⟨KLike.refl _,Or.inl ⟨rfl,hk',rfl⟩⟩ (by rw [List.append_nil];exact hS) ?_
 clear hS
 rintro ⟨r,k2,vh2,hd2⟩ w3 ⟨hl2,hcase⟩ hS
 dsimp only at hl2 hcase hS ⊢
 rw [List.append_nil] at hS
 rw [← restA_like hl2] at hS
 have hwrap:∀ {w1 a L R},St nF w w1 (a::(L++R))→St nF w w1 (L++(R++[a])):=fun h=>by
  rw [← List.append_assoc]
  exact h.perm (List.perm_append_singleton _ _).symm
 have hwrap2:∀ {w1 a L R},St nF w w1 (L++(R++[a]))→St nF w w1 (a::(L++R)):=fun h=>by
  rw [← List.append_assoc] at h
  exact h.perm (List.perm_append_singleton _ _)
 dsimp only [List.cons_append,List.nil_append]
 by_cases hmore:addr / 16 + (r:Nat)≤(addr + size - 1) / 16
 rotate_left
 ·have hd3:decide (addr / 16 + ((r:Nat):Int)≤(addr + size - 1) / 16)=false:=decide_eq_false hmore
  have hK2:k2.K=reachK K sp addr size (decide (way=1)):=by
   rw [hrK]
   rcases hcase with ⟨rfl,-,-⟩|⟨rfl,h3,-⟩|⟨rfl,h3,h4⟩
   ·omega
   ·rw [if_pos (by omega),h3]
   ·rw [if_neg h3,h4]
  repeat' (first|refine yO ?_|(refine yN ?_;clear hS;intro w' hS)|((with_reducible apply l_quo);exact rfl;exact rfl;omega;omega;omega;exact rfl))
  refine yR3 ?_
  exact Or.inr (Or.inr ⟨gw,sp,k2,vh2,hd2,hRE,hF0,rfl,rfl,hK2,hS.drop⟩)
 have hd3:decide (addr / 16 + ((r:Nat):Int)≤(addr + size - 1) / 16)=true:=decide_eq_true hmore
 rcases hcase with ⟨rfl,h3,rfl⟩|⟨rfl,h3,rfl⟩|⟨rfl,h3,h4⟩
 ·have hp:=hAt 0 (by omega) (by omega)
  rw [Int.add_zero] at hp
  have hr2:Right k2.K:=by rw [h3,← hk'];exact hr
  have hbr:=fun w1 Γ1 (h:St nF w w1 (wkS gw k2 sp vh2 []++(restA k2++Γ1)))=>wbring_fn h (KRo.own h) hr2 (page:=addr / 16) (by rw [h3];exact hp) (decide (way=1)) (by simp) (by simp)
  rw [h3,← hB] at hbr
  rw [show addr / 16 + ((0:Nat):Int)=addr / 16 by omega] at hd3 ⊢
  repeat' (first|refine yO ?_|((with_reducible apply l_quo);exact rfl;exact rfl;omega;omega;omega;exact rfl))
  replace hS:=hwrap hS
  repeat' (first|refine yO ?_|(refine yL ?_;refine ⟨_,hbr _ _ hS,?_⟩;rintro _ w4 ⟨rfl,k3,vh3,e3,l3,h4⟩;(replace hS:=hwrap2 (St.transM hS h4));clear h4))
  rw [restA_like hl2] at hS
  exact q_loopK (1,k3,vh3,[B.2]) (by dsimp only;rw [show addr / 16 + ((1:Nat):Int)=addr / 16 + 1 by omega];exact zS) ⟨hl2.trans l3,Or.inr (Or.inl ⟨rfl,e3,rfl⟩)⟩ (by rw [List.append_nil];exact hS) (by show 2 - 1 < 2 - 0;omega)
 ·have hp:=hAt 0 (by omega) (by omega)
  rw [Int.add_zero] at hp
  have hp2:=hAt (size - 1) (by omega) (by omega)
  rw [show addr + (size - 1)=addr + size - 1 by omega] at hp2
  have hpg:(addr + size - 1) / 16=addr / 16 + ((1:Nat):Int):=by omega
  have hbo:=(bringK_ok (by rw [← hk'];exact hr) hp (decide (way=1)) (held:=[]) (by simp) (by simp)).1
  rw [← hB] at hbo
  have hr2:Right k2.K:=by rw [h3];exact hbo.right
  have hbr:=fun w1 Γ1 (h:St nF w w1 (wkS gw k2 sp vh2 [B.2]++(restA k2++Γ1)))=>wbring_fn h (KRo.own h) hr2 (page:=(addr + size - 1) / 16) (by rw [h3];exact hp2.same hbo.same.ar hbo.same.live) (decide (way=1)) (by simp) (fun i hi=>by
   rw [List.mem_singleton] at hi
   subst hi
   exact ⟨addr / 16,by omega,by rw [h3];exact hbo.ent⟩)
  rw [h3,← hC,hpg] at hbr
  repeat' (first|refine yO ?_|((with_reducible apply l_quo);exact rfl;exact rfl;omega;omega;omega;exact rfl))
  replace hS:=hwrap hS
  repeat' (first|refine yO ?_|(refine yL ?_;refine ⟨_,hbr _ _ hS,?_⟩;rintro _ w4 ⟨rfl,k3,vh3,e3,l3,h4⟩;(replace hS:=hwrap2 (St.transM hS h4));clear h4))
  rw [restA_like hl2] at hS
  exact q_loopK (2,k3,vh3,_) (by dsimp only;rw [show addr / 16 + ((2:Nat):Int)=addr / 16 + ((1:Nat):Int) + 1 by omega];exact zS) ⟨hl2.trans l3,Or.inr (Or.inr ⟨rfl,by omega,e3⟩)⟩ (by rw [List.append_nil];exact hS) (by show 2 - 2 < 2 - 1;omega)
 ·exfalso;omega
end Go.Proofs.Ytejnpppejalhfac
/- THE STEP CALCULUS, part 27: pointers held against nil; a call of a closure that turns what is one's own. -/
namespace Go.Proofs.Ytejnpppejalhfac
open Go.RowKit Go.Sort
section
variable {P:Program} {n:Nat} {ds:List Deferred} {E:Fr} {w w':World} {Q:Exit→Act→World→Prop} {ops:Array Oper} {rest:List Oper} {d:Nat} {dst:Option Nat} {ty:TypeId} {pos:String} {after:Array Edge} {F:Nat→Prop} {w0:World} {Γ:List Asr} {T:Tab}
theorem r_eqPtr {t yt:TypeId} {x y:Operand} {p:Option Addr} (ht:P.underlying t=some (.pointer (P.pointee t))) (hx:E.ev x=some (.pointer p)) (hy:E.ev y=some (.pointer none)):∀ a,Has n ds a E→∀ dst,Runs P ⟨dst,.binOp .eql t x y yt,ty,pos,after,none⟩ a (.bool p.isNone):=fun a ha _ w=>by
 have e:=run_eql_pointer_nil (P:=P) (w:=w) t p ht
 simp only [execOp,ha.ev hx,ha.ev hy,eqGuard]
 simp [e,Result.andThen]
theorem l_eqPtr {t yt:TypeId} {x y:Operand} {p:Option Addr} (ht:P.underlying t=some (.pointer (P.pointee t))) (hx:E.ev x=some (.pointer p)) (hy:E.ev y=some (.pointer none)) (hd:Nat.blt d n=true) (k':WL P ops Q rest n ds ((d,.bool p.isNone)::E) w):WL P ops Q (⟨some d,.binOp .eql t x y yt,ty,pos,after,none⟩::rest) n ds E w:=l_runs (fun a ha=>r_eqPtr ht hx hy a ha _) hd k'
end
end Go.Proofs.Ytejnpppejalhfac
/- kernel.Reach. -/
namespace Go.Proofs.Ytejnpppejalhfac
open Go.RowKit Go.Sort
def ownK (k:KV):List Asr:=frA k::slA k::spA0 k::(k.sp.map enAp++restA k)
theorem KerV.own {F:Nat→Prop} {w0 w:World} {k:KV} {Γ:List Asr} (hS:St F w0 w (ownK k++Γ)):KerV w k:=by
 have hmem:∀ {e sz:Nat} {v:Value} {rows:List (List Value)},Asr.row e sz v rows ∈ ownK k→Sl nF w sz v rows:=fun h=>hS.slMem (List.mem_append_left Γ h)
 have hr:∀ {A},A ∈ restA k→A ∈ ownK k:=fun h=>List.mem_cons_of_mem _ (List.mem_cons_of_mem _ (List.mem_cons_of_mem _ (List.mem_append_right _ h)))
 refine ⟨⟨hmem (e:=97) (hr List.mem_cons_self),fun p hp=>?_⟩,hmem (e:=43) List.mem_cons_self,hmem (e:=45) (List.mem_cons_of_mem _ List.mem_cons_self),hmem (e:=41) (List.mem_cons_of_mem _ (List.mem_cons_of_mem _ List.mem_cons_self)),fun p hp=>⟨?_,?_⟩⟩
 ·exact hmem (e:=100) (hr (List.mem_cons_of_mem _ (List.mem_append_left _ (List.mem_map.2 ⟨p,hp,rfl⟩))))
 ·exact hmem (e:=71) (hr (List.mem_cons_of_mem _ (List.mem_append_right _ (List.mem_map.2 ⟨p,hp,rfl⟩))))
 ·exact hmem (e:=55) (List.mem_cons_of_mem _ (List.mem_cons_of_mem _ (List.mem_cons_of_mem _ (List.mem_append_left _ (List.mem_map.2 ⟨p,hp,rfl⟩)))))
def ker0:Ker:=⟨[],[],[],[],0⟩
def kv0:KV:=⟨[],[],[],[],0,.slice none 0 0,.slice none 0 0,.slice none 0 0,.slice none 0 0⟩
theorem kv0_V (w:World):KerV w kv0:=⟨⟨Sl.nil0 w 3,(fun _ h=>by cases h)⟩,Sl.nil0 w 4,Sl.nil0 w 2,Sl.nil0 w 3,(fun _ h=>by cases h)⟩
def Came (w w':World) (k:KV):Prop:=(k=kv0∧St nF w w' [])∨St nF w w' (ownK k)
theorem Came.st {w w':World} {k:KV} (h:Came w w' k):St nF w w' []:=by
 rcases h with ⟨-,h⟩|h
 ·exact h
 ·exact h.sub (List.nil_sublist _)
theorem Came.V {w w':World} {k:KV} (h:Came w w' k):KerV w' k:=by
 rcases h with ⟨rfl,-⟩|h
 ·exact kv0_V w'
 ·exact KerV.own (Γ:=[]) (by rw [List.append_nil];exact h)
theorem came_of {w w':World} {g sp:Nat} {k:KV} {vh:Value} {held:List Nat} {Γ:List Asr} (h:St nF w w' (wkS g k sp vh held++(restA k++Γ))):Came w w' k:=by
 refine Or.inr ?_
 rw [← List.append_assoc] at h
 replace h:=h.sub (List.sublist_append_left _ _)
 unfold wkS at h
 have h2:St nF w w' (frA k::slA k::spA0 k::(k.sp.map enAp++restA k)):=h.drop.drop
 exact h2
/-! what Reach answers -/
def okR (K:Ker) (space addr size way:Int):Prop:=reachE K space size way=0∧(faultK (areasOf K space.toNat) addr size way).1=0
instance (K:Ker) (space addr size way:Int):Decidable (okR K space addr size way):=by unfold okR;infer_instance
def reachF (K:Ker) (space addr size way:Int):Int×Int:=if reachE K space size way=0 then faultK (areasOf K space.toNat) addr size way else (0,0)
theorem reachF_ok {K:Ker} {space addr size way:Int} (h:okR K space addr size way):reachF K space addr size way=(0,0):=by
 unfold reachF
 rw [if_pos h.1]
 obtain ⟨h1,h2⟩:=h
 have hs1:1≤size:=by
  unfold reachE at h1
  by_cases hl:liveE K space=0
  ·rw [if_pos hl] at h1
   by_cases h3:size < 1∨8 < size
   ·rw [if_pos h3] at h1;cases h1
   ·omega
  ·rw [if_neg hl] at h1;exact absurd h1 hl
 unfold faultK at h2 ⊢
 by_cases hw:way=2∧addr.tmod 8≠0
 ·rw [if_pos hw] at h2;cases h2
 ·rw [if_neg hw] at h2 ⊢
  cases hf:(List.range size.toNat).findSome? fun i=>fault1 (areasOf K space.toNat) way (addr + (i:Nat)) with
  |none=>rfl
  |some p=>
   exfalso
   rw [hf] at h2
   dsimp only [Option.getD] at h2
   obtain ⟨i,-,hi⟩:=List.exists_of_findSome?_eq_some hf
   unfold fault1 at hi
   split at hi
   ·cases hi;cases h2
   ·split at hi
    ·cases hi;cases h2
    ·split at hi
     ·cases hi;cases h2
     ·cases hi
end Go.Proofs.Ytejnpppejalhfac
/- kernel.Load$1 and kernel.Store$1: what is done with each byte. -/
namespace Go.Proofs.Ytejnpppejalhfac
open Go.RowKit Go.Sort
section
variable {P:Program} {n:Nat} {ds:List Deferred} {E:Fr} {ops:Array Oper} {rest:List Oper} {d:Nat} {ty:TypeId} {pos:String} {after:Array Edge} {T:Tab}
end
theorem splice1 {s:List UInt8} {c:UInt8}:∀ {o:Nat},o < s.length→splice s o [c]=s.set o c:=by
 intro o h
 rw [List.set_eq_take_append_cons_drop,if_pos h]
 rfl
theorem bR_set (l:List UInt8) (i:Nat) (c:UInt8):bR (l.set i c)=(bR l).set i [.int .u8 c.toNat]:=by unfold bR;rw [List.map_set]
set_option maxRecDepth 100000 in
set_option maxHeartbeats 8000000 in
theorem load1_fn {F:Nat→Prop} {w0 w:World} {Γ:List Asr} {k:KV} {p:Option Addr} {n c gc f:Nat} {l:List UInt8} {off i:Nat} {x:UInt8} (hS0:St F w0 w ([.row 5 1 (.slice p n c) (bR l),.blk gc [.slice p n c],frA k]++Γ)) (hf:f < k.fr.length) (hx:(fmAt k.fr f).data[off]?=some x) (hi:i < l.length):Fn Try.prog 43 [elemP k.vfr (f * 4),.int .i64 (off:Nat),.int .i64 (i:Nat),.pointer (some ⟨gc,0,none⟩)] w (fun v w'=>v=.tuple #[]∧St (fps [.row 5 1 (.slice p n c) (bR l),.blk gc [.slice p n c],frA k]) w w' [.row 5 1 (.slice p n c) (bR (l.set i x)),.blk gc [.slice p n c],frA k]):=by
 have hS:=St.startM hS0
 have hnl:=bR_len l
 generalize fps [_,_,_]=G at hS ⊢
 obtain ⟨sh,fr,sl,sps,hand,vsh,vfr,vsl,vsp⟩:=k
 dsimp only at hf hx ⊢
 unfold frA at hS ⊢
 dsimp only at hS ⊢
 obtain ⟨pf,cf,he⟩:=hS.rowSlice 0 rfl
 injection he with e1 e2 e3
 subst e2 e3
 obtain ⟨gf,rfl⟩:=hS.rowSome 0 rfl (by omega)
 obtain ⟨pg,cg,rfl⟩:=hS.rowSlice 2 rfl
 simp only [List.length_map] at hS ⊢
 obtain ⟨gg,rfl⟩:=hS.rowSome 2 rfl (by omega)
 obtain ⟨fm,hfm⟩:=lt_get (l:=fr) (i:=f) (by omega)
 rw [fmAt_eq hfm] at hx
 have hrow:=map_get (f:=fmC) hfm
 unfold fmC at hrow
 obtain ⟨y,hy⟩:=lt_get (l:=l) (i:=i) (by omega)
 have hr:(bR l)[i]?=some [.int .u8 y.toNat]:=map_get (f:=fun b:UInt8=>[Value.int .u8 b.toNat]) hy
 unfold elemP
 dsimp only
 rw [bR_set]
 refine yEn Try.func43 Try.ntmps43 ?_
 repeat' (fail)
 (focus (refine yW (nn 9) ?_;(repeat' (first|refine yP ?_|((with_reducible apply d_ixs tabOk);(iterate 4 exact rfl);exact hx;exact rfl)));all_goals (refine yZ ?_;clear hS;intro w' hS)))
 repeat' (first|refine yO ?_|(refine yT0 ?_;clear hS;intro w' hS))
 refine yV0 ?_
 exact ⟨rfl,hS⟩
set_option maxRecDepth 100000 in
set_option maxHeartbeats 8000000 in
theorem store1_fn {F:Nat→Prop} {w0 w:World} {Γ:List Asr} {k:KV} {gc f:Nat} {l:List UInt8} {off i:Nat} {x:UInt8} (hS0:St F w0 w ([.blk gc [.string ⟨l.toArray⟩],frA k]++Γ)) (hf:f < k.fr.length) (hoff:off < (fmAt k.fr f).data.length) (hlen:(fmAt k.fr f).data.length≤1000) (hx:l[i]?=some x) (hi:(i:Int) < 9223372036854775807):Fn Try.prog 41 [elemP k.vfr (f * 4),.int .i64 (off:Nat),.int .i64 (i:Nat),.pointer (some ⟨gc,0,none⟩)] w (fun v w'=>v=.tuple #[]∧St (fps [.blk gc [.string ⟨l.toArray⟩],frA k]) w w' [.blk gc [.string ⟨l.toArray⟩],frA { k with fr:=k.fr.set f ⟨(fmAt k.fr f).data.set off x,(fmAt k.fr f).refs,(fmAt k.fr f).dirty,(fmAt k.fr f).seen⟩ }]):=by
 have hS:=St.startM hS0
 generalize fps [_,_]=G at hS ⊢
 obtain ⟨sh,fr,sl,sps,hand,vsh,vfr,vsl,vsp⟩:=k
 dsimp only at hf hoff hlen hS ⊢
 unfold frA at hS ⊢
 dsimp only at hS ⊢
 obtain ⟨pg,cg,rfl⟩:=hS.rowSlice 1 rfl
 simp only [List.length_map] at hS ⊢
 obtain ⟨gg,rfl⟩:=hS.rowSome 1 rfl (by omega)
 obtain ⟨fm,hfm⟩:=lt_get (l:=fr) (i:=f) (by omega)
 rw [fmAt_eq hfm] at hoff hlen ⊢
 have hrow:=map_get (f:=fmC) hfm
 have e1:(fr.map fmC).set f (setL [.string ⟨fm.data.toArray⟩,.int .i64 fm.refs,.bool fm.dirty,.bool fm.seen] 0 [.string ⟨(fm.data.set off x).toArray⟩])=(fr.set f ⟨fm.data.set off x,fm.refs,fm.dirty,fm.seen⟩).map fmC:=by rw [List.map_set];rfl
 unfold fmC at hrow
 unfold elemP
 dsimp only
 have hil:=lt_of_getE hx
 have hsub:(l.drop i).take (i + 1 - i)=[x]:=by
  rw [show i + 1 - i=1 by omega,List.drop_eq_getElem_cons hil,(List.getElem?_eq_some_iff.1 hx).2]
  rfl
 have hlay:∀ w1 l',l'=[x]→Fn Try.prog 42 [.string ⟨fm.data.toArray⟩,.int .i64 (off:Nat),.string ⟨l'.toArray⟩] w1 (RBf (.tuple #[.string ⟨(fm.data.set off x).toArray⟩,.int .i64 0]) w1):=by
  rintro w1 _ rfl
  have h:=Lay_fn fm.data [x] (off:Nat) w1 (by unfold maxLen;omega)
  rw [show inB ((off:Nat):Int) [x].length fm.data.length=true by unfold inB;simp;omega,if_pos rfl,if_pos rfl,Int.toNat_natCast,splice1 hoff] at h
  exact h
 refine yEn Try.func41 Try.ntmps41 ?_
 repeat' (fail)
 refine c_tillP 2 17 18 rfl hS (by kernel_rfl) ?_
 intro w10 hS'
 clear hS;have hS:=hS';clear hS'
 simp only [List.take_succ_cons,List.take_zero]
 (refine xP (nn 0) ?_;refine ⟨Or.inr hS,?_⟩)
 (refine xP (nn 1) ?_;refine ⟨Or.inr hS,?_⟩)
 (refine xP (nn 2) ?_;refine ⟨Or.inr hS,?_⟩)
 (refine xP (nn 3) ?_;refine ⟨Or.inr hS,?_⟩)
 (refine xL (nn 4) ?_;refine ⟨hS,?_⟩)
 (refine xP (nn 5) ?_;refine ⟨Or.inr hS,?_⟩)
 (refine xL (nn 6) ?_;refine ⟨hS,?_⟩)
 (refine xP (nn 7) ?_;refine ⟨Or.inr hS,?_⟩)
 (refine xP (nn 8) ?_;refine ⟨Or.inr hS,?_⟩)
 ((with_reducible apply t_runs (nn 9));exact rfl;kernel_rfl;kernel_rfl;kernel_rfl;exact rfl;exact (fun _ _ _ h=>h);exact Or.inr hS;(intro a ha;exact r_add rfl rfl (by omega) (by omega) a ha _);exact rfl)
 ((with_reducible apply t_runs (nn 10));exact rfl;kernel_rfl;kernel_rfl;kernel_rfl;exact rfl;exact (fun _ _ _ h=>h);exact Or.inr hS;(intro a ha;exact r_strSub tabOk rfl rfl rfl rfl (by omega) (by omega) (by omega) a ha _);exact rfl)
 refine t_one (i:=11) (by kernel_rfl) ?_
 refine p_gets rfl (g_call (first:=[]) (caps:=[]) rfl rfl (hlay _ _ hsub)) rfl ?_
 rintro _ w' ⟨rfl,hS'⟩
 replace hS:=hS.transA hS'
 simp only [appA] at hS
 clear hS'
 refine ⟨Or.inr (Or.inr hS),?_⟩
 (refine xP (nn 12) ?_;refine ⟨Or.inr hS,?_⟩)
 (refine xP (nn 13) ?_;refine ⟨Or.inr hS,?_⟩)
 (refine xP (nn 14) ?_;refine ⟨Or.inr hS,?_⟩)
 (refine xP (nn 15) ?_;refine ⟨Or.inr hS,?_⟩)
 (refine xP (nn 16) ?_;refine ⟨Or.inr hS,?_⟩)
 refine t_one (i:=17) (by kernel_rfl) ?_
 refine p_gets0 (Φ:=fun _ w'=>St _ _ w' _) rfl (g_storeR hS tabOk (i:=1) (kk:=f) (j:=0) rfl rfl rfl rfl rfl hrow rfl rfl (Nat.le_of_ble_eq_true rfl) rfl) ?_
 intro _ w' hS'
 simp only [List.set] at hS'
 rw [show (Value.string ⟨(fm.data.set off x).toArray⟩).cells.toList=[.string ⟨(fm.data.set off x).toArray⟩] from rfl] at hS'
 rw [e1] at hS'
 clear hS;have hS:=hS';clear hS'
 refine ⟨Or.inl rfl,?_⟩
 refine t_done (by kernel_rfl) ?_
 refine yV0 ?_
 exact ⟨rfl,hS⟩
end Go.Proofs.Ytejnpppejalhfac
