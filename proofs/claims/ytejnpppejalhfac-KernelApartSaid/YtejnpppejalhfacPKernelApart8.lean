/- Texts that the proof stands on, one behind the other: Ke15, Ke7, PlRun2, PlRun3, PlRun4, PlRun5, PlRun6, PlRun7. -/
import Derived.Test.YtejnpppejalhfacPKernelApart7
/- kernel.own: a kernel of new memory. -/
namespace Go.Proofs.Ytejnpppejalhfac
open Go.RowKit Go.Sort
def fxA (x:Sh×Value):Asr:=.row 100 2 x.2 (x.1.fixes.map fxC)
def arAp (p:Sp):Asr:=.row 71 4 p.va (p.s.areas.map arC)
def enAp (p:Sp):Asr:=.row 55 3 p.ve (p.s.entries.map enC)
def spA (l:List Sp):List Asr:=l.flatMap fun p=>[arAp p,enAp p]
theorem spA_snoc (l:List Sp) (p:Sp):spA (l++[p])=spA l++[arAp p,enAp p]:=by unfold spA;rw [List.flatMap_append,List.flatMap_cons,List.flatMap_nil,List.append_nil]
def shRow (N:List (Sh×Value)):List (List Value):=N.map fun p=>shC p.1 p.2
def kA (k:KV):List Asr:=.row 97 3 k.vsh (shRow k.sh)::.row 43 4 k.vfr (k.fr.map fmC)::.row 45 2 k.vsl (k.sl.map swC)::.row 41 3 k.vsp (k.sp.map spC)::(k.sh.map fxA++spA k.sp)
structure KBd (k:KV):Prop where
 fr:k.fr.length≤1000
 sl:k.sl.length≤1000
 sh:k.sh.length≤1000
 sp:k.sp.length≤1000
 fx:∀ x ∈ k.sh,x.1.fixes.length≤1000
 ar:∀ p ∈ k.sp,p.s.areas.length≤1000
 en:∀ p ∈ k.sp,p.s.entries.length≤1000
set_option maxRecDepth 100000 in
set_option maxHeartbeats 8000000 in
theorem own_fn {w:World} {k:KV} (hK:KerV w k) (hB:KBd k):Fn Try.prog 14 [.agg (kvC k).toArray] w (fun v w'=>∃ k':KV,v=.agg (kvC k').toArray∧k'.K=k.K∧St nF w w' (kA k')):=by
 obtain ⟨sh,fr,sl,sp,hand,vsh,vfr,vsl,vsp⟩:=k
 obtain ⟨k1,k2,k3,k4,k5⟩:=hK
 obtain ⟨b1,b2,b3,b4,b5,b6,b7⟩:=hB
 dsimp only at k1 k2 k3 k4 k5 b1 b2 b3 b4 b5 b6 b7 ⊢
 obtain ⟨p1,c1,rfl⟩:=k1.sl.len
 obtain ⟨p2,c2,rfl⟩:=k2.len
 obtain ⟨p3,c3,rfl⟩:=k3.len
 obtain ⟨p4,c4,rfl⟩:=k4.len
 unfold kvC
 dsimp only
 refine yEn Try.func14 Try.ntmps14 ?_
 have hS:=St.start w
 repeat' (first|refine yO ?_|(refine yM ?_;clear hS;intro g w' hS))
 rename Nat=>g2
 obtain ⟨g1,hg2⟩:∃ q,q=g:=⟨_,rfl⟩
 rw [← hg2] at hS ⊢
 clear hg2 g
 replace hS:St nF w w' (.blk g2 [.slice none 0 0,.slice none 0 0,.slice none 0 0,.slice none 0 0,.int .i64 0]::.blk g1 [.slice p1 sh.length c1,.slice p2 fr.length c2,.slice p3 sl.length c3,.slice p4 sp.length c4,.int .i64 hand]::[]):=hS
 refine c_varX (F:=nF) (w0:=w) (X:=Nat×Option Addr×Nat×Option Addr×Nat) (fun x=>[(1,.pointer (some ⟨g1,0,none⟩)),(2,.pointer (some ⟨g2,0,none⟩)),(3,.pointer (some ⟨x.1,0,none⟩))]) (fun x=>[.blk x.1 [.slice none 0 0,.slice x.2.1 fr.length x.2.2.1,.slice x.2.2.2.1 sl.length x.2.2.2.2,.slice none 0 0,.int .i64 hand],.row 43 4 (.slice x.2.1 fr.length x.2.2.1) (fr.map fmC),.row 45 2 (.slice x.2.2.2.1 sl.length x.2.2.2.2) (sl.map swC),.blk g2 [.slice none 0 0,.slice none 0 0,.slice none 0 0,.slice none 0 0,.int .i64 0],.blk g1 [.slice p1 sh.length c1,.slice p2 fr.length c2,.slice p3 sl.length c3,.slice p4 sp.length c4,.int .i64 hand]]) (fun _=>True) ?_ ?_
 ·refine c_heldS 11 rfl hS (by kernel_rfl) ?_
  intro wh hh
  clear hS
  have hS:=hh
  clear hh
  (refine xA (nn 0) ?_;refine ⟨(hS.sub (by repeat ((exact List.Sublist.refl _)))),?_⟩)
  (refine xM (nn 1) ?_;refine ⟨(hS.sub (by repeat ((exact List.Sublist.refl _)))),?_⟩)
  (refine xA (nn 2) ?_;refine ⟨(hS.sub (by repeat ((exact List.Sublist.refl _)))),?_⟩)
  (refine xM (nn 3) ?_;refine ⟨(hS.sub (by repeat ((exact List.Sublist.refl _)))),?_⟩)
  (refine xA (nn 5) ?_;refine ⟨(hS.sub (by repeat ((exact List.Sublist.refl _)))),?_⟩)
  (refine xM (nn 6) ?_;refine ⟨(hS.sub (by repeat ((exact List.Sublist.refl _)))),?_⟩)
  refine a_two (i:=4) (j:=9) (by kernel_rfl) ?_ ?_
  ·refine o_gets rfl (g_call (first:=[]) (caps:=[]) rfl rfl (cloneFm_fn (k2.now hS) (by omega))) rfl ?_
   rintro _ w' ⟨qF,cF,rfl,hS'⟩
   replace hS:=hS.transA hS'
   simp only [appA] at hS
   clear hS'
   refine ⟨(hS.sub (by repeat (first|exact List.Sublist.refl _|apply List.Sublist.cons))),?_⟩
   refine a_two (i:=7) (j:=9) (by kernel_rfl) ?_ ?_
   ·refine o_gets rfl (g_call (first:=[]) (caps:=[]) rfl rfl (cloneSw_fn (k3.now hS) (by omega))) rfl ?_
    rintro _ w' ⟨qS,cS,rfl,hS'⟩
    replace hS:=hS.transA hS'
    simp only [appA] at hS
    clear hS'
    refine ⟨(hS.sub (by repeat (first|exact List.Sublist.refl _|apply List.Sublist.cons))),?_⟩
    (refine xD (nn 8) ?_;refine ⟨(hS.sub (by repeat (first|exact List.Sublist.refl _|apply List.Sublist.cons))),?_⟩)
    refine a_one (i:=9) (by kernel_rfl) ?_
    refine o_gets rfl (g_allocT hS tabOk rfl rfl) rfl ?_
    rintro _ w' ⟨g3,rfl,hS'⟩
    clear hS;have hS:=hS';clear hS'
    refine ⟨(hS.sub (by repeat (first|exact List.Sublist.refl _|apply List.Sublist.cons))),?_⟩
    refine a_one (i:=10) (by kernel_rfl) ?_
    refine o_gets0 (Φ:=fun _ w'=>St _ _ w' _) rfl (g_store hS tabOk (i:=0) rfl rfl rfl rfl rfl (Nat.le_of_ble_eq_true rfl) (List.all_eq_true.1 rfl)) ?_
    intro _ w' hS'
    simp only [List.set] at hS'
    clear hS;have hS:=hS';clear hS'
    refine ⟨(hS.sub (by repeat (first|exact List.Sublist.refl _|apply List.Sublist.cons))),?_⟩
    refine a_done (by kernel_rfl) ?_
    replace hS:=St.reorder [0,2,1,3,4] hS (by decide) rfl
    exact q_varX (g3,qF,cF,qS,cS) (by exact zS) trivial hS
   ·refine o_gets rfl (g_allocT hS tabOk rfl rfl) rfl ?_
    rintro _ w' ⟨g3,rfl,hS'⟩
    clear hS;have hS:=hS';clear hS'
    refine ⟨(hS.sub (by repeat (first|exact List.Sublist.refl _|apply List.Sublist.cons))),?_⟩
    refine a_one (i:=7) (by kernel_rfl) ?_
    refine o_gets rfl (g_call (first:=[]) (caps:=[]) rfl rfl (cloneSw_fn (k3.now hS) (by omega))) rfl ?_
    rintro _ w' ⟨qS,cS,rfl,hS'⟩
    replace hS:=hS.transA hS'
    simp only [appA] at hS
    clear hS'
    refine ⟨(hS.sub (by repeat (first|exact List.Sublist.refl _|apply List.Sublist.cons))),?_⟩
    (refine xD (nn 8) ?_;refine ⟨(hS.sub (by repeat (first|exact List.Sublist.refl _|apply List.Sublist.cons))),?_⟩)
    refine a_one (i:=10) (by kernel_rfl) ?_
    refine o_gets0 (Φ:=fun _ w'=>St _ _ w' _) rfl (g_store hS tabOk (i:=1) rfl rfl rfl rfl rfl (Nat.le_of_ble_eq_true rfl) (List.all_eq_true.1 rfl)) ?_
    intro _ w' hS'
    simp only [List.set] at hS'
    clear hS;have hS:=hS';clear hS'
    refine ⟨(hS.sub (by repeat (first|exact List.Sublist.refl _|apply List.Sublist.cons))),?_⟩
    refine a_done (by kernel_rfl) ?_
    replace hS:=St.reorder [1,2,0,3,4] hS (by decide) rfl
    exact q_varX (g3,qF,cF,qS,cS) (by exact zS) trivial hS
  ·refine o_gets rfl (g_allocT hS tabOk rfl rfl) rfl ?_
   rintro _ w' ⟨g3,rfl,hS'⟩
   clear hS;have hS:=hS';clear hS'
   refine ⟨(hS.sub (by repeat (first|exact List.Sublist.refl _|apply List.Sublist.cons))),?_⟩
   refine a_one (i:=4) (by kernel_rfl) ?_
   refine o_gets rfl (g_call (first:=[]) (caps:=[]) rfl rfl (cloneFm_fn (k2.now hS) (by omega))) rfl ?_
   rintro _ w' ⟨qF,cF,rfl,hS'⟩
   replace hS:=hS.transA hS'
   simp only [appA] at hS
   clear hS'
   refine ⟨(hS.sub (by repeat (first|exact List.Sublist.refl _|apply List.Sublist.cons))),?_⟩
   refine a_one (i:=7) (by kernel_rfl) ?_
   refine o_gets rfl (g_call (first:=[]) (caps:=[]) rfl rfl (cloneSw_fn (k3.now hS) (by omega))) rfl ?_
   rintro _ w' ⟨qS,cS,rfl,hS'⟩
   replace hS:=hS.transA hS'
   simp only [appA] at hS
   clear hS'
   refine ⟨(hS.sub (by repeat (first|exact List.Sublist.refl _|apply List.Sublist.cons))),?_⟩
   (refine xD (nn 8) ?_;refine ⟨(hS.sub (by repeat (first|exact List.Sublist.refl _|apply List.Sublist.cons))),?_⟩)
   refine a_one (i:=10) (by kernel_rfl) ?_
   refine o_gets0 (Φ:=fun _ w'=>St _ _ w' _) rfl (g_store hS tabOk (i:=2) rfl rfl rfl rfl rfl (Nat.le_of_ble_eq_true rfl) (List.all_eq_true.1 rfl)) ?_
   intro _ w' hS'
   simp only [List.set] at hS'
   clear hS;have hS:=hS';clear hS'
   refine ⟨(hS.sub (by repeat (first|exact List.Sublist.refl _|apply List.Sublist.cons))),?_⟩
   refine a_done (by kernel_rfl) ?_
   replace hS:=St.reorder [2,1,0,3,4] hS (by decide) rfl
   exact q_varX (g3,qF,cF,qS,cS) (by exact zS) trivial hS
 clear hS
 rintro ⟨g3,qF,cF,qS,cS⟩ w1 - hS
 dsimp only at hS ⊢
 replace hS:=hS.addNil 97 3
 repeat' ((refine yO ?_))
 have hsl1:=k1.sl
 refine c_loopK (X:=Option Addr×Nat×List (Sh×Value)) (fun x=>[(20,.int .i64 (x.2.2.length:Nat))]) [1,2,3,18,19] rfl (fun x=>[.row 97 3 (.slice x.1 x.2.2.length x.2.1) (shRow x.2.2),.blk g3 [.slice x.1 x.2.2.length x.2.1,.slice qF fr.length cF,.slice qS sl.length cS,.slice none 0 0,.int .i64 hand],.row 43 4 (.slice qF fr.length cF) (fr.map fmC),.row 45 2 (.slice qS sl.length cS) (sl.map swC),.blk g2 [.slice none 0 0,.slice none 0 0,.slice none 0 0,.slice none 0 0,.int .i64 0],.blk g1 [.slice p1 sh.length c1,.slice p2 fr.length c2,.slice p3 sl.length c3,.slice p4 sp.length c4,.int .i64 hand]]++x.2.2.map fxA) (Γ:=[]) (fun x=>x.2.2.length≤sh.length∧shs x.2.2=(shs sh).take x.2.2.length) (fun x=>sh.length - x.2.2.length) (none,0,[]) (by exact zS) ⟨Nat.zero_le _,rfl⟩ hS ?_
 clear hS
 rintro ⟨qH,cH,N⟩ w1 ⟨hN,hNs⟩ hS
 dsimp only [List.cons_append,List.nil_append,List.append_nil] at hN hNs hS ⊢
 rw [List.append_nil] at hS
 by_cases hlt:N.length < sh.length
 ·obtain ⟨x,hx⟩:=lt_get (l:=sh) (i:=N.length) (by omega)
  have hrow:=map_get (f:=fun p:Sh×Value=>shC p.1 p.2) hx
  obtain ⟨b,off,rfl,hro⟩:=hsl1.at_ (i:=N.length) hlt
  have hfx:=k1.fx x (List.mem_of_getElem? hx)
  have hfl:=b5 x (List.mem_of_getElem? hx)
  obtain ⟨S,u⟩:=x
  dsimp only [shC] at hrow hfx hfl
  obtain ⟨pu,cu,rfl⟩:=hfx.len
  repeat' (first|refine yO ?_|(refine yM ?_;clear hS;intro g w' hS)|(refine yN ?_;clear hS;intro w' hS)|(refine yS ?_ ?_;all_goals (intro hb hp;try (exfalso;omega)))|(refine yL ?_;refine ⟨_,cloneFx_fn (hfx.now hS) (by omega),?_⟩;rintro _ w' ⟨qX,cX,rfl,hS'⟩;replace hS:=hS.transA hS';simp only [appA] at hS;clear hS'))
  have hsr:(shRow N).length=N.length:=by unfold shRow;rw [List.length_map]
  repeat' (first|refine yO ?_|(refine yN ?_;clear hS;intro w' hS)|(refine yA3 (hS.rowRo 0 rfl) ?_;clear hS;intro p' cap' w' hS))
  rw [hsr] at hS ⊢
  replace hS:=St.reorderT 9 [3,4,5,6,7,8,1] hS (by decide) rfl
  simp only [appA,List.drop_succ_cons,List.drop_zero] at hS
  have hyS:fxA (S,.slice qX S.fixes.length cX)=.row 100 2 (.slice qX S.fixes.length cX) (S.fixes.map fxC):=rfl
  rw [← hyS] at hS
  refine q_loopK (p',cap',N++[(S,.slice qX S.fixes.length cX)]) ?_ ?_ ?_ ?_
  ·dsimp only
   rw [List.length_append,List.length_singleton]
   exact zS
  ·dsimp only
   refine ⟨by rw [List.length_append,List.length_singleton];omega,?_⟩
   rw [List.length_append,List.length_singleton,take_snocE (shs_at hx),← hNs]
   unfold shs
   rw [List.map_append]
   rfl
  ·dsimp only
   unfold shRow at hS ⊢
   rw [List.length_append,List.length_singleton,List.map_append,List.map_append,List.append_nil]
   refine hS.perm ?_
   repeat (apply List.Perm.cons)
   exact (List.perm_append_singleton _ _).symm
  ·dsimp only
   rw [List.length_append,List.length_singleton]
   omega
 have hNn:N.length=sh.length:=by omega
 replace hS:=(hS.addNil 41 3).reorderT 3 [2,0,1] (by decide) rfl
 simp only [appA,List.drop_succ_cons,List.drop_zero] at hS
 have hsl4:=k4
 repeat' (first|refine yO ?_|(refine yS ?_ ?_;all_goals (intro hb hp;try (exfalso;omega))))
 refine c_loopK (X:=Option Addr×Nat×List Sp) (fun x=>[(38,.int .i64 (x.2.2.length:Nat))]) [1,2,3,36,37] rfl (fun x=>[.blk g3 [.slice qH N.length cH,.slice qF fr.length cF,.slice qS sl.length cS,.slice x.1 x.2.2.length x.2.1,.int .i64 hand],.row 41 3 (.slice x.1 x.2.2.length x.2.1) (x.2.2.map spC),.row 97 3 (.slice qH N.length cH) (shRow N),.row 43 4 (.slice qF fr.length cF) (fr.map fmC),.row 45 2 (.slice qS sl.length cS) (sl.map swC),.blk g2 [.slice none 0 0,.slice none 0 0,.slice none 0 0,.slice none 0 0,.int .i64 0],.blk g1 [.slice p1 sh.length c1,.slice p2 fr.length c2,.slice p3 sl.length c3,.slice p4 sp.length c4,.int .i64 hand]]++(N.map fxA++spA x.2.2)) (Γ:=[]) (fun x=>x.2.2.length≤sp.length∧x.2.2.map (·.s)=(sp.map (·.s)).take x.2.2.length) (fun x=>sp.length - x.2.2.length) (none,0,[]) (by exact zS) ⟨Nat.zero_le _,rfl⟩ (by show St nF w w1 ((_++(N.map fxA++[]))++[]);rw [List.append_nil,List.append_nil];exact hS) ?_
 clear hS
 rintro ⟨qP,cP,M⟩ w1 ⟨hM,hMs⟩ hS
 dsimp only [List.cons_append,List.nil_append] at hM hMs hS ⊢
 rw [List.append_nil] at hS
 by_cases hlt2:M.length < sp.length
 rotate_left
 ·have hMn:M.length=sp.length:=by omega
  repeat' (first|refine yO ?_|(refine yS ?_ ?_;all_goals (intro hb hp;try (exfalso;omega)))|(refine yK5 ?_;clear hS;intro w' hS))
  refine yR1 ?_
  rw [hNn] at hNs hS ⊢
  rw [hMn] at hMs hS ⊢
  rw [List.take_of_length_le (by rw [shs_len];omega)] at hNs
  rw [List.take_of_length_le (by rw [List.length_map];omega)] at hMs
  refine ⟨⟨N,fr,sl,M,hand,.slice qH sh.length cH,.slice qF fr.length cF,.slice qS sl.length cS,.slice qP sp.length cP⟩,rfl,?_,?_⟩
  ·unfold KV.K
   dsimp only
   rw [hNs,hMs]
  ·unfold kA
   dsimp only
   replace hS:=hS.reorderT 7 [2,3,4,1] (by decide) rfl
   simp only [appA,List.drop_succ_cons,List.drop_zero] at hS
   exact hS
 obtain ⟨x,hx⟩:=lt_get (l:=sp) (i:=M.length) (by omega)
 have hxs:(sp.map (·.s))[M.length]?=some x.s:=map_get (f:=fun p:Sp=>p.s) hx
 have hrow:=map_get (f:=spC) hx
 obtain ⟨b,off,rfl,hro⟩:=hsl4.at_ (i:=M.length) hlt2
 have hxv:=k5 x (List.mem_of_getElem? hx)
 have hxa:=b6 x (List.mem_of_getElem? hx)
 have hxe:=b7 x (List.mem_of_getElem? hx)
 have har:=hxv.ar
 have hen:=hxv.en
 obtain ⟨s,va,ve⟩:=x
 dsimp only at har hen hxa hxe hxs
 obtain ⟨pa,ca,rfl⟩:=har.len
 obtain ⟨pe,ce,rfl⟩:=hen.len
 unfold spC at hrow
 dsimp only at hrow
 repeat' (first|refine yO ?_|(refine yM ?_;clear hS;intro g w' hS)|(refine yN ?_;clear hS;intro w' hS)|(refine yS ?_ ?_;all_goals (intro hb hp;try (exfalso;omega))))
 refine c_tillP 2 14 15 rfl hS (by kernel_rfl) ?_
 intro w10 hS'
 clear hS;have hS:=hS';clear hS'
 simp only [List.take_succ_cons,List.take_zero]
 have hH:=hS.sub (List.sublist_append_left [_,_] _)
 (refine xP (nn 0) ?_;refine ⟨Or.inr hH,?_⟩)
 (refine xL (nn 1) ?_;refine ⟨hH,?_⟩)
 (refine xP (nn 2) ?_;refine ⟨Or.inr hH,?_⟩)
 (refine xL (nn 3) ?_;refine ⟨hH,?_⟩)
 (refine xP (nn 4) ?_;refine ⟨Or.inr hH,?_⟩)
 (refine xL (nn 5) ?_;refine ⟨hH,?_⟩)
 (refine xP (nn 7) ?_;refine ⟨Or.inr hH,?_⟩)
 (refine xL (nn 8) ?_;refine ⟨hH,?_⟩)
 refine t_one (i:=6) (by kernel_rfl) ?_
 refine p_gets rfl (g_call (first:=[]) (caps:=[]) rfl rfl (cloneAr_fn (har.now hS) (by omega))) rfl ?_
 rintro _ w' ⟨qA,cA,rfl,hS'⟩
 replace hS:=hS.transA hS';simp only [appA] at hS;clear hS'
 have hH:=hS.drop.sub (List.sublist_append_left [_,_] _)
 refine ⟨Or.inr (Or.inr hH),?_⟩
 refine t_one (i:=9) (by kernel_rfl) ?_
 refine p_gets rfl (g_call (first:=[]) (caps:=[]) rfl rfl (cloneEn_fn (hen.now hS) (by omega))) rfl ?_
 rintro _ w' ⟨qE,cE,rfl,hS'⟩
 replace hS:=hS.transA hS';simp only [appA] at hS;clear hS'
 have hH:=hS.drop.drop.sub (List.sublist_append_left [_,_] _)
 refine ⟨Or.inr (Or.inr hH),?_⟩
 (refine xB (nn 10) ?_;refine ⟨Or.inr hH,?_⟩)
 refine t_one (i:=11) (by kernel_rfl) ?_
 refine p_gets rfl (g_bslice hS tabOk rfl rfl rfl rfl rfl rfl) rfl ?_
 rintro _ w' ⟨g9,rfl,hS'⟩
 clear hS;have hS:=hS';clear hS'
 have hH:=hS.drop.drop.drop.sub (List.sublist_append_left [_,_] _)
 refine ⟨Or.inr (Or.inr hH),?_⟩
 refine t_one (i:=12) (by kernel_rfl) ?_
 refine p_gets rfl (g_append hS tabOk (i:=5) rfl rfl rfl rfl (hS.rowRo 0 rfl) rfl (by simp only [List.length_map];omega)) rfl ?_
 rintro _ w' ⟨p',c',rfl,hS'⟩
 simp only [List.set,List.length_map] at hS' ⊢
 clear hS;have hS:=hS';clear hS'
 have hH:=hS.drop.drop.drop.sub (List.sublist_append_left [_,_] _)
 refine ⟨Or.inr (Or.inr hH),?_⟩
 (refine xP (nn 13) ?_;refine ⟨Or.inr hH,?_⟩)
 refine t_one (i:=14) (by kernel_rfl) ?_
 refine p_gets0 (Φ:=fun _ w'=>St _ _ w' _) rfl (g_store hS tabOk (i:=4) rfl rfl rfl rfl rfl (Nat.le_of_ble_eq_true rfl) (by intro u hu;simp [Value.cells] at hu;subst hu;rfl)) ?_
 intro _ w' hS'
 simp only [List.set,setL] at hS'
 clear hS;have hS:=hS';clear hS'
 refine ⟨Or.inl rfl,?_⟩
 refine t_done (by kernel_rfl) ?_
 repeat' ((refine yO ?_))
 refine q_loopK (p',c',M++[⟨s,.slice qA s.areas.length cA,.slice qE s.entries.length cE⟩]) ?_ ?_ ?_ ?_
 ·dsimp only
  rw [List.length_append,List.length_singleton]
  exact zS
 ·dsimp only
  refine ⟨by rw [List.length_append,List.length_singleton];omega,?_⟩
  rw [List.length_append,List.length_singleton,take_snocE hxs,← hMs,List.map_append]
  rfl
 ·replace hS:=hS.reorderT 11 [4,5,6,7,8,9,10,2,1] (by decide) rfl
  simp only [appA,List.drop_succ_cons,List.drop_zero] at hS
  dsimp only
  rw [List.length_append,List.length_singleton,List.map_append,List.append_nil,spA_snoc]
  refine hS.perm ?_
  repeat (apply List.Perm.cons)
  rw [← List.append_assoc]
  exact List.perm_append_comm (l₁:=[_,_])
 ·dsimp only
  rw [List.length_append,List.length_singleton]
  omega
end Go.Proofs.Ytejnpppejalhfac
/- All spaces gone through: the first that is not right. -/
namespace Go.Proofs.Ytejnpppejalhfac
open Go.RowKit Go.Sort
theorem Bs.nowM {F:Nat→Prop} {w0 w:World} {Θ Γ:List Asr} {p:Addr} {v:Value} (hb:Bs F w0 p v) (h:St F w0 w (Θ++Γ)):Bs (fps Θ) w p v:=⟨h.bs hb,fun ⟨A,hA,e⟩=>by
 rcases h.own A (List.mem_append_left _ hA) _ e with h1|h1
 ·have:=World.block_lt_of_cell? w0 p hb.cell
  omega
 ·exact hb.nf h1⟩
structure SpF (F:Nat→Prop) (w:World) (p:Sp):Prop where
 ar:Sl F w 4 p.va (p.s.areas.map arC)
 en:Sl F w 3 p.ve (p.s.entries.map enC)
theorem SpF.nowM {F:Nat→Prop} {w w':World} {Θ Γ:List Asr} {p:Sp} (h:SpF F w p) (hS:St F w w' (Θ++Γ)):SpF (fps Θ) w' p:=⟨h.ar.nowM hS,h.en.nowM hS⟩
def allNm (l:List Sc):List Nm:=l.flatMap fun s=>s.entries.map (nmOf s)
theorem allNm_filter (l:List Sc) (kind:Int) (i:Nat):(allNm l).filter (fun (n:Nm)=>decide (n.1.kind=kind∧n.1.at_=((i:Nat):Int)))=namers l kind i:=by
 induction l with
 |nil=>rfl
 |cons s l ih=>
  have h1:=namers_one s kind i
  unfold allNm namers at *
  rw [List.flatMap_cons,List.flatMap_cons,List.filter_append,ih,h1,List.flatMap_cons,List.flatMap_nil,List.append_nil]
theorem ents_len {A:List Ar} {nf ns:Int} (hc:checkI A=0):∀ {es:List En} {last:Int},entsB A nf ns last es=true→last≤255→last + (es.length:Int)≤255
 |[],last,_,h=>by simpa using h
 |e::es,last,h,_=>by
  replace h:(entOk A nf ns last e && entsB A nf ns e.page es)=true:=h
  rw [Bool.and_eq_true] at h
  have h1:=h.1
  unfold entOk at h1
  rw [Bool.and_eq_true,decide_eq_true_eq] at h1
  obtain ⟨hs,hl,-⟩:=h1
  obtain ⟨a,ha⟩:=Option.isSome_iff_exists.1 hs
  have h2:=List.find?_some ha
  have h3:=(good_pos hc ha).1
  unfold holdsB at h2
  rw [decide_eq_true_eq] at h2
  unfold Ar.ok at h3
  unfold Ar.fin at h2
  have:=ents_len hc h.2 (by omega)
  rw [List.length_cons]
  omega
theorem space_len {l:List Sh} {nf ns:Int} {s:Sc} (h:spaceB l nf ns s=true):s.entries.length≤255∧0≤sumN s.areas∧sumN s.areas≤70000:=by
 unfold spaceB at h
 by_cases hl:s.live=true
 ·rw [if_pos hl,Bool.and_eq_true,Bool.and_eq_true,decide_eq_true_eq] at h
  obtain ⟨hAl,hgood⟩:=checkI_zero.1 h.1
  have h1:=ents_len h.1 h.2.2 (by omega)
  have hsum:=sumN_bd (good_ok hgood) s.areas.length
  rw [List.take_length] at hsum
  omega
 ·rw [if_neg hl,decide_eq_true_eq] at h
  rw [h.1,h.2]
  simp [sumN]
theorem roomI_snoc (l:List Sc) (s:Sc):roomI (l++[s])=roomI l + sumN s.areas:=by unfold roomI;simp
theorem allNm_snoc (l:List Sc) (s:Sc):allNm (l++[s])=allNm l++s.entries.map (nmOf s):=by unfold allNm;simp
theorem spaces_bd {l:List Sh} {nf ns:Int}:∀ {L:List Sc},L.all (spaceB l nf ns)=true→(allNm L).length≤255 * L.length∧0≤roomI L∧roomI L≤70000 * (L.length:Int)
 |[],_=>by simp [allNm,roomI]
 |s::L,h=>by
  rw [List.all_cons,Bool.and_eq_true] at h
  have h1:=space_len h.1
  have h2:=spaces_bd h.2
  have e1:allNm (s::L)=s.entries.map (nmOf s)++allNm L:=by unfold allNm;simp
  have e2:roomI (s::L)=sumN s.areas + roomI L:=by unfold roomI;simp
  rw [e1,e2,List.length_append,List.length_map,List.length_cons]
  omega
set_option maxRecDepth 100000 in
set_option maxHeartbeats 8000000 in
theorem chk1_fn {F:Nat→Prop} {w0 w:World} {Γ:List Asr} {gl gk gc:Nat} {vsh vF vS:Value} {room:Int} {l:List (Sh×Value)} {NF NS:NL} {p:Sp}
  (hS0:St F w0 w (lkS gl (.pointer (some ⟨gk,0,none⟩)) vF vS room NF NS++Γ)) (hc:Bs (fps (lkS gl (.pointer (some ⟨gk,0,none⟩)) vF vS room NF NS)) w ⟨gc,0,none⟩ (.pointer (some ⟨gl,0,none⟩))) (hk:Bs (fps (lkS gl (.pointer (some ⟨gk,0,none⟩)) vF vS room NF NS)) w ⟨gk,0,none⟩ vsh) (hL:ShsF (fps (lkS gl (.pointer (some ⟨gk,0,none⟩)) vF vS room NF NS)) w l vsh) (hr:riseB 0 (shs l)=true)
  (hp:SpF (fps (lkS gl (.pointer (some ⟨gk,0,none⟩)) vF vS room NF NS)) w p) (hrm:0≤room∧room≤1000000) (hF:∀ x ∈ NF,x.2.length≤1000) (hSl:∀ x ∈ NS,x.2.length≤1000) :
  Fn Try.prog 26 [.agg (spC p).toArray,.pointer (some ⟨gc,0,none⟩)] w (fun v w'=>v=.bool (!spaceB (shs l) NF.length NS.length p.s)∧∃ NF' NS' room',St (fps (lkS gl (.pointer (some ⟨gk,0,none⟩)) vF vS room NF NS)) w w' (lkS gl (.pointer (some ⟨gk,0,none⟩)) vF vS room' NF' NS')∧(spaceB (shs l) NF.length NS.length p.s=true→room'=room + sumN p.s.areas∧Grown NF NF' 1 (p.s.entries.map (nmOf p.s))∧Grown NS NS' 2 (p.s.entries.map (nmOf p.s)))):=by
 have hS:=St.startM hS0
 obtain ⟨pa,ca,hva⟩:=(hp.ar.now hS).form
 obtain ⟨pe,ce,hve⟩:=(hp.en.now hS).form
 obtain ⟨s,va,ve⟩:=p
 dsimp only at hva hve
 subst hva hve
 have hcall:∀ w1 Γ1,St (fps (lkS gl (.pointer (some ⟨gk,0,none⟩)) vF vS room NF NS)) w w1 (lkS gl (.pointer (some ⟨gk,0,none⟩)) vF vS room NF NS++Γ1)→_:=fun w1 Γ1 h=>space_fn h (hk.nowM h) (hL.nowM h) hr (hp.ar.nowM h) (hp.en.nowM h) hrm hF hSl
 generalize hG:fps (lkS gl (.pointer (some ⟨gk,0,none⟩)) vF vS room NF NS)=G at hS hk hL hp hcall hc ⊢
 unfold spC at hcall ⊢
 dsimp only at hcall ⊢
 refine yEn Try.func26 Try.ntmps26 ?_
 repeat' (first|refine yO ?_|(refine yM ?_;clear hS;intro g w' hS))
 have hS2:=hS.perm (List.perm_append_singleton _ _).symm
 repeat' (first|refine yO ?_|(refine yL ?_;refine ⟨_,hcall _ _ hS2,?_⟩;rintro _ w2 ⟨rfl,NF',NS',room',h2,hg⟩))
 refine yR1 ?_
 rw [← hG] at h2
 exact ⟨rfl,NF',NS',room',(St.transM hS2 h2).sub (List.sublist_append_left _ _),hg⟩
set_option maxRecDepth 100000 in
set_option maxHeartbeats 8000000 in
theorem idxSp_fn {F:Nat→Prop} {w0 w:World} {Γ:List Asr} {gl gk gc:Nat} {vsh vF vS vsp:Value} {l:List (Sh×Value)} {NF NS:NL} {sp:List Sp}
  (hS0:St F w0 w (lkS gl (.pointer (some ⟨gk,0,none⟩)) vF vS 0 NF NS++Γ)) (hc:Bs (fps (lkS gl (.pointer (some ⟨gk,0,none⟩)) vF vS 0 NF NS)) w ⟨gc,0,none⟩ (.pointer (some ⟨gl,0,none⟩))) (hk:Bs (fps (lkS gl (.pointer (some ⟨gk,0,none⟩)) vF vS 0 NF NS)) w ⟨gk,0,none⟩ vsh) (hL:ShsF (fps (lkS gl (.pointer (some ⟨gk,0,none⟩)) vF vS 0 NF NS)) w l vsh) (hr:riseB 0 (shs l)=true)
  (hsl:Sl (fps (lkS gl (.pointer (some ⟨gk,0,none⟩)) vF vS 0 NF NS)) w 3 vsp (sp.map spC)) (hp:∀ p ∈ sp,SpF (fps (lkS gl (.pointer (some ⟨gk,0,none⟩)) vF vS 0 NF NS)) w p) (h4:sp.length≤4) (hF:∀ x ∈ NF,x.2=[]) (hSl:∀ x ∈ NS,x.2=[]) :
  Fn Try.prog 54 [vsp,.func (.func 26) #[] #[.pointer (some ⟨gc,0,none⟩)]] w (fun v w'=>(∃ i:Int,v=.int .i64 i∧decide (0≤i)=!(sp.map (·.s)).all (spaceB (shs l) NF.length NS.length))∧∃ NF' NS' room',St (fps (lkS gl (.pointer (some ⟨gk,0,none⟩)) vF vS 0 NF NS)) w w' (lkS gl (.pointer (some ⟨gk,0,none⟩)) vF vS room' NF' NS')∧((sp.map (·.s)).all (spaceB (shs l) NF.length NS.length)=true→room'=roomI (sp.map (·.s))∧Grown NF NF' 1 (allNm (sp.map (·.s)))∧Grown NS NS' 2 (allNm (sp.map (·.s))))):=by
 have hS:=St.startM hS0
 have bnd:=(hsl.now hS).bound
 obtain ⟨pp,c,hpp⟩:=(hsl.now hS).form
 rw [List.length_map] at hpp
 subst hpp
 generalize hG:fps (lkS gl (.pointer (some ⟨gk,0,none⟩)) vF vS 0 NF NS)=G at hS hk hL hp hc hsl ⊢
 clear hS0
 refine yEn Try.func54 Try.ntmps54 ?_
 repeat' ((refine yO ?_))
 refine c_loopK (Γ:=[]) (X:=Nat×NL×NL×Int) (fun x=>[(8,.int .i64 (x.1:Nat))]) [0,1,7] rfl (fun x=>lkS gl (.pointer (some ⟨gk,0,none⟩)) vF vS x.2.2.2 x.2.1 x.2.2.1) (fun x=>x.1≤sp.length∧((sp.map (·.s)).take x.1).all (spaceB (shs l) NF.length NS.length)=true∧x.2.2.2=roomI ((sp.map (·.s)).take x.1)∧Grown NF x.2.1 1 (allNm ((sp.map (·.s)).take x.1))∧Grown NS x.2.2.1 2 (allNm ((sp.map (·.s)).take x.1))) (fun x=>sp.length - x.1) (0,NF,NS,0) (by exact zS) ⟨Nat.zero_le _,rfl,rfl,Grown.refl _ _,Grown.refl _ _⟩ (by simpa only [List.append_nil] using hS) ?_
 clear hS
 rintro ⟨i,MF,MS,room⟩ w1 ⟨hi,hall,hroom,hGF,hGS⟩ hS
 dsimp only at hi hall hroom hGF hGS hS ⊢
 by_cases hlt:i < sp.length
 rotate_left
 ·obtain rfl:i=sp.length:=by omega
  rw [List.take_of_length_le (by rw [List.length_map];omega)] at hall hroom hGF hGS
  rw [List.append_nil] at hS
  rw [hall]
  repeat' (first|refine yO ?_|(refine yS ?_ ?_;all_goals (intro hb hp;try (exfalso;omega))))
  refine yR1 ?_
  exact ⟨⟨-1,rfl,rfl⟩,MF,MS,room,hS,fun _=>⟨hroom,hGF,hGS⟩⟩
 obtain ⟨x,hx⟩:=lt_get (l:=sp) (i:=i) (by omega)
 have hxs:(sp.map (·.s))[i]?=some x.s:=map_get (f:=fun p:Sp=>p.s) hx
 have hrow:=map_get (f:=spC) hx
 obtain ⟨b,off,rfl,hro⟩:=hsl.atF (i:=i) hlt
 have hxp:=hp x (List.mem_of_getElem? hx)
 have hbd:=spaces_bd hall
 have htl:((sp.map (·.s)).take i).length≤i:=by rw [List.length_take];omega
 have hlen:∀ {N M:NL} {kd:Int},(∀ x ∈ N,x.2=[])→Grown N M kd (allNm ((sp.map (·.s)).take i))→∀ x ∈ M,x.2.length≤1000:=fun {N M kd} hN hg y hy=>by
  obtain ⟨j,hj⟩:=List.mem_iff_getElem?.1 hy
  obtain ⟨z,hz⟩:=lt_get (l:=N) (i:=j) (by have:=lt_of_getE hj;rw [hg.1] at this;omega)
  obtain ⟨v,hv⟩:=hg.2 j z hz
  rw [hj] at hv
  cases hv
  show (z.2++_).length≤1000
  rw [hN z (List.mem_of_getElem? hz),List.nil_append]
  exact Nat.le_trans (List.length_filter_le _ _) (by omega)
 have hcall:=chk1_fn hS (hc.nowM hS) (hk.nowM hS) (hL.nowM hS) hr (hxp.nowM hS) (by omega) (hlen hF hGF) (hlen hSl hGS)
 rw [hGF.1,hGS.1] at hcall
 obtain ⟨pa,ca,hva⟩:=(hxp.ar.now hS).form
 obtain ⟨pe,ce,hve⟩:=(hxp.en.now hS).form
 obtain ⟨s,va,ve⟩:=x
 dsimp only at hva hve hxs hcall
 subst hva hve
 unfold spC at hrow hcall
 dsimp only at hrow hcall
 have htk:=take_snocE hxs
 repeat' (first|refine yO ?_|(refine yS ?_ ?_;all_goals (intro hb hp;try (exfalso;omega)))|(refine yL ?_;refine ⟨_,hcall,?_⟩;rintro _ w2 ⟨rfl,NF',NS',room',h2,hg⟩))
 ·have hbs:spaceB (shs l) NF.length NS.length s=false:=by simpa using hb
  have hno:(sp.map (·.s)).all (spaceB (shs l) NF.length NS.length)=false:=by
   rw [List.all_eq_false]
   exact ⟨s,List.mem_of_getElem? hxs,by rw [hbs];simp⟩
  refine yR1 ?_
  exact ⟨⟨((i:Nat):Int),rfl,by rw [hno,decide_eq_true (by omega)];rfl⟩,NF',NS',room',(St.transM hS h2).sub (List.sublist_append_left _ _),fun h=>by rw [hno] at h;cases h⟩
 ·have hbs:spaceB (shs l) NF.length NS.length s=true:=by simpa using hb
  obtain ⟨g1,g2,g3⟩:=hg hbs
  refine q_loopK (i + 1,NF',NS',room') (by exact zS) ⟨by show i + 1≤sp.length;omega,?_,?_,?_,?_⟩ (St.transM hS h2) (by show sp.length - (i + 1) < sp.length - i;omega)
  ·rw [htk,List.all_append,hall,List.all_cons,hbs];rfl
  ·rw [htk,roomI_snoc,← hroom];exact g1
  ·rw [htk,allNm_snoc];exact hGF.trans g2
  ·rw [htk,allNm_snoc];exact hGS.trans g3
end Go.Proofs.Ytejnpppejalhfac
/- A frame put aside: who names what, behind it. -/
namespace Go.Proofs.Ytejnpppejalhfac
open Go.RowKit Go.Sort
def nm1 (s:Sc) (k a:Int):List Nm:=(s.entries.filter fun e=>decide (e.kind=k∧e.at_=a)).map (nmOf s)
theorem namers_flat (L:List Sc) (k a:Int):namers L k a=L.flatMap fun s=>nm1 s k a:=rfl
def mvN (t:Int) (n:Nm):Nm:=(⟨n.1.page,2,t⟩,n.2)
theorem nmOf_aside (f:Int) (t:Option Int) (s:Sc):nmOf (asideS f t s)=nmOf s:=rfl
theorem aside_keep {f:Int} {t:Option Int} {k a:Int} (h1:¬(k=1∧a=f)) (h2:k=2→t≠some a):∀ (l:List En),(l.filterMap (asideE f t)).filter (fun e=>decide (e.kind=k∧e.at_=a))=l.filter (fun e=>decide (e.kind=k∧e.at_=a))
 |[]=>rfl
 |e::l=>by
  have ih:=aside_keep h1 h2 l
  rw [List.filterMap_cons]
  unfold asideE
  by_cases he:e.kind=1∧e.at_=f
  ·rw [if_pos he]
   have hn:¬(e.kind=k∧e.at_=a):=fun h=>h1 ⟨h.1.symm.trans he.1,h.2.symm.trans he.2⟩
   rw [List.filter_cons_of_neg (by simpa using hn)]
   cases t with
   |none=>exact ih
   |some s=>
    show List.filter _ (_::_)=_
    rw [List.filter_cons_of_neg]
    ·exact ih
    ·rw [decide_eq_true_eq]
     rintro ⟨h3,h4⟩
     exact h2 h3.symm (by rw [show s=a from h4])
  ·rw [if_neg he]
   show List.filter _ (e::_)=_
   by_cases hn:e.kind=k∧e.at_=a
   ·rw [List.filter_cons_of_pos (by simpa using hn),List.filter_cons_of_pos (by simpa using hn)]
    exact congrArg _ ih
   ·rw [List.filter_cons_of_neg (by simpa using hn),List.filter_cons_of_neg (by simpa using hn)]
    exact ih
theorem aside_gone {f:Int} {t:Option Int}:∀ (l:List En),(l.filterMap (asideE f t)).filter (fun e=>decide (e.kind=1∧e.at_=f))=[]
 |[]=>rfl
 |e::l=>by
  have ih:=aside_gone (f:=f) (t:=t) l
  rw [List.filterMap_cons]
  unfold asideE
  by_cases he:e.kind=1∧e.at_=f
  ·rw [if_pos he]
   cases t with
   |none=>exact ih
   |some s=>
    show List.filter _ (_::_)=_
    rw [List.filter_cons_of_neg]
    ·exact ih
    ·rw [decide_eq_true_eq]
     rintro ⟨h3,-⟩
     cases h3
  ·rw [if_neg he]
   show List.filter _ (e::_)=_
   rw [List.filter_cons_of_neg (by simpa using he)]
   exact ih
theorem aside_moved {f t:Int}:∀ (l:List En),(l.filter fun e=>decide (e.kind=2∧e.at_=t))=[]→(l.filterMap (asideE f (some t))).filter (fun e=>decide (e.kind=2∧e.at_=t))=(l.filter fun e=>decide (e.kind=1∧e.at_=f)).map fun e=>⟨e.page,2,t⟩
 |[],_=>rfl
 |e::l,h=>by
  have hn:¬(e.kind=2∧e.at_=t):=fun hh=>by
   rw [List.filter_cons_of_pos (by simpa using hh)] at h
   cases h
  rw [List.filter_cons_of_neg (by simpa using hn)] at h
  have ih:=aside_moved (f:=f) (t:=t) l h
  rw [List.filterMap_cons]
  unfold asideE
  by_cases he:e.kind=1∧e.at_=f
  ·rw [if_pos he,List.filter_cons_of_pos (by simpa using he)]
   show List.filter _ (_::_)=_
   rw [List.filter_cons_of_pos (by simp),List.map_cons]
   exact congrArg _ ih
  ·rw [if_neg he]
   show List.filter _ (e::_)=_
   rw [List.filter_cons_of_neg (by simpa using hn),List.filter_cons_of_neg (by simpa using he)]
   exact ih
theorem nm1_keep {f:Int} {t:Option Int} {k a:Int} (h1:¬(k=1∧a=f)) (h2:k=2→t≠some a) (s:Sc):nm1 (asideS f t s) k a=nm1 s k a:=by
 unfold nm1
 rw [nmOf_aside]
 exact congrArg _ (aside_keep h1 h2 s.entries)
theorem nm1_gone {f:Int} {t:Option Int} (s:Sc):nm1 (asideS f t s) 1 f=[]:=by
 unfold nm1
 rw [show (asideS f t s).entries=s.entries.filterMap (asideE f t) from rfl,aside_gone]
 rfl
theorem nm1_moved {f t:Int} {s:Sc} (h:nm1 s 2 t=[]):nm1 (asideS f (some t) s) 2 t=(nm1 s 1 f).map (mvN t):=by
 unfold nm1 at h ⊢
 rw [List.map_eq_nil_iff] at h
 rw [nmOf_aside,show (asideS f (some t) s).entries=s.entries.filterMap (asideE f (some t)) from rfl,aside_moved _ h,List.map_map,List.map_map]
 rfl
theorem namers_keep {f:Int} {t:Option Int} {k a:Int} (h1:¬(k=1∧a=f)) (h2:k=2→t≠some a) (L:List Sc):namers (L.map (asideS f t)) k a=namers L k a:=by
 rw [namers_flat,namers_flat,List.flatMap_map]
 exact congrArg (fun g=>List.flatMap g L) (funext fun s=>nm1_keep h1 h2 s)
theorem namers_gone {f:Int} {t:Option Int} (L:List Sc):namers (L.map (asideS f t)) 1 f=[]:=by
 rw [namers_flat,List.flatMap_map,List.flatMap_eq_nil_iff]
 exact fun s _=>nm1_gone s
theorem namers_moved {f t:Int}:∀ {L:List Sc},namers L 2 t=[]→namers (L.map (asideS f (some t))) 2 t=(namers L 1 f).map (mvN t)
 |[],_=>rfl
 |s::L,h=>by
  rw [namers_flat,List.flatMap_cons,List.append_eq_nil_iff] at h
  rw [List.map_cons,namers_flat,List.flatMap_cons,namers_flat,List.flatMap_cons,List.map_append,nm1_moved h.1]
  exact congrArg _ (namers_moved h.2)
/-! a space's entries -/
def entIn (A:List Ar) (nf ns:Int) (e:En):Prop:=(findA A e.page).isSome=true∧((e.kind=1∧0≤e.at_∧e.at_ < nf)∨(e.kind=2∧0≤e.at_∧e.at_ < ns))
theorem entsB_iff {A:List Ar} {nf ns:Int}:∀ {l:List En} {last:Int},entsB A nf ns last l=true ↔ (∀ e ∈ l,entIn A nf ns e∧last < e.page)∧Rises (pagesE l)
 |[],last=>by simp [entsB,Rises,pagesE]
 |e::l,last=>by
  show (entOk A nf ns last e && entsB A nf ns e.page l)=true ↔ _
  rw [Bool.and_eq_true,entsB_iff (l:=l)]
  unfold entOk
  rw [Bool.and_eq_true,decide_eq_true_eq]
  show _ ↔ _∧List.Pairwise _ (e.page::pagesE l)
  rw [List.pairwise_cons]
  constructor
  ·rintro ⟨⟨h1,h2,h3⟩,h4,h5⟩
   refine ⟨fun x hx=>?_,fun p hp=>?_,h5⟩
   ·rcases List.mem_cons.1 hx with rfl|hx
    ·exact ⟨⟨h1,h3⟩,h2⟩
    ·have:=h4 x hx
     exact ⟨this.1,by omega⟩
   ·obtain ⟨x,hx,rfl⟩:=List.mem_map.1 hp
    exact (h4 x hx).2
  ·rintro ⟨h1,h2,h3⟩
   have h0:=h1 e List.mem_cons_self
   exact ⟨⟨h0.1.1,h0.2,h0.1.2⟩,fun x hx=>⟨(h1 x (List.mem_cons_of_mem _ hx)).1,h2 _ (List.mem_map.2 ⟨x,hx,rfl⟩)⟩,h3⟩
structure ScOk (sh:List Sh) (nf ns:Int) (s:Sc):Prop where
 dead:s.live=false→s.areas=[]∧s.entries=[]
 ar:checkI s.areas=0
 pages:pagesB sh s.areas=true
 ents:∀ e ∈ s.entries,entIn s.areas nf ns e
 rises:Rises (pagesE s.entries)
theorem scOk_iff {sh:List Sh} {nf ns:Int} {s:Sc}:spaceB sh nf ns s=true ↔ ScOk sh nf ns s:=by
 unfold spaceB
 cases hl:s.live with
 |false=>
  rw [if_neg (by simp),decide_eq_true_eq]
  constructor
  ·rintro ⟨h1,h2⟩
   refine ⟨fun _=>⟨h1,h2⟩,by rw [h1];rfl,by rw [h1];rfl,by rw [h2];simp,by rw [h2];exact List.Pairwise.nil⟩
  ·exact fun h=>h.dead hl
 |true=>
  rw [if_pos rfl,Bool.and_eq_true,Bool.and_eq_true,decide_eq_true_eq,entsB_iff]
  constructor
  ·rintro ⟨h1,h2,h3,h4⟩
   exact ⟨fun h=>(by rw [hl] at h;cases h),h1,h2,fun e he=>(h3 e he).1,h4⟩
  ·intro h
   exact ⟨h.ar,h.pages,fun e he=>⟨h.ents e he,ents_first h.ar (h.ents e he).1⟩,h.rises⟩
theorem aside_pages (f:Int) (t:Option Int):∀ (l:List En),(pagesE (l.filterMap (asideE f t))).Sublist (pagesE l)
 |[]=>List.Sublist.refl _
 |e::l=>by
  have ih:=aside_pages f t l
  rw [List.filterMap_cons]
  unfold asideE
  by_cases he:e.kind=1∧e.at_=f
  ·rw [if_pos he]
   cases t with
   |none=>exact List.Sublist.cons _ ih
   |some s=>exact List.Sublist.cons_cons _ ih
  ·rw [if_neg he]
   exact List.Sublist.cons_cons _ ih
theorem asideS_ok {sh:List Sh} {nf ns f:Int} {t:Option Int} {s:Sc} (h:ScOk sh nf ns s) (ht:∀ a,t=some a→0≤a∧a < ns):ScOk sh nf ns (asideS f t s):=by
 refine ⟨fun hl=>⟨(h.dead hl).1,?_⟩,h.ar,h.pages,fun e he=>?_,h.rises.sublist (aside_pages f t s.entries)⟩
 ·show s.entries.filterMap _=[]
  rw [(h.dead hl).2]
  rfl
 ·replace he:e ∈ s.entries.filterMap (asideE f t):=he
  obtain ⟨x,hx,hxe⟩:=List.mem_filterMap.1 he
  have h1:=h.ents x hx
  unfold asideE at hxe
  split at hxe
  ·cases t with
   |none=>cases hxe
   |some a=>
    cases hxe
    exact ⟨h1.1,Or.inr ⟨rfl,ht a rfl⟩⟩
  ·cases hxe
   exact h1
theorem roomI_aside (f:Int) (t:Option Int) (L:List Sc):roomI (L.map (asideS f t))=roomI L:=by
 unfold roomI
 rw [List.map_map]
 rfl
theorem fmAt_eq {l:List Fm} {i:Nat} {f:Fm} (h:l[i]?=some f):fmAt l i=f:=by unfold fmAt;rw [h];rfl
theorem swAt_eq {l:List Sw} {i:Nat} {f:Sw} (h:l[i]?=some f):swAt l i=f:=by unfold swAt;rw [h];rfl
theorem freeS_some {l:List Sw} {t:Nat} (h:freeS l=some t):∃ s,l[t]?=some s∧s.refs=0:=by
 unfold freeS at h
 rw [List.findIdx?_eq_some_iff_getElem] at h
 obtain ⟨h1,h2,-⟩:=h
 exact ⟨l[t],List.getElem?_eq_getElem h1,of_decide_eq_true h2⟩
theorem freeF_some {l:List Fm} {t:Nat} (h:freeF l=some t):∃ s,l[t]?=some s∧s.refs=0:=by
 unfold freeF at h
 rw [List.findIdx?_eq_some_iff_getElem] at h
 obtain ⟨h1,h2,-⟩:=h
 exact ⟨l[t],List.getElem?_eq_getElem h1,of_decide_eq_true h2⟩
theorem freeF_none {l:List Fm} (h:freeF l=none):∀ f ∈ l,f.refs≠0:=by
 unfold freeF at h
 rw [List.findIdx?_eq_none_iff] at h
 intro f hf
 have:=h f hf
 simpa using this
theorem freeS_none {l:List Sw} (h:freeS l=none):∀ f ∈ l,f.refs≠0:=by
 unfold freeS at h
 rw [List.findIdx?_eq_none_iff] at h
 intro f hf
 have:=h f hf
 simpa using this
theorem SwOk.free {s:Sw} {N:List Nm} (h:SwOk s N) (h0:s.refs=0):N=[]∧s=sw0:=by
 have h1:=h.refs
 have:N=[]:=List.eq_nil_of_length_eq_zero (by omega)
 exact ⟨this,h.nil this⟩
theorem FmOk.free {sh:List Sh} {s:Fm} {N:List Nm} (h:FmOk sh s N) (h0:s.refs=0):N=[]∧s=fm0:=by
 have h1:=h.refs
 have:N=[]:=List.eq_nil_of_length_eq_zero (by omega)
 exact ⟨this,h.nil this⟩
theorem FmOk.zero (sh:List Sh):FmOk sh fm0 []:=⟨rfl,fun _=>rfl,fun h=>absurd rfl h,(fun _ h=>by cases h),(fun _ h=>by cases h)⟩
theorem SwOk.zero:SwOk sw0 []:=⟨rfl,fun _=>rfl,fun h=>absurd rfl h,(fun _ h=>by cases h)⟩
theorem get_set {α:Type} {l:List α} {i j:Nat} {x y:α} (h:(l.set i x)[j]?=some y):(i=j∧y=x∧j < l.length)∨(i≠j∧l[j]?=some y):=by
 rw [List.getElem?_set] at h
 by_cases e:i=j
 ·rw [if_pos e] at h
  split at h
  ·rename_i hl;cases h;exact Or.inl ⟨e,rfl,e ▸ hl⟩
  ·cases h
 ·rw [if_neg e] at h
  exact Or.inr ⟨e,h⟩
theorem asideK_right {K:Ker} (h:Right K) {f:Nat} (hf:f < K.frames.length) (hfree:(fmAt K.frames f).dirty=true→∃ t,freeS K.slots=some t):Right (asideK K f):=by
 obtain ⟨hc,hr,hh,hsp,hroom,hfr,hsl⟩:=h
 have hff:=List.getElem?_eq_getElem hf
 have hfo:=hfr f _ hff
 have hmap:∀ (t:Option Int),(∀ a,t=some a→0≤a∧a < (K.slots.length:Int))→∀ s ∈ K.spaces.map (asideS (f:Nat) t),spaceB K.sheets K.frames.length K.slots.length s=true:=fun t ht s hs=>by
  obtain ⟨x,hx,rfl⟩:=List.mem_map.1 hs
  exact scOk_iff.2 (asideS_ok (scOk_iff.1 (hsp x hx)) ht)
 have hfrn:∀ (t:Option Int) (i:Nat) g,(K.frames.set f fm0)[i]?=some g→FmOk K.sheets g (namers (K.spaces.map (asideS (f:Nat) t)) 1 (i:Nat)):=fun t i g hg=>by
  rcases get_set hg with ⟨rfl,rfl,_⟩|⟨hne,hg⟩
  ·rw [namers_gone];exact FmOk.zero _
  ·rw [namers_keep (by omega) (fun h=>by omega)]
   exact hfr i g hg
 unfold asideK asideT
 cases hd:(fmAt K.frames f).dirty with
 |false=>
  rw [if_neg (by simp)]
  refine ⟨by simpa using hc,hr,by simpa using hh,by simpa using hmap none (fun a h=>by cases h),by rw [roomI_aside];exact hroom,hfrn none,fun i s hs=>?_⟩
  dsimp only at hs ⊢
  rw [namers_keep (by omega) (fun _ h=>by cases h)]
  exact hsl i s hs
 |true=>
  obtain ⟨t,ht⟩:=hfree hd
  obtain ⟨s0,hs0,hs1⟩:=freeS_some ht
  have htl:=lt_of_getE hs0
  have hz:=(hsl t s0 hs0).free hs1
  rw [if_pos rfl,ht]
  rw [fmAt_eq hff] at hd ⊢
  refine ⟨by simpa using hc,hr,by simpa using hh,by simpa using hmap (some (t:Nat)) (fun a h=>by cases h;omega),by rw [roomI_aside];simpa using hroom,hfrn (some (t:Nat)),fun i s hs=>?_⟩
  dsimp only [Option.map,Option.getD] at hs ⊢
  rcases get_set hs with ⟨rfl,rfl,_⟩|⟨hne,hs⟩
  ·rw [namers_moved hz.1]
   refine ⟨by rw [List.length_map];exact hfo.refs,fun hn=>?_,fun hn=>hfo.len (fun e=>hn (by rw [e];rfl)),fun n hn m hm=>?_⟩
   ·rw [List.map_eq_nil_iff] at hn
    rw [hfo.nil hn] at hd
    cases hd
   ·obtain ⟨n',hn',rfl⟩:=List.mem_map.1 hn
    obtain ⟨m',hm',rfl⟩:=List.mem_map.1 hm
    exact hfo.same n' hn' m' hm'
  ·rw [namers_keep (by omega) (fun _ h=>by cases h;omega)]
   exact hsl i s hs
end Go.Proofs.Ytejnpppejalhfac
/- A free slot is there; the clock; a frame that is got. -/
namespace Go.Proofs.Ytejnpppejalhfac
open Go.RowKit Go.Sort
theorem rising_len:∀ {l:List Int} {lo hi:Int},Rises l→(∀ p ∈ l,lo≤p∧p < hi)→lo≤hi→(l.length:Int)≤hi - lo
 |[],lo,hi,_,_,h=>by simp;omega
 |p::l,lo,hi,hr,hp,h=>by
  have h1:=hp p List.mem_cons_self
  have ih:=rising_len (l:=l) (lo:=p + 1) (hi:=hi) (List.pairwise_cons.1 hr).2 (fun q hq=>⟨by have:=(List.pairwise_cons.1 hr).1 q hq;omega,(hp q (List.mem_cons_of_mem _ hq)).2⟩) (by omega)
  rw [List.length_cons]
  omega
theorem filter_split {α:Type} (p:α→Bool):∀ (l:List α),l.length=(l.filter p).length + (l.filter fun x=>!p x).length
 |[]=>rfl
 |x::l=>by
  have ih:=filter_split p l
  cases hx:p x with
  |true=>
   rw [List.filter_cons_of_pos hx,List.filter_cons_of_neg (by simp [hx]),List.length_cons,List.length_cons]
   omega
  |false=>
   rw [List.filter_cons_of_neg (by simp [hx]),List.filter_cons_of_pos (by simp [hx]),List.length_cons,List.length_cons]
   omega
theorem filter_or {α:Type} (p q:α→Bool):∀ (l:List α),(∀ x ∈ l,¬(p x=true∧q x=true))→(l.filter fun x=>p x||q x).length=(l.filter p).length + (l.filter q).length
 |[],_=>rfl
 |x::l,h=>by
  have ih:=filter_or p q l (fun y hy=>h y (List.mem_cons_of_mem _ hy))
  have hx:=h x List.mem_cons_self
  cases h1:p x with
  |true=>
   have h2:q x=false:=by simpa [h1] using hx
   rw [List.filter_cons_of_pos (by simp [h1]),List.filter_cons_of_pos h1,List.filter_cons_of_neg (by simp [h2]),List.length_cons,List.length_cons]
   omega
  |false=>
   cases h2:q x with
   |true=>
    rw [List.filter_cons_of_pos (by simp [h2]),List.filter_cons_of_neg (by simp [h1]),List.filter_cons_of_pos h2,List.length_cons,List.length_cons]
    omega
   |false=>
    rw [List.filter_cons_of_neg (by simp [h1,h2]),List.filter_cons_of_neg (by simp [h1]),List.filter_cons_of_neg (by simp [h2])]
    omega
theorem ents_areas:∀ {A:List Ar} {e0:Int},RiseF e0 A→∀ {l:List Int},Rises l→(∀ p ∈ l,(findA A p).isSome=true)→(l.length:Int)≤sumN A
 |[],_,_,l,_,h=>by
  cases l with
  |nil=>simp [sumN]
  |cons p l=>have:=h p List.mem_cons_self;simp [findA] at this
 |a::A,e0,hA,l,hr,h=>by
  obtain ⟨h1,h2,h3⟩:=hA
  have hok:=h1
  unfold Ar.ok at hok
  have hlt:∀ b ∈ A,a.fin≤b.pg:=fun b hb=>(rise_from h3 b hb).1
  rw [filter_split (fun p=>decide (p < a.fin)) l]
  have c1:=rising_len (l:=l.filter fun p=>decide (p < a.fin)) (lo:=a.pg) (hi:=a.fin) (hr.sublist (List.filter_sublist)) (fun p hp=>by
   rw [List.mem_filter,decide_eq_true_eq] at hp
   refine ⟨?_,hp.2⟩
   have hs:=h p hp.1
   unfold findA at hs
   by_cases hb:holdsB p a=true
   ·unfold holdsB at hb
    rw [decide_eq_true_eq] at hb
    exact hb.1
   ·rw [List.find?_cons_of_neg hb] at hs
    obtain ⟨b,hbb⟩:=Option.isSome_iff_exists.1 hs
    have h4:=hlt b (List.mem_of_find?_eq_some hbb)
    have h5:=List.find?_some hbb
    unfold holdsB at h5
    rw [decide_eq_true_eq] at h5
    omega) (by unfold Ar.fin;omega)
  have c2:=ents_areas h3 (l:=l.filter fun p=>!decide (p < a.fin)) (hr.sublist (List.filter_sublist)) (fun p hp=>by
   rw [List.mem_filter,Bool.not_eq_true',decide_eq_false_iff_not] at hp
   have hs:=h p hp.1
   unfold findA at hs ⊢
   rw [List.find?_cons_of_neg] at hs
   ·exact hs
   ·unfold holdsB
    rw [decide_eq_true_eq]
    omega)
  unfold Ar.fin at c1
  show _≤a.n + sumN A
  unfold Ar.fin at c2 ⊢
  push_cast
  omega
theorem scOk_len {sh:List Sh} {nf ns:Int} {s:Sc} (h:ScOk sh nf ns s):(s.entries.length:Int)≤sumN s.areas:=by
 have:=ents_areas (checkI_zero.1 h.ar).2.1 h.rises (fun p hp=>by
  obtain ⟨e,he,rfl⟩:=List.mem_map.1 hp
  exact (h.ents e he).1)
 unfold pagesE at this
 rwa [List.length_map] at this
theorem allNm_room {sh:List Sh} {nf ns:Int}:∀ {L:List Sc},(∀ s ∈ L,ScOk sh nf ns s)→((allNm L).length:Int)≤roomI L
 |[],_=>by simp [allNm,roomI]
 |s::L,h=>by
  have h1:=scOk_len (h s List.mem_cons_self)
  have h2:=allNm_room (L:=L) (fun x hx=>h x (List.mem_cons_of_mem _ hx))
  have e1:allNm (s::L)=s.entries.map (nmOf s)++allNm L:=by unfold allNm;simp
  have e2:roomI (s::L)=sumN s.areas + roomI L:=by unfold roomI;simp
  rw [e1,e2,List.length_append,List.length_map]
  omega
theorem count_ge (X:List Nm):∀ (n:Nat),(∀ i:Nat,i < n→X.filter (fun (m:Nm)=>decide (m.1.kind=2∧m.1.at_=((i:Nat):Int)))≠[])→n≤(X.filter fun (m:Nm)=>decide (m.1.kind=2∧0≤m.1.at_∧m.1.at_ < ((n:Nat):Int))).length
 |0,_=>Nat.zero_le _
 |n + 1,h=>by
  have ih:=count_ge X n (fun i hi=>h i (by omega))
  have hn:=List.length_pos_iff.2 (h n (by omega))
  have e:(X.filter fun (m:Nm)=>decide (m.1.kind=2∧0≤m.1.at_∧m.1.at_ < ((n + 1:Nat):Int)))=X.filter (fun (m:Nm)=>(decide (m.1.kind=2∧0≤m.1.at_∧m.1.at_ < ((n:Nat):Int)))||decide (m.1.kind=2∧m.1.at_=((n:Nat):Int))):=by
   refine congrArg (fun p=>List.filter p X) (funext fun m=>?_)
   rw [Bool.eq_iff_iff,Bool.or_eq_true,decide_eq_true_eq,decide_eq_true_eq,decide_eq_true_eq]
   omega
  rw [e,filter_or _ _ _ (fun x _=>by rw [decide_eq_true_eq,decide_eq_true_eq];omega)]
  omega
theorem filter_two {α:Type} (p q:α→Bool) (l:List α) (h:∀ x ∈ l,¬(p x=true∧q x=true)):(l.filter p).length + (l.filter q).length≤l.length:=by
 rw [← filter_or p q l h]
 exact List.length_filter_le _ _
theorem free_slot {K:Ker} (h:Right K) {f:Nat} (hf:f < K.frames.length) (hr:(fmAt K.frames f).refs≠0):∃ t,freeS K.slots=some t:=by
 cases hfs:freeS K.slots with
 |some t=>exact ⟨t,rfl⟩
 |none=>
  exfalso
  have hno:=freeS_none hfs
  have hroom:=allNm_room (L:=K.spaces) (fun s hs=>scOk_iff.1 (h.spaces s hs))
  have h1:=h.room
  have hc:=count_ge (allNm K.spaces) K.slots.length (fun i hi=>by
   rw [allNm_filter]
   intro e
   have:=h.sl i _ (List.getElem?_eq_getElem hi)
   rw [e] at this
   exact hno _ (List.getElem_mem hi) this.refs)
  have hff:=List.getElem?_eq_getElem hf
  have h2:=h.fr f _ hff
  rw [fmAt_eq hff] at hr
  have h3:(namers K.spaces 1 (f:Nat)).length≠0:=fun e=>hr (by rw [h2.refs,e];rfl)
  rw [← allNm_filter] at h3
  have h4:=filter_two (fun (m:Nm)=>decide (m.1.kind=2∧0≤m.1.at_∧m.1.at_ < ((K.slots.length:Nat):Int))) (fun (n:Nm)=>decide (n.1.kind=1∧n.1.at_=((f:Nat):Int))) (allNm K.spaces) (fun x _=>by rw [decide_eq_true_eq,decide_eq_true_eq];omega)
  omega
/-! the clock -/
def seenN (l:List Fm):Nat:=l.countP fun f=>f.seen
def distC (n h:Nat) (held:List Nat):Nat:=if h ∈ held then (if nextH n h ∈ held then 2 else 1) else 0
def mClock (fr:List Fm) (h:Nat) (held:List Nat):Nat:=3 * seenN fr + distC fr.length h held
theorem nextH_lt {n h:Nat} (hn:h < n):nextH n h < n:=by unfold nextH;split <;> omega
theorem distC_le (n h:Nat) (held:List Nat):distC n h held≤2:=by unfold distC;split <;> (try split) <;> omega
theorem distC_next {n h:Nat} {held:List Nat} (h3:3≤n) (hn:h < n) (hl:held.length≤2) (hh:h ∈ held):distC n (nextH n h) held < distC n h held:=by
 unfold distC
 rw [if_pos hh]
 by_cases h1:nextH n h ∈ held
 ·rw [if_pos h1,if_pos h1,if_neg]
  ·omega
  ·intro h2
   have hnd:[h,nextH n h,nextH n (nextH n h)].Nodup:=by
    have e1:h≠nextH n h:=by unfold nextH;split <;> omega
    have e2:h≠nextH n (nextH n h):=by unfold nextH;split <;> split <;> omega
    have e3:nextH n h≠nextH n (nextH n h):=by unfold nextH;split <;> split <;> omega
    simp [e1,e2,e3]
   have:=nodup_len hnd (m:=held) (fun x hx=>by
    rcases List.mem_cons.1 hx with rfl|hx
    ·exact hh
    rcases List.mem_cons.1 hx with rfl|hx
    ·exact h1
    rcases List.mem_cons.1 hx with rfl|hx
    ·exact h2
    ·cases hx)
   simp at this
   omega
 ·rw [if_neg h1,if_neg h1]
  omega
theorem seenN_set:∀ {l:List Fm} {i:Nat} {f x:Fm},l[i]?=some f→f.seen=true→x.seen=false→seenN (l.set i x) + 1=seenN l
 |[],_,_,_,h,_,_=>by simp at h
 |a::l,0,f,x,h,hf,hx=>by
  simp at h
  subst h
  unfold seenN
  rw [List.set_cons_zero,List.countP_cons_of_pos hf,List.countP_cons_of_neg (by simp [hx])]
 |a::l,i + 1,f,x,h,hf,hx=>by
  have ih:=seenN_set (l:=l) (i:=i) (by simpa using h) hf hx
  unfold seenN at ih ⊢
  rw [List.set_cons_succ,List.countP_cons,List.countP_cons]
  omega
def alikeF (a b:Fm):Prop:=a.data=b.data∧a.refs=b.refs∧a.dirty=b.dirty
theorem fmAt_set {l:List Fm} {i j:Nat} {x:Fm}:fmAt (l.set i x) j=if i=j∧j < l.length then x else fmAt l j:=by
 unfold fmAt
 rw [List.getElem?_set]
 by_cases e:i=j
 ·subst e
  rw [if_pos rfl]
  by_cases h:i < l.length
  ·rw [if_pos h,if_pos ⟨rfl,h⟩];rfl
  ·rw [if_neg h,if_neg (fun hh=>h hh.2),List.getElem?_eq_none (by omega)]
 ·rw [if_neg e,if_neg (fun hh=>e hh.1)]
theorem swAt_set {l:List Sw} {i j:Nat} {x:Sw}:swAt (l.set i x) j=if i=j∧j < l.length then x else swAt l j:=by
 unfold swAt
 rw [List.getElem?_set]
 by_cases e:i=j
 ·subst e
  rw [if_pos rfl]
  by_cases h:i < l.length
  ·rw [if_pos h,if_pos ⟨rfl,h⟩];rfl
  ·rw [if_neg h,if_neg (fun hh=>h hh.2),List.getElem?_eq_none (by omega)]
 ·rw [if_neg e,if_neg (fun hh=>e hh.1)]
theorem clock_ok {held:List Nat} (hl:held.length≤2):∀ (k:Nat) {fr:List Fm} {h:Nat},3≤fr.length→h < fr.length→mClock fr h held < k →
  (clockF k fr h held).2.2 < fr.length∧(clockF k fr h held).2.2 ∉ held∧(clockF k fr h held).2.1 < fr.length∧(clockF k fr h held).1.length=fr.length∧(∀ i,alikeF (fmAt (clockF k fr h held).1 i) (fmAt fr i))∧∀ i ∈ held,fmAt (clockF k fr h held).1 i=fmAt fr i
 |0,_,_,_,_,hm=>absurd hm (Nat.not_lt_zero _)
 |k + 1,fr,h,h3,hn,hm=>by
  unfold clockF
  by_cases hh:h ∈ held
  ·rw [if_pos hh]
   have hd:=distC_next h3 hn hl hh
   exact clock_ok hl k h3 (nextH_lt hn) (by unfold mClock at hm ⊢;omega)
  ·rw [if_neg hh]
   have hget:=List.getElem?_eq_getElem hn
   cases hs:(fmAt fr h).seen with
   |false=>
    rw [if_neg (by simp)]
    exact ⟨hn,hh,nextH_lt hn,rfl,fun i=>⟨rfl,rfl,rfl⟩,fun i _=>rfl⟩
   |true=>
    rw [if_pos rfl]
    have hse:=seenN_set (x:=⟨(fmAt fr h).data,(fmAt fr h).refs,(fmAt fr h).dirty,false⟩) hget (by rw [← fmAt_eq hget];exact hs) rfl
    have hd2:=distC_le fr.length (nextH fr.length h) held
    have hlen:(fr.set h ⟨(fmAt fr h).data,(fmAt fr h).refs,(fmAt fr h).dirty,false⟩).length=fr.length:=by simp
    have ih:=clock_ok hl k (fr:=fr.set h ⟨(fmAt fr h).data,(fmAt fr h).refs,(fmAt fr h).dirty,false⟩) (h:=nextH fr.length h) (by rw [hlen];exact h3) (by rw [hlen];exact nextH_lt hn) (by unfold mClock at hm ⊢;rw [hlen];omega)
    rw [hlen] at ih
    obtain ⟨i1,i2,i3,i4,i5,i6⟩:=ih
    refine ⟨i1,i2,i3,i4,fun i=>?_,fun i hi=>?_⟩
    ·have h5:=i5 i
     rw [fmAt_set] at h5
     by_cases e:h=i∧i < fr.length
     ·rw [if_pos e] at h5
      obtain ⟨rfl,-⟩:=e
      exact h5
     ·rw [if_neg e] at h5
      exact h5
    ·rw [i6 i hi,fmAt_set,if_neg]
     rintro ⟨rfl,-⟩
     exact hh hi
theorem mClock_lt {fr:List Fm} (h64:fr.length≤64) (h:Nat) (held:List Nat):mClock fr h held < 5000:=by
 unfold mClock seenN
 have h1:=List.countP_le_length (p:=fun (f:Fm)=>f.seen) (l:=fr)
 have h2:=distC_le fr.length h held
 omega
theorem FmOk.alike {sh:List Sh} {f g:Fm} {N:List Nm} (h:FmOk sh f N) (ha:alikeF g f) (hr:f.refs≠0):FmOk sh g N:=by
 obtain ⟨a1,a2,a3⟩:=ha
 refine ⟨by rw [a2];exact h.refs,fun e=>absurd (by rw [h.refs,e];rfl) hr,by rw [a1];exact h.len,h.same,fun n hn=>by rw [a1,a3];exact h.data n hn⟩
theorem clockK_right {K:Ker} (h:Right K) {held:List Nat} (hl:held.length≤2) (hfree:freeF K.frames=none) :
  Right ⟨K.sheets,(clockK K held).1,K.slots,K.spaces,((clockK K held).2.1:Nat)⟩∧(clockK K held).2.2 < K.frames.length∧(clockK K held).2.2 ∉ held∧(∀ i,alikeF (fmAt (clockK K held).1 i) (fmAt K.frames i))∧(∀ i ∈ held,fmAt (clockK K held).1 i=fmAt K.frames i)∧(clockK K held).1.length=K.frames.length:=by
 have hh:=h.hand
 have hc:=h.cnt
 obtain ⟨c1,c2,c3,c4,c5,c6⟩:=clock_ok hl 5000 (fr:=K.frames) (h:=K.hand.toNat) hc.1 (by omega) (mClock_lt hc.2.1 _ _)
 refine ⟨⟨by dsimp only [clockK];rw [c4];exact hc,h.rise,?_,?_,h.room,fun i g hg=>?_,h.sl⟩,c1,c2,c5,c6,c4⟩
 ·show 0≤(((clockF 5000 K.frames K.hand.toNat held).2.1:Nat):Int)∧(((clockF 5000 K.frames K.hand.toNat held).2.1:Nat):Int) < ((clockF 5000 K.frames K.hand.toNat held).1.length:Int)
  rw [c4]
  omega
 ·intro s hs
  show spaceB K.sheets ((clockF 5000 K.frames K.hand.toNat held).1.length:Int) K.slots.length s=true
  rw [c4]
  exact h.spaces s hs
 ·replace hg:(clockF 5000 K.frames K.hand.toNat held).1[i]?=some g:=hg
  have hil:i < K.frames.length:=by have:=lt_of_getE hg;omega
  have hig:=List.getElem?_eq_getElem hil
  have:=c5 i
  rw [fmAt_eq hg,fmAt_eq hig] at this
  exact (h.fr i _ hig).alike this (freeF_none hfree _ (List.getElem_mem hil))
end Go.Proofs.Ytejnpppejalhfac
/- A frame that is got, an entry that is put, a page that is brought: what comes is right, and no page tells another thing. -/
namespace Go.Proofs.Ytejnpppejalhfac
open Go.RowKit Go.Sort
theorem entAt_mem {l:List En} {p:Int} {e:En} (h:entAt l p=some e):e ∈ l∧e.page=p:=⟨List.mem_of_find?_eq_some h,by have:=List.find?_some h;simpa using this⟩
theorem entAt_of {l:List En} (hr:Rises (pagesE l)) {e:En} (h:e ∈ l):entAt l e.page=some e:=by
 induction l with
 |nil=>cases h
 |cons a l ih=>
  unfold entAt
  have hp:=List.pairwise_cons.1 hr
  rcases List.mem_cons.1 h with rfl|h
  ·rw [List.find?_cons_of_pos (by simp)]
  ·have:a.page < e.page:=hp.1 e.page (List.mem_map.2 ⟨e,h,rfl⟩)
   rw [List.find?_cons_of_neg (by simp;omega)]
   exact ih hp.2 h
theorem entAt_none {l:List En} {p:Int}:entAt l p=none ↔ p ∉ pagesE l:=by
 unfold entAt pagesE
 rw [List.find?_eq_none,List.mem_map]
 constructor
 ·rintro h ⟨e,he,rfl⟩
  exact h e he (by simp)
 ·intro h e he hp
  exact h ⟨e,he,by simpa using hp⟩
theorem asideE_page {f:Int} {t:Option Int} {e x:En} (h:asideE f t e=some x):x.page=e.page:=by
 unfold asideE at h
 split at h
 ·cases t with
  |none=>cases h
  |some s=>cases h;rfl
 ·cases h;rfl
theorem entAt_aside {f:Int} {t:Option Int} {l:List En} (hr:Rises (pagesE l)) (p:Int):entAt (l.filterMap (asideE f t)) p=(entAt l p).bind (asideE f t):=by
 have hr2:=hr.sublist (aside_pages f t l)
 cases h:entAt l p with
 |none=>
  rw [entAt_none] at h
  exact entAt_none.2 fun hp=>h ((aside_pages f t l).subset hp)
 |some e=>
  obtain ⟨he,rfl⟩:=entAt_mem h
  show _=asideE f t e
  cases hx:asideE f t e with
  |some x=>
   have:=entAt_of hr2 (List.mem_filterMap.2 ⟨e,he,hx⟩)
   rwa [asideE_page hx] at this
  |none=>
   rw [entAt_none]
   intro hp
   obtain ⟨y,hy,hyp⟩:=List.mem_map.1 hp
   obtain ⟨z,hz,hzy⟩:=List.mem_filterMap.1 hy
   have h1:=asideE_page hzy
   have h2:=entAt_of hr hz
   rw [← h1,hyp,h] at h2
   cases h2
   rw [hx] at hzy
   cases hzy
theorem scAt_eq {K:Ker} {sp:Nat} {s:Sc} (h:K.spaces[sp]?=some s):scAt K sp=s:=by unfold scAt;rw [h];rfl
theorem scAt_none {K:Ker} {sp:Nat} (h:K.spaces[sp]?=none):scAt K sp=sc0:=by unfold scAt;rw [h];rfl
theorem mem_namers {K:Ker} {sp:Nat} {s:Sc} {e:En} (h:K.spaces[sp]?=some s) (he:e ∈ s.entries):nmOf s e ∈ namers K.spaces e.kind e.at_:=by
 rw [namers_flat,List.mem_flatMap]
 refine ⟨s,List.mem_of_getElem? h,?_⟩
 unfold nm1
 exact List.mem_map.2 ⟨e,List.mem_filter.2 ⟨he,by simp⟩,rfl⟩
theorem zAt_nm {K:Ker} {sp:Nat} {s:Sc} (h:K.spaces[sp]?=some s) (e:En):(nmOf s e).2.z=zAt K sp e.page:=by
 unfold zAt areasOf nmOf
 rw [scAt_eq h]
theorem Right.ent {K:Ker} (h:Right K) {sp:Nat} {s:Sc} {e:En} (hs:K.spaces[sp]?=some s) (he:e ∈ s.entries) :
  (findA s.areas e.page).isSome=true∧((e.kind=1∧(∃ f:Nat,e.at_=(f:Nat)∧f < K.frames.length))∨(e.kind=2∧∃ f:Nat,e.at_=(f:Nat)∧f < K.slots.length)):=by
 have h1:=(scOk_iff.1 (h.spaces s (List.mem_of_getElem? hs))).ents e he
 refine ⟨h1.1,?_⟩
 rcases h1.2 with ⟨a,b,c⟩|⟨a,b,c⟩
 ·exact Or.inl ⟨a,e.at_.toNat,by omega,by omega⟩
 ·exact Or.inr ⟨a,e.at_.toNat,by omega,by omega⟩
structure SameP (K K':Ker):Prop where
 sheets:K'.sheets=K.sheets
 nfr:K'.frames.length=K.frames.length
 nsl:K'.slots.length=K.slots.length
 nsp:K'.spaces.length=K.spaces.length
 ar:∀ sp,areasOf K' sp=areasOf K sp
 live:∀ sp,(scAt K' sp).live=(scAt K sp).live
 peek:∀ sp p,peekK K' sp p=peekK K sp p
theorem SameP.refl (K:Ker):SameP K K:=⟨rfl,rfl,rfl,rfl,fun _=>rfl,fun _=>rfl,fun _ _=>rfl⟩
theorem SameP.trans {K K' K2:Ker} (h:SameP K K') (h2:SameP K' K2):SameP K K2:=⟨h2.sheets.trans h.sheets,h2.nfr.trans h.nfr,h2.nsl.trans h.nsl,h2.nsp.trans h.nsp,fun s=>(h2.ar s).trans (h.ar s),fun s=>(h2.live s).trans (h.live s),fun s p=>(h2.peek s p).trans (h.peek s p)⟩
theorem fillAt_same {K K':Ker} {sp:Nat} (hs:K'.sheets=K.sheets) (ha:areasOf K' sp=areasOf K sp) (p:Int):fillAt K' sp p=fillAt K sp p:=by
 unfold fillAt zAt
 rw [hs,ha]
theorem scAt_map {K K':Ker} {g:Sc→Sc} (h:K'.spaces=K.spaces.map g) (sp:Nat):(K.spaces[sp]?=none∧scAt K' sp=sc0∧scAt K sp=sc0)∨∃ s,K.spaces[sp]?=some s∧scAt K sp=s∧scAt K' sp=g s:=by
 unfold scAt
 rw [h,List.getElem?_map]
 cases hk:K.spaces[sp]? with
 |none=>exact Or.inl ⟨rfl,rfl,rfl⟩
 |some s=>exact Or.inr ⟨s,rfl,rfl,rfl⟩
theorem asideK_spec {K:Ker} (h:Right K) {f:Nat} (hf:f < K.frames.length) (hfree:(fmAt K.frames f).dirty=true→∃ t,freeS K.slots=some t) :
  SameP K (asideK K f)∧fmAt (asideK K f).frames f=fm0∧namers (asideK K f).spaces 1 (f:Nat)=[]∧(∀ i,i≠f→fmAt (asideK K f).frames i=fmAt K.frames i)∧(∀ i,(swAt K.slots i).refs≠0→swAt (asideK K f).slots i=swAt K.slots i)∧(∀ sp p,entAt (entsOf (asideK K f) sp) p=(entAt (entsOf K sp) p).bind (asideE (f:Nat) ((asideT K f).map fun (t:Nat)=>(t:Int)))):=by
 have hff:=List.getElem?_eq_getElem hf
 have hfo:=h.fr f _ hff
 have hent:∀ sp p,entAt (entsOf (asideK K f) sp) p=(entAt (entsOf K sp) p).bind (asideE (f:Nat) ((asideT K f).map fun (t:Nat)=>(t:Int))):=fun sp p=>by
  unfold entsOf
  rcases scAt_map (K':=asideK K f) (K:=K) (g:=asideS (f:Nat) ((asideT K f).map fun (t:Nat)=>(t:Int))) rfl sp with ⟨-,h1,h2⟩|⟨s,hs,h1,h2⟩
  ·rw [h1,h2];rfl
  ·rw [h1,h2]
   exact entAt_aside (scOk_iff.1 (h.spaces s (List.mem_of_getElem? hs))).rises p
 have harea:∀ sp,areasOf (asideK K f) sp=areasOf K sp:=fun sp=>by
  unfold areasOf
  rcases scAt_map (K':=asideK K f) (K:=K) (g:=asideS (f:Nat) ((asideT K f).map fun (t:Nat)=>(t:Int))) rfl sp with ⟨-,h1,h2⟩|⟨s,hs,h1,h2⟩ <;> rw [h1,h2] <;> rfl
 have hlive:∀ sp,(scAt (asideK K f) sp).live=(scAt K sp).live:=fun sp=>by
  rcases scAt_map (K':=asideK K f) (K:=K) (g:=asideS (f:Nat) ((asideT K f).map fun (t:Nat)=>(t:Int))) rfl sp with ⟨-,h1,h2⟩|⟨s,hs,h1,h2⟩ <;> rw [h1,h2] <;> rfl
 have hfr:∀ i,fmAt (asideK K f).frames i=if f=i then fm0 else fmAt K.frames i:=fun i=>by
  show fmAt (K.frames.set f fm0) i=_
  rw [fmAt_set]
  by_cases e:f=i
  ·subst e;rw [if_pos ⟨rfl,hf⟩,if_pos rfl]
  ·rw [if_neg (fun hh=>e hh.1),if_neg e]
 have hT:∀ t,asideT K f=some t→(fmAt K.frames f).dirty=true∧(swAt K.slots t).refs=0∧t < K.slots.length∧namers K.spaces 2 (t:Nat)=[]∧(asideK K f).slots=K.slots.set t ⟨(fmAt K.frames f).data,(fmAt K.frames f).refs⟩:=fun t ht=>by
  have ht0:=ht
  unfold asideT at ht
  cases hd:(fmAt K.frames f).dirty with
  |false=>rw [hd] at ht;cases ht
  |true=>
   obtain ⟨u,hu⟩:=hfree hd
   rw [hd,hu] at ht
   obtain rfl:u=t:=by simpa using ht
   obtain ⟨s0,hs0,hs1⟩:=freeS_some hu
   refine ⟨rfl,by rw [swAt_eq hs0];exact hs1,lt_of_getE hs0,((h.sl u s0 hs0).free hs1).1,?_⟩
   unfold asideK
   rw [ht0]
 have hT0:asideT K f=none→(fmAt K.frames f).dirty=false∧(asideK K f).slots=K.slots:=fun ht=>by
  have ht0:=ht
  unfold asideT at ht
  cases hd:(fmAt K.frames f).dirty with
  |false=>exact ⟨rfl,by unfold asideK;rw [ht0]⟩
  |true=>rw [hd] at ht;cases ht
 have hsw:∀ i,(swAt K.slots i).refs≠0→swAt (asideK K f).slots i=swAt K.slots i:=fun i hi=>by
  cases ht:asideT K f with
  |none=>rw [(hT0 ht).2]
  |some t=>
   obtain ⟨-,h2,-,-,h5⟩:=hT t ht
   rw [h5,swAt_set,if_neg]
   rintro ⟨rfl,-⟩
   exact hi h2
 refine ⟨⟨rfl,by show (K.frames.set f fm0).length=_;simp,?_,by show (K.spaces.map _).length=_;simp,harea,hlive,fun sp p=>?_⟩,by rw [hfr,if_pos rfl],namers_gone _,fun i hi=>by rw [hfr,if_neg (Ne.symm hi)],hsw,hent⟩
 ·cases ht:asideT K f with
  |none=>rw [(hT0 ht).2]
  |some t=>rw [(hT t ht).2.2.2.2];simp
 ·unfold peekK
  rw [hent]
  have hfill:fillAt (asideK K f) sp p=fillAt K sp p:=fillAt_same (K:=K) (K':=asideK K f) rfl (harea sp) p
  cases he:entAt (entsOf K sp) p with
  |none=>exact hfill
  |some e=>
   obtain ⟨hem,hep⟩:=entAt_mem he
   rcases scAt_map (K':=K) (K:=K) (g:=id) (List.map_id _).symm sp with ⟨h0,-,h2⟩|⟨s,hs,h1,-⟩
   ·unfold entsOf at hem
    rw [h2] at hem
    cases hem
   ·have hes:e ∈ s.entries:=by unfold entsOf at hem;rwa [h1] at hem
    have hnm:=mem_namers hs hes
    show (match asideE (f:Nat) ((asideT K f).map fun (t:Nat)=>(t:Int)) e with
     |some e=>dataE (asideK K f) e
     |none=>fillAt (asideK K f) sp p)=dataE K e
    unfold asideE
    by_cases hk:e.kind=1∧e.at_=(f:Nat)
    ·rw [if_pos hk]
     rw [hk.1,hk.2] at hnm
     have hd:=hfo.data _ hnm
     rw [zAt_nm hs] at hd
     have hdat:dataE K e=(fmAt K.frames f).data:=by unfold dataE;rw [if_pos hk.1,hk.2];rfl
     rw [hdat]
     cases ht:asideT K f with
     |none=>
      rw [← fmAt_eq hff] at hd
      rcases hd with hd|hd
      ·rw [(hT0 ht).1] at hd;cases hd
      ·show fillAt (asideK K f) sp p=_
       rw [hfill]
       unfold fillAt
       have:(nmOf s e).1.page=p:=hep
       rw [hep] at hd
       rw [show (nmOf s e).1.page=p from hep] at hd
       rw [← hd]
       rfl
     |some t=>
      obtain ⟨-,-,h3,-,h5⟩:=hT t ht
      show dataE (asideK K f) ⟨e.page,2,(t:Nat)⟩=_
      unfold dataE
      rw [if_neg (by show ¬((2:Int)=1);omega),h5,show ((t:Nat):Int).toNat=t from rfl,swAt_set,if_pos ⟨rfl,h3⟩]
    ·rw [if_neg hk]
     show dataE (asideK K f) e=dataE K e
     unfold dataE
     by_cases hk1:e.kind=1
     ·rw [if_pos hk1,if_pos hk1,hfr,if_neg]
      rintro rfl
      rcases (h.ent hs hes).2 with ⟨-,g,hg,-⟩|⟨h2,-⟩
      ·exact hk ⟨hk1,by omega⟩
      ·omega
     ·rw [if_neg hk1,if_neg hk1]
      rcases (h.ent hs hes).2 with ⟨h1,-⟩|⟨h2,g,hg,hgl⟩
      ·exact absurd h1 hk1
      ·rw [hsw]
       rw [hg]
       have hgo:=h.sl g _ (List.getElem?_eq_getElem hgl)
       rw [h2,hg] at hnm
       rw [show ((g:Nat):Int).toNat=g from rfl,swAt_eq (List.getElem?_eq_getElem hgl),hgo.refs]
       intro e0
       have:namers K.spaces 2 (g:Nat)=[]:=List.eq_nil_of_length_eq_zero (by omega)
       rw [this] at hnm
       cases hnm
end Go.Proofs.Ytejnpppejalhfac
/- A frame that is got; an entry that is put in a frame that is free. -/
namespace Go.Proofs.Ytejnpppejalhfac
open Go.RowKit Go.Sort
structure GotOk (K:Ker) (held:List Nat) (r:Ker×Nat):Prop where
 right:Right r.1
 same:SameP K r.1
 lt:r.2 < K.frames.length
 zero:fmAt r.1.frames r.2=fm0
 nobody:namers r.1.spaces 1 (r.2:Nat)=[]
 kept:∀ i ∈ held,(fmAt K.frames i).refs≠0→r.2≠i∧fmAt r.1.frames i=fmAt K.frames i
 slots:∀ i,(swAt K.slots i).refs≠0→swAt r.1.slots i=swAt K.slots i
 some_:∀ sp p e,entAt (entsOf K sp) p=some e→(e.kind≠1∨∃ i ∈ held,e.at_=((i:Nat):Int)∧(fmAt K.frames i).refs≠0)→entAt (entsOf r.1 sp) p=some e
 none_:∀ sp p,entAt (entsOf K sp) p=none→entAt (entsOf r.1 sp) p=none
theorem getK_ok {K:Ker} (h:Right K) {held:List Nat} (hl:held.length≤2):GotOk K held (getK K held):=by
 unfold getK
 cases hf:freeF K.frames with
 |some i=>
  obtain ⟨f,hfi,h0⟩:=freeF_some hf
  have hz:=(h.fr i f hfi).free h0
  refine ⟨h,SameP.refl K,lt_of_getE hfi,by show fmAt K.frames i=_;rw [fmAt_eq hfi];exact hz.2,hz.1,fun j _ hj=>⟨?_,rfl⟩,fun _ _=>rfl,fun _ _ _ h _=>h,fun _ _ h=>h⟩
  rintro rfl
  rw [fmAt_eq hfi] at hj
  exact hj h0
 |none=>
  obtain ⟨c1,c2,c3,c4,c5,c6⟩:=clockK_right h hl hf
  have hnz:∀ i,i < K.frames.length→(fmAt K.frames i).refs≠0:=fun i hi=>by
   rw [fmAt_eq (List.getElem?_eq_getElem hi)]
   exact freeF_none hf _ (List.getElem_mem hi)
  have hfl:(clockK K held).2.2 < (⟨K.sheets,(clockK K held).1,K.slots,K.spaces,((clockK K held).2.1:Nat)⟩:Ker).frames.length:=by show _ < (clockK K held).1.length;rw [c6];exact c2
  have hfree:=free_slot c1 hfl (by show (fmAt (clockK K held).1 _).refs≠0;rw [(c4 _).2.1];exact hnz _ c2)
  have hr:=asideK_right c1 hfl (fun _=>hfree)
  obtain ⟨s1,s2,s3,s4,s5,s6⟩:=asideK_spec c1 hfl (fun _=>hfree)
  have hs0:SameP K ⟨K.sheets,(clockK K held).1,K.slots,K.spaces,((clockK K held).2.1:Nat)⟩:=by
   refine ⟨rfl,c6,rfl,rfl,fun _=>rfl,fun _=>rfl,fun sp p=>?_⟩
   unfold peekK
   show (match entAt (entsOf K sp) p with
    |some e=>dataE ⟨K.sheets,(clockK K held).1,K.slots,K.spaces,((clockK K held).2.1:Nat)⟩ e
    |none=>fillAt K sp p)=_
   cases entAt (entsOf K sp) p with
   |none=>rfl
   |some e=>
    show dataE _ e=dataE K e
    unfold dataE
    rw [(c4 _).1]
  refine ⟨hr,hs0.trans s1,c2,s2,s3,fun i hi h0=>⟨?_,?_⟩,fun i hi=>s5 i hi,fun sp p e he hk=>?_,fun sp p he=>?_⟩
  ·rintro rfl;exact c3 hi
  ·show fmAt (asideK _ _).frames i=_
   rw [s4 i (fun e=>c3 (by rw [← e];exact hi))]
   exact c5 i hi
  ·show entAt (entsOf (asideK _ _) sp) p=_
   rw [s6]
   show ((entAt (entsOf K sp) p).bind _)=_
   rw [he]
   show asideE _ _ e=_
   unfold asideE
   rw [if_neg]
   rintro ⟨k1,k2⟩
   rcases hk with hk|⟨i,hi,hk,-⟩
   ·exact hk k1
   ·have:(clockK K held).2.2=i:=by omega
    exact c3 (by rw [this];exact hi)
  ·show entAt (entsOf (asideK _ _) sp) p=_
   rw [s6]
   show ((entAt (entsOf K sp) p).bind _)=_
   rw [he]
   rfl
/-! an entry at its place -/
theorem entAt_iff {l:List En} (hr:Rises (pagesE l)) {q:Int} {x:En}:entAt l q=some x ↔ x ∈ l∧x.page=q:=by
 constructor
 ·exact entAt_mem
 ·rintro ⟨h,rfl⟩;exact entAt_of hr h
theorem lbd_cons (a:Int) (l:List Int) (t:Int):lbd (a::l) t=if a < t then lbd l t + 1 else 0:=by
 unfold lbd
 rw [List.takeWhile_cons]
 by_cases h:a < t
 ·rw [if_pos (by simpa using h),if_pos h,List.length_cons]
 ·rw [if_neg (by simpa using h),if_neg h];rfl
theorem lbd_split:∀ {l:List Int} (_:Rises l) (t:Int),(∀ p ∈ l.take (lbd l t),p < t)∧(∀ p ∈ l.drop (lbd l t),t≤p)
 |[],_,t=>by simp
 |a::l,h,t=>by
  have hp:=List.pairwise_cons.1 h
  rw [lbd_cons]
  by_cases c:a < t
  ·rw [if_pos c]
   obtain ⟨i1,i2⟩:=lbd_split hp.2 t
   refine ⟨fun p hp'=>?_,by simpa using i2⟩
   rw [List.take_succ_cons] at hp'
   rcases List.mem_cons.1 hp' with rfl|hp'
   ·exact c
   ·exact i1 p hp'
  ·rw [if_neg c]
   refine ⟨by simp,fun p hp'=>?_⟩
   rw [List.drop_zero] at hp'
   rcases List.mem_cons.1 hp' with rfl|hp'
   ·omega
   ·have:=hp.1 p hp';omega
theorem insE_perm (l:List En) (e:En):(insE l e).Perm (e::l):=by
 unfold insE
 refine List.perm_middle.trans ?_
 rw [List.take_append_drop]
theorem insE_rises {l:List En} (h:Rises (pagesE l)) {e:En} (hn:e.page ∉ pagesE l):Rises (pagesE (insE l e)):=by
 obtain ⟨h1,h2⟩:=lbd_split h e.page
 have h3:Rises ((pagesE l).take (lbd (pagesE l) e.page)):=h.sublist (List.take_sublist _ _)
 have h4:Rises ((pagesE l).drop (lbd (pagesE l) e.page)):=h.sublist (List.drop_sublist _ _)
 have e1:pagesE (insE l e)=(pagesE l).take (lbd (pagesE l) e.page)++e.page::(pagesE l).drop (lbd (pagesE l) e.page):=by
  unfold insE pagesE
  rw [List.map_append,List.map_cons,List.map_take,List.map_drop]
 rw [e1]
 refine List.pairwise_append.2 ⟨h3,List.pairwise_cons.2 ⟨fun p hp=>?_,h4⟩,fun a ha b hb=>?_⟩
 ·have:=h2 p hp
  have hne:p≠e.page:=fun e0=>hn (by rw [← e0];exact List.mem_of_mem_drop hp)
  omega
 ·have:=h1 a ha
  rcases List.mem_cons.1 hb with rfl|hb
  ·exact this
  ·have:=h2 b hb;omega
theorem putE_spec {l:List En} (h:Rises (pagesE l)) (e:En):∃ R,l.Perm ((entAt l e.page).toList++R)∧(putE l e).Perm (e::R)∧Rises (pagesE (putE l e))∧(putE l e).length≤l.length + 1:=by
 unfold putE
 by_cases hm:e.page ∈ pagesE l
 ·rw [if_pos hm]
  have hi:=(lbd_find h e.page).2 hm
  unfold pagesE at hi
  rw [List.getElem?_map] at hi
  obtain ⟨x,hx,hxp⟩:=Option.map_eq_some_iff.1 hi
  have he:entAt l e.page=some x:=(entAt_iff h).2 ⟨List.mem_of_getElem? hx,hxp⟩
  refine ⟨l.eraseIdx (lbd (pagesE l) e.page),?_,?_,?_,by simp⟩
  ·rw [he];exact perm_erase hx
  ·have:=perm_erase (l:=l.set (lbd (pagesE l) e.page) e) (k:=lbd (pagesE l) e.page) (b:=e) (by rw [List.getElem?_set];simp;exact lt_of_getE hx)
   rwa [erase_set] at this
  ·have:pagesE (l.set (lbd (pagesE l) e.page) e)=pagesE l:=by
    have e1:pagesE (l.set (lbd (pagesE l) e.page) e)=(pagesE l).set (lbd (pagesE l) e.page) e.page:=by unfold pagesE;rw [List.map_set]
    rw [e1]
    refine List.ext_getElem? fun j=>?_
    rw [List.getElem?_set]
    by_cases hj:lbd (pagesE l) e.page=j
    ·rw [if_pos hj,hj.symm]
     have h9:=(lbd_find h e.page).2 hm
     rw [if_pos (lt_of_getE h9),h9]
    ·rw [if_neg hj]
   rw [this]
   exact h
 ·rw [if_neg hm]
  refine ⟨l,?_,insE_perm l e,insE_rises h hm,by rw [(insE_perm l e).length_eq];simp⟩
  rw [entAt_none.2 hm]
  exact List.Perm.refl _
theorem entAt_put {l:List En} (h:Rises (pagesE l)) (e:En) (q:Int):entAt (putE l e) q=if q=e.page then some e else entAt l q:=by
 obtain ⟨R,h1,h2,h3,-⟩:=putE_spec h e
 by_cases hq:q=e.page
 ·rw [if_pos hq]
  exact (entAt_iff h3).2 ⟨h2.mem_iff.2 List.mem_cons_self,hq.symm⟩
 ·rw [if_neg hq]
  cases hx:entAt l q with
  |some x=>
   obtain ⟨hx1,hx2⟩:=entAt_mem hx
   refine (entAt_iff h3).2 ⟨h2.mem_iff.2 (List.mem_cons_of_mem _ ?_),hx2⟩
   rcases List.mem_append.1 (h1.mem_iff.1 hx1) with h4|h4
   ·exfalso
    rw [Option.mem_toList] at h4
    exact hq (hx2.symm.trans (entAt_mem h4).2)
   ·exact h4
  |none=>
   cases hy:entAt (putE l e) q with
   |none=>rfl
   |some y=>
    exfalso
    obtain ⟨hy1,hy2⟩:=entAt_mem hy
    rcases List.mem_cons.1 (h2.mem_iff.1 hy1) with rfl|h4
    ·exact hq hy2.symm
    ·have:=(entAt_iff h).2 ⟨h1.mem_iff.2 (List.mem_append_right _ h4),hy2⟩
     rw [hx] at this
     cases this
/-! namers, one space set apart -/
def nmL (s:Sc) (k a:Int) (l:List En):List Nm:=(l.filter fun e=>decide (e.kind=k∧e.at_=a)).map (nmOf s)
theorem nmL_perm {s:Sc} {k a:Int} {l m:List En} (h:l.Perm m):(nmL s k a l).Perm (nmL s k a m):=(h.filter _).map _
theorem nmL_app (s:Sc) (k a:Int) (l m:List En):nmL s k a (l++m)=nmL s k a l++nmL s k a m:=by unfold nmL;rw [List.filter_append,List.map_append]
theorem nmL_hit {s:Sc} {k a:Int} {e:En} (l:List En) (h:e.kind=k∧e.at_=a):nmL s k a (e::l)=nmOf s e::nmL s k a l:=by unfold nmL;rw [List.filter_cons_of_pos (by simpa using h)];rfl
theorem nmL_miss {s:Sc} {k a:Int} {e:En} (l:List En) (h:¬(e.kind=k∧e.at_=a)):nmL s k a (e::l)=nmL s k a l:=by unfold nmL;rw [List.filter_cons_of_neg (by simpa using h)]
theorem namers_set {L:List Sc} {sp:Nat} {s s':Sc} (h:L[sp]?=some s) (k a:Int):(namers (L.set sp s') k a).Perm (nm1 s' k a++namers (L.eraseIdx sp) k a)∧(namers L k a).Perm (nm1 s k a++namers (L.eraseIdx sp) k a):=by
 constructor
 ·have:=perm_erase (l:=L.set sp s') (k:=sp) (b:=s') (by rw [List.getElem?_set];simp;exact lt_of_getE h)
  rw [erase_set] at this
  exact this.flatMap_right _
 ·exact (perm_erase h).flatMap_right _
theorem FmOk.dec {sh:List Sh} {f:Fm} {n:Nm} {N:List Nm} (h:FmOk sh f (n::N)):FmOk sh (decFm f) N:=by
 have hr:=h.refs
 rw [List.length_cons] at hr
 unfold decFm
 by_cases h0:f.refs - 1=0
 ·rw [if_pos h0]
  obtain rfl:N=[]:=List.eq_nil_of_length_eq_zero (by omega)
  exact FmOk.zero sh
 ·rw [if_neg h0]
  exact ⟨by show f.refs - 1=_;omega,fun e=>absurd (by rw [e] at hr;simp at hr;omega) h0,fun _=>h.len (by simp),fun a ha b hb=>h.same a (List.mem_cons_of_mem _ ha) b (List.mem_cons_of_mem _ hb),fun a ha=>h.data a (List.mem_cons_of_mem _ ha)⟩
theorem SwOk.dec {f:Sw} {n:Nm} {N:List Nm} (h:SwOk f (n::N)):SwOk (decSw f) N:=by
 have hr:=h.refs
 rw [List.length_cons] at hr
 unfold decSw
 by_cases h0:f.refs - 1=0
 ·rw [if_pos h0]
  obtain rfl:N=[]:=List.eq_nil_of_length_eq_zero (by omega)
  exact SwOk.zero
 ·rw [if_neg h0]
  exact ⟨by show f.refs - 1=_;omega,fun e=>absurd (by rw [e] at hr;simp at hr;omega) h0,fun _=>h.len (by simp),fun a ha b hb=>h.same a (List.mem_cons_of_mem _ ha) b (List.mem_cons_of_mem _ hb)⟩
theorem dec_data {sh:List Sh} {f:Fm} {n m:Nm} {N:List Nm} (h:FmOk sh f (n::m::N)):(decFm f).data=f.data:=by
 have hr:=h.refs
 rw [List.length_cons,List.length_cons] at hr
 unfold decFm
 rw [if_neg (by omega)]
theorem decS_data {f:Sw} {n m:Nm} {N:List Nm} (h:SwOk f (n::m::N)):(decSw f).data=f.data:=by
 have hr:=h.refs
 rw [List.length_cons,List.length_cons] at hr
 unfold decSw
 rw [if_neg (by omega)]
theorem letO_spaces (K:Ker) (o:Option En):(letO K o).spaces=K.spaces∧(letO K o).sheets=K.sheets∧(letO K o).hand=K.hand∧(letO K o).frames.length=K.frames.length∧(letO K o).slots.length=K.slots.length:=by
 cases o with
 |none=>exact ⟨rfl,rfl,rfl,rfl,rfl⟩
 |some e=>
  show (letK K e).spaces=_∧(letK K e).sheets=_∧(letK K e).hand=_∧(letK K e).frames.length=_∧(letK K e).slots.length=_
  unfold letK
  split
  ·exact ⟨rfl,rfl,rfl,List.length_set,rfl⟩
  ·exact ⟨rfl,rfl,rfl,rfl,List.length_set⟩
end Go.Proofs.Ytejnpppejalhfac
/- An entry put: what comes is right; what each page tells. -/
namespace Go.Proofs.Ytejnpppejalhfac
open Go.RowKit Go.Sort
structure InOk (K K':Ker) (sp:Nat) (page:Int) (f:Nat) (data:List UInt8) (dirty:Bool):Prop where
 right:Right K'
 sheets:K'.sheets=K.sheets
 nfr:K'.frames.length=K.frames.length
 nsl:K'.slots.length=K.slots.length
 nsp:K'.spaces.length=K.spaces.length
 ar:∀ i,areasOf K' i=areasOf K i
 live:∀ i,(scAt K' i).live=(scAt K i).live
 peek:∀ i p,¬(i=sp∧p=page)→peekK K' i p=peekK K i p
 here:peekK K' sp page=data
 ent:∀ i p,entAt (entsOf K' i) p=if i=sp∧p=page then some ⟨page,1,(f:Nat)⟩ else entAt (entsOf K i) p
 fm:fmAt K'.frames f=⟨data,1,dirty,false⟩
 other:∀ i,i≠f→(∀ w0,entAt (entsOf K sp) page=some w0→¬(w0.kind=1∧w0.at_=((i:Nat):Int)))→fmAt K'.frames i=fmAt K.frames i
theorem inK_ok {K:Ker} {sp:Nat} {s:Sc} {page:Int} {f:Nat} {data:List UInt8} {dirty:Bool} (h:Right K) (hs:K.spaces[sp]?=some s) (hlive:s.live=true) (ha:(findA s.areas page).isSome=true) (hf:f < K.frames.length) (hN:namers K.spaces 1 (f:Nat)=[]) (hd:data.length=16) (hfill:dirty=true∨some data=fillP K.sheets (zAt K sp page) page):InOk K (inK K sp page f data dirty) sp page f data dirty:=by
 have hsc:=scOk_iff.1 (h.spaces s (List.mem_of_getElem? hs))
 have hse:=scAt_eq hs
 have hent:entsOf K sp=s.entries:=by unfold entsOf;rw [hse]
 obtain ⟨e',he'⟩:∃ e':En,e'=⟨page,1,(f:Nat)⟩:=⟨_,rfl⟩
 obtain ⟨s',hs'⟩:∃ s':Sc,s'=⟨s.live,s.areas,putE s.entries e'⟩:=⟨_,rfl⟩
 obtain ⟨was,hwas⟩:∃ o,o=entAt s.entries page:=⟨_,rfl⟩
 obtain ⟨R,r1,r2,r3,r4⟩:=putE_spec hsc.rises e'
 have hpe:e'.page=page:=by rw [he']
 rw [hpe,← hwas] at r1
 have hM:∀ k a,(namers K.spaces k a).Perm (nmL s k a was.toList++(nmL s k a R++namers (K.spaces.eraseIdx sp) k a)):=fun k a=>by
  refine (namers_set (s':=s') hs k a).2.trans ?_
  rw [← List.append_assoc,← nmL_app]
  exact List.Perm.append_right _ (nmL_perm r1)
 have hM':∀ k a,(namers (K.spaces.set sp s') k a).Perm (nmL s k a [e']++(nmL s k a R++namers (K.spaces.eraseIdx sp) k a)):=fun k a=>by
  refine (namers_set (s':=s') hs k a).1.trans ?_
  rw [← List.append_assoc,← nmL_app]
  refine List.Perm.append_right _ ?_
  have:nm1 s' k a=nmL s k a (putE s.entries e'):=by rw [hs'];rfl
  rw [this]
  exact nmL_perm r2
 obtain ⟨M,hMd⟩:∃ M:Int→Int→List Nm,M=fun k a=>nmL s k a R++namers (K.spaces.eraseIdx sp) k a:=⟨_,rfl⟩
 have hMe:∀ k a,nmL s k a R++namers (K.spaces.eraseIdx sp) k a=M k a:=fun k a=>by rw [hMd]
 simp only [hMe] at hM hM'
 have hMf:M 1 (f:Nat)=[]:=by
  have:=(hM 1 (f:Nat)).symm.trans (by rw [hN])
  exact (List.append_eq_nil_iff.1 this.eq_nil).2
 have hwf:∀ w0,was=some w0→w0.kind=1→w0.at_≠(f:Nat):=fun w0 hw k1 k2=>by
  have:=(hM 1 (f:Nat)).symm.trans (by rw [hN])
  rw [hw,Option.toList_some,nmL_hit [] ⟨k1,k2⟩] at this
  cases this.eq_nil
 have hwin:∀ w0,was=some w0→(w0.kind=1∧∃ b:Nat,w0.at_=(b:Nat)∧b < K.frames.length)∨(w0.kind=2∧∃ b:Nat,w0.at_=(b:Nat)∧b < K.slots.length):=fun w0 hw=>by
  rw [hwas] at hw
  exact (h.ent hs (entAt_mem hw).1).2
 -- what comes
 have hK':inK K sp page f data dirty=⟨K.sheets,(letO (setFm K f ⟨data,1,dirty,false⟩) was).frames,(letO (setFm K f ⟨data,1,dirty,false⟩) was).slots,K.spaces.set sp s',K.hand⟩:=by
  unfold inK setEnts setSc
  rw [hent,← hwas,hs',he']
  obtain ⟨l1,l2,l3,-⟩:=letO_spaces (setFm K f ⟨data,1,dirty,false⟩) was
  have hl:scAt (letO (setFm K f ⟨data,1,dirty,false⟩) was) sp=s:=by
   unfold scAt
   rw [l1]
   show (K.spaces[sp]?).getD sc0=s
   rw [hs]
   rfl
  rw [hl,l1,l2,l3]
  rfl
 rw [hK']
 have hlens:=letO_spaces (setFm K f ⟨data,1,dirty,false⟩) was
 have hlf:(letO (setFm K f ⟨data,1,dirty,false⟩) was).frames.length=K.frames.length:=by rw [hlens.2.2.2.1];show (K.frames.set f _).length=_;simp
 have hls:(letO (setFm K f ⟨data,1,dirty,false⟩) was).slots.length=K.slots.length:=by rw [hlens.2.2.2.2];rfl
 have hscs:∀ i,scAt ⟨K.sheets,(letO (setFm K f ⟨data,1,dirty,false⟩) was).frames,(letO (setFm K f ⟨data,1,dirty,false⟩) was).slots,K.spaces.set sp s',K.hand⟩ i=if i=sp then s' else scAt K i:=fun i=>by
  unfold scAt
  show ((K.spaces.set sp s')[i]?).getD sc0=_
  rw [List.getElem?_set]
  by_cases e:sp=i
  ·subst e;rw [if_pos rfl,if_pos (lt_of_getE hs),if_pos rfl];rfl
  ·rw [if_neg e,if_neg (fun hh=>e hh.symm)]
 have har:∀ i,areasOf ⟨K.sheets,(letO (setFm K f ⟨data,1,dirty,false⟩) was).frames,(letO (setFm K f ⟨data,1,dirty,false⟩) was).slots,K.spaces.set sp s',K.hand⟩ i=areasOf K i:=fun i=>by
  unfold areasOf
  rw [hscs]
  by_cases e:i=sp
  ·subst e;rw [if_pos rfl,hse,hs']
  ·rw [if_neg e]
 have hlv:∀ i,(scAt ⟨K.sheets,(letO (setFm K f ⟨data,1,dirty,false⟩) was).frames,(letO (setFm K f ⟨data,1,dirty,false⟩) was).slots,K.spaces.set sp s',K.hand⟩ i).live=(scAt K i).live:=fun i=>by
  rw [hscs]
  by_cases e:i=sp
  ·subst e;rw [if_pos rfl,hse,hs']
  ·rw [if_neg e]
 have hen:∀ i p,entAt (entsOf ⟨K.sheets,(letO (setFm K f ⟨data,1,dirty,false⟩) was).frames,(letO (setFm K f ⟨data,1,dirty,false⟩) was).slots,K.spaces.set sp s',K.hand⟩ i) p=if i=sp∧p=page then some ⟨page,1,(f:Nat)⟩ else entAt (entsOf K i) p:=fun i p=>by
  unfold entsOf
  rw [hscs]
  by_cases e:i=sp
  ·subst e
   rw [if_pos rfl,hse,hs']
   show entAt (putE s.entries e') p=_
   rw [entAt_put hsc.rises,hpe]
   by_cases e2:p=page
   ·rw [if_pos e2,if_pos ⟨rfl,e2⟩,he']
   ·rw [if_neg e2,if_neg (fun hh=>e2 hh.2)]
  ·rw [if_neg e,if_neg (fun hh=>e hh.1)]
 -- frames and slots
 have hfr:∀ i,fmAt (letO (setFm K f ⟨data,1,dirty,false⟩) was).frames i=if i=f then ⟨data,1,dirty,false⟩ else if (∃ w0,was=some w0∧w0.kind=1∧w0.at_=(i:Nat)) then decFm (fmAt K.frames i) else fmAt K.frames i:=fun i=>by
  have hset:∀ j,fmAt (K.frames.set f ⟨data,1,dirty,false⟩) j=if j=f then ⟨data,1,dirty,false⟩ else fmAt K.frames j:=fun j=>by
   rw [fmAt_set]
   by_cases e:f=j
   ·subst e;rw [if_pos ⟨rfl,hf⟩,if_pos rfl]
   ·rw [if_neg (fun hh=>e hh.1),if_neg (fun hh=>e hh.symm)]
  cases hw:was with
  |none=>
   show fmAt (K.frames.set f _) i=_
   rw [hset]
   by_cases e:i=f
   ·rw [if_pos e,if_pos e]
   ·rw [if_neg e,if_neg e,if_neg]
    rintro ⟨w0,h1,-⟩
    cases h1
  |some w0=>
   have h1:=hwf w0 hw
   show fmAt (letK (setFm K f _) w0).frames i=_
   unfold letK
   rcases hwin w0 hw with ⟨k,b,hb,hbl⟩|⟨k,b,hb,hbl⟩
   ·rw [if_pos k]
    show fmAt ((K.frames.set f ⟨data,1,dirty,false⟩).set w0.at_.toNat (decFm (fmAt (K.frames.set f ⟨data,1,dirty,false⟩) w0.at_.toNat))) i=_
    rw [hb,show ((b:Nat):Int).toNat=b from rfl,fmAt_set,hset,hset]
    have hbf:¬ b=f:=fun e=>h1 k (by rw [hb,e])
    rw [if_neg hbf]
    by_cases e:b=i
    ·subst e
     rw [if_pos ⟨rfl,by simpa using hbl⟩,if_neg hbf,if_pos ⟨w0,rfl,k,hb⟩]
    ·rw [if_neg (fun hh=>e hh.1)]
     by_cases e2:i=f
     ·rw [if_pos e2,if_pos e2]
     ·rw [if_neg e2,if_neg e2,if_neg]
      rintro ⟨w1,h2,-,h3⟩
      cases h2
      rw [hb] at h3
      exact e (by omega)
   ·rw [if_neg (by omega)]
    show fmAt (K.frames.set f _) i=_
    rw [hset]
    by_cases e:i=f
    ·rw [if_pos e,if_pos e]
    ·rw [if_neg e,if_neg e,if_neg]
     rintro ⟨w1,h2,h3,-⟩
     cases h2
     omega
 have hsl:∀ i,swAt (letO (setFm K f ⟨data,1,dirty,false⟩) was).slots i=if (∃ w0,was=some w0∧w0.kind=2∧w0.at_=(i:Nat)) then decSw (swAt K.slots i) else swAt K.slots i:=fun i=>by
  cases hw:was with
  |none=>
   show swAt K.slots i=_
   rw [if_neg]
   rintro ⟨w0,h1,-⟩
   cases h1
  |some w0=>
   show swAt (letK (setFm K f _) w0).slots i=_
   unfold letK
   rcases hwin w0 hw with ⟨k,b,hb,hbl⟩|⟨k,b,hb,hbl⟩
   ·rw [if_pos k]
    show swAt K.slots i=_
    rw [if_neg]
    rintro ⟨w1,h2,h3,-⟩
    cases h2
    omega
   ·rw [if_neg (by omega)]
    show swAt (K.slots.set w0.at_.toNat (decSw (swAt K.slots w0.at_.toNat))) i=_
    rw [hb,show ((b:Nat):Int).toNat=b from rfl,swAt_set]
    by_cases e:b=i
    ·subst e
     rw [if_pos ⟨rfl,hbl⟩,if_pos ⟨w0,rfl,k,hb⟩]
    ·rw [if_neg (fun hh=>e hh.1),if_neg]
     rintro ⟨w1,h2,-,h3⟩
     cases h2
     rw [hb] at h3
     exact e (by omega)
 -- who names what
 have hN1:∀ i:Nat,(∃ w0,was=some w0∧w0.kind=1∧w0.at_=(i:Nat))→∃ n,(namers K.spaces 1 (i:Nat)).Perm (n::M 1 (i:Nat)):=fun i ⟨w0,hw,h1,h2⟩=>by
  refine ⟨nmOf s w0,(hM 1 (i:Nat)).trans ?_⟩
  rw [hw,Option.toList_some,nmL_hit [] ⟨h1,h2⟩]
  exact List.Perm.refl _
 have hN1':∀ (k:Int) (i:Nat),¬(∃ w0,was=some w0∧w0.kind=k∧w0.at_=(i:Nat))→(namers K.spaces k (i:Nat)).Perm (M k (i:Nat)):=fun k i hno=>by
  refine (hM k (i:Nat)).trans ?_
  cases hw:was with
  |none=>exact List.Perm.refl _
  |some w0=>
   rw [Option.toList_some,nmL_miss [] (fun hh=>hno ⟨w0,hw,hh.1,hh.2⟩)]
   exact List.Perm.refl _
 have hN2:∀ i:Nat,(∃ w0,was=some w0∧w0.kind=2∧w0.at_=(i:Nat))→∃ n,(namers K.spaces 2 (i:Nat)).Perm (n::M 2 (i:Nat)):=fun i ⟨w0,hw,h1,h2⟩=>by
  refine ⟨nmOf s w0,(hM 2 (i:Nat)).trans ?_⟩
  rw [hw,Option.toList_some,nmL_hit [] ⟨h1,h2⟩]
  exact List.Perm.refl _
 have hNn:∀ (k:Int) (i:Nat),¬(k=1∧i=f)→(namers (K.spaces.set sp s') k (i:Nat)).Perm (M k (i:Nat)):=fun k i hno=>by
  refine (hM' k (i:Nat)).trans ?_
  rw [he',nmL_miss []]
  ·exact List.Perm.refl _
  ·rintro ⟨h1,h2⟩
   exact hno ⟨h1.symm,by have:((f:Nat):Int)=(i:Nat):=h2;omega⟩
 have hNf:(namers (K.spaces.set sp s') 1 (f:Nat)).Perm [nmOf s e']:=by
  refine (hM' 1 (f:Nat)).trans ?_
  rw [hMf,nmL_hit [] (by rw [he'];exact ⟨rfl,rfl⟩)]
  exact List.Perm.refl _
 -- an entry that stays: its data
 have hdata:∀ (x:En),(x.kind=1∨x.kind=2)→(∃ b:Nat,x.at_=(b:Nat)∧(x.kind=1→b < K.frames.length)∧(x.kind=2→b < K.slots.length))→M x.kind x.at_≠[]→dataE ⟨K.sheets,(letO (setFm K f ⟨data,1,dirty,false⟩) was).frames,(letO (setFm K f ⟨data,1,dirty,false⟩) was).slots,K.spaces.set sp s',K.hand⟩ x=dataE K x:=fun x hk ⟨b,hb,hb1,hb2⟩ hne=>by
  unfold dataE
  rcases hk with hk|hk
  ·rw [if_pos hk,if_pos hk]
   dsimp only
   rw [hb,show ((b:Nat):Int).toNat=b from rfl,hfr]
   rw [hk,hb] at hne
   by_cases e:b=f
   ·subst e;exact absurd hMf hne
   ·rw [if_neg e]
    by_cases hw:∃ w0,was=some w0∧w0.kind=1∧w0.at_=(b:Nat)
    ·rw [if_pos hw]
     obtain ⟨n,hn⟩:=hN1 b hw
     have hbo:=(h.fr b _ (List.getElem?_eq_getElem (hb1 hk))).perm hn
     rw [fmAt_eq (List.getElem?_eq_getElem (hb1 hk))]
     cases hMb:M 1 (b:Nat) with
     |nil=>exact absurd hMb hne
     |cons m N=>
      rw [hMb] at hbo
      exact dec_data hbo
    ·rw [if_neg hw]
  ·rw [if_neg (by omega),if_neg (by omega)]
   dsimp only
   rw [hb,show ((b:Nat):Int).toNat=b from rfl,hsl]
   rw [hk,hb] at hne
   by_cases hw:∃ w0,was=some w0∧w0.kind=2∧w0.at_=(b:Nat)
   ·rw [if_pos hw]
    obtain ⟨n,hn⟩:=hN2 b hw
    have hbo:=(h.sl b _ (List.getElem?_eq_getElem (hb2 hk))).perm hn
    rw [swAt_eq (List.getElem?_eq_getElem (hb2 hk))]
    cases hMb:M 2 (b:Nat) with
    |nil=>exact absurd hMb hne
    |cons m N=>
     rw [hMb] at hbo
     exact decS_data hbo
   ·rw [if_neg hw]
 have hfmf:fmAt (letO (setFm K f ⟨data,1,dirty,false⟩) was).frames f=⟨data,1,dirty,false⟩:=by rw [hfr,if_pos rfl]
 have hcnt:=h.cnt
 have hhand:=h.hand
 refine ⟨⟨?_,h.rise,?_,fun x hx=>?_,?_,fun i g hg=>?_,fun i g hg=>?_⟩,rfl,hlf,hls,by simp,har,hlv,fun i p hno=>?_,?_,hen,hfmf,fun i hi hw=>?_⟩
 ·dsimp only
  rw [hlf,hls,List.length_set]
  exact hcnt
 ·dsimp only
  rw [hlf]
  exact hhand
 ·dsimp only at hx ⊢
  rw [hlf,hls]
  rcases List.mem_or_eq_of_mem_set hx with hx|rfl
  ·exact h.spaces x hx
  ·rw [scOk_iff,hs']
   refine ⟨fun hl=>(by rw [hlive] at hl;cases hl),hsc.ar,hsc.pages,fun e he=>?_,r3⟩
   rcases List.mem_cons.1 (r2.mem_iff.1 he) with rfl|he
   ·rw [he']
    exact ⟨ha,Or.inl ⟨rfl,Int.natCast_nonneg f,by show ((f:Nat):Int) < _;omega⟩⟩
   ·exact hsc.ents e (r1.mem_iff.2 (List.mem_append_right _ he))
 ·dsimp only
  rw [hls]
  have:roomI (K.spaces.set sp s')=roomI K.spaces:=by
   unfold roomI
   rw [List.map_set,hs']
   congr 1
   refine List.ext_getElem? fun j=>?_
   rw [List.getElem?_set]
   by_cases e:sp=j
   ·subst e
    rw [if_pos rfl,List.length_map,if_pos (lt_of_getE hs),List.getElem?_map,hs]
    rfl
   ·rw [if_neg e]
  rw [this]
  exact h.room
 ·dsimp only at hg ⊢
  have hil:i < K.frames.length:=by have:=lt_of_getE hg;omega
  have hgi:=List.getElem?_eq_getElem hil
  have hge:=hfr i
  rw [fmAt_eq hg,fmAt_eq hgi] at hge
  by_cases e:i=f
  ·subst e
   rw [if_pos rfl] at hge
   refine FmOk.perm (N:=[nmOf s e']) ?_ hNf.symm
   rw [hge]
   refine ⟨rfl,(fun hh=>by cases hh),fun _=>hd,fun n hn m hm=>?_,fun n hn=>?_⟩
   ·rw [List.mem_singleton] at hn hm
    subst hn;subst hm
    exact ⟨rfl,rfl⟩
   ·rw [List.mem_singleton] at hn
    subst hn
    rcases hfill with hh|hh
    ·exact Or.inl hh
    ·right
     rw [zAt_nm hs,hpe]
     rw [show (nmOf s e').1.page=page from hpe]
     exact hh
  ·rw [if_neg e] at hge
   have hpm:=hNn 1 i (fun hh=>e hh.2)
   by_cases hw:∃ w0,was=some w0∧w0.kind=1∧w0.at_=(i:Nat)
   ·rw [if_pos hw] at hge
    obtain ⟨n,hn⟩:=hN1 i hw
    rw [hge]
    exact ((h.fr i _ hgi).perm hn).dec.perm hpm.symm
   ·rw [if_neg hw] at hge
    rw [hge]
    exact (h.fr i _ hgi).perm ((hN1' 1 i hw).trans hpm.symm)
 ·dsimp only at hg ⊢
  have hil:i < K.slots.length:=by have:=lt_of_getE hg;omega
  have hgi:=List.getElem?_eq_getElem hil
  have hge:=hsl i
  rw [swAt_eq hg,swAt_eq hgi] at hge
  have hpm:=hNn 2 i (fun hh=>by omega)
  by_cases hw:∃ w0,was=some w0∧w0.kind=2∧w0.at_=(i:Nat)
  ·rw [if_pos hw] at hge
   obtain ⟨n,hn⟩:=hN2 i hw
   rw [hge]
   exact ((h.sl i _ hgi).perm hn).dec.perm hpm.symm
  ·rw [if_neg hw] at hge
   rw [hge]
   exact (h.sl i _ hgi).perm ((hN1' 2 i hw).trans hpm.symm)
 ·unfold peekK
  rw [hen,if_neg hno]
  cases hx:entAt (entsOf K i) p with
  |none=>exact fillAt_same (hs:=by exact rfl) (ha:=har i) p
  |some x=>
   show dataE _ x=dataE K x
   obtain ⟨hx1,hx2⟩:=entAt_mem hx
   cases hi:K.spaces[i]? with
   |none=>unfold entsOf at hx1;rw [scAt_none hi] at hx1;cases hx1
   |some t=>
    unfold entsOf at hx1
    rw [scAt_eq hi] at hx1
    have hin:=(h.ent hi hx1).2
    have hk:x.kind=1∨x.kind=2:=by rcases hin with ⟨a,-⟩|⟨a,-⟩ <;> omega
    refine hdata x hk ?_ ?_
    ·rcases hin with ⟨a,b,c,d⟩|⟨a,b,c,d⟩
     ·exact ⟨b,c,fun _=>d,fun hh=>by omega⟩
     ·exact ⟨b,c,fun hh=>by omega,fun _=>d⟩
    ·rw [← hMe]
     intro hnil
     obtain ⟨h1,h2⟩:=List.append_eq_nil_iff.1 hnil
     by_cases e:i=sp
     ·subst e
      rw [hs] at hi
      cases hi
      have hxR:x ∈ R:=by
       rcases List.mem_append.1 (r1.mem_iff.1 hx1) with h4|h4
       ·exfalso
        rw [Option.mem_toList,hwas] at h4
        exact hno ⟨rfl,hx2.symm.trans (entAt_mem h4).2⟩
       ·exact h4
      have:nmOf s x ∈ nmL s x.kind x.at_ R:=List.mem_map.2 ⟨x,List.mem_filter.2 ⟨hxR,by simp⟩,rfl⟩
      rw [h1] at this
      cases this
     ·have hte:t ∈ K.spaces.eraseIdx sp:=List.mem_eraseIdx_iff_getElem?.2 ⟨i,e,hi⟩
      have:nmOf t x ∈ namers (K.spaces.eraseIdx sp) x.kind x.at_:=by
       rw [namers_flat,List.mem_flatMap]
       exact ⟨t,hte,List.mem_map.2 ⟨x,List.mem_filter.2 ⟨hx1,by simp⟩,rfl⟩⟩
      rw [h2] at this
      cases this
 ·unfold peekK
  rw [hen,if_pos ⟨rfl,rfl⟩]
  show dataE _ (⟨page,1,(f:Nat)⟩:En)=data
  unfold dataE
  rw [if_pos rfl]
  show (fmAt (letO (setFm K f ⟨data,1,dirty,false⟩) was).frames f).data=data
  rw [hfmf]
 ·show fmAt (letO (setFm K f ⟨data,1,dirty,false⟩) was).frames i=_
  rw [hfr,if_neg hi,if_neg]
  rintro ⟨w0,h1,h2,h3⟩
  exact hw w0 (by rw [hent,← hwas];exact h1) ⟨h2,h3⟩
end Go.Proofs.Ytejnpppejalhfac
/- A page that is brought: what comes is right, and no page tells another thing. -/
namespace Go.Proofs.Ytejnpppejalhfac
open Go.RowKit Go.Sort
structure At (K:Ker) (sp:Nat) (page:Int):Prop where
 live:(scAt K sp).live=true
 ar:(findA (areasOf K sp) page).isSome=true
theorem At.sc {K:Ker} {sp:Nat} {page:Int} (h:At K sp page):∃ s,K.spaces[sp]?=some s∧s.live=true∧(findA s.areas page).isSome=true:=by
 have h1:=h.live
 have h2:=h.ar
 unfold areasOf at h2
 cases hs:K.spaces[sp]? with
 |none=>rw [scAt_none hs] at h1;cases h1
 |some s=>rw [scAt_eq hs] at h1 h2;exact ⟨s,rfl,h1,h2⟩
theorem At.same {K K':Ker} {sp:Nat} {page:Int} (h:At K sp page) (h1:∀ i,areasOf K' i=areasOf K i) (h2:∀ i,(scAt K' i).live=(scAt K i).live):At K' sp page:=⟨(h2 sp).trans h.live,by rw [h1];exact h.ar⟩
theorem shAt_in {l:List Sh} (h:riseB 0 l=true) {p:Int} {s:Sh} (hs:shAt l p=some s):(fillS s).length=16:=by
 exact fillS_len ((riseB_all h).1 s (List.mem_of_find?_eq_some hs)).1
theorem fill_len {K:Ker} (h:Right K) {sp:Nat} {page:Int} (ha:At K sp page):∃ d,fillP K.sheets (zAt K sp page) page=some d∧d.length=16∧fillAt K sp page=d:=by
 obtain ⟨s,hs,hl,hf⟩:=ha.sc
 have hsc:=scOk_iff.1 (h.spaces s (List.mem_of_getElem? hs))
 obtain ⟨a,haa⟩:=Option.isSome_iff_exists.1 hf
 have hz:zAt K sp page=a.z:=by unfold zAt areasOf;rw [scAt_eq hs,haa];rfl
 have hm:=List.mem_of_find?_eq_some haa
 have hh:=List.find?_some haa
 unfold holdsB Ar.fin at hh
 rw [decide_eq_true_eq] at hh
 have hp:=hsc.pages
 unfold pagesB at hp
 have h3:=List.all_eq_true.1 (List.all_eq_true.1 hp a hm) (page - a.pg).toNat (by rw [List.mem_range];omega)
 rw [show a.pg + (((page - a.pg).toNat:Nat):Int)=page by omega] at h3
 obtain ⟨d,hd⟩:=Option.isSome_iff_exists.1 h3
 refine ⟨d,by rw [hz];exact hd,?_,by unfold fillAt;rw [hz,hd];rfl⟩
 unfold fillP at hd
 cases hza:a.z with
 |true=>rw [hza,if_pos rfl] at hd;cases hd;simp
 |false=>
  rw [hza,if_neg (by simp)] at hd
  obtain ⟨x,hx,rfl⟩:=Option.map_eq_some_iff.1 hd
  exact shAt_in h.rise hx
theorem named {K:Ker} (h:Right K) {sp:Nat} {p:Int} {e:En} (he:entAt (entsOf K sp) p=some e) :
  e.page=p∧((e.kind=1∧∃ i:Nat,e.at_=(i:Nat)∧i < K.frames.length∧(fmAt K.frames i).refs≠0∧(fmAt K.frames i).data.length=16)∨(e.kind=2∧∃ i:Nat,e.at_=(i:Nat)∧i < K.slots.length∧(swAt K.slots i).refs≠0∧(swAt K.slots i).data.length=16))∧∃ s,K.spaces[sp]?=some s∧e ∈ s.entries:=by
 obtain ⟨h1,h2⟩:=entAt_mem he
 cases hs:K.spaces[sp]? with
 |none=>unfold entsOf at h1;rw [scAt_none hs] at h1;cases h1
 |some s=>
  have h3:e ∈ s.entries:=by unfold entsOf at h1;rwa [scAt_eq hs] at h1
  have hn:=mem_namers hs h3
  refine ⟨h2,?_,s,rfl,h3⟩
  rcases (h.ent hs h3).2 with ⟨a,i,b,c⟩|⟨a,i,b,c⟩
  ·have ho:=h.fr i _ (List.getElem?_eq_getElem c)
   rw [a,b] at hn
   refine Or.inl ⟨a,i,b,c,?_,?_⟩
   ·rw [fmAt_eq (List.getElem?_eq_getElem c),ho.refs]
    intro e0
    have:namers K.spaces 1 (i:Nat)=[]:=List.eq_nil_of_length_eq_zero (by omega)
    rw [this] at hn
    cases hn
   ·rw [fmAt_eq (List.getElem?_eq_getElem c)]
    exact ho.len (fun e0=>by rw [e0] at hn;cases hn)
  ·have ho:=h.sl i _ (List.getElem?_eq_getElem c)
   rw [a,b] at hn
   refine Or.inr ⟨a,i,b,c,?_,?_⟩
   ·rw [swAt_eq (List.getElem?_eq_getElem c),ho.refs]
    intro e0
    have:namers K.spaces 2 (i:Nat)=[]:=List.eq_nil_of_length_eq_zero (by omega)
    rw [this] at hn
    cases hn
   ·rw [swAt_eq (List.getElem?_eq_getElem c)]
    exact ho.len (fun e0=>by rw [e0] at hn;cases hn)
theorem apart_fm {K:Ker} (h:Right K) {sp sp':Nat} {p q:Int} {i:Nat} (h1:entAt (entsOf K sp) p=some ⟨p,1,(i:Nat)⟩) (h2:entAt (entsOf K sp') q=some ⟨q,1,(i:Nat)⟩):p=q:=by
 obtain ⟨-,h3,s,hs,hm⟩:=named h h1
 obtain ⟨-,-,s',hs',hm'⟩:=named h h2
 have n1:=mem_namers hs hm
 have n2:=mem_namers hs' hm'
 dsimp only at n1 n2
 rcases h3 with ⟨-,j,hj,hjl,-⟩|⟨hk,-⟩
 ·obtain rfl:i=j:=by have:((i:Nat):Int)=(j:Nat):=hj;omega
  have ho:=h.fr i _ (List.getElem?_eq_getElem hjl)
  exact (ho.same _ n2 _ n1).1
 ·cases hk
structure BrOk (K:Ker) (sp:Nat) (page:Int) (held:List Nat) (r:Ker×Nat):Prop where
 right:Right r.1
 same:SameP K r.1
 lt:r.2 < K.frames.length
 ent:entAt (entsOf r.1 sp) page=some ⟨page,1,(r.2:Nat)⟩
 kept:∀ i ∈ held,∀ p,p≠page→entAt (entsOf K sp) p=some ⟨p,1,(i:Nat)⟩→entAt (entsOf r.1 sp) p=some ⟨p,1,(i:Nat)⟩∧fmAt r.1.frames i=fmAt K.frames i
theorem InOk.same {K K' K2:Ker} {sp:Nat} {page:Int} {f:Nat} {data:List UInt8} {dirty:Bool} (h:InOk K' K2 sp page f data dirty) (h0:SameP K K') (hp:data=peekK K sp page):SameP K K2:=by
 refine ⟨h.sheets.trans h0.sheets,h.nfr.trans h0.nfr,h.nsl.trans h0.nsl,h.nsp.trans h0.nsp,fun i=>(h.ar i).trans (h0.ar i),fun i=>(h.live i).trans (h0.live i),fun i p=>?_⟩
 by_cases e:i=sp∧p=page
 ·obtain ⟨rfl,rfl⟩:=e
  rw [h.here,hp]
 ·rw [h.peek i p e,h0.peek]
theorem lay_ok {K:Ker} (h:Right K) {sp:Nat} {page:Int} (ha:At K sp page) {held more:List Nat} (hl:(held++more).length≤2) {data:List UInt8} {dirty:Bool} (hd:data.length=16) (hfill:dirty=true∨some data=fillP K.sheets (zAt K sp page) page) (hp:data=peekK K sp page)
  (hne:∀ i ∈ held,entAt (entsOf K sp) page≠some ⟨page,1,(i:Nat)⟩) (hwas:∀ e,entAt (entsOf K sp) page=some e→e.kind=1→∃ i ∈ more,e.at_=((i:Nat):Int)) :
  BrOk K sp page held (inK (getK K (held++more)).1 sp page (getK K (held++more)).2 data dirty,(getK K (held++more)).2)∧fmAt (inK (getK K (held++more)).1 sp page (getK K (held++more)).2 data dirty).frames (getK K (held++more)).2=⟨data,1,dirty,false⟩:=by
 have g:=getK_ok h hl
 generalize getK K (held++more)=G at g ⊢
 have ha':=ha.same g.same.ar g.same.live
 obtain ⟨s',hs',hl',hf'⟩:=ha'.sc
 have hz:zAt G.1 sp page=zAt K sp page:=by unfold zAt;rw [g.same.ar]
 have hent:entAt (entsOf G.1 sp) page=entAt (entsOf K sp) page:=by
  cases he:entAt (entsOf K sp) page with
  |none=>exact g.none_ sp page he
  |some e=>
   refine g.some_ sp page e he ?_
   by_cases hk:e.kind=1
   ·obtain ⟨i,hi,hia⟩:=hwas e he hk
    obtain ⟨-,hn,-⟩:=named h he
    rcases hn with ⟨-,j,hj,-,hr,-⟩|⟨hk2,-⟩
    ·obtain rfl:i=j:=by omega
     exact Or.inr ⟨i,List.mem_append_right _ hi,hia,hr⟩
    ·omega
   ·exact Or.inl hk
 have hin:=inK_ok (data:=data) (dirty:=dirty) g.right hs' hl' hf' (by rw [g.same.nfr];exact g.lt) g.nobody hd (by rw [g.same.sheets,hz];exact hfill)
 refine ⟨⟨hin.right,hin.same g.same hp,g.lt,?_,fun i hi p hpp he=>?_⟩,hin.fm⟩
 ·rw [hin.ent,if_pos ⟨rfl,rfl⟩]
 ·obtain ⟨-,hn,-⟩:=named h he
  have hr:(fmAt K.frames i).refs≠0:=by
   rcases hn with ⟨-,j,hj,-,hr,-⟩|⟨hk2,-⟩
   ·obtain rfl:i=j:=by have:((i:Nat):Int)=(j:Nat):=hj;omega
    exact hr
   ·cases hk2
  have hk:=g.kept i (List.mem_append_left _ hi) hr
  constructor
  ·rw [hin.ent,if_neg (fun hh=>hpp hh.2)]
   exact g.some_ sp p _ he (Or.inr ⟨i,List.mem_append_left _ hi,rfl,hr⟩)
  ·rw [hin.other i (Ne.symm hk.1) (fun w0 hw ⟨k1,k2⟩=>?_)]
   ·exact hk.2
   ·rw [hent] at hw
    have hpg:=(entAt_mem hw).2
    refine hne i hi ?_
    rw [hw]
    cases w0
    dsimp only at k1 k2 hpg
    subst k1 k2 hpg
    rfl
theorem bringA_ok {K:Ker} (h:Right K) {sp:Nat} {page:Int} (ha:At K sp page) {held:List Nat} (hl:held.length≤1) (hh:∀ i ∈ held,∃ p,p≠page∧entAt (entsOf K sp) p=some ⟨p,1,(i:Nat)⟩):BrOk K sp page held (bringA K sp page held):=by
 have hne:∀ i ∈ held,entAt (entsOf K sp) page≠some ⟨page,1,(i:Nat)⟩:=fun i hi he=>by
  obtain ⟨p,hp,hp2⟩:=hh i hi
  exact hp (apart_fm h hp2 he)
 have hap:=List.append_nil held
 unfold bringA
 cases he:entAt (entsOf K sp) page with
 |none=>
  obtain ⟨d,d1,d2,d3⟩:=fill_len h ha
  have:=(lay_ok h ha (held:=held) (more:=[]) (by rw [hap];omega) (data:=d) (dirty:=false) d2 (Or.inr d1.symm) (by unfold peekK;rw [he];exact d3.symm) hne (fun e hee=>by rw [he] at hee;cases hee)).1
  rw [hap] at this
  show BrOk _ _ _ _ (inK (getK K held).1 sp page (getK K held).2 (fillAt K sp page) false,(getK K held).2)
  rw [d3]
  exact this
 |some e=>
  obtain ⟨hpg,hn,-⟩:=named h he
  dsimp only
  by_cases hk:e.kind=2
  ·rw [if_pos hk]
   rcases hn with ⟨hk1,-⟩|⟨-,i,hi,hil,hir,hid⟩
   ·omega
   have:=(lay_ok h ha (held:=held) (more:=[]) (by rw [hap];omega) (data:=(swAt K.slots e.at_.toNat).data) (dirty:=true) (by rw [hi];exact hid) (Or.inl rfl) (by unfold peekK;rw [he];show _=dataE K e;unfold dataE;rw [if_neg (by omega)]) hne (fun x hx hk1=>by rw [he] at hx;cases hx;omega)).1
   rw [hap] at this
   exact this
  ·rw [if_neg hk]
   rcases hn with ⟨hk1,i,hi,hil,hir,hid⟩|⟨hk2,-⟩
   ·refine ⟨h,SameP.refl K,by show e.at_.toNat < _;omega,?_,fun i hi p hp hpp=>⟨hpp,rfl⟩⟩
    show entAt (entsOf K sp) page=_
    rw [he]
    cases e
    dsimp only at hk1 hi hpg ⊢
    subst hk1 hi hpg
    rfl
   ·omega
theorem bringAB_ok {K:Ker} (h:Right K) {sp:Nat} {page:Int} (ha:At K sp page) (write:Bool) {held:List Nat} (hl:held.length≤1) (hh:∀ i ∈ held,∃ p,p≠page∧entAt (entsOf K sp) p=some ⟨p,1,(i:Nat)⟩) :
  BrOk K sp page held (bringAB K sp page write held)∧(write=true→(fmAt (bringAB K sp page write held).1.frames (bringAB K sp page write held).2).refs≤1):=by
 have hA:=bringA_ok h ha hl hh
 unfold bringAB
 generalize bringA K sp page held=A at hA ⊢
 unfold bringB
 by_cases hw:write=true∧1 < (fmAt A.1.frames A.2).refs
 rotate_left
 ·rw [if_neg hw]
  exact ⟨hA,fun h1=>by
   have:¬ 1 < (fmAt A.1.frames A.2).refs:=fun h2=>hw ⟨h1,h2⟩
   show (fmAt A.1.frames A.2).refs≤1
   omega⟩
 rw [if_pos hw]
 have haA:=ha.same hA.same.ar hA.same.live
 obtain ⟨-,hn,-⟩:=named hA.right hA.ent
 have hlen:(fmAt A.1.frames A.2).data.length=16:=by
  rcases hn with ⟨-,j,hj,-,-,hd⟩|⟨hk2,-⟩
  ·obtain rfl:A.2=j:=by have:((A.2:Nat):Int)=(j:Nat):=hj;omega
   exact hd
  ·cases hk2
 have hL:=lay_ok hA.right haA (held:=held) (more:=[A.2]) (by rw [List.length_append,List.length_singleton];omega) (data:=(fmAt A.1.frames A.2).data) (dirty:=true) hlen (Or.inl rfl) (by unfold peekK;rw [hA.ent];show _=dataE A.1 ⟨page,1,(A.2:Nat)⟩;unfold dataE;rw [if_pos rfl];rfl)
  (fun i hi he=>by
   obtain ⟨p,hp,hp2⟩:=hh i hi
   exact hp (apart_fm hA.right (hA.kept i hi p hp hp2).1 he)) (fun e hee hk=>by rw [hA.ent] at hee;cases hee;exact ⟨A.2,by simp,rfl⟩)
 obtain ⟨b,hfm⟩:=hL
 refine ⟨⟨b.right,hA.same.trans b.same,by have:=b.lt;rw [hA.same.nfr] at this;exact this,b.ent,fun i hi p hp he=>?_⟩,fun _=>?_⟩
 ·have h1:=hA.kept i hi p hp he
  have h2:=b.kept i hi p hp h1.1
  exact ⟨h2.1,h2.2.trans h1.2⟩
 ·show (fmAt (inK _ sp page _ _ true).frames _).refs≤1
  rw [hfm]
  exact Int.le_refl _
theorem seenK_ok {K:Ker} (h:Right K) {f:Nat} (hf:f < K.frames.length) (hr:(fmAt K.frames f).refs≠0) (write:Bool):Right (seenK K f write)∧SameP K (seenK K f write)∧(∀ i,i≠f→fmAt (seenK K f write).frames i=fmAt K.frames i)∧fmAt (seenK K f write).frames f=⟨(fmAt K.frames f).data,(fmAt K.frames f).refs,(fmAt K.frames f).dirty||write,true⟩:=by
 have hset:∀ j,fmAt (seenK K f write).frames j=if j=f then ⟨(fmAt K.frames f).data,(fmAt K.frames f).refs,(fmAt K.frames f).dirty||write,true⟩ else fmAt K.frames j:=fun j=>by
  unfold seenK setFm
  dsimp only
  rw [fmAt_set]
  by_cases e:f=j
  ·subst e;rw [if_pos ⟨rfl,hf⟩,if_pos rfl]
  ·rw [if_neg (fun hh=>e hh.1),if_neg (fun hh=>e hh.symm)]
 have hlen:(seenK K f write).frames.length=K.frames.length:=by unfold seenK setFm;simp
 have hsame:∀ i,(fmAt (seenK K f write).frames i).data=(fmAt K.frames i).data:=fun i=>by
  rw [hset]
  by_cases e:i=f
  ·subst e;rw [if_pos rfl]
  ·rw [if_neg e]
 have hc:=h.cnt
 have hh:=h.hand
 have hsp:=h.spaces
 refine ⟨⟨by rw [hlen];exact hc,h.rise,by rw [hlen];exact hh,fun s hs=>by rw [hlen];exact hsp s hs,h.room,fun i g hg=>?_,h.sl⟩,⟨rfl,hlen,rfl,rfl,fun _=>rfl,fun _=>rfl,fun sp p=>?_⟩,fun i hi=>by rw [hset,if_neg hi],by rw [hset,if_pos rfl]⟩
 ·have hil:i < K.frames.length:=by have:=lt_of_getE hg;omega
  have hgi:=List.getElem?_eq_getElem hil
  have hge:=hset i
  rw [fmAt_eq hg] at hge
  have ho:=h.fr i _ hgi
  by_cases e:i=f
  ·subst e
   rw [if_pos rfl] at hge
   rw [fmAt_eq hgi] at hge hr
   rw [hge]
   refine ⟨ho.refs,fun e0=>absurd (by rw [ho.refs];show ((namers K.spaces 1 (i:Nat)).length:Int)=0;rw [show namers K.spaces 1 (i:Nat)=[] from e0];rfl) hr,ho.len,ho.same,fun n hn=>?_⟩
   rcases ho.data n hn with hd|hd
   ·left;show (_||write)=true;rw [hd];rfl
   ·exact Or.inr hd
  ·rw [if_neg e,fmAt_eq hgi] at hge
   rw [hge]
   exact ho
 ·unfold peekK
  show (match entAt (entsOf K sp) p with
   |some e=>dataE (seenK K f write) e
   |none=>fillAt K sp p)=_
  cases entAt (entsOf K sp) p with
  |none=>rfl
  |some e=>
   show dataE _ e=dataE K e
   unfold dataE
   rw [hsame]
   rfl
theorem named_fm {K:Ker} (h:Right K) {sp:Nat} {p:Int} {i:Nat} (he:entAt (entsOf K sp) p=some ⟨p,1,(i:Nat)⟩):i < K.frames.length∧(fmAt K.frames i).refs≠0∧(fmAt K.frames i).data.length=16:=by
 obtain ⟨-,hn,-⟩:=named h he
 rcases hn with ⟨-,j,hj,h1,h2,h3⟩|⟨hk2,-⟩
 ·obtain rfl:i=j:=by have:((i:Nat):Int)=(j:Nat):=hj;omega
  exact ⟨h1,h2,h3⟩
 ·cases hk2
theorem bringK_ok {K:Ker} (h:Right K) {sp:Nat} {page:Int} (ha:At K sp page) (write:Bool) {held:List Nat} (hl:held.length≤1) (hh:∀ i ∈ held,∃ p,p≠page∧entAt (entsOf K sp) p=some ⟨p,1,(i:Nat)⟩) :
  BrOk K sp page held (bringK K sp page write held)∧(write=true→(fmAt (bringK K sp page write held).1.frames (bringK K sp page write held).2).refs=1∧(fmAt (bringK K sp page write held).1.frames (bringK K sp page write held).2).dirty=true):=by
 obtain ⟨b,hw⟩:=bringAB_ok h ha write hl hh
 unfold bringK
 generalize bringAB K sp page write held=B at b hw ⊢
 obtain ⟨n1,n2,n3⟩:=named_fm b.right b.ent
 obtain ⟨s1,s2,s3,s4⟩:=seenK_ok b.right n1 n2 write
 refine ⟨⟨s1,b.same.trans s2,b.lt,b.ent,fun i hi p hp he=>?_⟩,fun hwr=>?_⟩
 ·have hk:=b.kept i hi p hp he
  refine ⟨hk.1,?_⟩
  show fmAt (seenK B.1 B.2 write).frames i=_
  rw [s3 i ?_]
  ·exact hk.2
  ·rintro rfl
   exact hp (apart_fm b.right hk.1 b.ent)
 ·show (fmAt (seenK B.1 B.2 write).frames B.2).refs=1∧(fmAt (seenK B.1 B.2 write).frames B.2).dirty=true
  rw [s4]
  refine ⟨?_,by show (_||write)=true;rw [hwr,Bool.or_true]⟩
  have h1:=hw hwr
  have ho:=b.right.fr B.2 _ (List.getElem?_eq_getElem n1)
  have h2:=ho.refs
  rw [fmAt_eq (List.getElem?_eq_getElem n1)] at h1 n2 ⊢
  show (B.1.frames[B.2]'n1).refs=1
  omega
end Go.Proofs.Ytejnpppejalhfac
