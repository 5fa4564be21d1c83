/- Texts that the proof stands on, one behind the other: Ke8, Ke9, Ke10, PlKer3. -/
import Derived.Test.YtejnpppejalhfabGreatPRestKernels6
set_option linter.unusedVariables false
set_option linter.unusedSimpArgs false
namespace Go.Proofs.YtejnpppejalhfabGreat
set_option maxRecDepth 100000
set_option maxHeartbeats 8000000
open Go.RowKit Go.Sort
theorem b3g {F:Nat->Prop} {w0 w:World} {Γ:List Asr} {gl gk gc:Nat} {vsh vF vS vsp:Value} {l:List (Sh×Value)} {NF NS:NL} {sp:List Sp}
  (hS0:St F w0 w (lkS gl (.pointer (some ⟨gk,0,none⟩)) vF vS 0 NF NS++Γ)) (hc:Bs (fps (lkS gl (.pointer (some ⟨gk,0,none⟩)) vF vS 0 NF NS)) w ⟨gc,0,none⟩ (.pointer (some ⟨gl,0,none⟩))) (hk:Bs (fps (lkS gl (.pointer (some ⟨gk,0,none⟩)) vF vS 0 NF NS)) w ⟨gk,0,none⟩ vsh) (hL:ShsF (fps (lkS gl (.pointer (some ⟨gk,0,none⟩)) vF vS 0 NF NS)) w l vsh) (hr:a0C 0 (shs l)=true)
  (hsl:Sl (fps (lkS gl (.pointer (some ⟨gk,0,none⟩)) vF vS 0 NF NS)) w 3 vsp (sp.map spC)) (hp:∀ p ∈ sp,SpF (fps (lkS gl (.pointer (some ⟨gk,0,none⟩)) vF vS 0 NF NS)) w p) (h4:sp.length<=4) (hF:∀ x ∈ NF,x.2=[]) (hSl:∀ x ∈ NS,x.2=[]) :
  Fn Tryz.prog 63 [vsp,.func (.func 64) #[] #[.pointer (some ⟨gc,0,none⟩)]] w (fun v w'=>v=.bool (!(sp.map (·.s)).all (t9 (shs l) NF.length NS.length))/\∃ NF' NS' room',St (fps (lkS gl (.pointer (some ⟨gk,0,none⟩)) vF vS 0 NF NS)) w w' (lkS gl (.pointer (some ⟨gk,0,none⟩)) vF vS room' NF' NS')/\((sp.map (·.s)).all (t9 (shs l) NF.length NS.length)=true->room'=a0n (sp.map (·.s))/\Grown NF NF' 1 (a0G (sp.map (·.s)))/\Grown NS NS' 2 (a0G (sp.map (·.s))))):=by
 have hcall:=b4F hS0 hc hk hL hr hsl hp h4 hF hSl;refine yEn Tryz.func63 Tryz.ntmps63 (by kernel_rfl) (by kernel_rfl) rfl rfl ?_
 repeat' (first|(with_reducible apply a8 a7);rfl;rfl;rfl|refine yDn (by with_reducible constructor) ?_|(with_reducible apply r6);rfl;rfl;rfl;refine ⟨_,hcall,?_⟩;rintro _ w2 ⟨⟨i,rfl,hi⟩,NF',NS',room',h2,hg⟩)
 (refine k7 rfl ?_)
 exact ⟨by rw [hi],NF',NS',room',h2,hg⟩
theorem a6n {A:List Ar} {nf ns:Int} (hc:l5 A=0):∀ {es:List En} {last:Int},a1y A nf ns last es=true->∀ e ∈ es,last < e.page/\e.page<=255
 |[],_,_,_,h=>by simp at h
 |e::es,last,h,x,hx=>by
  replace h:(a17 A nf ns last e && a1y A nf ns e.page es)=true:=h;rw [xb2] at h;have h1:=h.1;unfold a17 at h1;rw [xb2,xb3] at h1;obtain ⟨hs,hl,-⟩:=h1;obtain ⟨a,ha⟩:=xi2.1 hs;have h2:=xi3 ha;have h3:=(a1i hc ha).1;unfold a0g at h2;rw [xb3] at h2;unfold Ar.ok at h3;unfold Ar.fin at h2;rcases xc4.1 hx with rfl|hx
  ·omega
  ·have:=a6n hc h.2 x hx;omega
theorem a8U {l:List Sh} {nf ns:Int} {L:List Sc} (h:L.all (t9 l nf ns)=true):∀ n ∈ a0G L,-1000000<=n.1.page/\n.1.page<=1000000:=by
 intro n hn;unfold a0G at hn;obtain ⟨s,hs,hn⟩:=xq6.1 hn;obtain ⟨e,he,rfl⟩:=xm5.1 hn;have h1:=xc7.1 h s hs;unfold t9 at h1;by_cases hl:s.live=true
 ·rw [xf0 hl,xb2,xb2,xb3] at h1;have:=a6n h1.1 h1.2.2 e he;show -1000000<=e.page/\e.page<=1000000;omega
 ·rw [xf1 hl,xb3] at h1;rw [h1.2] at he
  cases he
theorem a8P {F:Nat->Prop} {w0 w:World} {Γ:List Asr} (h:St F w0 w Γ):∀ n:Nat,St F w0 w (nlR (List.replicate n (.slice none 0 0,[]))++Γ)
 |0=>h
 |n + 1=>(a8P h n).addNil _ _
theorem a9z {w:World} {k:KV} (hK:KerV w k):Fn Tryz.prog 23 [.agg (kvC k).toArray] w (RBf (.int .i64 (a0N k.K)) w):=by
 have b1:=hK.fr.bound;have b2:=hK.sl.bound;have b3:=hK.sp.bound;have b4:=hK.sh.sl.bound;have hK0:=hK;obtain ⟨sh,fr,sl,sp,hand,vsh,vfr,vsl,vsp⟩:=k;obtain ⟨k1,k2,k3,k4,k5⟩:=hK;dsimp only at b1 b2 b3 b4 k1 k2 k3 k4 k5;obtain ⟨p1,c1,rfl⟩:=k1.sl.len;obtain ⟨p2,c2,rfl⟩:=k2.len;obtain ⟨p3,c3,rfl⟩:=k3.len;obtain ⟨p4,c4,rfl⟩:=k4.len;unfold kvC a0N KV.K;dsimp only;by_cases hcnt:a11 ⟨shs sh,fr,sl,sp.map (·.s),hand⟩=true;rotate_left
 ·rw [xf1 hcnt];unfold a11 at hcnt;rw [xb3] at hcnt;dsimp only at hcnt;rw [xi9,a0Z] at hcnt;refine yEn Tryz.func23 Tryz.ntmps23 (by kernel_rfl) (by kernel_rfl) rfl rfl ?_;have hS:=St.start w
  repeat' (first|(with_reducible apply a8 a7);rfl;rfl;rfl|(with_reducible apply a9);rfl;(apply Ld.sl a7;rfl;exact hS.blkC 0 rfl rfl);rfl|refine yDn (by with_reducible constructor) ?_|(with_reducible apply k8);(iterate 4 rfl);assumption|(with_reducible apply x8);(iterate 4 rfl);(first|rfl|assumption);rfl|(with_reducible apply j3);rfl;(first|rfl|assumption);rfl;rfl|(with_reducible apply f5);rfl;assumption;rfl;rfl|(with_reducible apply f6);rfl;rfl|(with_reducible apply l8 hS);rfl;rfl;rfl;clear hS;intro g w' hS|(with_reducible apply q7);rfl;rfl;rfl;all_goals (intro hb hp;try (exfalso;omega))|(with_reducible apply b9);rfl;all_goals (intro hb hp;try (exfalso;omega)))
  all_goals (apply a0U)
  all_goals (repeat (first|exact ResL.nil|apply ResL.tmp;rfl))
  all_goals (exact ⟨rfl,hS.sub (xj1 _)⟩)
 rw [xf0 hcnt];unfold a11 at hcnt;rw [xb3,xi9,a0Z] at hcnt;have hshe:=fun w1 (h:ShsV w1 sh (.slice p1 sh.length c1))=>b0l h;generalize hnf:fr.length=nf at *;generalize hns:sl.length=ns at *;refine yEn Tryz.func23 Tryz.ntmps23 (by kernel_rfl) (by kernel_rfl) rfl rfl ?_;have hS:=St.start w
 repeat' (first|(with_reducible apply a8 a7);rfl;rfl;rfl|(with_reducible apply a9);rfl;(apply Ld.sl a7;rfl;exact hS.blkC 0 rfl rfl);rfl|refine yDn (by with_reducible constructor) ?_|(with_reducible apply k8);(iterate 4 rfl);assumption|(with_reducible apply f5);rfl;assumption;rfl;rfl|(with_reducible apply l8 hS);rfl;rfl;rfl;clear hS;intro g w' hS|(with_reducible apply q7);rfl;rfl;rfl;all_goals (intro hb hp;try (exfalso;omega))|(with_reducible apply b9);rfl;all_goals (intro hb hp;try (exfalso;omega)))
 rename Nat=>gk
 refine a07 (F:=nF) (w0:=w) (X:=Nat×Nat×Nat×Nat) (fun x=>[(1,.pointer (some ⟨gk,0,none⟩)),(3,.pointer (some ⟨x.2.2.2,0,none⟩))]) (fun x=>[.blk x.2.2.2 [.pointer (some ⟨x.2.2.1,0,none⟩)],.blk gk [.slice p1 sh.length c1,.slice p2 nf c2,.slice p3 ns c3,.slice p4 sp.length c4,.int .i64 hand],.blk x.2.2.1 [.pointer (some ⟨gk,0,none⟩),.slice (some ⟨x.1,0,none⟩) nf nf,.slice (some ⟨x.2.1,0,none⟩) ns ns,.int .i64 0],.row 154 1 (.slice (some ⟨x.1,0,none⟩) nf nf) (List.replicate nf [.slice none 0 0]),.row 154 1 (.slice (some ⟨x.2.1,0,none⟩) ns ns) (List.replicate ns [.slice none 0 0])]) (fun _=>True) ?_ ?_
 ·refine a6a 1 12 rfl hS (by kernel_rfl) ?_;intro w1 hS';clear hS;have hS:=hS';clear hS';simp only [xl2,xl3]
  ((with_reducible apply a1g (nn 0) a7);rfl;kernel_rfl;kernel_rfl;kernel_rfl;exact (fun _ _ _ h=>h);exact hS;rfl;rfl)
  ((with_reducible apply z7 (nn 1));rfl;kernel_rfl;exact (fun _ _ _ h=>h);exact hS;rfl;(intro wd hd;replace hd:St _ _ wd _:=hd;(apply Ld.sl a7;rfl;exact hd.blkC 0 rfl rfl));rfl)
  ((with_reducible apply m8 (nn 2) a7);rfl;kernel_rfl;exact (fun _ _ _ h=>h);exact hS;rfl;rfl)
  ((with_reducible apply m8 (nn 4) a7);rfl;kernel_rfl;exact (fun _ _ _ h=>h);exact hS;rfl;rfl)
  ((with_reducible apply z7 (nn 5));rfl;kernel_rfl;exact (fun _ _ _ h=>h);exact hS;rfl;(intro wd hd;replace hd:St _ _ wd _:=hd;(apply Ld.sl a7;rfl;exact hd.blkC 0 rfl rfl));rfl)
  ((with_reducible apply m8 (nn 6) a7);rfl;kernel_rfl;exact (fun _ _ _ h=>h);exact hS;rfl;rfl)
  refine a8V (i:=3) (j:=7) (l:=10) (by kernel_rfl) ?_ ?_ ?_
  ·refine j5 rfl (y0 hS a7 (m:=nf) rfl rfl rfl rfl rfl (by omega) (by omega) rfl) rfl ?_;rintro _ w' ⟨gF,rfl,hS'⟩;clear hS;have hS:=hS';clear hS';refine ⟨(hS.sub (by repeat (first|exact xl8 _|apply xm1))),?_⟩;refine a2x (i:=7) (j:=10) (by kernel_rfl) ?_ ?_
   ·refine j5 rfl (y0 hS a7 (m:=ns) rfl rfl rfl rfl rfl (by omega) (by omega) rfl) rfl ?_;rintro _ w' ⟨gS,rfl,hS'⟩;clear hS;have hS:=hS';clear hS';refine ⟨(hS.sub (by repeat (first|exact xl8 _|apply xm1))),?_⟩
    ((with_reducible apply y6 (nn 8) a7);rfl;kernel_rfl;kernel_rfl;kernel_rfl;exact (fun _ _ _ _ h=>h);exact (hS.sub (by repeat (first|exact xl8 _|apply xm1)));rfl;rfl;exact (rfl:_=some [_,_,_,_]);rfl)
    refine a2x (i:=9) (j:=10) (by kernel_rfl) ?_ ?_
    ·refine j5 rfl (a4e hS rfl) rfl ?_;rintro _ w' ⟨gl,rfl,hS'⟩;replace hS':St _ _ w' (.blk gl [.pointer (some ⟨gk,0,none⟩),.slice (some ⟨gF,0,none⟩) nf nf,.slice (some ⟨gS,0,none⟩) ns ns,.int .i64 0]::_):=hS';clear hS;have hS:=hS';clear hS';refine ⟨(hS.sub (by repeat (first|exact xl8 _|apply xm1))),?_⟩;refine l4 (i:=10) (by kernel_rfl) ?_;refine j5 rfl (v9 hS a7 rfl rfl) rfl ?_;rintro _ w' ⟨gc,rfl,hS'⟩;clear hS;have hS:=hS';clear hS';refine ⟨(hS.sub (by repeat (first|exact xl8 _|apply xm1))),?_⟩;refine l4 (i:=11) (by kernel_rfl) ?_;refine p8 (Φ:=fun _ w'=>St _ _ w' _) rfl (m7 hS a7 (i:=0) rfl rfl rfl rfl rfl (xg1 rfl) (xc7.1 rfl)) ?_;intro _ w' hS';simp only [List.set] at hS';clear hS;have hS:=hS';clear hS';refine ⟨(hS.sub (by repeat (first|exact xl8 _|apply xm1))),?_⟩;refine v8 (by kernel_rfl) ?_;replace hS:=St.reorder [0,4,1,3,2] hS (by decide) rfl;exact n5 (gF,gS,gl,gc) (by exact Fr.sub_of rfl) trivial hS
    ·refine j5 rfl (v9 hS a7 rfl rfl) rfl ?_;rintro _ w' ⟨gc,rfl,hS'⟩;clear hS;have hS:=hS';clear hS';refine ⟨(hS.sub (by repeat (first|exact xl8 _|apply xm1))),?_⟩;refine l4 (i:=9) (by kernel_rfl) ?_;refine j5 rfl (a4e hS rfl) rfl ?_;rintro _ w' ⟨gl,rfl,hS'⟩;replace hS':St _ _ w' (.blk gl [.pointer (some ⟨gk,0,none⟩),.slice (some ⟨gF,0,none⟩) nf nf,.slice (some ⟨gS,0,none⟩) ns ns,.int .i64 0]::_):=hS';clear hS;have hS:=hS';clear hS';refine ⟨(hS.sub (by repeat (first|exact xl8 _|apply xm1))),?_⟩;refine l4 (i:=11) (by kernel_rfl) ?_;refine p8 (Φ:=fun _ w'=>St _ _ w' _) rfl (m7 hS a7 (i:=1) rfl rfl rfl rfl rfl (xg1 rfl) (xc7.1 rfl)) ?_;intro _ w' hS';simp only [List.set] at hS';clear hS;have hS:=hS';clear hS';refine ⟨(hS.sub (by repeat (first|exact xl8 _|apply xm1))),?_⟩;refine v8 (by kernel_rfl) ?_;replace hS:=St.reorder [1,4,0,3,2] hS (by decide) rfl;exact n5 (gF,gS,gl,gc) (by exact Fr.sub_of rfl) trivial hS
   ·refine j5 rfl (v9 hS a7 rfl rfl) rfl ?_;rintro _ w' ⟨gc,rfl,hS'⟩;clear hS;have hS:=hS';clear hS';refine ⟨(hS.sub (by repeat (first|exact xl8 _|apply xm1))),?_⟩;refine l4 (i:=7) (by kernel_rfl) ?_;refine j5 rfl (y0 hS a7 (m:=ns) rfl rfl rfl rfl rfl (by omega) (by omega) rfl) rfl ?_;rintro _ w' ⟨gS,rfl,hS'⟩;clear hS;have hS:=hS';clear hS';refine ⟨(hS.sub (by repeat (first|exact xl8 _|apply xm1))),?_⟩
    ((with_reducible apply y6 (nn 8) a7);rfl;kernel_rfl;kernel_rfl;kernel_rfl;exact (fun _ _ _ _ h=>h);exact (hS.sub (by repeat (first|exact xl8 _|apply xm1)));rfl;rfl;exact (rfl:_=some [_,_,_,_]);rfl)
    refine l4 (i:=9) (by kernel_rfl) ?_;refine j5 rfl (a4e hS rfl) rfl ?_;rintro _ w' ⟨gl,rfl,hS'⟩;replace hS':St _ _ w' (.blk gl [.pointer (some ⟨gk,0,none⟩),.slice (some ⟨gF,0,none⟩) nf nf,.slice (some ⟨gS,0,none⟩) ns ns,.int .i64 0]::_):=hS';clear hS;have hS:=hS';clear hS';refine ⟨(hS.sub (by repeat (first|exact xl8 _|apply xm1))),?_⟩;refine l4 (i:=11) (by kernel_rfl) ?_;refine p8 (Φ:=fun _ w'=>St _ _ w' _) rfl (m7 hS a7 (i:=2) rfl rfl rfl rfl rfl (xg1 rfl) (xc7.1 rfl)) ?_;intro _ w' hS';simp only [List.set] at hS';clear hS;have hS:=hS';clear hS';refine ⟨(hS.sub (by repeat (first|exact xl8 _|apply xm1))),?_⟩;refine v8 (by kernel_rfl) ?_;replace hS:=St.reorder [2,4,0,3,1] hS (by decide) rfl;exact n5 (gF,gS,gl,gc) (by exact Fr.sub_of rfl) trivial hS
  ·refine j5 rfl (y0 hS a7 (m:=ns) rfl rfl rfl rfl rfl (by omega) (by omega) rfl) rfl ?_;rintro _ w' ⟨gS,rfl,hS'⟩;clear hS;have hS:=hS';clear hS';refine ⟨(hS.sub (by repeat (first|exact xl8 _|apply xm1))),?_⟩;refine a2x (i:=3) (j:=10) (by kernel_rfl) ?_ ?_
   ·refine j5 rfl (y0 hS a7 (m:=nf) rfl rfl rfl rfl rfl (by omega) (by omega) rfl) rfl ?_;rintro _ w' ⟨gF,rfl,hS'⟩;clear hS;have hS:=hS';clear hS';refine ⟨(hS.sub (by repeat (first|exact xl8 _|apply xm1))),?_⟩
    ((with_reducible apply y6 (nn 8) a7);rfl;kernel_rfl;kernel_rfl;kernel_rfl;exact (fun _ _ _ _ h=>h);exact (hS.sub (by repeat (first|exact xl8 _|apply xm1)));rfl;rfl;exact (rfl:_=some [_,_,_,_]);rfl)
    refine a2x (i:=9) (j:=10) (by kernel_rfl) ?_ ?_
    ·refine j5 rfl (a4e hS rfl) rfl ?_;rintro _ w' ⟨gl,rfl,hS'⟩;replace hS':St _ _ w' (.blk gl [.pointer (some ⟨gk,0,none⟩),.slice (some ⟨gF,0,none⟩) nf nf,.slice (some ⟨gS,0,none⟩) ns ns,.int .i64 0]::_):=hS';clear hS;have hS:=hS';clear hS';refine ⟨(hS.sub (by repeat (first|exact xl8 _|apply xm1))),?_⟩;refine l4 (i:=10) (by kernel_rfl) ?_;refine j5 rfl (v9 hS a7 rfl rfl) rfl ?_;rintro _ w' ⟨gc,rfl,hS'⟩;clear hS;have hS:=hS';clear hS';refine ⟨(hS.sub (by repeat (first|exact xl8 _|apply xm1))),?_⟩;refine l4 (i:=11) (by kernel_rfl) ?_;refine p8 (Φ:=fun _ w'=>St _ _ w' _) rfl (m7 hS a7 (i:=0) rfl rfl rfl rfl rfl (xg1 rfl) (xc7.1 rfl)) ?_;intro _ w' hS';simp only [List.set] at hS';clear hS;have hS:=hS';clear hS';refine ⟨(hS.sub (by repeat (first|exact xl8 _|apply xm1))),?_⟩;refine v8 (by kernel_rfl) ?_;replace hS:=St.reorder [0,4,1,2,3] hS (by decide) rfl;exact n5 (gF,gS,gl,gc) (by exact Fr.sub_of rfl) trivial hS
    ·refine j5 rfl (v9 hS a7 rfl rfl) rfl ?_;rintro _ w' ⟨gc,rfl,hS'⟩;clear hS;have hS:=hS';clear hS';refine ⟨(hS.sub (by repeat (first|exact xl8 _|apply xm1))),?_⟩;refine l4 (i:=9) (by kernel_rfl) ?_;refine j5 rfl (a4e hS rfl) rfl ?_;rintro _ w' ⟨gl,rfl,hS'⟩;replace hS':St _ _ w' (.blk gl [.pointer (some ⟨gk,0,none⟩),.slice (some ⟨gF,0,none⟩) nf nf,.slice (some ⟨gS,0,none⟩) ns ns,.int .i64 0]::_):=hS';clear hS;have hS:=hS';clear hS';refine ⟨(hS.sub (by repeat (first|exact xl8 _|apply xm1))),?_⟩;refine l4 (i:=11) (by kernel_rfl) ?_;refine p8 (Φ:=fun _ w'=>St _ _ w' _) rfl (m7 hS a7 (i:=1) rfl rfl rfl rfl rfl (xg1 rfl) (xc7.1 rfl)) ?_;intro _ w' hS';simp only [List.set] at hS';clear hS;have hS:=hS';clear hS';refine ⟨(hS.sub (by repeat (first|exact xl8 _|apply xm1))),?_⟩;refine v8 (by kernel_rfl) ?_;replace hS:=St.reorder [1,4,0,2,3] hS (by decide) rfl;exact n5 (gF,gS,gl,gc) (by exact Fr.sub_of rfl) trivial hS
   ·refine j5 rfl (v9 hS a7 rfl rfl) rfl ?_;rintro _ w' ⟨gc,rfl,hS'⟩;clear hS;have hS:=hS';clear hS';refine ⟨(hS.sub (by repeat (first|exact xl8 _|apply xm1))),?_⟩;refine l4 (i:=3) (by kernel_rfl) ?_;refine j5 rfl (y0 hS a7 (m:=nf) rfl rfl rfl rfl rfl (by omega) (by omega) rfl) rfl ?_;rintro _ w' ⟨gF,rfl,hS'⟩;clear hS;have hS:=hS';clear hS';refine ⟨(hS.sub (by repeat (first|exact xl8 _|apply xm1))),?_⟩
    ((with_reducible apply y6 (nn 8) a7);rfl;kernel_rfl;kernel_rfl;kernel_rfl;exact (fun _ _ _ _ h=>h);exact (hS.sub (by repeat (first|exact xl8 _|apply xm1)));rfl;rfl;exact (rfl:_=some [_,_,_,_]);rfl)
    refine l4 (i:=9) (by kernel_rfl) ?_;refine j5 rfl (a4e hS rfl) rfl ?_;rintro _ w' ⟨gl,rfl,hS'⟩;replace hS':St _ _ w' (.blk gl [.pointer (some ⟨gk,0,none⟩),.slice (some ⟨gF,0,none⟩) nf nf,.slice (some ⟨gS,0,none⟩) ns ns,.int .i64 0]::_):=hS';clear hS;have hS:=hS';clear hS';refine ⟨(hS.sub (by repeat (first|exact xl8 _|apply xm1))),?_⟩;refine l4 (i:=11) (by kernel_rfl) ?_;refine p8 (Φ:=fun _ w'=>St _ _ w' _) rfl (m7 hS a7 (i:=2) rfl rfl rfl rfl rfl (xg1 rfl) (xc7.1 rfl)) ?_;intro _ w' hS';simp only [List.set] at hS';clear hS;have hS:=hS';clear hS';refine ⟨(hS.sub (by repeat (first|exact xl8 _|apply xm1))),?_⟩;refine v8 (by kernel_rfl) ?_;replace hS:=St.reorder [2,4,0,1,3] hS (by decide) rfl;exact n5 (gF,gS,gl,gc) (by exact Fr.sub_of rfl) trivial hS
  ·refine j5 rfl (v9 hS a7 rfl rfl) rfl ?_;rintro _ w' ⟨gc,rfl,hS'⟩;clear hS;have hS:=hS';clear hS';refine ⟨(hS.sub (by repeat (first|exact xl8 _|apply xm1))),?_⟩;refine a2x (i:=3) (j:=7) (by kernel_rfl) ?_ ?_
   ·refine j5 rfl (y0 hS a7 (m:=nf) rfl rfl rfl rfl rfl (by omega) (by omega) rfl) rfl ?_;rintro _ w' ⟨gF,rfl,hS'⟩;clear hS;have hS:=hS';clear hS';refine ⟨(hS.sub (by repeat (first|exact xl8 _|apply xm1))),?_⟩;refine l4 (i:=7) (by kernel_rfl) ?_;refine j5 rfl (y0 hS a7 (m:=ns) rfl rfl rfl rfl rfl (by omega) (by omega) rfl) rfl ?_;rintro _ w' ⟨gS,rfl,hS'⟩;clear hS;have hS:=hS';clear hS';refine ⟨(hS.sub (by repeat (first|exact xl8 _|apply xm1))),?_⟩
    ((with_reducible apply y6 (nn 8) a7);rfl;kernel_rfl;kernel_rfl;kernel_rfl;exact (fun _ _ _ _ h=>h);exact (hS.sub (by repeat (first|exact xl8 _|apply xm1)));rfl;rfl;exact (rfl:_=some [_,_,_,_]);rfl)
    refine l4 (i:=9) (by kernel_rfl) ?_;refine j5 rfl (a4e hS rfl) rfl ?_;rintro _ w' ⟨gl,rfl,hS'⟩;replace hS':St _ _ w' (.blk gl [.pointer (some ⟨gk,0,none⟩),.slice (some ⟨gF,0,none⟩) nf nf,.slice (some ⟨gS,0,none⟩) ns ns,.int .i64 0]::_):=hS';clear hS;have hS:=hS';clear hS';refine ⟨(hS.sub (by repeat (first|exact xl8 _|apply xm1))),?_⟩;refine l4 (i:=11) (by kernel_rfl) ?_;refine p8 (Φ:=fun _ w'=>St _ _ w' _) rfl (m7 hS a7 (i:=3) rfl rfl rfl rfl rfl (xg1 rfl) (xc7.1 rfl)) ?_;intro _ w' hS';simp only [List.set] at hS';clear hS;have hS:=hS';clear hS';refine ⟨(hS.sub (by repeat (first|exact xl8 _|apply xm1))),?_⟩;refine v8 (by kernel_rfl) ?_;replace hS:=St.reorder [3,4,0,2,1] hS (by decide) rfl;exact n5 (gF,gS,gl,gc) (by exact Fr.sub_of rfl) trivial hS
   ·refine j5 rfl (y0 hS a7 (m:=ns) rfl rfl rfl rfl rfl (by omega) (by omega) rfl) rfl ?_;rintro _ w' ⟨gS,rfl,hS'⟩;clear hS;have hS:=hS';clear hS';refine ⟨(hS.sub (by repeat (first|exact xl8 _|apply xm1))),?_⟩;refine l4 (i:=3) (by kernel_rfl) ?_;refine j5 rfl (y0 hS a7 (m:=nf) rfl rfl rfl rfl rfl (by omega) (by omega) rfl) rfl ?_;rintro _ w' ⟨gF,rfl,hS'⟩;clear hS;have hS:=hS';clear hS';refine ⟨(hS.sub (by repeat (first|exact xl8 _|apply xm1))),?_⟩
    ((with_reducible apply y6 (nn 8) a7);rfl;kernel_rfl;kernel_rfl;kernel_rfl;exact (fun _ _ _ _ h=>h);exact (hS.sub (by repeat (first|exact xl8 _|apply xm1)));rfl;rfl;exact (rfl:_=some [_,_,_,_]);rfl)
    refine l4 (i:=9) (by kernel_rfl) ?_;refine j5 rfl (a4e hS rfl) rfl ?_;rintro _ w' ⟨gl,rfl,hS'⟩;replace hS':St _ _ w' (.blk gl [.pointer (some ⟨gk,0,none⟩),.slice (some ⟨gF,0,none⟩) nf nf,.slice (some ⟨gS,0,none⟩) ns ns,.int .i64 0]::_):=hS';clear hS;have hS:=hS';clear hS';refine ⟨(hS.sub (by repeat (first|exact xl8 _|apply xm1))),?_⟩;refine l4 (i:=11) (by kernel_rfl) ?_;refine p8 (Φ:=fun _ w'=>St _ _ w' _) rfl (m7 hS a7 (i:=3) rfl rfl rfl rfl rfl (xg1 rfl) (xc7.1 rfl)) ?_;intro _ w' hS';simp only [List.set] at hS';clear hS;have hS:=hS';clear hS';refine ⟨(hS.sub (by repeat (first|exact xl8 _|apply xm1))),?_⟩;refine v8 (by kernel_rfl) ?_;replace hS:=St.reorder [3,4,0,1,2] hS (by decide) rfl;exact n5 (gF,gS,gl,gc) (by exact Fr.sub_of rfl) trivial hS
 clear hS;rintro ⟨gF,gS,gl,gc⟩ w1 - hS;dsimp only at hS |-
 repeat (with_reducible apply a2R)
 have hform:∀ b:Bool,a5E ⟨shs sh,fr,sl,sp.map (·.s),hand⟩=b->(if a5E ⟨shs sh,fr,sl,sp.map (·.s),hand⟩=true then (0:Int) else 1)=if b=true then 0 else 1:=fun b h=>by rw [h]
 have hfe:a5E ⟨shs sh,fr,sl,sp.map (·.s),hand⟩=((a0C 0 (shs sh) && decide (0<=hand/\hand < (nf:Int))) && ((sp.map (·.s)).all (t9 (shs sh) nf ns) && (decide (a0n (sp.map (·.s))<=(ns:Int)) && (a0Y ⟨shs sh,fr,sl,sp.map (·.s),hand⟩ && a1S ⟨shs sh,fr,sl,sp.map (·.s),hand⟩)))):=by
  rw [<- hnf,<- hns];rfl
 cases hsh:a0C 0 (shs sh) with
 |false=>
  rw [hsh] at hshe hfe;rw [xq1,xq1] at hfe;rw [hfe]
  (focus ((with_reducible apply d9 _ _ _ (by kernel_rfl) (by kernel_rfl) hS);(repeat' (first|(first|(with_reducible apply i7 a7);rfl;rfl|(with_reducible apply i9);rfl;(intro wd hd;replace hd:St _ _ wd _:=hd;(apply Ld.sl a7;rfl;exact hd.blkC 1 rfl rfl));rfl|(first|(with_reducible apply a14);(iterate 4 rfl);rfl;rfl|(with_reducible apply t7);rfl;rfl;rfl;rfl))|(with_reducible apply y7);rfl;rfl;rfl;refine ⟨_,fun wd hd=>hshe _ (k1.now hd),?_⟩));all_goals ((with_reducible apply j7);intro w' hS';clear hS;have hS:=hS';clear hS')))
  repeat' (first|(with_reducible apply a8 a7);rfl;rfl;rfl|refine yDn (by with_reducible constructor) ?_|(with_reducible apply f6);rfl;rfl)
  (refine k7 rfl ?_)
  exact ⟨rfl,hS.sub (xj1 _)⟩
 |true=>
  rw [hsh] at hshe hfe;rw [xq0] at hfe;by_cases hh:0<=hand/\hand < (nf:Int);rotate_left
  ·rw [xj0 hh,xq1] at hfe;rw [hfe]
   (focus ((with_reducible apply d9 _ _ _ (by kernel_rfl) (by kernel_rfl) hS);(repeat' (first|(first|(with_reducible apply i7 a7);rfl;rfl|(with_reducible apply i9);rfl;(intro wd hd;replace hd:St _ _ wd _:=hd;(first|apply Ld.sc a7;rfl;exact hd.blkC 1 rfl rfl|apply Ld.sl a7;rfl;exact hd.blkC 1 rfl rfl));rfl|(first|((with_reducible apply a0t);(iterate 4 rfl);first|rfl|assumption)|(with_reducible apply a14);(iterate 4 rfl);(first|rfl|assumption);rfl|(with_reducible apply a0F);rfl;rfl;rfl;all_goals (intro hb hp;try (exfalso;omega))|(with_reducible apply t7);rfl;(first|rfl|assumption);rfl;rfl|(with_reducible apply r7);rfl;(first|rfl|assumption);rfl;rfl))|(with_reducible apply y7);rfl;rfl;rfl;refine ⟨_,fun wd hd=>hshe _ (k1.now hd),?_⟩));all_goals ((with_reducible apply j7);intro w' hS';clear hS;have hS:=hS';clear hS')))
   all_goals (repeat' (first|(with_reducible apply a6h a7);rfl;rfl|(first|(with_reducible first|apply a2R|apply a2Q|apply a3C|apply a2g|apply b5P|apply a6S))|(with_reducible apply f6);rfl;rfl))
   all_goals (apply a0U)
   all_goals (repeat (first|exact ResL.nil|apply ResL.tmp;rfl))
   all_goals (exact ⟨rfl,hS.sub (xj1 _)⟩)
  rw [xj2 hh,xq0] at hfe;replace hS:=St.reorder [2,3,4,0,1] hS (by decide) rfl;have hS2:St nF w w1 (lkS gl (.pointer (some ⟨gk,0,none⟩)) (.slice (some ⟨gF,0,none⟩) nf nf) (.slice (some ⟨gS,0,none⟩) ns ns) 0 (List.replicate nf (.slice none 0 0,[])) (List.replicate ns (.slice none 0 0,[]))++[.blk gc [.pointer (some ⟨gl,0,none⟩)],.blk gk [.slice p1 sh.length c1,.slice p2 nf c2,.slice p3 ns c3,.slice p4 sp.length c4,.int .i64 hand]]):=by
   have h3:=a8P (a8P hS ns) nf;unfold lkS nlC;rw [xn7,xn7];rw [<- xg0] at h3;refine h3.perm ?_;show (_++([_,_,_]++[_,_])).Perm (([_,_,_]++_)++[_,_]);rw [<- xg0];exact List.perm_append_comm.append_right _
  clear hS;have hS:=hS2.perm xm4;clear hS2;simp only [List.cons_append,List.nil_append] at hS;have hd1:decide (hand < 0)=false:=xj0 (by omega);have hd2:decide ((nf:Int)<=hand)=false:=xj0 (by omega);refine a6a 2 33 rfl hS (by kernel_rfl) ?_;intro w2 hS';clear hS;have hS:=hS';clear hS';simp only [xl2,xl3];have hH:=hS.sub (xm3 [_,_] _)
  ((with_reducible apply a1g (nn 0) a7);rfl;kernel_rfl;kernel_rfl;kernel_rfl;exact (fun _ _ _ h=>h);exact hH;rfl;rfl)
  ((with_reducible apply a8n (nn 1));rfl;kernel_rfl;kernel_rfl;kernel_rfl;exact (fun _ _ _ h=>h);exact hH;rfl;(intro wd hd;replace hd:St _ _ wd _:=hd;(apply Ld.sl a7;rfl;exact hd.blkC 1 rfl rfl));rfl)
  refine l4 (i:=2) (by kernel_rfl) ?_;refine j5 rfl (s9 (first:=[]) (caps:=[]) rfl rfl (hshe _ (k1.now hS))) rfl ?_;rintro _ w' ⟨rfl,hS'⟩;replace hS:=hS.transA hS';simp only [v6] at hS;clear hS';refine ⟨(hS.sub (xm3 [_,_] _)),?_⟩;have hH:=hS.sub (xm3 [_,_] _)
  ((with_reducible apply a1g (nn 3) a7);rfl;kernel_rfl;kernel_rfl;kernel_rfl;exact (fun _ _ _ h=>h);exact hH;rfl;rfl);((with_reducible apply a1g (nn 4) a7);rfl;kernel_rfl;kernel_rfl;kernel_rfl;exact (fun _ _ _ h=>h);exact hH;rfl;rfl);((with_reducible apply a0e (nn 5));rfl;kernel_rfl;kernel_rfl;kernel_rfl;exact (fun _ _ _ h=>h);exact hH;(iterate 4 rfl);rfl;exact (fun a ha=>l6 a7 ha rfl);rfl);((with_reducible apply a1c (nn 6));rfl;kernel_rfl;kernel_rfl;kernel_rfl;exact (fun _ _ _ h=>h);exact hH;(iterate 4 rfl);rfl;rfl;(intro wd hd;replace hd:St _ _ wd _:=hd;(apply Ld.sc a7;rfl;exact hd.blkC 1 rfl rfl));rfl);((with_reducible apply a0e (nn 7));rfl;kernel_rfl;kernel_rfl;kernel_rfl;exact (fun _ _ _ h=>h);exact hH;(iterate 4 rfl);rfl;exact (fun a ha=>l6 a7 ha rfl);rfl);((with_reducible apply a1D (nn 8));rfl;kernel_rfl;kernel_rfl;kernel_rfl;exact (fun _ _ _ h=>h);exact hH;exact a4Q rfl (by (rfl)) rfl;rfl);((with_reducible apply a1g (nn 9) a7);rfl;kernel_rfl;kernel_rfl;kernel_rfl;exact (fun _ _ _ h=>h);exact hH;rfl;rfl);((with_reducible apply a0e (nn 10));rfl;kernel_rfl;kernel_rfl;kernel_rfl;exact (fun _ _ _ h=>h);exact hH;(iterate 4 rfl);assumption;exact (fun a ha=>l6 a7 ha rfl);rfl);((with_reducible apply a1c (nn 11));rfl;kernel_rfl;kernel_rfl;kernel_rfl;exact (fun _ _ _ h=>h);exact hH;(iterate 4 rfl);assumption;rfl;(intro wd hd;replace hd:St _ _ wd _:=hd;(apply Ld.sc a7;rfl;exact hd.blkC 1 rfl rfl));rfl);((with_reducible apply a0e (nn 12));rfl;kernel_rfl;kernel_rfl;kernel_rfl;exact (fun _ _ _ h=>h);exact hH;(iterate 4 rfl);assumption;exact (fun a ha=>l6 a7 ha rfl);rfl);((with_reducible apply a1c (nn 13));rfl;kernel_rfl;kernel_rfl;kernel_rfl;exact (fun _ _ _ h=>h);exact hH;(iterate 4 rfl);assumption;rfl;(intro wd hd;replace hd:St _ _ wd _:=hd;(apply Ld.sl a7;rfl;exact hd.blkC 1 rfl rfl));rfl);((with_reducible apply a0e (nn 14));rfl;kernel_rfl;kernel_rfl;kernel_rfl;exact (fun _ _ _ h=>h);exact hH;(iterate 4 rfl);assumption;exact (fun a ha=>l6 a7 ha rfl);rfl);((with_reducible apply a0e (nn 15));rfl;kernel_rfl;kernel_rfl;kernel_rfl;exact (fun _ _ _ h=>h);exact hH;(iterate 4 rfl);assumption;exact (fun a ha=>l6 a7 ha rfl);rfl);((with_reducible apply a1D (nn 16));rfl;kernel_rfl;kernel_rfl;kernel_rfl;exact (fun _ _ _ h=>h);exact hH;exact a4Q rfl (by (assumption)) rfl;rfl);((with_reducible apply a1g (nn 17) a7);rfl;kernel_rfl;kernel_rfl;kernel_rfl;exact (fun _ _ _ h=>h);exact hH;rfl;rfl);((with_reducible apply a0e (nn 18));rfl;kernel_rfl;kernel_rfl;kernel_rfl;exact (fun _ _ _ h=>h);exact hH;(iterate 4 rfl);assumption;exact (fun a ha=>l6 a7 ha rfl);rfl);((with_reducible apply a1c (nn 19));rfl;kernel_rfl;kernel_rfl;kernel_rfl;exact (fun _ _ _ h=>h);exact hH;(iterate 4 rfl);assumption;rfl;(intro wd hd;replace hd:St _ _ wd _:=hd;(apply Ld.sl a7;rfl;exact hd.blkC 1 rfl rfl));rfl);((with_reducible apply a0e (nn 20));rfl;kernel_rfl;kernel_rfl;kernel_rfl;exact (fun _ _ _ h=>h);exact hH;(iterate 4 rfl);assumption;exact (fun a ha=>l6 a7 ha rfl);rfl)
  refine l4 (i:=21) (by kernel_rfl) ?_;have hS2:=hS.perm (xm4 (l₁:=[_,_]));have hcon:=b3g hS2 (St.ownBs hS2 0 rfl rfl) (St.ownBs hS2 1 rfl rfl) ((ShsF.of k1).nowM hS2) hsh (k4.nowM hS2) (fun p hp=>(show SpF nF w p from ⟨(k5 p hp).ar,(k5 p hp).en⟩).nowM hS2) (by omega) (fun x hx=>by rw [(xg9.1 hx).2]) (fun x hx=>by rw [(xg9.1 hx).2]);rw [xi0,xi0] at hcon;refine a3V rfl rfl rfl rfl rfl (by (assumption)) (s9 (first:=[]) (caps:=[]) rfl rfl hcon) rfl ?_;clear hcon;rintro _ w3 ⟨rfl,NF,NS,room,h2,hg⟩;have hS':=(St.transM hS2 h2).perm xm4;clear hS2 h2;unfold lkS at hS';simp only [List.cons_append,List.nil_append] at hS';clear hS;have hS:=hS';clear hS';refine ⟨hS.sub (xm3 [_,_] _),?_⟩;have hH:=hS.sub (xm3 [_,_] _)
  cases hall:(sp.map (·.s)).all (t9 (shs sh) nf ns) with
  |false=>
   rw [hall,xq1] at hfe;rw [hfe]
   ((with_reducible apply a1D (nn 22));rfl;kernel_rfl;kernel_rfl;kernel_rfl;exact (fun _ _ _ h=>h);exact hH;exact a4Q rfl (by (assumption)) rfl;rfl);((with_reducible apply a1g (nn 23) a7);rfl;kernel_rfl;kernel_rfl;kernel_rfl;exact (fun _ _ _ h=>h);exact hH;rfl;rfl)
   ((with_reducible apply a2B (nn 24));rfl;kernel_rfl;kernel_rfl;kernel_rfl;exact (fun _ _ _ h=>h);exact hH;(iterate 4 rfl);rfl;rfl);((with_reducible apply a2B (nn 25));rfl;kernel_rfl;kernel_rfl;kernel_rfl;exact (fun _ _ _ h=>h);exact hH;(iterate 4 rfl);rfl;rfl);((with_reducible apply a2B (nn 26));rfl;kernel_rfl;kernel_rfl;kernel_rfl;exact (fun _ _ _ h=>h);exact hH;(iterate 4 rfl);rfl;rfl);((with_reducible apply a2B (nn 27));rfl;kernel_rfl;kernel_rfl;kernel_rfl;exact (fun _ _ _ h=>h);exact hH;(iterate 4 rfl);rfl;rfl);((with_reducible apply a2B (nn 28));rfl;kernel_rfl;kernel_rfl;kernel_rfl;exact (fun _ _ _ h=>h);exact hH;(iterate 4 rfl);rfl;rfl);((with_reducible apply a2B (nn 29));rfl;kernel_rfl;kernel_rfl;kernel_rfl;exact (fun _ _ _ h=>h);exact hH;(iterate 4 rfl);rfl;rfl);((with_reducible apply a2B (nn 30));rfl;kernel_rfl;kernel_rfl;kernel_rfl;exact (fun _ _ _ h=>h);exact hH;(iterate 4 rfl);rfl;rfl);((with_reducible apply a2B (nn 31));rfl;kernel_rfl;kernel_rfl;kernel_rfl;exact (fun _ _ _ h=>h);exact hH;(iterate 4 rfl);rfl;rfl)
   ((with_reducible apply a1D (nn 32));rfl;kernel_rfl;kernel_rfl;kernel_rfl;exact (fun _ _ _ h=>h);exact hH;exact a56 rfl (by (rfl)) rfl;rfl)
   refine v8 (by kernel_rfl) ?_
   repeat' (first|(with_reducible apply a8 a7);rfl;rfl;rfl|refine yDn (by with_reducible constructor) ?_|(with_reducible apply f6);rfl;rfl)
   (refine k7 rfl ?_)
   exact ⟨rfl,hS.sub (xj1 _)⟩
  |true=>
   rw [hall,xq0] at hfe;obtain ⟨hroom,hGF,hGS⟩:=hg hall
   ((with_reducible apply a1D (nn 22));rfl;kernel_rfl;kernel_rfl;kernel_rfl;exact (fun _ _ _ h=>h);exact hH;exact a4Q rfl (by (assumption)) rfl;rfl);((with_reducible apply a1g (nn 23) a7);rfl;kernel_rfl;kernel_rfl;kernel_rfl;exact (fun _ _ _ h=>h);exact hH;rfl;rfl);((with_reducible apply a1c (nn 24));rfl;kernel_rfl;kernel_rfl;kernel_rfl;exact (fun _ _ _ h=>h);exact hH;(iterate 4 rfl);rfl;rfl;(intro wd hd;replace hd:St _ _ wd _:=hd;(apply Ld.sc a7;rfl;exact hd.blkC 0 rfl rfl));rfl);((with_reducible apply a0e (nn 25));rfl;kernel_rfl;kernel_rfl;kernel_rfl;exact (fun _ _ _ h=>h);exact hH;(iterate 4 rfl);rfl;exact (fun a ha=>l6 a7 ha rfl);rfl);((with_reducible apply a0e (nn 26));rfl;kernel_rfl;kernel_rfl;kernel_rfl;exact (fun _ _ _ h=>h);exact hH;(iterate 4 rfl);rfl;exact (fun a ha=>l6 a7 ha rfl);rfl);((with_reducible apply a0e (nn 28));rfl;kernel_rfl;kernel_rfl;kernel_rfl;exact (fun _ _ _ h=>h);exact hH;(iterate 4 rfl);rfl;exact (fun a ha=>l6 a7 ha rfl);rfl);((with_reducible apply a1c (nn 29));rfl;kernel_rfl;kernel_rfl;kernel_rfl;exact (fun _ _ _ h=>h);exact hH;(iterate 4 rfl);rfl;rfl;(intro wd hd;replace hd:St _ _ wd _:=hd;(apply Ld.sl a7;rfl;exact hd.blkC 1 rfl rfl));rfl);((with_reducible apply a0e (nn 30));rfl;kernel_rfl;kernel_rfl;kernel_rfl;exact (fun _ _ _ h=>h);exact hH;(iterate 4 rfl);rfl;exact (fun a ha=>l6 a7 ha rfl);rfl)
   refine l4 (i:=27) (by kernel_rfl) ?_;refine a3V rfl rfl rfl rfl rfl rfl (b00 rfl (by (apply Ld.sc a7;rfl;exact hS.blkC 2 rfl rfl))) rfl ?_;rintro _ _ ⟨rfl,rfl⟩;refine ⟨hH,?_⟩
   ((with_reducible apply a0e (nn 31));rfl;kernel_rfl;kernel_rfl;kernel_rfl;exact (fun _ _ _ h=>h);exact hH;(iterate 4 rfl);rfl;exact (fun a ha=>l6 a7 ha rfl);rfl)
   ((with_reducible apply a1D (nn 32));rfl;kernel_rfl;kernel_rfl;kernel_rfl;exact (fun _ _ _ h=>h);exact hH;exact a4Q rfl (by (rfl)) rfl;rfl)
   refine v8 (by kernel_rfl) ?_;by_cases hrm:a0n (sp.map (·.s))<=(ns:Int);rotate_left
   ·rw [xj0 hrm,xq1] at hfe;rw [hfe]
    repeat' (first|(with_reducible apply a8 a7);rfl;rfl;rfl|refine yDn (by with_reducible constructor) ?_|(with_reducible apply b9);rfl;all_goals (intro hb hp;try (exfalso;omega)))
    (refine k7 rfl ?_)
    exact ⟨rfl,hS.sub (xj1 _)⟩
   rw [xj2 hrm,xq0] at hfe
   repeat' (first|(with_reducible apply a8 a7);rfl;rfl;rfl|(with_reducible apply a9);rfl;(apply Ld.sl a7;rfl;exact hS.blkC 1 rfl rfl);rfl|refine yDn (by with_reducible constructor) ?_|(with_reducible apply b9);rfl;all_goals (intro hb hp;try (exfalso;omega)))
   have hpg:=a8U hall;clear hg hH hb hp hd1 hd2 hroom;refine k9 (X:=Nat) (fun x=>[(89,.int .i64 (x:Nat))]) [1,3,87,88] rfl (fun _=>[]) (fun x=>x<=nf/\∀ (j:Nat) f,j < x->fr[j]?=some f->a1t (shs sh) f (j6 (sp.map (·.s)) 1 (j:Nat))=true) (fun x=>nf - x) 0 (by exact Fr.sub_of rfl) ⟨xg4 _,fun j f h=>by omega⟩ hS ?_;clear hS;rintro i w4 ⟨hi,hpre⟩ hS;dsimp only [List.cons_append,List.nil_append] at hi hpre hS |-;by_cases hlt:i < nf
   ·obtain ⟨f,hf⟩:=j0 (l:=fr) (i:=i) (by omega);have hrow:=c9 (f:=fmC) hf;obtain ⟨b,off,rfl,hro⟩:=k2.at_ (i:=i) (by omega);obtain ⟨v,hv⟩:=hGF.2 i (.slice none 0 0,[]) (List.getElem?_replicate_of_lt hlt);rw [List.nil_append,a1f] at hv;have hmem:nsA (v,j6 (sp.map (·.s)) 1 ((i:Nat):Int)) ∈ nlR NF:=xm5.2 ⟨_,xd0 hv,rfl⟩;have hrowN:(nlC NF)[i]?=some [v]:=c9 (f:=fun (x:Value×List Nm)=>[x.1]) hv;have hby:∀ n ∈ j6 (sp.map (·.s)) 1 ((i:Nat):Int),-1000000<=n.1.page/\n.1.page<=1000000:=fun n hn=>by
     rw [<- a1f] at hn;exact hpg n (xo7.1 hn).1
    generalize hbyn:j6 (sp.map (·.s)) 1 ((i:Nat):Int)=by_ at *;have hSm:∀ wd Γd,St nF w wd Γd->nsA (v,by_) ∈ Γd->Sl nF wd 7 v (by_.map nmC):=fun wd Γd hd hm=>St.slMem hd hm;obtain ⟨pv,cv,hvv⟩:=(hSm _ _ hS (by repeat (first|exact xe5 _ hmem|apply xc6))).form;subst hvv;have hfr:=fun wd (a:Bs nF wd ⟨gl,0,none⟩ (.pointer (some ⟨gk,0,none⟩))) (b:Bs nF wd ⟨gk,0,none⟩ (.slice p1 sh.length c1)) (c:ShsV wd sh (.slice p1 sh.length c1)) (d:Sl nF wd 7 (.slice pv (by_.map nmC).length cv) (by_.map nmC))=>a8h (f:=f) a b c hsh d hby;unfold fmC at hfr hrow
    cases hfb:a1t (shs sh) f by_ with
    |false=>
     rw [hfb] at hfr;have hff:a0Y ⟨shs sh,fr,sl,sp.map (·.s),hand⟩=false:=by
      unfold a0Y;rw [xq5];refine ⟨i,by rw [xi4];show i < fr.length;omega,?_⟩;show ¬(match fr[i]? with|some f=>a1t (shs sh) f (j6 (sp.map (·.s)) 1 ((i:Nat):Int))|none=>true)=true;rw [hf,hbyn];show ¬a1t (shs sh) f by_=true;rw [hfb];simp
     rw [hff,xq1] at hfe;rw [hfe]
     repeat' (first|(with_reducible apply a8 a7);rfl;rfl;rfl|(with_reducible apply a9);rfl;(apply Ld.st a7;rfl;exact hS.roR (by assumption) (by assumption);rfl);rfl|(with_reducible apply l7 a7);rfl;rfl;rfl;rfl;omega;rfl|refine yDn (by with_reducible constructor) ?_|(with_reducible apply d8 hS a7);rfl;rfl;rfl;clear hS;intro g w' hS|(with_reducible apply b8 hS a7 (i:=0));(iterate 8 rfl);exact (rfl:_=[_,_,_,_]);clear hS;intro w' hS;simp only [List.set] at hS|(with_reducible apply b9);rfl;all_goals (intro hb hp;try (exfalso;omega)))
     (focus ((with_reducible apply d9 _ _ _ (by kernel_rfl) (by kernel_rfl) hS);(repeat' (first|(first|(with_reducible apply i7 a7);rfl;rfl|(with_reducible apply i9);rfl;(intro wd hd;replace hd:St _ _ wd _:=hd;(first|apply Ld.sc a7;rfl;exact hd.blkC 1 rfl rfl|apply Ld.sl a7;rfl;exact hd.blkC 3 rfl rfl|apply Ld.st a7;rfl;exact hd.blkR 0 rfl;rfl));rfl|(with_reducible apply y8 a7);rfl;rfl;rfl;rfl;omega;rfl)|(with_reducible apply i9);rfl;(intro wd hd;replace hd:St _ _ wd _:=hd;apply Ld.sl a7;rfl;exact hd.rowC0 4 rfl hrowN rfl);rfl|(with_reducible apply y7);rfl;rfl;rfl;refine ⟨_,fun wd hd=>hfr _ (Bs.of (hd.blkC 3 rfl rfl)) (Bs.of (hd.blkC 2 rfl rfl)) (k1.now hd) (hSm _ _ hd (by repeat (first|exact xe5 _ hmem|apply xc6))),?_⟩));all_goals ((with_reducible apply j7);intro w' hS';clear hS;have hS:=hS';clear hS')))
     repeat' (first|(with_reducible apply a8 a7);rfl;rfl;rfl|refine yDn (by with_reducible constructor) ?_|(with_reducible apply f6);rfl;rfl)
     (refine k7 rfl ?_)
     exact ⟨rfl,hS.sub (xj1 _)⟩
    |true=>
     rw [hfb] at hfr
     repeat' (first|(with_reducible apply a8 a7);rfl;rfl;rfl|(with_reducible apply a9);rfl;(apply Ld.st a7;rfl;exact hS.roR (by assumption) (by assumption);rfl);rfl|(with_reducible apply l7 a7);rfl;rfl;rfl;rfl;omega;rfl|refine yDn (by with_reducible constructor) ?_|(with_reducible apply d8 hS a7);rfl;rfl;rfl;clear hS;intro g w' hS|(with_reducible apply b8 hS a7 (i:=0));(iterate 8 rfl);exact (rfl:_=[_,_,_,_]);clear hS;intro w' hS;simp only [List.set] at hS|(with_reducible apply b9);rfl;all_goals (intro hb hp;try (exfalso;omega)))
     (focus ((with_reducible apply d9 _ _ _ (by kernel_rfl) (by kernel_rfl) hS);(repeat' (first|(first|(with_reducible apply i7 a7);rfl;rfl|(with_reducible apply i9);rfl;(intro wd hd;replace hd:St _ _ wd _:=hd;(first|apply Ld.sc a7;rfl;exact hd.blkC 1 rfl rfl|apply Ld.sl a7;rfl;exact hd.blkC 3 rfl rfl|apply Ld.st a7;rfl;exact hd.blkR 0 rfl;rfl));rfl|(with_reducible apply y8 a7);rfl;rfl;rfl;rfl;omega;rfl)|(with_reducible apply i9);rfl;(intro wd hd;replace hd:St _ _ wd _:=hd;apply Ld.sl a7;rfl;exact hd.rowC0 4 rfl hrowN rfl);rfl|(with_reducible apply y7);rfl;rfl;rfl;refine ⟨_,fun wd hd=>hfr _ (Bs.of (hd.blkC 3 rfl rfl)) (Bs.of (hd.blkC 2 rfl rfl)) (k1.now hd) (hSm _ _ hd (by repeat (first|exact xe5 _ hmem|apply xc6))),?_⟩));all_goals ((with_reducible apply j7);intro w' hS';clear hS;have hS:=hS';clear hS')))
     repeat' (first|(with_reducible apply a8 a7);rfl;rfl;rfl|(with_reducible apply j4);rfl;rfl;omega;omega;rfl|refine yDn (by with_reducible constructor) ?_|(with_reducible apply f8);rfl;rfl)
     refine e9 (i + 1) (by exact Fr.sub_of rfl) ⟨by show i + 1<=nf;omega,fun j f' hj hf'=>?_⟩ hS.drop (by show nf - (i + 1) < nf - i;omega);rcases xp8.1 hj with h|h
     ·exact hpre j f' h hf'
     ·subst h;rw [hf] at hf'
      cases hf'
      rw [hbyn];exact hfb
   obtain rfl:i=nf:=by omega
   have hff:a0Y ⟨shs sh,fr,sl,sp.map (·.s),hand⟩=true:=by
    unfold a0Y;rw [xc7];intro j hj;rw [xi4] at hj;dsimp only at hj;obtain ⟨f,hf⟩:=j0 (l:=fr) (i:=j) (by omega);show (match fr[j]? with|some f=>a1t (shs sh) f (j6 (sp.map (·.s)) 1 ((j:Nat):Int))|none=>true)=true;rw [hf];exact hpre j f (by have:=d6 hf;omega) hf
   rw [hff,xq0] at hfe;rw [hfe]
   repeat' (first|(with_reducible apply a8 a7);rfl;rfl;rfl|(with_reducible apply a9);rfl;(apply Ld.sl a7;rfl;exact hS.blkC 1 rfl rfl);rfl|refine yDn (by with_reducible constructor) ?_|(with_reducible apply b9);rfl;all_goals (intro hb hp;try (exfalso;omega)))
   refine k9 (X:=Nat) (fun x=>[(109,.int .i64 (x:Nat))]) [1,3,107,108] rfl (fun _=>[]) (fun x=>x<=ns/\∀ (j:Nat) f,j < x->sl[j]?=some f->a16 f (j6 (sp.map (·.s)) 2 (j:Nat))=true) (fun x=>ns - x) 0 (by exact Fr.sub_of rfl) ⟨xg4 _,fun j f h=>by omega⟩ hS ?_;clear hS hpre hlt hi hb hp hH;rintro i w5 ⟨hi,hpre⟩ hS;dsimp only [List.cons_append,List.nil_append] at hi hpre hS |-;by_cases hlt:i < ns;rotate_left
   ·obtain rfl:i=ns:=by omega
    have hsf:a1S ⟨shs sh,fr,sl,sp.map (·.s),hand⟩=true:=by
     unfold a1S;rw [xc7];intro j hj;rw [xi4] at hj;dsimp only at hj;obtain ⟨f,hf⟩:=j0 (l:=sl) (i:=j) (by omega);show (match sl[j]? with|some f=>a16 f (j6 (sp.map (·.s)) 2 ((j:Nat):Int))|none=>true)=true;rw [hf];exact hpre j f (by have:=d6 hf;omega) hf
    rw [hsf]
    repeat' (first|(with_reducible apply a8 a7);rfl;rfl;rfl|refine yDn (by with_reducible constructor) ?_|(with_reducible apply b9);rfl;all_goals (intro hb hp;try (exfalso;omega)))
    (refine k7 rfl ?_)
    exact ⟨rfl,hS.sub (xj1 _)⟩
   obtain ⟨f,hf⟩:=j0 (l:=sl) (i:=i) (by omega);have hrow:=c9 (f:=swC) hf;obtain ⟨b,off,rfl,hro⟩:=k3.at_ (i:=i) (by omega);obtain ⟨v,hv⟩:=hGS.2 i (.slice none 0 0,[]) (List.getElem?_replicate_of_lt hlt);rw [List.nil_append,a1f] at hv;have hmem:nsA (v,j6 (sp.map (·.s)) 2 ((i:Nat):Int)) ∈ nlR NS:=xm5.2 ⟨_,xd0 hv,rfl⟩;have hrowN:(nlC NS)[i]?=some [v]:=c9 (f:=fun (x:Value×List Nm)=>[x.1]) hv;have hbad:a16 f (j6 (sp.map (·.s)) 2 ((i:Nat):Int))=false->a1S ⟨shs sh,fr,sl,sp.map (·.s),hand⟩=false:=fun h=>by
    unfold a1S;rw [xq5];refine ⟨i,by rw [xi4];show i < sl.length;omega,?_⟩;show ¬(match sl[i]? with|some f=>a16 f (j6 (sp.map (·.s)) 2 ((i:Nat):Int))|none=>true)=true;rw [hf];show ¬a16 f (j6 (sp.map (·.s)) 2 ((i:Nat):Int))=true;rw [h];simp
   have hgood:a16 f (j6 (sp.map (·.s)) 2 ((i:Nat):Int))=true->∀ (j:Nat) f,j < i + 1->sl[j]?=some f->a16 f (j6 (sp.map (·.s)) 2 (j:Nat))=true:=fun hg j f' hj hf'=>by
    rcases xp8.1 hj with h|h
    ·exact hpre j f' h hf'
    ·subst h;rw [hf] at hf'
     cases hf'
     exact hg
   generalize hbyn:j6 (sp.map (·.s)) 2 ((i:Nat):Int)=by_ at hmem hbad hgood hv;have hSm:∀ wd Γd,St nF w wd Γd->nsA (v,by_) ∈ Γd->Sl nF wd 7 v (by_.map nmC):=fun wd Γd hd hm=>St.slMem hd hm;obtain ⟨pv,cv,hvv⟩:=(hSm _ _ hS (by repeat (first|exact xe6 _ hmem|apply xc6))).form;subst hvv;unfold swC at hrow
   cases by_ with
   |nil=>
    have e0:a16 f ([]:List Nm)=decide (f=sw0):=rfl;rw [e0] at hbad hgood;by_cases hz:f=sw0
    ·have hd:(!decide (f=sw0))=false:=by rw [xj2 hz];rfl
     repeat' (first|(with_reducible apply a8 a7);rfl;rfl;rfl|(with_reducible apply a9);rfl;(first|apply Ld.sc a7;rfl;exact hS.blkC 1 rfl rfl|apply Ld.sl a7;rfl;exact hS.blkC 3 rfl rfl|apply Ld.st a7;rfl;(first|exact hS.blkR 0 rfl|exact hS.roR (by assumption) (by assumption));rfl);rfl|(with_reducible apply l7 a7);rfl;rfl;rfl;rfl;omega;rfl|(with_reducible apply j4);rfl;rfl;omega;omega;rfl|(with_reducible apply n7 a7);rfl;rfl;exact (rfl:_=some [_,_]);rfl|refine yDn (by with_reducible constructor) ?_|((with_reducible apply k8);(iterate 4 rfl);first|rfl|assumption)|(with_reducible apply x8);(iterate 4 rfl);rfl;rfl|(with_reducible apply a1r);(iterate 5 rfl)|(with_reducible apply j3);rfl;rfl;rfl;rfl|(with_reducible apply f5);rfl;(first|rfl|assumption);rfl;rfl|(with_reducible apply f8);rfl;rfl|(with_reducible apply d8 hS a7);rfl;rfl;rfl;clear hS;intro g w' hS|(with_reducible apply b8 hS a7 (i:=0));(iterate 8 rfl);exact (rfl:_=[_,_]);clear hS;intro w' hS;simp only [List.set] at hS|(with_reducible apply b9);rfl;all_goals (intro hb hp;try (exfalso;omega))|(with_reducible apply a9);rfl;(apply Ld.sl a7;rfl;exact hS.rowC0 5 rfl hrowN rfl);rfl|(with_reducible apply b1C);rfl;rfl;exact b22 f sw0;rfl)
     exact e9 (i + 1) (by exact Fr.sub_of rfl) ⟨by show i + 1<=ns;omega,hgood (xj2 hz)⟩ hS.drop (by show ns - (i + 1) < ns - i;omega)
    ·have hd:(!decide (f=sw0))=true:=by rw [xj0 hz];rfl
     rw [hbad (xj0 hz)]
     repeat' (first|(with_reducible apply a8 a7);rfl;rfl;rfl|(with_reducible apply a9);rfl;(first|apply Ld.sc a7;rfl;exact hS.blkC 1 rfl rfl|apply Ld.sl a7;rfl;exact hS.blkC 3 rfl rfl|apply Ld.st a7;rfl;(first|exact hS.blkR 0 rfl|exact hS.roR (by assumption) (by assumption));rfl);rfl|(with_reducible apply l7 a7);rfl;rfl;rfl;rfl;omega;rfl|(with_reducible apply n7 a7);rfl;rfl;exact (rfl:_=some [_,_]);rfl|refine yDn (by with_reducible constructor) ?_|(with_reducible apply k8);(iterate 4 rfl);rfl|(with_reducible apply x8);(iterate 4 rfl);assumption;rfl|(with_reducible apply a1r);(iterate 5 rfl)|(with_reducible apply j3);rfl;(first|rfl|assumption);rfl;rfl|(with_reducible apply f6);rfl;rfl|(with_reducible apply d8 hS a7);rfl;rfl;rfl;clear hS;intro g w' hS|(with_reducible apply b8 hS a7 (i:=0));(iterate 8 rfl);exact (rfl:_=[_,_]);clear hS;intro w' hS;simp only [List.set] at hS|(with_reducible apply b9);rfl;all_goals (intro hb hp;try (exfalso;omega))|(with_reducible apply a9);rfl;(apply Ld.sl a7;rfl;exact hS.rowC0 5 rfl hrowN rfl);rfl|(with_reducible apply b1C);rfl;rfl;exact b22 f sw0;rfl)
     (refine k7 rfl ?_)
     exact ⟨rfl,hS.sub (xj1 _)⟩
   |cons n r=>
    have hal:=fun wd (h:Sl nF wd 7 (.slice pv ((n::r).map nmC).length cv) ((n::r).map nmC))=>a7A h rfl;have e0:a16 f (n::r)=(decide (f.refs=((n::r).length:Int)/\f.data.length=16) && a0P (n::r)):=rfl;rw [e0] at hbad hgood;clear e0;have hml:((n::r).map nmC).length=(n::r).length:=xi9 _;have hm0:0 < (n::r).length:=Nat.succ_pos _;have bnd:=(hSm _ _ hS (by repeat (first|exact xe6 _ hmem|apply xc6))).bound;rw [hml] at hal hrowN hSm hmem;generalize hlen:(n::r).length=m at *;by_cases h1:f.refs=(m:Int);rotate_left
    ·have hd:(!decide (f.refs=(m:Int)))=true:=by rw [xj0 h1];rfl
     rw [hbad (by rw [xj0 (fun h=>h1 h.1),xq1])]
     repeat' (first|(with_reducible apply a8 a7);rfl;rfl;rfl|(with_reducible apply a9);rfl;(first|apply Ld.sc a7;rfl;(first|exact hS.blkC 0 rfl rfl|exact hS.blkC 1 rfl rfl)|apply Ld.sl a7;rfl;exact hS.blkC 3 rfl rfl|apply Ld.st a7;rfl;exact hS.roR (by assumption) (by assumption);rfl);rfl|(with_reducible apply l7 a7);rfl;rfl;rfl;rfl;omega;rfl|refine yDn (by with_reducible constructor) ?_|((with_reducible apply k8);(iterate 4 rfl);first|rfl|assumption)|(with_reducible apply x8);(iterate 4 rfl);(first|rfl|assumption);rfl|(with_reducible apply j3);rfl;(first|rfl|assumption);rfl;rfl|(with_reducible apply f5);rfl;(first|rfl|assumption);rfl;rfl|(with_reducible apply f6);rfl;rfl|(with_reducible apply d8 hS a7);rfl;rfl;rfl;clear hS;intro g w' hS|(with_reducible apply b8 hS a7 (i:=0));(iterate 8 rfl);exact (rfl:_=[_,_]);clear hS;intro w' hS;simp only [List.set] at hS|(with_reducible apply q7);rfl;rfl;rfl;all_goals (intro hb hp;try (exfalso;omega))|(with_reducible apply b9);rfl;all_goals (intro hb hp;try (exfalso;omega))|(with_reducible apply a9);rfl;(apply Ld.sl a7;rfl;exact hS.rowC0 5 rfl hrowN rfl);rfl)
     (refine k7 rfl ?_)
     exact ⟨rfl,hS.sub (xj1 _)⟩
    have hd:(!decide (f.refs=(m:Int)))=false:=by rw [xj2 h1];rfl
    by_cases h2:f.data.length=16;rotate_left
    ·have hd2:(!decide ((f.data.length:Int)=16))=true:=by rw [xj0 (by omega)];rfl
     rw [hbad (by rw [xj0 (fun h=>h2 h.2),xq1])]
     repeat' (first|(with_reducible apply a8 a7);rfl;rfl;rfl|(with_reducible apply a9);rfl;(first|apply Ld.sc a7;rfl;(first|exact hS.blkC 0 rfl rfl|exact hS.blkC 1 rfl rfl)|apply Ld.sl a7;rfl;exact hS.blkC 3 rfl rfl|apply Ld.st a7;rfl;exact hS.roR (by assumption) (by assumption);rfl);rfl|(with_reducible apply l7 a7);rfl;rfl;rfl;rfl;omega;rfl|refine yDn (by with_reducible constructor) ?_|((with_reducible apply k8);(iterate 4 rfl);first|rfl|assumption)|(with_reducible apply x8);(iterate 4 rfl);assumption;rfl|(with_reducible apply j3);rfl;assumption;rfl;rfl|(with_reducible apply f5);rfl;(first|rfl|assumption);rfl;rfl|(with_reducible apply f6);rfl;rfl|(with_reducible apply d8 hS a7);rfl;rfl;rfl;clear hS;intro g w' hS|(with_reducible apply b8 hS a7 (i:=0));(iterate 8 rfl);exact (rfl:_=[_,_]);clear hS;intro w' hS;simp only [List.set] at hS|(with_reducible apply q7);rfl;rfl;rfl;all_goals (intro hb hp;try (exfalso;omega))|(with_reducible apply b9);rfl;all_goals (intro hb hp;try (exfalso;omega))|(with_reducible apply a9);rfl;(apply Ld.sl a7;rfl;exact hS.rowC0 5 rfl hrowN rfl);rfl)
     (refine k7 rfl ?_)
     exact ⟨rfl,hS.sub (xj1 _)⟩
    have hd2:(!decide ((f.data.length:Int)=16))=false:=by rw [xj2 (by omega)];rfl
    rw [xj2 ⟨h1,h2⟩,xq0] at hbad hgood
    cases ha:a0P (n::r) with
    |false=>
     rw [ha] at hal hbad;rw [hbad rfl]
     repeat' (first|(with_reducible apply a8 a7);rfl;rfl;rfl|(with_reducible apply a9);rfl;(first|apply Ld.sc a7;rfl;(first|exact hS.blkC 0 rfl rfl|exact hS.blkC 1 rfl rfl)|apply Ld.sl a7;rfl;exact hS.blkC 3 rfl rfl|apply Ld.st a7;rfl;exact hS.roR (by assumption) (by assumption);rfl);rfl|(with_reducible apply l7 a7);rfl;rfl;rfl;rfl;omega;rfl|refine yDn (by with_reducible constructor) ?_|((with_reducible apply k8);(iterate 4 rfl);first|rfl|assumption)|(with_reducible apply x8);(iterate 4 rfl);assumption;rfl|(with_reducible apply j3);rfl;assumption;rfl;rfl|(with_reducible apply f5);rfl;(first|rfl|assumption);rfl;rfl|(with_reducible apply f6);rfl;rfl|(with_reducible apply d8 hS a7);rfl;rfl;rfl;clear hS;intro g w' hS|(with_reducible apply b8 hS a7 (i:=0));(iterate 8 rfl);exact (rfl:_=[_,_]);clear hS;intro w' hS;simp only [List.set] at hS|(with_reducible apply q7);rfl;rfl;rfl;all_goals (intro hb hp;try (exfalso;omega))|(with_reducible apply b9);rfl;all_goals (intro hb hp;try (exfalso;omega))|(with_reducible apply a9);rfl;(apply Ld.sl a7;rfl;exact hS.rowC0 5 rfl hrowN rfl);rfl|(with_reducible apply d7 hS);rfl;rfl;rfl;refine ⟨_,hal _ (hSm _ _ hS (by repeat (first|exact xe6 _ hmem|apply xc6))),?_⟩;clear hS;intro w' hS)
     (refine k7 rfl ?_)
     exact ⟨rfl,hS.sub (xj1 _)⟩
    |true=>
     rw [ha] at hal hgood
     repeat' (first|(with_reducible apply a8 a7);rfl;rfl;rfl|(with_reducible apply a9);rfl;(first|apply Ld.sc a7;rfl;(first|exact hS.blkC 0 rfl rfl|exact hS.blkC 1 rfl rfl)|apply Ld.sl a7;rfl;exact hS.blkC 3 rfl rfl|apply Ld.st a7;rfl;exact hS.roR (by assumption) (by assumption);rfl);rfl|(with_reducible apply l7 a7);rfl;rfl;rfl;rfl;omega;rfl|(with_reducible apply j4);rfl;rfl;omega;omega;rfl|refine yDn (by with_reducible constructor) ?_|((with_reducible apply k8);(iterate 4 rfl);first|rfl|assumption)|(with_reducible apply x8);(iterate 4 rfl);assumption;rfl|(with_reducible apply j3);rfl;assumption;rfl;rfl|(with_reducible apply f5);rfl;(first|rfl|assumption);rfl;rfl|(with_reducible apply f8);rfl;rfl|(with_reducible apply d8 hS a7);rfl;rfl;rfl;clear hS;intro g w' hS|(with_reducible apply b8 hS a7 (i:=0));(iterate 8 rfl);exact (rfl:_=[_,_]);clear hS;intro w' hS;simp only [List.set] at hS|(with_reducible apply q7);rfl;rfl;rfl;all_goals (intro hb hp;try (exfalso;omega))|(with_reducible apply b9);rfl;all_goals (intro hb hp;try (exfalso;omega))|(with_reducible apply a9);rfl;(apply Ld.sl a7;rfl;exact hS.rowC0 5 rfl hrowN rfl);rfl|(with_reducible apply d7 hS);rfl;rfl;rfl;refine ⟨_,hal _ (hSm _ _ hS (by repeat (first|exact xe6 _ hmem|apply xc6))),?_⟩;clear hS;intro w' hS)
     exact e9 (i + 1) (by exact Fr.sub_of rfl) ⟨by show i + 1<=ns;omega,hgood rfl⟩ hS.drop (by show ns - (i + 1) < ns - i;omega)
def a29 (l:List (Sh×Value)) (p:Int):Option (Sh×Value):=l.find? fun x=>decide (x.1.page=p)
def a48 (o:Option (Sh×Value)):Value:=match o with
 |some x=>.tuple #[.agg (shC x.1 x.2).toArray,.bool true]
 |none=>.tuple #[.agg #[.int .i64 0,.string ⟨#[]⟩,.slice none 0 0],.bool false]
theorem b1R {α:Type} {p:α->Bool} {l:List α} {i:Nat} {x:α} (h:(l.take i).all (fun y=>!p y)=true) (hx:l[i]?=some x) (hp:p x=true):l.find? p=some x:=by
 rw [xn5];obtain ⟨h1,rfl⟩:=xa7.1 hx;refine ⟨hp,i,h1,rfl,fun j hj=>?_⟩;have:=xc7.1 h l[j] (xd9.2 ⟨j,by rw [xf4];simp [hj]⟩);exact this
theorem b0m {α:Type} {p:α->Bool} {l:List α} (h:l.all (fun y=>!p y)=true):l.find? p=none:=by
 rw [xn4];intro x hx hp;have:=xc7.1 h x hx;rw [hp] at this
 cases this
theorem a6T {l:List (Sh×Value)} {w:World} {vs:Value} (hL:ShsV w l vs) (p:Int):Fn Tryz.prog 120 [vs,.int .i64 p] w (RBf (a48 (a29 l p)) w):=by
 have bnd:=hL.sl.bound;have hsl:=hL.sl;obtain ⟨pv,c,rfl⟩:=hL.sl.len;refine yEn Tryz.func120 Tryz.ntmps120 (by kernel_rfl) (by kernel_rfl) rfl rfl ?_;have hS:=St.start w
 repeat' (first|(with_reducible apply a8 a7);rfl;rfl;rfl|refine yDn (by with_reducible constructor) ?_|(with_reducible apply d8 hS a7);rfl;rfl;rfl;clear hS;intro g w' hS)
 refine k9 (X:=Nat) (fun x=>[(6,.int .i64 (x:Nat))]) [0,1,4] rfl (fun _=>[]) (fun x=>x<=l.length/\(l.take x).all (fun y=>!decide (y.1.page=p))=true) (fun x=>l.length - x) 0 (by exact Fr.sub_of rfl) ⟨xg4 _,rfl⟩ hS ?_;clear hS;rintro i w1 ⟨hi,hall⟩ hS;dsimp only [List.cons_append,List.nil_append] at hi hall hS |-;by_cases hlt:i < l.length;rotate_left
 ·obtain rfl:i=l.length:=by omega
  rw [xg6] at hall;unfold a29;rw [b0m hall];unfold a48
  repeat' (first|(with_reducible apply a8 a7);rfl;rfl;rfl|(with_reducible apply n7 a7);rfl;rfl;exact (rfl:_=some [_,_,_]);rfl|refine yDn (by with_reducible constructor) ?_|(with_reducible apply b8 hS a7 (i:=0));(iterate 8 rfl);exact (rfl:_=[_,_,_]);clear hS;intro w' hS;simp only [List.set] at hS|(with_reducible apply b9);rfl;all_goals (intro hb hp;try (exfalso;omega)))
  (apply a26;repeat (first|exact ResL.nil|apply ResL.tmp;rfl|apply ResL.cell;rfl;(apply Ld.st a7;rfl;exact hS.blkR 0 rfl;rfl)))
  exact ⟨rfl,hS.sub (xj1 _)⟩
 obtain ⟨x,hx⟩:=j0 (l:=l) (i:=i) (by omega);have hrow:=c9 (f:=fun p:Sh×Value=>shC p.1 p.2) hx;obtain ⟨b,off,rfl,hro⟩:=hsl.at_ (i:=i) hlt;have hfx:=hL.fx x (xd0 hx);by_cases hp:x.1.page=p
 ·have hf:a29 l p=some x:=b1R hall hx (xj2 hp);rw [hf];unfold a48;have hd:decide (x.1.page=p)=true:=xj2 hp;obtain ⟨S,u⟩:=x;dsimp only [shC] at hrow hfx hd |-;obtain ⟨pu,cu,rfl⟩:=hfx.len
  repeat' (first|(with_reducible apply a8 a7);rfl;rfl;rfl|(with_reducible apply a9);rfl;(first|apply Ld.sc a7;rfl;exact hS.roC0 (by assumption) (by assumption) rfl|apply Ld.st a7;rfl;exact hS.roR (by assumption) (by assumption);rfl);rfl|(with_reducible apply l7 a7);rfl;rfl;rfl;rfl;omega;rfl|refine yDn (by with_reducible constructor) ?_|(with_reducible apply f6);rfl;assumption|(with_reducible apply b8 hS a7 (i:=0));(iterate 8 rfl);exact (rfl:_=[_,_,_]);clear hS;intro w' hS;simp only [List.set] at hS|(with_reducible apply b9);rfl;all_goals (intro hb hp;try (exfalso;omega)))
  (apply a26;repeat (first|exact ResL.nil|apply ResL.tmp;rfl|apply ResL.cell;rfl;(apply Ld.st a7;rfl;exact hS.blkR 0 rfl;rfl)))
  exact ⟨rfl,hS.sub (xj1 _)⟩
 ·have hd:decide (x.1.page=p)=false:=xj0 hp;have hstep:=a0B hall hx (by rw [hd];rfl);obtain ⟨S,u⟩:=x;dsimp only [shC] at hrow hfx hd;obtain ⟨pu,cu,rfl⟩:=hfx.len
  repeat' (first|(with_reducible apply a8 a7);rfl;rfl;rfl|(with_reducible apply a9);rfl;(apply Ld.sc a7;rfl;exact hS.roC0 (by assumption) (by assumption) rfl);rfl|(with_reducible apply l7 a7);rfl;rfl;rfl;rfl;omega;rfl|(with_reducible apply j4);rfl;rfl;omega;omega;rfl|refine yDn (by with_reducible constructor) ?_|(with_reducible apply f8);rfl;assumption|(with_reducible apply b9);rfl;all_goals (intro hb hp;try (exfalso;omega)))
  exact e9 (i + 1) (by exact Fr.sub_of rfl) ⟨by show i + 1<=l.length;omega,hstep⟩ hS (by show l.length - (i + 1) < l.length - i;omega)
theorem a23 {w:World} {x:Sp} (hx:SpV w x) (p:Int):Fn Tryz.prog 78 [.agg (spC x).toArray,.int .i64 p] w (RBf (.int .i64 (a1F (fun e=>decide (e.page=p)) x.s.entries)) w):=by
 have bnd:=hx.en.bound;have hsl:=hx.en;have har:=hx.ar;obtain ⟨s,va,ve⟩:=x;obtain ⟨live,A,es⟩:=s;dsimp only at hsl bnd har |-;obtain ⟨pa,ca,rfl⟩:=har.len;obtain ⟨pv,c,rfl⟩:=hsl.len;unfold spC;dsimp only;refine yEn Tryz.func78 Tryz.ntmps78 (by kernel_rfl) (by kernel_rfl) rfl rfl ?_;have hS:=St.start w
 repeat' (first|(with_reducible apply a8 a7);rfl;rfl;rfl|refine yDn (by with_reducible constructor) ?_|(with_reducible apply l8 hS);rfl;rfl;rfl;clear hS;intro g w' hS)
 refine k9 (X:=Nat) (fun x=>[(5,.int .i64 (x:Nat))]) [1,2] rfl (fun _=>[]) (fun x=>x<=es.length/\(es.take x).all (fun y=>!decide (y.page=p))=true) (fun x=>es.length - x) 0 (by exact Fr.sub_of rfl) ⟨xg4 _,rfl⟩ hS ?_;clear hS;rintro i w1 ⟨hi,hall⟩ hS;dsimp only [List.cons_append,List.nil_append] at hi hall hS |-;by_cases hlt:i < es.length;rotate_left
 ·rw [a2k hall (by omega)]
  repeat' (first|(with_reducible apply a8 a7);rfl;rfl;rfl|(with_reducible apply a9);rfl;(apply Ld.sl a7;rfl;exact hS.blkC 0 rfl rfl);rfl|refine yDn (by with_reducible constructor) ?_|(with_reducible apply b9);rfl;all_goals (intro hb hp;try (exfalso;omega)))
  (refine k7 rfl ?_)
  exact ⟨rfl,hS.sub (xj1 _)⟩
 obtain ⟨e,he⟩:=j0 (l:=es) (i:=i) (by omega);have hrow:=c9 (f:=enC) he;obtain ⟨b,off,rfl,hro⟩:=hsl.at_ (i:=i) hlt;unfold enC at hrow;by_cases hp:e.page=p
 ·rw [a2Y hall he (xj2 hp)];have hd:decide (e.page=p)=true:=xj2 hp
  repeat' (first|(with_reducible apply a8 a7);rfl;rfl;rfl|(with_reducible apply a9);rfl;(first|apply Ld.sc a7;rfl;exact hS.roC0 (by assumption) (by assumption) rfl|apply Ld.sl a7;rfl;exact hS.blkC 0 rfl rfl);rfl|(with_reducible apply l7 a7);rfl;rfl;rfl;rfl;omega;rfl|refine yDn (by with_reducible constructor) ?_|(with_reducible apply f6);rfl;assumption|(with_reducible apply b9);rfl;all_goals (intro hb hp;try (exfalso;omega)))
  (refine k7 rfl ?_)
  exact ⟨rfl,hS.sub (xj1 _)⟩
 ·have hd:decide (e.page=p)=false:=xj0 hp;have hstep:=a0B hall he (by rw [hd];rfl)
  repeat' (first|(with_reducible apply a8 a7);rfl;rfl;rfl|(with_reducible apply a9);rfl;(first|apply Ld.sc a7;rfl;exact hS.roC0 (by assumption) (by assumption) rfl|apply Ld.sl a7;rfl;exact hS.blkC 0 rfl rfl);rfl|(with_reducible apply l7 a7);rfl;rfl;rfl;rfl;omega;rfl|(with_reducible apply j4);rfl;rfl;omega;omega;rfl|refine yDn (by with_reducible constructor) ?_|(with_reducible apply f8);rfl;assumption|(with_reducible apply b9);rfl;all_goals (intro hb hp;try (exfalso;omega)))
  exact e9 (i + 1) (by exact Fr.sub_of rfl) ⟨by show i + 1<=es.length;omega,hstep⟩ hS (by show es.length - (i + 1) < es.length - i;omega)
theorem b0S {l:List Sc} {i:Nat} {s:Sc} (h:l[i]?=some s):a0n (l.take (i + 1))=a0n (l.take i) + y9 s.areas:=by
 rw [r8 h,a6o]
theorem b5x {w:World} {k:KV} (hK:KerV w k) (hc:∀ p ∈ k.sp,l5 p.s.areas=0) (h4:k.sp.length<=4):Fn Tryz.prog 70 [.agg (kvC k).toArray] w (RBf (.int .i64 (a0n (k.sp.map (·.s)))) w):=by
 obtain ⟨sh,fr,sl,sp,hand,vsh,vfr,vsl,vsp⟩:=k;obtain ⟨k1,k2,k3,k4,k5⟩:=hK;dsimp only at k1 k2 k3 k4 k5 hc h4 |-;obtain ⟨p1,c1,rfl⟩:=k1.sl.len;obtain ⟨p2,c2,rfl⟩:=k2.len;obtain ⟨p3,c3,rfl⟩:=k3.len;obtain ⟨p4,c4,rfl⟩:=k4.len;unfold kvC;dsimp only;refine yEn Tryz.func70 Tryz.ntmps70 (by kernel_rfl) (by kernel_rfl) rfl rfl ?_;have hS:=St.start w
 repeat' (first|(with_reducible apply a8 a7);rfl;rfl;rfl|refine yDn (by with_reducible constructor) ?_|(with_reducible apply l8 hS);rfl;rfl;rfl;clear hS;intro g w' hS)
 refine k9 (X:=Nat×Int) (fun x=>[(4,.int .i64 (x.1:Nat)),(3,.int .i64 x.2)]) [1] rfl (fun _=>[]) (fun x=>x.1<=sp.length/\x.2=a0n ((sp.map (·.s)).take x.1)/\0<=x.2/\x.2<=70000 * (x.1:Int)) (fun x=>sp.length - x.1) (0,0) (by exact Fr.sub_of rfl) ⟨xg4 _,rfl,xi7 _,xi7 _⟩ hS ?_;clear hS;rintro ⟨i,room⟩ w1 ⟨hi,hroom,hr0,hr1⟩ hS;dsimp only [List.cons_append,List.nil_append] at hi hroom hr0 hr1 hS |-;by_cases hlt:i < sp.length;rotate_left
 ·obtain rfl:i=sp.length:=by omega
  rw [xa0 (by rw [xi9];omega)] at hroom
  repeat' (first|(with_reducible apply a8 a7);rfl;rfl;rfl|(with_reducible apply a9);rfl;(apply Ld.sl a7;rfl;exact hS.blkC 0 rfl rfl);rfl|refine yDn (by with_reducible constructor) ?_|(with_reducible apply b9);rfl;all_goals (intro hb hp;try (exfalso;omega)))
  (refine k7 rfl ?_)
  exact ⟨by rw [hroom],hS.sub (xj1 _)⟩
 obtain ⟨x,hx⟩:=j0 (l:=sp) (i:=i) (by omega);have hxs:(sp.map (·.s))[i]?=some x.s:=c9 (f:=fun p:Sp=>p.s) hx;have hrow:=c9 (f:=spC) hx;obtain ⟨b,off,rfl,hro⟩:=k4.at_ (i:=i) hlt;have hxv:=k5 x (xd0 hx);have hcx:=hc x (xd0 hx);have hsum:=a8z (a0X (x7.1 hcx).2) x.s.areas.length;have hAl:=(x7.1 hcx).1;rw [xg6] at hsum;have htk:=b0S hxs;have har:=hxv.ar;obtain ⟨s,va,ve⟩:=x;dsimp only at har hcx hsum hAl htk;unfold spC at hrow;dsimp only at hrow;obtain ⟨pa,ca,rfl⟩:=har.len
 repeat' (first|(with_reducible apply a8 a7);rfl;rfl;rfl|(with_reducible apply a9);rfl;(apply Ld.sl a7;rfl;(first|exact hS.blkC 0 rfl rfl|exact hS.roC (by assumption) (by assumption) rfl));rfl|(with_reducible apply l7 a7);rfl;rfl;rfl;rfl;omega;rfl|(with_reducible apply j4);rfl;rfl;omega;omega;rfl|refine yDn (by with_reducible constructor) ?_|(with_reducible apply b9);rfl;all_goals (intro hb hp;try (exfalso;omega))|(with_reducible apply d7 hS);rfl;rfl;rfl;refine ⟨_,b3i (har.now hS) hcx,?_⟩;clear hS;intro w' hS)
 exact e9 (i + 1,room + y9 s.areas) (by exact Fr.sub_of rfl) ⟨by show i + 1<=sp.length;omega,by rw [htk,<- hroom],by show 0<=room + y9 s.areas;omega,by show room + y9 s.areas<=70000 * ((i + 1:Nat):Int);omega⟩ hS (by show sp.length - (i + 1) < sp.length - i;omega)
theorem a5O (l:List (Sh×Value)) (p:Int):a7t (shs l) p=(a29 l p).map (·.1):=by
 unfold a7t a29 shs;rw [List.find?_map];rfl
theorem a86 {w:World} {k:KV} (hK:KerV w k) {a:Ar} {p:Int} {x:List UInt8} (hr:a0C 0 (shs k.sh)=true) (hx:a0I (shs k.sh) a.z p=some x):Fn Tryz.prog 72 [.agg (kvC k).toArray,.agg (arC a).toArray,.int .i64 p] w (RBf (.string ⟨x.toArray⟩) w):=by
 obtain ⟨sh,fr,sl,sp,hand,vsh,vfr,vsl,vsp⟩:=k;obtain ⟨k1,k2,k3,k4,k5⟩:=hK;dsimp only at k1 k2 k3 k4 k5 hr hx |-;have hso:=fun w1 (h:ShsV w1 sh vsh)=>a6T h p;obtain ⟨p1,c1,rfl⟩:=k1.sl.len;obtain ⟨p2,c2,rfl⟩:=k2.len;obtain ⟨p3,c3,rfl⟩:=k3.len;obtain ⟨p4,c4,rfl⟩:=k4.len;unfold kvC arC;dsimp only;unfold a0I at hx
 cases hz:a.z with
 |true=>
  rw [hz,xf0 rfl] at hx
  cases hx
  refine yEn Tryz.func72 Tryz.ntmps72 (by kernel_rfl) (by kernel_rfl) rfl rfl ?_;have hS:=St.start w
  repeat' (first|(with_reducible apply a8 a7);rfl;rfl;rfl|(with_reducible apply a9);rfl;(apply Ld.sc a7;rfl;exact hS.blkC 0 rfl rfl);rfl|refine yDn (by with_reducible constructor) ?_|(with_reducible apply f6);rfl;rfl|(with_reducible apply l8 hS);rfl;rfl;rfl;clear hS;intro g w' hS|(with_reducible apply b4w hS a7 (m:=16));(iterate 5 rfl);omega;omega;rfl;rfl;intro gz w' hS';clear hS;have hS:=hS';clear hS')
  ((with_reducible apply a09);rfl;exact b06 hS a7 (i:=0) (l:=List.replicate 16 0) rfl rfl rfl rfl (by rw [xi0]) (by unfold bR;rw [xn7];rfl);rintro _ _ ⟨rfl,rfl⟩)
  repeat' (first|(with_reducible apply a8 a7);rfl;rfl;rfl|refine yDn (by with_reducible constructor) ?_)
  (refine k7 rfl ?_)
  exact ⟨rfl,hS.sub (xj1 _)⟩
 |false=>
  rw [hz,xf1 (by simp),a5O] at hx;obtain ⟨y,hy,rfl⟩:∃ y,a29 sh p=some y/\a5A y.1=x:=by
   cases hq:a29 sh p with
   |none=>rw [hq] at hx;cases hx
   |some y=>rw [hq] at hx;exact ⟨y,rfl,by simpa using hx⟩
  have hm:=xi1 hy;have hrt:=((a2l hr).1 y.1 (xm5.2 ⟨y,hm,rfl⟩)).1;have hfx:=k1.fx y hm;obtain ⟨S,u⟩:=y;dsimp only at hrt hfx |-;rw [hy] at hso;unfold a48 at hso;dsimp only [shC] at hso;obtain ⟨pu,cu,rfl⟩:=hfx.len;have hfl:=fun w1 (h:ShV w1 S (.slice pu S.fixes.length cu))=>b15 h hrt;unfold shA shC at hfl;refine yEn Tryz.func72 Tryz.ntmps72 (by kernel_rfl) (by kernel_rfl) rfl rfl ?_;have hS:=St.start w
  repeat' (first|(with_reducible apply a8 a7);rfl;rfl;rfl|(with_reducible apply a9);rfl;(first|apply Ld.sc a7;rfl;exact hS.blkC 0 rfl rfl|apply Ld.sl a7;rfl;exact hS.blkC 1 rfl rfl|apply Ld.st a7;rfl;exact hS.blkR 0 rfl;rfl);rfl|refine yDn (by with_reducible constructor) ?_|(with_reducible apply f8);rfl;rfl|(with_reducible apply l8 hS);rfl;rfl;rfl;clear hS;intro g w' hS|(with_reducible apply d8 hS a7);rfl;rfl;rfl;clear hS;intro g w' hS|(with_reducible apply b8 hS a7 (i:=0));(iterate 8 rfl);exact (rfl:_=[_,_,_]);clear hS;intro w' hS;simp only [List.set] at hS|(with_reducible apply d7 hS);rfl;rfl;rfl;refine ⟨_,hso _ (k1.now hS),?_⟩;clear hS;intro w' hS|(with_reducible apply d7 hS);rfl;rfl;rfl;refine ⟨_,hfl _ (hfx.now hS),?_⟩;clear hS;intro w' hS)
  (refine k7 rfl ?_)
  exact ⟨rfl,hS.sub (xj1 _)⟩
abbrev b1T:=Int×Int×Bool×Ar
def a2K (st:b1T) (m:Nm):b1T:=(st.1 + 1,m.1.page,st.2.2.1 && (decide (st.1=0)||(decide (m.1.page=st.2.1) && decide (m.2.z=st.2.2.2.z))),m.2)
def a0W (l:List Nm):b1T:=l.foldl a2K (0,0,true,a2L)
def nmV (l:List Nm):Value:=.tuple #[.int .i64 (a0W l).1,.int .i64 (a0W l).2.1,.bool (a0W l).2.2.1,.agg (arC (a0W l).2.2.2).toArray]
theorem a9F (l:List Nm) (m:Nm):a0W (l++[m])=a2K (a0W l) m:=by unfold a0W;rw [List.foldl_append];rfl
theorem a88 (L:List Sc) (s:Sc) (kind at_:Int):j6 (L++[s]) kind at_=j6 L kind at_++((s.entries.filter fun e=>decide (e.kind=kind/\e.at_=at_)).map (a0Q s)):=by
 unfold j6;rw [List.flatMap_append,xl9,xm0,List.append_nil]
def a27 (s:Sc) (kind at_:Int) (l:List En):List Nm:=(l.filter fun e=>decide (e.kind=kind/\e.at_=at_)).map (a0Q s)
theorem a99 {s:Sc} {kind at_:Int} {l:List En} {i:Nat} {e:En} (h:l[i]?=some e) (hk:e.kind=kind/\e.at_=at_):a27 s kind at_ (l.take (i + 1))=a27 s kind at_ (l.take i)++[a0Q s e]:=by
 unfold a27;rw [r8 h,xk5,xk6 (by simpa using hk),xk7,xl5];rfl
theorem a9n {s:Sc} {kind at_:Int} {l:List En} {i:Nat} {e:En} (h:l[i]?=some e) (hk:¬(e.kind=kind/\e.at_=at_)):a27 s kind at_ (l.take (i + 1))=a27 s kind at_ (l.take i):=by
 unfold a27;rw [r8 h,xk5,xk8 (by simpa using hk),xk7,List.append_nil]
theorem b2n {w:World} {k:KV} (hK:KerV w k) (hc:∀ p ∈ k.sp,l5 p.s.areas=0) (h4:k.sp.length<=4) (hlen:∀ p ∈ k.sp,p.s.entries.length<=255) (kind at_:Int):Fn Tryz.prog 71 [.agg (kvC k).toArray,.int .i64 kind,.int .i64 at_] w (RBf (nmV (j6 (k.sp.map (·.s)) kind at_)) w):=by
 obtain ⟨sh,fr,sl,sp,hand,vsh,vfr,vsl,vsp⟩:=k;obtain ⟨k1,k2,k3,k4,k5⟩:=hK;dsimp only at k1 k2 k3 k4 k5 hc h4 hlen |-;obtain ⟨p1,c1,rfl⟩:=k1.sl.len;obtain ⟨p2,c2,rfl⟩:=k2.len;obtain ⟨p3,c3,rfl⟩:=k3.len;obtain ⟨p4,c4,rfl⟩:=k4.len;unfold kvC;dsimp only;refine yEn Tryz.func71 Tryz.ntmps71 (by kernel_rfl) (by kernel_rfl) rfl rfl ?_;have hS:=St.start w
 repeat' (first|(with_reducible apply a8 a7);rfl;rfl;rfl|refine yDn (by with_reducible constructor) ?_|(with_reducible apply l8 hS);rfl;rfl;rfl;clear hS;intro g w' hS|(with_reducible apply d8 hS a7);rfl;rfl;rfl;clear hS;intro g w' hS)
 rename Nat=>g13
 replace hS:St nF w w' (.blk g13 [.int .i64 0,.int .i64 0,.int .i64 0,.bool false]::_):=hS;refine k9 (X:=Nat×b1T) (fun x=>[(14,.int .i64 (x.1:Nat)),(10,.int .i64 x.2.1),(11,.int .i64 x.2.2.1),(12,.bool x.2.2.2.1)]) [1,2,3,9,13] rfl (fun x=>[.blk g13 [.int .i64 x.2.2.2.2.pg,.int .i64 x.2.2.2.2.n,.int .i64 x.2.2.2.2.prot,.bool x.2.2.2.2.z]]) (fun x=>x.1<=sp.length/\x.2=a0W (j6 ((sp.map (·.s)).take x.1) kind at_)/\0<=x.2.1/\x.2.1<=255 * (x.1:Int)) (fun x=>sp.length - x.1) (0,0,0,true,a2L) (by exact Fr.sub_of rfl) ⟨xg4 _,rfl,xi7 _,xi7 _⟩ hS ?_;clear hS;rintro ⟨i,n,page,same,ar⟩ w1 ⟨hi,hst,hn0,hn1⟩ hS;dsimp only [List.cons_append,List.nil_append] at hi hst hn0 hn1 hS |-;by_cases hlt:i < sp.length;rotate_left
 ·obtain rfl:i=sp.length:=by omega
  rw [xa0 (by rw [xi9];omega)] at hst;unfold nmV;rw [<- hst]
  repeat' (first|(with_reducible apply a8 a7);rfl;rfl;rfl|(with_reducible apply a9);rfl;(apply Ld.sl a7;rfl;exact hS.blkC 2 rfl rfl);rfl|refine yDn (by with_reducible constructor) ?_|(with_reducible apply b9);rfl;all_goals (intro hb hp;try (exfalso;omega)))
  (focus ((with_reducible apply a0p _ _ _ 7 (by kernel_rfl) (by kernel_rfl) hS);(simp only [xl2,xl3,xl6,xl7]);(repeat' ((first|(with_reducible apply i7 a7);rfl;rfl|(with_reducible apply i9);rfl;(intro wd hd;replace hd:St _ _ wd _:=hd;(apply Ld.st a7;rfl;exact hd.blkR 0 rfl;rfl));rfl)));all_goals ((with_reducible apply j7);intro w' hS';clear hS;have hS:=hS';clear hS')))
  repeat' (first|refine yDn (by with_reducible constructor) ?_|(with_reducible apply b8 hS a7 (i:=1));(iterate 8 rfl);exact (rfl:_=[_,_,_,_]);clear hS;intro w' hS;simp only [List.set] at hS)
  (apply b68);(repeat (first|exact ResL.nil|apply ResL.tmp;rfl|apply ResL.cell;rfl;(apply Ld.st a7;rfl;exact hS.blkR 1 rfl;rfl)))
  exact ⟨rfl,hS.sub (xj1 _)⟩
 obtain ⟨x,hx⟩:=j0 (l:=sp) (i:=i) (by omega);have hxs:(sp.map (·.s))[i]?=some x.s:=c9 (f:=fun p:Sp=>p.s) hx;have hrow:=c9 (f:=spC) hx;obtain ⟨b,off,rfl,hro⟩:=k4.at_ (i:=i) hlt;have hxv:=k5 x (xd0 hx);have hcx:=hc x (xd0 hx);have hlx:=hlen x (xd0 hx);have hara:=hxv.ar;have henx:=hxv.en;obtain ⟨s,va,ve⟩:=x;obtain ⟨live,A,es⟩:=s;dsimp only at hara henx hcx hlx;unfold spC at hrow;dsimp only at hrow;obtain ⟨pa,ca,rfl⟩:=hara.len;obtain ⟨pe,ce,rfl⟩:=henx.len;have hok:=a0X (x7.1 hcx).2
 repeat' (first|(with_reducible apply a8 a7);rfl;rfl;rfl|(with_reducible apply a9);rfl;(apply Ld.sl a7;rfl;exact hS.blkC 2 rfl rfl);rfl|refine yDn (by with_reducible constructor) ?_|(with_reducible apply b9);rfl;all_goals (intro hb hp;try (exfalso;omega)))
 refine k9 (X:=Nat×b1T) (fun x=>[(15,.int .i64 (x.1:Nat)),(10,.int .i64 x.2.1),(11,.int .i64 x.2.2.1),(12,.bool x.2.2.2.1)]) [1,2,3,9,13,14] rfl (fun x=>[.blk g13 [.int .i64 x.2.2.2.2.pg,.int .i64 x.2.2.2.2.n,.int .i64 x.2.2.2.2.prot,.bool x.2.2.2.2.z]]) (fun x=>x.1<=es.length/\x.2=a0W (j6 ((sp.map (·.s)).take i) kind at_++a27 ⟨live,A,es⟩ kind at_ (es.take x.1))/\0<=x.2.1/\x.2.1<=255 * (i:Int) + x.1) (fun x=>es.length - x.1) (0,n,page,same,ar) (by exact Fr.sub_of rfl) ⟨xg4 _,by unfold a27;simpa using hst,hn0,by show n<=255 * (i:Int) + ((0:Nat):Int);omega⟩ hS ?_;clear hS hst hn0 hn1;rintro ⟨j,n,page,same,ar⟩ w2 ⟨hj,hst,hn0,hn1⟩ hS;dsimp only [List.cons_append,List.nil_append] at hj hst hn0 hn1 hS |-;by_cases hjl:j < es.length;rotate_left
 ·obtain rfl:j=es.length:=by omega
  repeat' (first|(with_reducible apply a8 a7);rfl;rfl;rfl|(with_reducible apply a9);rfl;(apply Ld.sl a7;rfl;(first|exact hS.blkC 2 rfl rfl|exact hS.roC (by assumption) (by assumption) rfl));rfl|(with_reducible apply l7 a7);rfl;rfl;rfl;rfl;omega;rfl|(with_reducible apply j4);rfl;rfl;omega;omega;rfl|refine yDn (by with_reducible constructor) ?_|(with_reducible apply b9);rfl;all_goals (intro hb hp;try (exfalso;omega)))
  refine e9 (i + 1,n,page,same,ar) (by exact Fr.sub_of rfl) ⟨by show i + 1<=sp.length;omega,?_,hn0,by show n<=255 * ((i + 1:Nat):Int);omega⟩ hS (by show sp.length - (i + 1) < sp.length - i;omega);rw [hst,r8 hxs,a88,xg6];rfl
 obtain ⟨e,he⟩:=j0 (l:=es) (i:=j) (by omega);have hrow2:=c9 (f:=enC) he;obtain ⟨b2,off2,rfl,hro2⟩:=henx.at_ (i:=j) hjl;unfold enC at hrow2;by_cases hk:e.kind=kind/\e.at_=at_;rotate_left
 ·have hmiss:=a9n (s:=⟨live,A,es⟩) he hk
  repeat' (first|(with_reducible apply a8 a7);rfl;rfl;rfl|(with_reducible apply a9);rfl;(first|apply Ld.sc a7;rfl;exact hS.blkC 0 rfl rfl|apply Ld.sl a7;rfl;(first|exact hS.blkC 2 rfl rfl|exact hS.roC (by assumption) (by assumption) rfl)|apply Ld.st a7;rfl;exact hS.roR (by assumption) (by assumption);rfl);rfl|(with_reducible apply l7 a7);rfl;rfl;rfl;rfl;omega;rfl|(with_reducible apply j4);rfl;rfl;omega;omega;rfl|refine yDn (by with_reducible constructor) ?_|(with_reducible apply k8);(iterate 4 rfl);assumption|(with_reducible apply x8);(iterate 4 rfl);assumption;rfl|(with_reducible apply j3);rfl;assumption;rfl;rfl|(with_reducible apply f5);rfl;assumption;rfl;rfl|(with_reducible apply f6);rfl;rfl|(with_reducible apply d8 hS a7);rfl;rfl;rfl;clear hS;intro g w' hS|(with_reducible apply b8 hS a7 (i:=0));(iterate 8 rfl);exact (rfl:_=[_,_,_]);clear hS;intro w' hS;simp only [List.set] at hS|(with_reducible apply a13);rfl;rfl;rfl;all_goals (intro hb hp;try (exfalso;omega))|(with_reducible apply b9);rfl;all_goals (intro hb hp;try (exfalso;omega))|(with_reducible apply a08);rfl;all_goals (intro hb hp;try (exfalso;omega)))
  all_goals exact e9 (j + 1,n,page,same,ar) (by exact Fr.sub_of rfl) ⟨by show j + 1<=es.length;omega,by rw [hmiss];exact hst,hn0,by show n<=255 * (i:Int) + ((j + 1:Nat):Int);omega⟩ hS.drop (by show es.length - (j + 1) < es.length - j;omega)
 have hhit:=a99 (s:=⟨live,A,es⟩) he hk;obtain ⟨hk1,hk2⟩:=hk;have haa:=fun w1 (h:Sl nF w1 4 (.slice pa A.length ca) (A.map arC))=>a3X e.page h hok;unfold a3j at haa;obtain ⟨a,hag⟩:∃ a,(q8 A e.page).getD a2L=a:=⟨_,rfl⟩;have hnm:a0Q ⟨live,A,es⟩ e=(e,a):=by unfold a0Q;rw [hag]
 rw [hag] at haa;unfold arC at haa;have hnew:a0W (j6 ((sp.map (·.s)).take i) kind at_++a27 ⟨live,A,es⟩ kind at_ (es.take (j + 1)))=(n + 1,e.page,same && (decide (n=0)||(decide (e.page=page) && decide (a.z=ar.z))),a):=by
  rw [hhit,<- xg0,a9F,<- hst,hnm];rfl
 repeat' (first|(with_reducible apply a8 a7);rfl;rfl;rfl|(with_reducible apply a9);rfl;(first|apply Ld.sc a7;rfl;exact hS.blkC 0 rfl rfl|apply Ld.sl a7;rfl;(first|exact hS.blkC 2 rfl rfl|exact hS.roC (by assumption) (by assumption) rfl)|apply Ld.st a7;rfl;exact hS.roR (by assumption) (by assumption);rfl);rfl|(with_reducible apply l7 a7);rfl;rfl;rfl;rfl;omega;rfl|refine yDn (by with_reducible constructor) ?_|(with_reducible apply k8);(iterate 4 rfl);assumption|(with_reducible apply f5);rfl;assumption;rfl;rfl|(with_reducible apply d8 hS a7);rfl;rfl;rfl;clear hS;intro g w' hS|(with_reducible apply b8 hS a7 (i:=0));(iterate 8 rfl);exact (rfl:_=[_,_,_]);clear hS;intro w' hS;simp only [List.set] at hS|(with_reducible apply a13);rfl;rfl;rfl;all_goals (intro hb hp;try (exfalso;omega))|(with_reducible apply b9);rfl;all_goals (intro hb hp;try (exfalso;omega))|(with_reducible apply a08);rfl;all_goals (intro hb hp;try (exfalso;omega)))
 refine a8A 15 rfl hS (by kernel_rfl) ?_;intro wh hh;clear hS;have hS:=hh;clear hh
 ((with_reducible apply m8 (nn 0) a7);rfl;kernel_rfl;exact (fun _ _ _ h=>h);exact hS;rfl;rfl)
 ((with_reducible apply z7 (nn 1));rfl;kernel_rfl;exact (fun _ _ _ h=>h);exact hS;rfl;(intro wd hd;replace hd:St _ _ wd _:=hd;(apply Ld.sl a7;rfl;exact hd.blkC 3 rfl rfl));rfl)
 ((with_reducible apply m8 (nn 2) a7);rfl;kernel_rfl;exact (fun _ _ _ h=>h);exact hS;rfl;rfl)
 ((with_reducible apply b6s (nn 3) a7);rfl;kernel_rfl;kernel_rfl;kernel_rfl;exact (fun _ _ _ _ h=>h);exact hS;rfl;rfl;rfl;rfl;omega;rfl)
 ((with_reducible apply m8 (nn 4) a7);rfl;kernel_rfl;exact (fun _ _ _ h=>h);exact hS;rfl;rfl)
 ((with_reducible apply z7 (nn 5));rfl;kernel_rfl;exact (fun _ _ _ h=>h);exact hS;rfl;(intro wd hd;replace hd:St _ _ wd _:=hd;(apply Ld.sl a7;rfl;exact hd.roC (by assumption) (by assumption) rfl));rfl)
 ((with_reducible apply m8 (nn 6) a7);rfl;kernel_rfl;exact (fun _ _ _ h=>h);exact hS;rfl;rfl)
 ((with_reducible apply z7 (nn 7));rfl;kernel_rfl;exact (fun _ _ _ h=>h);exact hS;rfl;(intro wd hd;replace hd:St _ _ wd _:=hd;(apply Ld.sc a7;rfl;exact hd.blkC 0 rfl rfl));rfl)
 refine a2x (i:=8) (j:=12) (by kernel_rfl) ?_ ?_
 ·refine j5 rfl (s9 (first:=[]) (caps:=[]) rfl rfl (haa _ (hara.now hS))) rfl ?_;rintro _ w' ⟨rfl,hS'⟩;replace hS:=hS.transA hS';simp only [v6] at hS;clear hS';refine ⟨hS,?_⟩
  ((with_reducible apply m8 (nn 9) a7);rfl;kernel_rfl;exact (fun _ _ _ h=>h);exact hS;rfl;rfl)
  ((with_reducible apply m8 (nn 10) a7);rfl;kernel_rfl;exact (fun _ _ _ h=>h);exact hS;rfl;rfl)
  ((with_reducible apply m8 (nn 11) a7);rfl;kernel_rfl;exact (fun _ _ _ h=>h);exact hS;rfl;rfl)
  refine l4 (i:=12) (by kernel_rfl) ?_;refine j5 rfl (v9 hS a7 rfl rfl) rfl ?_;rintro _ w' ⟨g,rfl,hS'⟩;clear hS;have hS:=hS';clear hS';refine ⟨hS.drop,?_⟩;refine l4 (i:=13) (by kernel_rfl) ?_;refine p8 (Φ:=fun _ w'=>St _ _ w' _) rfl (m7 hS a7 (i:=0) rfl rfl rfl rfl rfl (xg1 rfl) (xc7.1 rfl)) ?_;intro _ w' hS';simp only [List.set] at hS';clear hS;have hS:=hS';clear hS';refine ⟨hS.drop,?_⟩
  ((with_reducible apply m8 (nn 14) a7);rfl;kernel_rfl;exact (fun _ _ _ h=>h);exact hS.drop;rfl;rfl)
  refine v8 (by kernel_rfl) ?_
  cases same with
  |false=>
   repeat' (first|(with_reducible apply a8 a7);rfl;rfl;rfl|(with_reducible apply a9);rfl;(first|apply Ld.sc a7;rfl;exact hS.blkC 1 rfl rfl|apply Ld.st a7;rfl;exact hS.blkR 0 rfl;rfl);rfl|(with_reducible apply j4);rfl;rfl;omega;omega;rfl|refine yDn (by with_reducible constructor) ?_|(with_reducible apply x8);(iterate 4 rfl);rfl;rfl|(with_reducible apply a1r);(iterate 5 rfl)|(with_reducible apply f5);rfl;rfl;rfl;rfl|(with_reducible apply b8 hS a7 (i:=2));(iterate 8 rfl);exact (rfl:_=[_,_,_,_]);clear hS;intro w' hS;simp only [List.set] at hS)
   exact e9 (j + 1,n + 1,e.page,false,a) (by exact Fr.sub_of rfl) ⟨by show j + 1<=es.length;omega,by rw [hnew];rfl,by show 0<=n + 1;omega,by show n + 1<=255 * (i:Int) + ((j + 1:Nat):Int);omega⟩ hS.drop.drop (by show es.length - (j + 1) < es.length - j;omega)
  |true=>
   by_cases h0:n=0
   ·have hd0:decide (n=0)=true:=xj2 h0
    repeat' (first|(with_reducible apply a8 a7);rfl;rfl;rfl|(with_reducible apply a9);rfl;(first|apply Ld.sc a7;rfl;exact hS.blkC 1 rfl rfl|apply Ld.st a7;rfl;exact hS.blkR 0 rfl;rfl);rfl|(with_reducible apply j4);rfl;rfl;omega;omega;rfl|refine yDn (by with_reducible constructor) ?_|(with_reducible apply k8);(iterate 4 rfl);rfl|(with_reducible apply x8);(iterate 4 rfl);assumption;rfl|(with_reducible apply a1r);(iterate 5 rfl)|(with_reducible apply j3);rfl;(first|rfl|assumption);rfl;rfl|(with_reducible apply b8 hS a7 (i:=2));(iterate 8 rfl);exact (rfl:_=[_,_,_,_]);clear hS;intro w' hS;simp only [List.set] at hS)
    exact e9 (j + 1,n + 1,e.page,true,a) (by exact Fr.sub_of rfl) ⟨by show j + 1<=es.length;omega,by rw [hnew];(rw [hd0];rfl),by show 0<=n + 1;omega,by show n + 1<=255 * (i:Int) + ((j + 1:Nat):Int);omega⟩ hS.drop.drop (by show es.length - (j + 1) < es.length - j;omega)
   ·have hd0:decide (n=0)=false:=xj0 h0;by_cases h1:e.page=page
    ·have hd1:decide (e.page=page)=true:=xj2 h1
     repeat' (first|(with_reducible apply a8 a7);rfl;rfl;rfl|(with_reducible apply a9);rfl;(first|apply Ld.sc a7;rfl;(first|exact hS.blkC 0 rfl rfl|exact hS.blkC 1 rfl rfl|exact hS.blkC 2 rfl rfl)|apply Ld.st a7;rfl;exact hS.blkR 0 rfl;rfl);rfl|(with_reducible apply j4);rfl;rfl;omega;omega;rfl|(with_reducible apply b5X a7);(iterate 4 rfl)|refine yDn (by with_reducible constructor) ?_|((with_reducible apply k8);(iterate 4 rfl);first|rfl|assumption)|(with_reducible apply j3);rfl;(first|rfl|assumption);rfl;rfl|(with_reducible apply f5);rfl;assumption;rfl;rfl|(with_reducible apply b8 hS a7 (i:=2));(iterate 8 rfl);exact (rfl:_=[_,_,_,_]);clear hS;intro w' hS;simp only [List.set] at hS)
     exact e9 (j + 1,n + 1,e.page,(decide (a.z=ar.z)),a) (by exact Fr.sub_of rfl) ⟨by show j + 1<=es.length;omega,by rw [hnew];(rw [hd0,hd1];rfl),by show 0<=n + 1;omega,by show n + 1<=255 * (i:Int) + ((j + 1:Nat):Int);omega⟩ hS.drop.drop (by show es.length - (j + 1) < es.length - j;omega)
    ·have hd1:decide (e.page=page)=false:=xj0 h1
     repeat' (first|(with_reducible apply a8 a7);rfl;rfl;rfl|(with_reducible apply a9);rfl;(first|apply Ld.sc a7;rfl;exact hS.blkC 1 rfl rfl|apply Ld.st a7;rfl;exact hS.blkR 0 rfl;rfl);rfl|(with_reducible apply j4);rfl;rfl;omega;omega;rfl|refine yDn (by with_reducible constructor) ?_|((with_reducible apply k8);(iterate 4 rfl);first|rfl|assumption)|(with_reducible apply x8);(iterate 4 rfl);assumption;rfl|(with_reducible apply j3);rfl;rfl;rfl;rfl|(with_reducible apply f5);rfl;assumption;rfl;rfl|(with_reducible apply b8 hS a7 (i:=2));(iterate 8 rfl);exact (rfl:_=[_,_,_,_]);clear hS;intro w' hS;simp only [List.set] at hS)
     exact e9 (j + 1,n + 1,e.page,false,a) (by exact Fr.sub_of rfl) ⟨by show j + 1<=es.length;omega,by rw [hnew];(rw [hd0,hd1];rfl),by show 0<=n + 1;omega,by show n + 1<=255 * (i:Int) + ((j + 1:Nat):Int);omega⟩ hS.drop.drop (by show es.length - (j + 1) < es.length - j;omega)
 ·refine j5 rfl (v9 hS a7 rfl rfl) rfl ?_;rintro _ w' ⟨g,rfl,hS'⟩;clear hS;have hS:=hS';clear hS';refine ⟨hS.drop,?_⟩;refine l4 (i:=8) (by kernel_rfl) ?_;refine j5 rfl (s9 (first:=[]) (caps:=[]) rfl rfl (haa _ (hara.now hS))) rfl ?_;rintro _ w' ⟨rfl,hS'⟩;replace hS:=hS.transA hS';simp only [v6] at hS;clear hS';refine ⟨hS.drop,?_⟩
  ((with_reducible apply m8 (nn 9) a7);rfl;kernel_rfl;exact (fun _ _ _ h=>h);exact hS.drop;rfl;rfl)
  ((with_reducible apply m8 (nn 10) a7);rfl;kernel_rfl;exact (fun _ _ _ h=>h);exact hS.drop;rfl;rfl)
  ((with_reducible apply m8 (nn 11) a7);rfl;kernel_rfl;exact (fun _ _ _ h=>h);exact hS.drop;rfl;rfl)
  refine l4 (i:=13) (by kernel_rfl) ?_;refine p8 (Φ:=fun _ w'=>St _ _ w' _) rfl (m7 hS a7 (i:=0) rfl rfl rfl rfl rfl (xg1 rfl) (xc7.1 rfl)) ?_;intro _ w' hS';simp only [List.set] at hS';clear hS;have hS:=hS';clear hS';refine ⟨hS.drop,?_⟩
  ((with_reducible apply m8 (nn 14) a7);rfl;kernel_rfl;exact (fun _ _ _ h=>h);exact hS.drop;rfl;rfl)
  refine v8 (by kernel_rfl) ?_
  cases same with
  |false=>
   repeat' (first|(with_reducible apply a8 a7);rfl;rfl;rfl|(with_reducible apply a9);rfl;(first|apply Ld.sc a7;rfl;exact hS.blkC 1 rfl rfl|apply Ld.st a7;rfl;exact hS.blkR 0 rfl;rfl);rfl|(with_reducible apply j4);rfl;rfl;omega;omega;rfl|refine yDn (by with_reducible constructor) ?_|(with_reducible apply x8);(iterate 4 rfl);rfl;rfl|(with_reducible apply a1r);(iterate 5 rfl)|(with_reducible apply f5);rfl;rfl;rfl;rfl|(with_reducible apply b8 hS a7 (i:=2));(iterate 8 rfl);exact (rfl:_=[_,_,_,_]);clear hS;intro w' hS;simp only [List.set] at hS)
   exact e9 (j + 1,n + 1,e.page,false,a) (by exact Fr.sub_of rfl) ⟨by show j + 1<=es.length;omega,by rw [hnew];rfl,by show 0<=n + 1;omega,by show n + 1<=255 * (i:Int) + ((j + 1:Nat):Int);omega⟩ hS.drop.drop (by show es.length - (j + 1) < es.length - j;omega)
  |true=>
   by_cases h0:n=0
   ·have hd0:decide (n=0)=true:=xj2 h0
    repeat' (first|(with_reducible apply a8 a7);rfl;rfl;rfl|(with_reducible apply a9);rfl;(first|apply Ld.sc a7;rfl;exact hS.blkC 1 rfl rfl|apply Ld.st a7;rfl;exact hS.blkR 0 rfl;rfl);rfl|(with_reducible apply j4);rfl;rfl;omega;omega;rfl|refine yDn (by with_reducible constructor) ?_|(with_reducible apply k8);(iterate 4 rfl);rfl|(with_reducible apply x8);(iterate 4 rfl);assumption;rfl|(with_reducible apply a1r);(iterate 5 rfl)|(with_reducible apply j3);rfl;(first|rfl|assumption);rfl;rfl|(with_reducible apply b8 hS a7 (i:=2));(iterate 8 rfl);exact (rfl:_=[_,_,_,_]);clear hS;intro w' hS;simp only [List.set] at hS)
    exact e9 (j + 1,n + 1,e.page,true,a) (by exact Fr.sub_of rfl) ⟨by show j + 1<=es.length;omega,by rw [hnew];(rw [hd0];rfl),by show 0<=n + 1;omega,by show n + 1<=255 * (i:Int) + ((j + 1:Nat):Int);omega⟩ hS.drop.drop (by show es.length - (j + 1) < es.length - j;omega)
   ·have hd0:decide (n=0)=false:=xj0 h0;by_cases h1:e.page=page
    ·have hd1:decide (e.page=page)=true:=xj2 h1
     repeat' (first|(with_reducible apply a8 a7);rfl;rfl;rfl|(with_reducible apply a9);rfl;(first|apply Ld.sc a7;rfl;(first|exact hS.blkC 0 rfl rfl|exact hS.blkC 1 rfl rfl|exact hS.blkC 2 rfl rfl)|apply Ld.st a7;rfl;exact hS.blkR 0 rfl;rfl);rfl|(with_reducible apply j4);rfl;rfl;omega;omega;rfl|(with_reducible apply b5X a7);(iterate 4 rfl)|refine yDn (by with_reducible constructor) ?_|((with_reducible apply k8);(iterate 4 rfl);first|rfl|assumption)|(with_reducible apply j3);rfl;(first|rfl|assumption);rfl;rfl|(with_reducible apply f5);rfl;assumption;rfl;rfl|(with_reducible apply b8 hS a7 (i:=2));(iterate 8 rfl);exact (rfl:_=[_,_,_,_]);clear hS;intro w' hS;simp only [List.set] at hS)
     exact e9 (j + 1,n + 1,e.page,(decide (a.z=ar.z)),a) (by exact Fr.sub_of rfl) ⟨by show j + 1<=es.length;omega,by rw [hnew];(rw [hd0,hd1];rfl),by show 0<=n + 1;omega,by show n + 1<=255 * (i:Int) + ((j + 1:Nat):Int);omega⟩ hS.drop.drop (by show es.length - (j + 1) < es.length - j;omega)
    ·have hd1:decide (e.page=page)=false:=xj0 h1
     repeat' (first|(with_reducible apply a8 a7);rfl;rfl;rfl|(with_reducible apply a9);rfl;(first|apply Ld.sc a7;rfl;exact hS.blkC 1 rfl rfl|apply Ld.st a7;rfl;exact hS.blkR 0 rfl;rfl);rfl|(with_reducible apply j4);rfl;rfl;omega;omega;rfl|refine yDn (by with_reducible constructor) ?_|((with_reducible apply k8);(iterate 4 rfl);first|rfl|assumption)|(with_reducible apply x8);(iterate 4 rfl);assumption;rfl|(with_reducible apply j3);rfl;rfl;rfl;rfl|(with_reducible apply f5);rfl;assumption;rfl;rfl|(with_reducible apply b8 hS a7 (i:=2));(iterate 8 rfl);exact (rfl:_=[_,_,_,_]);clear hS;intro w' hS;simp only [List.set] at hS)
     exact e9 (j + 1,n + 1,e.page,false,a) (by exact Fr.sub_of rfl) ⟨by show j + 1<=es.length;omega,by rw [hnew];(rw [hd0,hd1];rfl),by show 0<=n + 1;omega,by show n + 1<=255 * (i:Int) + ((j + 1:Nat):Int);omega⟩ hS.drop.drop (by show es.length - (j + 1) < es.length - j;omega)
theorem a5o {A:List Ar}:∀ {e:Int},x6 e A->∀ a ∈ A,e<=a.pg/\a.ok:=by
 induction A with
 |nil=>intro e _ a h;cases h
 |cons b A ih=>
  intro e h a ha;obtain ⟨h1,h2,h3⟩:=h;rcases xc4.1 ha with rfl|ha
  ·exact ⟨h2,h1⟩
  ·have:=ih h3 a ha;unfold Ar.ok at h1;unfold Ar.fin at this;exact ⟨by omega,this.2⟩
theorem b2k {A:List Ar}:∀ {e:Int},x6 e A->∀ a ∈ A,∀ p,a.pg<=p->p < a.pg + a.n->q8 A p=some a:=by
 induction A with
 |nil=>intro e _ a h;cases h
 |cons b A ih=>
  intro e h a ha p h1 h2;obtain ⟨g1,g2,g3⟩:=h;unfold q8;rcases xc4.1 ha with rfl|ha
  ·rw [List.find?_cons_of_pos];unfold a0g Ar.fin;exact xj2 ⟨h1,h2⟩
  ·have:=(a5o g3 a ha).1;unfold Ar.fin at this;rw [xq7]
   ·exact ih g3 a ha p h1 h2
   ·unfold a0g Ar.fin;rw [xb3];omega
def a7Y (l:List Sh) (A:List Ar) (p:Int):Bool:=match q8 A p with
 |some a=>a.z||(a7t l p).isSome
 |none=>true
theorem a61 {l:List Sh} {A:List Ar} (hg:a4q A):a1L l A=true ↔ ∀ p:Int,1<=p->p<=255->a7Y l A p=true:=by
 constructor
 ·intro h p h1 h2;unfold a7Y
  cases hf:q8 A p with
  |none=>rfl
  |some a=>
   have hm:=xi1 hf;have hh:=xi3 hf;unfold a0g Ar.fin at hh;rw [xb3] at hh;unfold a1L at h;have h3:=xc7.1 (xc7.1 h a hm) (p - a.pg).toNat (by rw [xi4];omega);rw [show a.pg + (((p - a.pg).toNat:Nat):Int)=p by omega] at h3;unfold a0I at h3;show (a.z||(a7t l p).isSome)=true
   cases hz:a.z with
   |true=>rfl
   |false=>rw [hz,xf1 (by simp)] at h3;simpa using h3
 ·intro h;unfold a1L;rw [xc7];intro a ha;rw [xc7];intro j hj;rw [xi4] at hj;have h1:=a5o hg.1 a ha;have hok:=h1.2;unfold Ar.ok at hok;have hf:=b2k hg.1 a ha (a.pg + (j:Nat)) (by omega) (by omega);have h3:=h (a.pg + (j:Nat)) (by omega) (by omega);unfold a7Y at h3;rw [hf] at h3;unfold a0I
  cases hz:a.z with
  |true=>rfl
  |false=>rw [xf1 (by simp)];simpa [hz] using h3
theorem a6z {A:List Ar} (hc:l5 A=0) {e:En} (h:(q8 A e.page).isSome=true):0 < e.page:=by
 obtain ⟨a,ha⟩:=xi2.1 h;have:=(a1i hc ha).2;omega
end Go.Proofs.YtejnpppejalhfabGreat
