/- Texts that the proof stands on, one behind the other: Ke8, Ke9, Ke10, PlKer3. -/
import Derived.Test.YtejnpppejalhfabGreatPKernelStores6
set_option linter.unusedVariables false
set_option linter.unusedSimpArgs false
namespace Go.Proofs.YtejnpppejalhfabGreat
set_option maxRecDepth 100000
set_option maxHeartbeats 8000000
open Go.RowKit Go.Sort
theorem b3t {F:Nat->Prop} {w0 w:World} {Γ:List Asr} {gl gk gc:Nat} {vsh vF vS vsp:Value} {l:List (Sh×Value)} {NF NS:NL} {sp:List Sp}
  (hS0:St F w0 w (lkS gl (.pointer (some ⟨gk,0,none⟩)) vF vS 0 NF NS++Γ)) (hc:Bs (fps (lkS gl (.pointer (some ⟨gk,0,none⟩)) vF vS 0 NF NS)) w ⟨gc,0,none⟩ (.pointer (some ⟨gl,0,none⟩))) (hk:Bs (fps (lkS gl (.pointer (some ⟨gk,0,none⟩)) vF vS 0 NF NS)) w ⟨gk,0,none⟩ vsh) (hL:ShsF (fps (lkS gl (.pointer (some ⟨gk,0,none⟩)) vF vS 0 NF NS)) w l vsh) (hr:a0V 0 (shs l)=true)
  (hsl:Sl (fps (lkS gl (.pointer (some ⟨gk,0,none⟩)) vF vS 0 NF NS)) w 3 vsp (sp.map spC)) (hp:∀ p ∈ sp,SpF (fps (lkS gl (.pointer (some ⟨gk,0,none⟩)) vF vS 0 NF NS)) w p) (h4:sp.length<=4) (hF:∀ x ∈ NF,x.2=[]) (hSl:∀ x ∈ NS,x.2=[]) :
  Fn Tryz.prog 63 [vsp,.func (.func 64) #[] #[.pointer (some ⟨gc,0,none⟩)]] w (fun v w'=>v=.bool (!(sp.map (·.s)).all (t3 (shs l) NF.length NS.length))/\∃ NF' NS' room',St (fps (lkS gl (.pointer (some ⟨gk,0,none⟩)) vF vS 0 NF NS)) w w' (lkS gl (.pointer (some ⟨gk,0,none⟩)) vF vS room' NF' NS')/\((sp.map (·.s)).all (t3 (shs l) NF.length NS.length)=true->room'=a0g (sp.map (·.s))/\Grown NF NF' 1 (a0I (sp.map (·.s)))/\Grown NS NS' 2 (a0I (sp.map (·.s))))):=by
 have hcall:=b3H hS0 hc hk hL hr hsl hp h4 hF hSl;refine yEn Tryz.func63 Tryz.ntmps63 (by kernel_rfl) (by kernel_rfl) rfl rfl ?_
 repeat' (first|(with_reducible apply a8 a7);rfl;rfl;rfl|refine yDn (by with_reducible constructor) ?_|(with_reducible apply o8);rfl;rfl;rfl;refine ⟨_,hcall,?_⟩;rintro _ w2 ⟨⟨i,rfl,hi⟩,NF',NS',room',h2,hg⟩)
 (refine k8 rfl ?_)
 exact ⟨by rw [hi],NF',NS',room',h2,hg⟩
theorem a6H {A:List Ar} {nf ns:Int} (hc:l7 A=0):∀ {es:List En} {last:Int},a1s A nf ns last es=true->∀ e ∈ es,last < e.page/\e.page<=255
 |[],_,_,_,h=>by simp at h
 |e::es,last,h,x,hx=>by
  replace h:(a13 A nf ns last e && a1s A nf ns e.page es)=true:=h;rw [xb2] at h;have h1:=h.1;unfold a13 at h1;rw [xb2,xb3] at h1;obtain ⟨hs,hl,-⟩:=h1;obtain ⟨a,ha⟩:=xi3.1 hs;have h2:=xi4 ha;have h3:=(a0U hc ha).1;unfold z8 at h2;rw [xb3] at h2;unfold Ar.ok at h3;unfold Ar.fin at h2;rcases xc4.1 hx with rfl|hx
  ·omega
  ·have:=a6H hc h.2 x hx;omega
theorem a8h {l:List Sh} {nf ns:Int} {L:List Sc} (h:L.all (t3 l nf ns)=true):∀ n ∈ a0I L,-1000000<=n.1.page/\n.1.page<=1000000:=by
 intro n hn;unfold a0I at hn;obtain ⟨s,hs,hn⟩:=xj2.1 hn;obtain ⟨e,he,rfl⟩:=xj0.1 hn;have h1:=xc7.1 h s hs;unfold t3 at h1;by_cases hl:s.live=true
 ·rw [xf0 hl,xb2,xb2,xb3] at h1;have:=a6H h1.1 h1.2.2 e he;show -1000000<=e.page/\e.page<=1000000;omega
 ·rw [xf1 hl,xb3] at h1;rw [h1.2] at he
  cases he
theorem a8a {F:Nat->Prop} {w0 w:World} {Γ:List Asr} (h:St F w0 w Γ):∀ n:Nat,St F w0 w (nlR (List.replicate n (.slice none 0 0,[]))++Γ)
 |0=>h
 |n + 1=>(a8a h n).addNil _ _
theorem a9M {w:World} {k:KV} (hK:KerV w k):Fn Tryz.prog 23 [.agg (kvC k).toArray] w (RBf (.int .i64 (a07 k.K)) w):=by
 have b1:=hK.fr.bound;have b2:=hK.sl.bound;have b3:=hK.sp.bound;have b4:=hK.sh.sl.bound;have hK0:=hK;obtain ⟨sh,fr,sl,sp,hand,vsh,vfr,vsl,vsp⟩:=k;obtain ⟨k1,k2,k3,k4,k5⟩:=hK;dsimp only at b1 b2 b3 b4 k1 k2 k3 k4 k5;obtain ⟨p1,c1,rfl⟩:=k1.sl.len;obtain ⟨p2,c2,rfl⟩:=k2.len;obtain ⟨p3,c3,rfl⟩:=k3.len;obtain ⟨p4,c4,rfl⟩:=k4.len;unfold kvC a07 KV.K;dsimp only;by_cases hcnt:a1V ⟨shs sh,fr,sl,sp.map (·.s),hand⟩=true;rotate_left
 ·rw [xf1 hcnt];unfold a1V at hcnt;rw [xb3] at hcnt;dsimp only at hcnt;rw [xj4,a1X] at hcnt;refine yEn Tryz.func23 Tryz.ntmps23 (by kernel_rfl) (by kernel_rfl) rfl rfl ?_;have hS:=St.start w
  repeat' (first|(with_reducible apply a8 a7);rfl;rfl;rfl|(with_reducible apply a9);rfl;(apply Ld.sl a7;rfl;exact hS.blkC 0 rfl rfl);rfl|refine yDn (by with_reducible constructor) ?_|(with_reducible apply k6);(iterate 4 rfl);assumption|(with_reducible apply r9);(iterate 4 rfl);(first|rfl|assumption);rfl|(with_reducible apply f7);rfl;(first|rfl|assumption);rfl;rfl|(with_reducible apply d9);rfl;assumption;rfl;rfl|(with_reducible apply f6);rfl;rfl|(with_reducible apply l9 hS);rfl;rfl;rfl;clear hS;intro g w' hS|(with_reducible apply r5);rfl;rfl;rfl;all_goals (intro hb hp;try (exfalso;omega))|(with_reducible apply b9);rfl;all_goals (intro hb hp;try (exfalso;omega)))
  all_goals (apply t9)
  all_goals (repeat (first|exact ResL.nil|apply ResL.tmp;rfl))
  all_goals (exact ⟨rfl,hS.sub (xj6 _)⟩)
 rw [xf0 hcnt];unfold a1V at hcnt;rw [xb3,xj4,a1X] at hcnt;have hshe:=fun w1 (h:ShsV w1 sh (.slice p1 sh.length c1))=>b0q h;generalize hnf:fr.length=nf at *;generalize hns:sl.length=ns at *;refine yEn Tryz.func23 Tryz.ntmps23 (by kernel_rfl) (by kernel_rfl) rfl rfl ?_;have hS:=St.start w
 repeat' (first|(with_reducible apply a8 a7);rfl;rfl;rfl|(with_reducible apply a9);rfl;(apply Ld.sl a7;rfl;exact hS.blkC 0 rfl rfl);rfl|refine yDn (by with_reducible constructor) ?_|(with_reducible apply k6);(iterate 4 rfl);assumption|(with_reducible apply d9);rfl;assumption;rfl;rfl|(with_reducible apply l9 hS);rfl;rfl;rfl;clear hS;intro g w' hS|(with_reducible apply r5);rfl;rfl;rfl;all_goals (intro hb hp;try (exfalso;omega))|(with_reducible apply b9);rfl;all_goals (intro hb hp;try (exfalso;omega)))
 rename Nat=>gk
 refine a1w (F:=nF) (w0:=w) (X:=Nat×Nat×Nat×Nat) (fun x=>[(1,.pointer (some ⟨gk,0,none⟩)),(3,.pointer (some ⟨x.2.2.2,0,none⟩))]) (fun x=>[.blk x.2.2.2 [.pointer (some ⟨x.2.2.1,0,none⟩)],.blk gk [.slice p1 sh.length c1,.slice p2 nf c2,.slice p3 ns c3,.slice p4 sp.length c4,.int .i64 hand],.blk x.2.2.1 [.pointer (some ⟨gk,0,none⟩),.slice (some ⟨x.1,0,none⟩) nf nf,.slice (some ⟨x.2.1,0,none⟩) ns ns,.int .i64 0],.row 154 1 (.slice (some ⟨x.1,0,none⟩) nf nf) (List.replicate nf [.slice none 0 0]),.row 154 1 (.slice (some ⟨x.2.1,0,none⟩) ns ns) (List.replicate ns [.slice none 0 0])]) (fun _=>True) ?_ ?_
 ·refine b1r 1 12 rfl hS (by kernel_rfl) ?_;intro w1 hS';clear hS;have hS:=hS';clear hS';simp only [xl7,xl8]
  ((with_reducible apply a24 (nn 0) a7);rfl;kernel_rfl;kernel_rfl;kernel_rfl;exact (fun _ _ _ h=>h);exact hS;rfl;rfl)
  ((with_reducible apply a0o (nn 1));rfl;kernel_rfl;exact (fun _ _ _ h=>h);exact hS;rfl;(intro wd hd;replace hd:St _ _ wd _:=hd;(apply Ld.sl a7;rfl;exact hd.blkC 0 rfl rfl));rfl)
  ((with_reducible apply q7 (nn 2) a7);rfl;kernel_rfl;exact (fun _ _ _ h=>h);exact hS;rfl;rfl)
  ((with_reducible apply q7 (nn 4) a7);rfl;kernel_rfl;exact (fun _ _ _ h=>h);exact hS;rfl;rfl)
  ((with_reducible apply a0o (nn 5));rfl;kernel_rfl;exact (fun _ _ _ h=>h);exact hS;rfl;(intro wd hd;replace hd:St _ _ wd _:=hd;(apply Ld.sl a7;rfl;exact hd.blkC 0 rfl rfl));rfl)
  ((with_reducible apply q7 (nn 6) a7);rfl;kernel_rfl;exact (fun _ _ _ h=>h);exact hS;rfl;rfl)
  refine b5B (i:=3) (j:=7) (l:=10) (by kernel_rfl) ?_ ?_ ?_
  ·refine o7 rfl (a18 hS a7 (m:=nf) rfl rfl rfl rfl rfl (by omega) (by omega) rfl) rfl ?_;rintro _ w' ⟨gF,rfl,hS'⟩;clear hS;have hS:=hS';clear hS';refine ⟨(hS.sub (by repeat (first|exact xm3 _|apply xm6))),?_⟩;refine a4D (i:=7) (j:=10) (by kernel_rfl) ?_ ?_
   ·refine o7 rfl (a18 hS a7 (m:=ns) rfl rfl rfl rfl rfl (by omega) (by omega) rfl) rfl ?_;rintro _ w' ⟨gS,rfl,hS'⟩;clear hS;have hS:=hS';clear hS';refine ⟨(hS.sub (by repeat (first|exact xm3 _|apply xm6))),?_⟩
    ((with_reducible apply a1D (nn 8) a7);rfl;kernel_rfl;kernel_rfl;kernel_rfl;exact (fun _ _ _ _ h=>h);exact (hS.sub (by repeat (first|exact xm3 _|apply xm6)));rfl;rfl;exact (rfl:_=some [_,_,_,_]);rfl)
    refine a4D (i:=9) (j:=10) (by kernel_rfl) ?_ ?_
    ·refine o7 rfl (a4b hS rfl) rfl ?_;rintro _ w' ⟨gl,rfl,hS'⟩;replace hS':St _ _ w' (.blk gl [.pointer (some ⟨gk,0,none⟩),.slice (some ⟨gF,0,none⟩) nf nf,.slice (some ⟨gS,0,none⟩) ns ns,.int .i64 0]::_):=hS';clear hS;have hS:=hS';clear hS';refine ⟨(hS.sub (by repeat (first|exact xm3 _|apply xm6))),?_⟩;refine t5 (i:=10) (by kernel_rfl) ?_;refine o7 rfl (r8 hS a7 rfl rfl) rfl ?_;rintro _ w' ⟨gc,rfl,hS'⟩;clear hS;have hS:=hS';clear hS';refine ⟨(hS.sub (by repeat (first|exact xm3 _|apply xm6))),?_⟩;refine t5 (i:=11) (by kernel_rfl) ?_;refine y5 (Φ:=fun _ w'=>St _ _ w' _) rfl (n8 hS a7 (i:=0) rfl rfl rfl rfl rfl (xg2 rfl) (xc7.1 rfl)) ?_;intro _ w' hS';simp only [List.set] at hS';clear hS;have hS:=hS';clear hS';refine ⟨(hS.sub (by repeat (first|exact xm3 _|apply xm6))),?_⟩;refine a0G (by kernel_rfl) ?_;replace hS:=St.reorder [0,4,1,3,2] hS (by decide) rfl;exact p8 (gF,gS,gl,gc) (by exact Fr.sub_of rfl) trivial hS
    ·refine o7 rfl (r8 hS a7 rfl rfl) rfl ?_;rintro _ w' ⟨gc,rfl,hS'⟩;clear hS;have hS:=hS';clear hS';refine ⟨(hS.sub (by repeat (first|exact xm3 _|apply xm6))),?_⟩;refine t5 (i:=9) (by kernel_rfl) ?_;refine o7 rfl (a4b hS rfl) rfl ?_;rintro _ w' ⟨gl,rfl,hS'⟩;replace hS':St _ _ w' (.blk gl [.pointer (some ⟨gk,0,none⟩),.slice (some ⟨gF,0,none⟩) nf nf,.slice (some ⟨gS,0,none⟩) ns ns,.int .i64 0]::_):=hS';clear hS;have hS:=hS';clear hS';refine ⟨(hS.sub (by repeat (first|exact xm3 _|apply xm6))),?_⟩;refine t5 (i:=11) (by kernel_rfl) ?_;refine y5 (Φ:=fun _ w'=>St _ _ w' _) rfl (n8 hS a7 (i:=1) rfl rfl rfl rfl rfl (xg2 rfl) (xc7.1 rfl)) ?_;intro _ w' hS';simp only [List.set] at hS';clear hS;have hS:=hS';clear hS';refine ⟨(hS.sub (by repeat (first|exact xm3 _|apply xm6))),?_⟩;refine a0G (by kernel_rfl) ?_;replace hS:=St.reorder [1,4,0,3,2] hS (by decide) rfl;exact p8 (gF,gS,gl,gc) (by exact Fr.sub_of rfl) trivial hS
   ·refine o7 rfl (r8 hS a7 rfl rfl) rfl ?_;rintro _ w' ⟨gc,rfl,hS'⟩;clear hS;have hS:=hS';clear hS';refine ⟨(hS.sub (by repeat (first|exact xm3 _|apply xm6))),?_⟩;refine t5 (i:=7) (by kernel_rfl) ?_;refine o7 rfl (a18 hS a7 (m:=ns) rfl rfl rfl rfl rfl (by omega) (by omega) rfl) rfl ?_;rintro _ w' ⟨gS,rfl,hS'⟩;clear hS;have hS:=hS';clear hS';refine ⟨(hS.sub (by repeat (first|exact xm3 _|apply xm6))),?_⟩
    ((with_reducible apply a1D (nn 8) a7);rfl;kernel_rfl;kernel_rfl;kernel_rfl;exact (fun _ _ _ _ h=>h);exact (hS.sub (by repeat (first|exact xm3 _|apply xm6)));rfl;rfl;exact (rfl:_=some [_,_,_,_]);rfl)
    refine t5 (i:=9) (by kernel_rfl) ?_;refine o7 rfl (a4b hS rfl) rfl ?_;rintro _ w' ⟨gl,rfl,hS'⟩;replace hS':St _ _ w' (.blk gl [.pointer (some ⟨gk,0,none⟩),.slice (some ⟨gF,0,none⟩) nf nf,.slice (some ⟨gS,0,none⟩) ns ns,.int .i64 0]::_):=hS';clear hS;have hS:=hS';clear hS';refine ⟨(hS.sub (by repeat (first|exact xm3 _|apply xm6))),?_⟩;refine t5 (i:=11) (by kernel_rfl) ?_;refine y5 (Φ:=fun _ w'=>St _ _ w' _) rfl (n8 hS a7 (i:=2) rfl rfl rfl rfl rfl (xg2 rfl) (xc7.1 rfl)) ?_;intro _ w' hS';simp only [List.set] at hS';clear hS;have hS:=hS';clear hS';refine ⟨(hS.sub (by repeat (first|exact xm3 _|apply xm6))),?_⟩;refine a0G (by kernel_rfl) ?_;replace hS:=St.reorder [2,4,0,3,1] hS (by decide) rfl;exact p8 (gF,gS,gl,gc) (by exact Fr.sub_of rfl) trivial hS
  ·refine o7 rfl (a18 hS a7 (m:=ns) rfl rfl rfl rfl rfl (by omega) (by omega) rfl) rfl ?_;rintro _ w' ⟨gS,rfl,hS'⟩;clear hS;have hS:=hS';clear hS';refine ⟨(hS.sub (by repeat (first|exact xm3 _|apply xm6))),?_⟩;refine a4D (i:=3) (j:=10) (by kernel_rfl) ?_ ?_
   ·refine o7 rfl (a18 hS a7 (m:=nf) rfl rfl rfl rfl rfl (by omega) (by omega) rfl) rfl ?_;rintro _ w' ⟨gF,rfl,hS'⟩;clear hS;have hS:=hS';clear hS';refine ⟨(hS.sub (by repeat (first|exact xm3 _|apply xm6))),?_⟩
    ((with_reducible apply a1D (nn 8) a7);rfl;kernel_rfl;kernel_rfl;kernel_rfl;exact (fun _ _ _ _ h=>h);exact (hS.sub (by repeat (first|exact xm3 _|apply xm6)));rfl;rfl;exact (rfl:_=some [_,_,_,_]);rfl)
    refine a4D (i:=9) (j:=10) (by kernel_rfl) ?_ ?_
    ·refine o7 rfl (a4b hS rfl) rfl ?_;rintro _ w' ⟨gl,rfl,hS'⟩;replace hS':St _ _ w' (.blk gl [.pointer (some ⟨gk,0,none⟩),.slice (some ⟨gF,0,none⟩) nf nf,.slice (some ⟨gS,0,none⟩) ns ns,.int .i64 0]::_):=hS';clear hS;have hS:=hS';clear hS';refine ⟨(hS.sub (by repeat (first|exact xm3 _|apply xm6))),?_⟩;refine t5 (i:=10) (by kernel_rfl) ?_;refine o7 rfl (r8 hS a7 rfl rfl) rfl ?_;rintro _ w' ⟨gc,rfl,hS'⟩;clear hS;have hS:=hS';clear hS';refine ⟨(hS.sub (by repeat (first|exact xm3 _|apply xm6))),?_⟩;refine t5 (i:=11) (by kernel_rfl) ?_;refine y5 (Φ:=fun _ w'=>St _ _ w' _) rfl (n8 hS a7 (i:=0) rfl rfl rfl rfl rfl (xg2 rfl) (xc7.1 rfl)) ?_;intro _ w' hS';simp only [List.set] at hS';clear hS;have hS:=hS';clear hS';refine ⟨(hS.sub (by repeat (first|exact xm3 _|apply xm6))),?_⟩;refine a0G (by kernel_rfl) ?_;replace hS:=St.reorder [0,4,1,2,3] hS (by decide) rfl;exact p8 (gF,gS,gl,gc) (by exact Fr.sub_of rfl) trivial hS
    ·refine o7 rfl (r8 hS a7 rfl rfl) rfl ?_;rintro _ w' ⟨gc,rfl,hS'⟩;clear hS;have hS:=hS';clear hS';refine ⟨(hS.sub (by repeat (first|exact xm3 _|apply xm6))),?_⟩;refine t5 (i:=9) (by kernel_rfl) ?_;refine o7 rfl (a4b hS rfl) rfl ?_;rintro _ w' ⟨gl,rfl,hS'⟩;replace hS':St _ _ w' (.blk gl [.pointer (some ⟨gk,0,none⟩),.slice (some ⟨gF,0,none⟩) nf nf,.slice (some ⟨gS,0,none⟩) ns ns,.int .i64 0]::_):=hS';clear hS;have hS:=hS';clear hS';refine ⟨(hS.sub (by repeat (first|exact xm3 _|apply xm6))),?_⟩;refine t5 (i:=11) (by kernel_rfl) ?_;refine y5 (Φ:=fun _ w'=>St _ _ w' _) rfl (n8 hS a7 (i:=1) rfl rfl rfl rfl rfl (xg2 rfl) (xc7.1 rfl)) ?_;intro _ w' hS';simp only [List.set] at hS';clear hS;have hS:=hS';clear hS';refine ⟨(hS.sub (by repeat (first|exact xm3 _|apply xm6))),?_⟩;refine a0G (by kernel_rfl) ?_;replace hS:=St.reorder [1,4,0,2,3] hS (by decide) rfl;exact p8 (gF,gS,gl,gc) (by exact Fr.sub_of rfl) trivial hS
   ·refine o7 rfl (r8 hS a7 rfl rfl) rfl ?_;rintro _ w' ⟨gc,rfl,hS'⟩;clear hS;have hS:=hS';clear hS';refine ⟨(hS.sub (by repeat (first|exact xm3 _|apply xm6))),?_⟩;refine t5 (i:=3) (by kernel_rfl) ?_;refine o7 rfl (a18 hS a7 (m:=nf) rfl rfl rfl rfl rfl (by omega) (by omega) rfl) rfl ?_;rintro _ w' ⟨gF,rfl,hS'⟩;clear hS;have hS:=hS';clear hS';refine ⟨(hS.sub (by repeat (first|exact xm3 _|apply xm6))),?_⟩
    ((with_reducible apply a1D (nn 8) a7);rfl;kernel_rfl;kernel_rfl;kernel_rfl;exact (fun _ _ _ _ h=>h);exact (hS.sub (by repeat (first|exact xm3 _|apply xm6)));rfl;rfl;exact (rfl:_=some [_,_,_,_]);rfl)
    refine t5 (i:=9) (by kernel_rfl) ?_;refine o7 rfl (a4b hS rfl) rfl ?_;rintro _ w' ⟨gl,rfl,hS'⟩;replace hS':St _ _ w' (.blk gl [.pointer (some ⟨gk,0,none⟩),.slice (some ⟨gF,0,none⟩) nf nf,.slice (some ⟨gS,0,none⟩) ns ns,.int .i64 0]::_):=hS';clear hS;have hS:=hS';clear hS';refine ⟨(hS.sub (by repeat (first|exact xm3 _|apply xm6))),?_⟩;refine t5 (i:=11) (by kernel_rfl) ?_;refine y5 (Φ:=fun _ w'=>St _ _ w' _) rfl (n8 hS a7 (i:=2) rfl rfl rfl rfl rfl (xg2 rfl) (xc7.1 rfl)) ?_;intro _ w' hS';simp only [List.set] at hS';clear hS;have hS:=hS';clear hS';refine ⟨(hS.sub (by repeat (first|exact xm3 _|apply xm6))),?_⟩;refine a0G (by kernel_rfl) ?_;replace hS:=St.reorder [2,4,0,1,3] hS (by decide) rfl;exact p8 (gF,gS,gl,gc) (by exact Fr.sub_of rfl) trivial hS
  ·refine o7 rfl (r8 hS a7 rfl rfl) rfl ?_;rintro _ w' ⟨gc,rfl,hS'⟩;clear hS;have hS:=hS';clear hS';refine ⟨(hS.sub (by repeat (first|exact xm3 _|apply xm6))),?_⟩;refine a4D (i:=3) (j:=7) (by kernel_rfl) ?_ ?_
   ·refine o7 rfl (a18 hS a7 (m:=nf) rfl rfl rfl rfl rfl (by omega) (by omega) rfl) rfl ?_;rintro _ w' ⟨gF,rfl,hS'⟩;clear hS;have hS:=hS';clear hS';refine ⟨(hS.sub (by repeat (first|exact xm3 _|apply xm6))),?_⟩;refine t5 (i:=7) (by kernel_rfl) ?_;refine o7 rfl (a18 hS a7 (m:=ns) rfl rfl rfl rfl rfl (by omega) (by omega) rfl) rfl ?_;rintro _ w' ⟨gS,rfl,hS'⟩;clear hS;have hS:=hS';clear hS';refine ⟨(hS.sub (by repeat (first|exact xm3 _|apply xm6))),?_⟩
    ((with_reducible apply a1D (nn 8) a7);rfl;kernel_rfl;kernel_rfl;kernel_rfl;exact (fun _ _ _ _ h=>h);exact (hS.sub (by repeat (first|exact xm3 _|apply xm6)));rfl;rfl;exact (rfl:_=some [_,_,_,_]);rfl)
    refine t5 (i:=9) (by kernel_rfl) ?_;refine o7 rfl (a4b hS rfl) rfl ?_;rintro _ w' ⟨gl,rfl,hS'⟩;replace hS':St _ _ w' (.blk gl [.pointer (some ⟨gk,0,none⟩),.slice (some ⟨gF,0,none⟩) nf nf,.slice (some ⟨gS,0,none⟩) ns ns,.int .i64 0]::_):=hS';clear hS;have hS:=hS';clear hS';refine ⟨(hS.sub (by repeat (first|exact xm3 _|apply xm6))),?_⟩;refine t5 (i:=11) (by kernel_rfl) ?_;refine y5 (Φ:=fun _ w'=>St _ _ w' _) rfl (n8 hS a7 (i:=3) rfl rfl rfl rfl rfl (xg2 rfl) (xc7.1 rfl)) ?_;intro _ w' hS';simp only [List.set] at hS';clear hS;have hS:=hS';clear hS';refine ⟨(hS.sub (by repeat (first|exact xm3 _|apply xm6))),?_⟩;refine a0G (by kernel_rfl) ?_;replace hS:=St.reorder [3,4,0,2,1] hS (by decide) rfl;exact p8 (gF,gS,gl,gc) (by exact Fr.sub_of rfl) trivial hS
   ·refine o7 rfl (a18 hS a7 (m:=ns) rfl rfl rfl rfl rfl (by omega) (by omega) rfl) rfl ?_;rintro _ w' ⟨gS,rfl,hS'⟩;clear hS;have hS:=hS';clear hS';refine ⟨(hS.sub (by repeat (first|exact xm3 _|apply xm6))),?_⟩;refine t5 (i:=3) (by kernel_rfl) ?_;refine o7 rfl (a18 hS a7 (m:=nf) rfl rfl rfl rfl rfl (by omega) (by omega) rfl) rfl ?_;rintro _ w' ⟨gF,rfl,hS'⟩;clear hS;have hS:=hS';clear hS';refine ⟨(hS.sub (by repeat (first|exact xm3 _|apply xm6))),?_⟩
    ((with_reducible apply a1D (nn 8) a7);rfl;kernel_rfl;kernel_rfl;kernel_rfl;exact (fun _ _ _ _ h=>h);exact (hS.sub (by repeat (first|exact xm3 _|apply xm6)));rfl;rfl;exact (rfl:_=some [_,_,_,_]);rfl)
    refine t5 (i:=9) (by kernel_rfl) ?_;refine o7 rfl (a4b hS rfl) rfl ?_;rintro _ w' ⟨gl,rfl,hS'⟩;replace hS':St _ _ w' (.blk gl [.pointer (some ⟨gk,0,none⟩),.slice (some ⟨gF,0,none⟩) nf nf,.slice (some ⟨gS,0,none⟩) ns ns,.int .i64 0]::_):=hS';clear hS;have hS:=hS';clear hS';refine ⟨(hS.sub (by repeat (first|exact xm3 _|apply xm6))),?_⟩;refine t5 (i:=11) (by kernel_rfl) ?_;refine y5 (Φ:=fun _ w'=>St _ _ w' _) rfl (n8 hS a7 (i:=3) rfl rfl rfl rfl rfl (xg2 rfl) (xc7.1 rfl)) ?_;intro _ w' hS';simp only [List.set] at hS';clear hS;have hS:=hS';clear hS';refine ⟨(hS.sub (by repeat (first|exact xm3 _|apply xm6))),?_⟩;refine a0G (by kernel_rfl) ?_;replace hS:=St.reorder [3,4,0,1,2] hS (by decide) rfl;exact p8 (gF,gS,gl,gc) (by exact Fr.sub_of rfl) trivial hS
 clear hS;rintro ⟨gF,gS,gl,gc⟩ w1 - hS;dsimp only at hS |-
 repeat (with_reducible apply a2T)
 have hform:∀ b:Bool,a5K ⟨shs sh,fr,sl,sp.map (·.s),hand⟩=b->(if a5K ⟨shs sh,fr,sl,sp.map (·.s),hand⟩=true then (0:Int) else 1)=if b=true then 0 else 1:=fun b h=>by rw [h]
 have hfe:a5K ⟨shs sh,fr,sl,sp.map (·.s),hand⟩=((a0V 0 (shs sh) && decide (0<=hand/\hand < (nf:Int))) && ((sp.map (·.s)).all (t3 (shs sh) nf ns) && (decide (a0g (sp.map (·.s))<=(ns:Int)) && (a03 ⟨shs sh,fr,sl,sp.map (·.s),hand⟩ && a1O ⟨shs sh,fr,sl,sp.map (·.s),hand⟩)))):=by
  rw [<- hnf,<- hns];rfl
 cases hsh:a0V 0 (shs sh) with
 |false=>
  rw [hsh] at hshe hfe;rw [xq2,xq2] at hfe;rw [hfe]
  (focus ((with_reducible apply d8 _ _ _ (by kernel_rfl) (by kernel_rfl) hS);(repeat' (first|(first|(with_reducible apply i9 a7);rfl;rfl|(with_reducible apply i7);rfl;(intro wd hd;replace hd:St _ _ wd _:=hd;(apply Ld.sl a7;rfl;exact hd.blkC 1 rfl rfl));rfl|(first|(with_reducible apply a2j);(iterate 4 rfl);rfl;rfl|(with_reducible apply t7);rfl;rfl;rfl;rfl))|(with_reducible apply y0);rfl;rfl;rfl;refine ⟨_,fun wd hd=>hshe _ (k1.now hd),?_⟩));all_goals ((with_reducible apply j9);intro w' hS';clear hS;have hS:=hS';clear hS')))
  repeat' (first|(with_reducible apply a8 a7);rfl;rfl;rfl|refine yDn (by with_reducible constructor) ?_|(with_reducible apply f6);rfl;rfl)
  (refine k8 rfl ?_)
  exact ⟨rfl,hS.sub (xj6 _)⟩
 |true=>
  rw [hsh] at hshe hfe;rw [xq1] at hfe;by_cases hh:0<=hand/\hand < (nf:Int);rotate_left
  ·rw [xj5 hh,xq2] at hfe;rw [hfe]
   (focus ((with_reducible apply d8 _ _ _ (by kernel_rfl) (by kernel_rfl) hS);(repeat' (first|(first|(with_reducible apply i9 a7);rfl;rfl|(with_reducible apply i7);rfl;(intro wd hd;replace hd:St _ _ wd _:=hd;(first|apply Ld.sc a7;rfl;exact hd.blkC 1 rfl rfl|apply Ld.sl a7;rfl;exact hd.blkC 1 rfl rfl));rfl|(first|((with_reducible apply a0p);(iterate 4 rfl);first|rfl|assumption)|(with_reducible apply a2j);(iterate 4 rfl);(first|rfl|assumption);rfl|(with_reducible apply a0D);rfl;rfl;rfl;all_goals (intro hb hp;try (exfalso;omega))|(with_reducible apply t7);rfl;(first|rfl|assumption);rfl;rfl|(with_reducible apply r7);rfl;(first|rfl|assumption);rfl;rfl))|(with_reducible apply y0);rfl;rfl;rfl;refine ⟨_,fun wd hd=>hshe _ (k1.now hd),?_⟩));all_goals ((with_reducible apply j9);intro w' hS';clear hS;have hS:=hS';clear hS')))
   all_goals (repeat' (first|(with_reducible apply a6S a7);rfl;rfl|(first|(with_reducible first|apply a2T|apply a2X|apply a3A|apply a19|apply b5E|apply a63))|(with_reducible apply f6);rfl;rfl))
   all_goals (apply t9)
   all_goals (repeat (first|exact ResL.nil|apply ResL.tmp;rfl))
   all_goals (exact ⟨rfl,hS.sub (xj6 _)⟩)
  rw [xj7 hh,xq1] at hfe;replace hS:=St.reorder [2,3,4,0,1] hS (by decide) rfl;have hS2:St nF w w1 (lkS gl (.pointer (some ⟨gk,0,none⟩)) (.slice (some ⟨gF,0,none⟩) nf nf) (.slice (some ⟨gS,0,none⟩) ns ns) 0 (List.replicate nf (.slice none 0 0,[])) (List.replicate ns (.slice none 0 0,[]))++[.blk gc [.pointer (some ⟨gl,0,none⟩)],.blk gk [.slice p1 sh.length c1,.slice p2 nf c2,.slice p3 ns c3,.slice p4 sp.length c4,.int .i64 hand]]):=by
   have h3:=a8a (a8a hS ns) nf;unfold lkS nlC;rw [xq6,xq6];rw [<- xg1] at h3;refine h3.perm ?_;show (_++([_,_,_]++[_,_])).Perm (([_,_,_]++_)++[_,_]);rw [<- xg1];exact List.perm_append_comm.append_right _
  clear hS;have hS:=hS2.perm xm9;clear hS2;simp only [List.cons_append,List.nil_append] at hS;have hd1:decide (hand < 0)=false:=xj5 (by omega);have hd2:decide ((nf:Int)<=hand)=false:=xj5 (by omega);refine b1r 2 33 rfl hS (by kernel_rfl) ?_;intro w2 hS';clear hS;have hS:=hS';clear hS';simp only [xl7,xl8];have hH:=hS.sub (xm8 [_,_] _)
  ((with_reducible apply a24 (nn 0) a7);rfl;kernel_rfl;kernel_rfl;kernel_rfl;exact (fun _ _ _ h=>h);exact hH;rfl;rfl)
  ((with_reducible apply a8b (nn 1));rfl;kernel_rfl;kernel_rfl;kernel_rfl;exact (fun _ _ _ h=>h);exact hH;rfl;(intro wd hd;replace hd:St _ _ wd _:=hd;(apply Ld.sl a7;rfl;exact hd.blkC 1 rfl rfl));rfl)
  refine t5 (i:=2) (by kernel_rfl) ?_;refine o7 rfl (a0f (first:=[]) (caps:=[]) rfl rfl (hshe _ (k1.now hS))) rfl ?_;rintro _ w' ⟨rfl,hS'⟩;replace hS:=hS.transA hS';simp only [t4] at hS;clear hS';refine ⟨(hS.sub (xm8 [_,_] _)),?_⟩;have hH:=hS.sub (xm8 [_,_] _)
  ((with_reducible apply a24 (nn 3) a7);rfl;kernel_rfl;kernel_rfl;kernel_rfl;exact (fun _ _ _ h=>h);exact hH;rfl;rfl);((with_reducible apply a24 (nn 4) a7);rfl;kernel_rfl;kernel_rfl;kernel_rfl;exact (fun _ _ _ h=>h);exact hH;rfl;rfl);((with_reducible apply a1d (nn 5));rfl;kernel_rfl;kernel_rfl;kernel_rfl;exact (fun _ _ _ h=>h);exact hH;(iterate 4 rfl);rfl;exact (fun a ha=>o6 a7 ha rfl);rfl);((with_reducible apply a2R (nn 6));rfl;kernel_rfl;kernel_rfl;kernel_rfl;exact (fun _ _ _ h=>h);exact hH;(iterate 4 rfl);rfl;rfl;(intro wd hd;replace hd:St _ _ wd _:=hd;(apply Ld.sc a7;rfl;exact hd.blkC 1 rfl rfl));rfl);((with_reducible apply a1d (nn 7));rfl;kernel_rfl;kernel_rfl;kernel_rfl;exact (fun _ _ _ h=>h);exact hH;(iterate 4 rfl);rfl;exact (fun a ha=>o6 a7 ha rfl);rfl);((with_reducible apply a2B (nn 8));rfl;kernel_rfl;kernel_rfl;kernel_rfl;exact (fun _ _ _ h=>h);exact hH;exact a4X rfl (by (rfl)) rfl;rfl);((with_reducible apply a24 (nn 9) a7);rfl;kernel_rfl;kernel_rfl;kernel_rfl;exact (fun _ _ _ h=>h);exact hH;rfl;rfl);((with_reducible apply a1d (nn 10));rfl;kernel_rfl;kernel_rfl;kernel_rfl;exact (fun _ _ _ h=>h);exact hH;(iterate 4 rfl);assumption;exact (fun a ha=>o6 a7 ha rfl);rfl);((with_reducible apply a2R (nn 11));rfl;kernel_rfl;kernel_rfl;kernel_rfl;exact (fun _ _ _ h=>h);exact hH;(iterate 4 rfl);assumption;rfl;(intro wd hd;replace hd:St _ _ wd _:=hd;(apply Ld.sc a7;rfl;exact hd.blkC 1 rfl rfl));rfl);((with_reducible apply a1d (nn 12));rfl;kernel_rfl;kernel_rfl;kernel_rfl;exact (fun _ _ _ h=>h);exact hH;(iterate 4 rfl);assumption;exact (fun a ha=>o6 a7 ha rfl);rfl);((with_reducible apply a2R (nn 13));rfl;kernel_rfl;kernel_rfl;kernel_rfl;exact (fun _ _ _ h=>h);exact hH;(iterate 4 rfl);assumption;rfl;(intro wd hd;replace hd:St _ _ wd _:=hd;(apply Ld.sl a7;rfl;exact hd.blkC 1 rfl rfl));rfl);((with_reducible apply a1d (nn 14));rfl;kernel_rfl;kernel_rfl;kernel_rfl;exact (fun _ _ _ h=>h);exact hH;(iterate 4 rfl);assumption;exact (fun a ha=>o6 a7 ha rfl);rfl);((with_reducible apply a1d (nn 15));rfl;kernel_rfl;kernel_rfl;kernel_rfl;exact (fun _ _ _ h=>h);exact hH;(iterate 4 rfl);assumption;exact (fun a ha=>o6 a7 ha rfl);rfl);((with_reducible apply a2B (nn 16));rfl;kernel_rfl;kernel_rfl;kernel_rfl;exact (fun _ _ _ h=>h);exact hH;exact a4X rfl (by (assumption)) rfl;rfl);((with_reducible apply a24 (nn 17) a7);rfl;kernel_rfl;kernel_rfl;kernel_rfl;exact (fun _ _ _ h=>h);exact hH;rfl;rfl);((with_reducible apply a1d (nn 18));rfl;kernel_rfl;kernel_rfl;kernel_rfl;exact (fun _ _ _ h=>h);exact hH;(iterate 4 rfl);assumption;exact (fun a ha=>o6 a7 ha rfl);rfl);((with_reducible apply a2R (nn 19));rfl;kernel_rfl;kernel_rfl;kernel_rfl;exact (fun _ _ _ h=>h);exact hH;(iterate 4 rfl);assumption;rfl;(intro wd hd;replace hd:St _ _ wd _:=hd;(apply Ld.sl a7;rfl;exact hd.blkC 1 rfl rfl));rfl);((with_reducible apply a1d (nn 20));rfl;kernel_rfl;kernel_rfl;kernel_rfl;exact (fun _ _ _ h=>h);exact hH;(iterate 4 rfl);assumption;exact (fun a ha=>o6 a7 ha rfl);rfl)
  refine t5 (i:=21) (by kernel_rfl) ?_;have hS2:=hS.perm (xm9 (l₁:=[_,_]));have hcon:=b3t hS2 (St.ownBs hS2 0 rfl rfl) (St.ownBs hS2 1 rfl rfl) ((ShsF.of k1).nowM hS2) hsh (k4.nowM hS2) (fun p hp=>(show SpF nF w p from ⟨(k5 p hp).ar,(k5 p hp).en⟩).nowM hS2) (by omega) (fun x hx=>by rw [(xh0.1 hx).2]) (fun x hx=>by rw [(xh0.1 hx).2]);rw [xi1,xi1] at hcon;refine b06 rfl rfl rfl rfl rfl (by (assumption)) (a0f (first:=[]) (caps:=[]) rfl rfl hcon) rfl ?_;clear hcon;rintro _ w3 ⟨rfl,NF,NS,room,h2,hg⟩;have hS':=(St.transM hS2 h2).perm xm9;clear hS2 h2;unfold lkS at hS';simp only [List.cons_append,List.nil_append] at hS';clear hS;have hS:=hS';clear hS';refine ⟨hS.sub (xm8 [_,_] _),?_⟩;have hH:=hS.sub (xm8 [_,_] _)
  cases hall:(sp.map (·.s)).all (t3 (shs sh) nf ns) with
  |false=>
   rw [hall,xq2] at hfe;rw [hfe]
   ((with_reducible apply a2B (nn 22));rfl;kernel_rfl;kernel_rfl;kernel_rfl;exact (fun _ _ _ h=>h);exact hH;exact a4X rfl (by (assumption)) rfl;rfl);((with_reducible apply a24 (nn 23) a7);rfl;kernel_rfl;kernel_rfl;kernel_rfl;exact (fun _ _ _ h=>h);exact hH;rfl;rfl)
   ((with_reducible apply a2D (nn 24));rfl;kernel_rfl;kernel_rfl;kernel_rfl;exact (fun _ _ _ h=>h);exact hH;(iterate 4 rfl);rfl;rfl);((with_reducible apply a2D (nn 25));rfl;kernel_rfl;kernel_rfl;kernel_rfl;exact (fun _ _ _ h=>h);exact hH;(iterate 4 rfl);rfl;rfl);((with_reducible apply a2D (nn 26));rfl;kernel_rfl;kernel_rfl;kernel_rfl;exact (fun _ _ _ h=>h);exact hH;(iterate 4 rfl);rfl;rfl);((with_reducible apply a2D (nn 27));rfl;kernel_rfl;kernel_rfl;kernel_rfl;exact (fun _ _ _ h=>h);exact hH;(iterate 4 rfl);rfl;rfl);((with_reducible apply a2D (nn 28));rfl;kernel_rfl;kernel_rfl;kernel_rfl;exact (fun _ _ _ h=>h);exact hH;(iterate 4 rfl);rfl;rfl);((with_reducible apply a2D (nn 29));rfl;kernel_rfl;kernel_rfl;kernel_rfl;exact (fun _ _ _ h=>h);exact hH;(iterate 4 rfl);rfl;rfl);((with_reducible apply a2D (nn 30));rfl;kernel_rfl;kernel_rfl;kernel_rfl;exact (fun _ _ _ h=>h);exact hH;(iterate 4 rfl);rfl;rfl);((with_reducible apply a2D (nn 31));rfl;kernel_rfl;kernel_rfl;kernel_rfl;exact (fun _ _ _ h=>h);exact hH;(iterate 4 rfl);rfl;rfl)
   ((with_reducible apply a2B (nn 32));rfl;kernel_rfl;kernel_rfl;kernel_rfl;exact (fun _ _ _ h=>h);exact hH;exact b5z rfl (by (rfl)) rfl;rfl)
   refine a0G (by kernel_rfl) ?_
   repeat' (first|(with_reducible apply a8 a7);rfl;rfl;rfl|refine yDn (by with_reducible constructor) ?_|(with_reducible apply f6);rfl;rfl)
   (refine k8 rfl ?_)
   exact ⟨rfl,hS.sub (xj6 _)⟩
  |true=>
   rw [hall,xq1] at hfe;obtain ⟨hroom,hGF,hGS⟩:=hg hall
   ((with_reducible apply a2B (nn 22));rfl;kernel_rfl;kernel_rfl;kernel_rfl;exact (fun _ _ _ h=>h);exact hH;exact a4X rfl (by (assumption)) rfl;rfl);((with_reducible apply a24 (nn 23) a7);rfl;kernel_rfl;kernel_rfl;kernel_rfl;exact (fun _ _ _ h=>h);exact hH;rfl;rfl);((with_reducible apply a2R (nn 24));rfl;kernel_rfl;kernel_rfl;kernel_rfl;exact (fun _ _ _ h=>h);exact hH;(iterate 4 rfl);rfl;rfl;(intro wd hd;replace hd:St _ _ wd _:=hd;(apply Ld.sc a7;rfl;exact hd.blkC 0 rfl rfl));rfl);((with_reducible apply a1d (nn 25));rfl;kernel_rfl;kernel_rfl;kernel_rfl;exact (fun _ _ _ h=>h);exact hH;(iterate 4 rfl);rfl;exact (fun a ha=>o6 a7 ha rfl);rfl);((with_reducible apply a1d (nn 26));rfl;kernel_rfl;kernel_rfl;kernel_rfl;exact (fun _ _ _ h=>h);exact hH;(iterate 4 rfl);rfl;exact (fun a ha=>o6 a7 ha rfl);rfl);((with_reducible apply a1d (nn 28));rfl;kernel_rfl;kernel_rfl;kernel_rfl;exact (fun _ _ _ h=>h);exact hH;(iterate 4 rfl);rfl;exact (fun a ha=>o6 a7 ha rfl);rfl);((with_reducible apply a2R (nn 29));rfl;kernel_rfl;kernel_rfl;kernel_rfl;exact (fun _ _ _ h=>h);exact hH;(iterate 4 rfl);rfl;rfl;(intro wd hd;replace hd:St _ _ wd _:=hd;(apply Ld.sl a7;rfl;exact hd.blkC 1 rfl rfl));rfl);((with_reducible apply a1d (nn 30));rfl;kernel_rfl;kernel_rfl;kernel_rfl;exact (fun _ _ _ h=>h);exact hH;(iterate 4 rfl);rfl;exact (fun a ha=>o6 a7 ha rfl);rfl)
   refine t5 (i:=27) (by kernel_rfl) ?_;refine b06 rfl rfl rfl rfl rfl rfl (b0h rfl (by (apply Ld.sc a7;rfl;exact hS.blkC 2 rfl rfl))) rfl ?_;rintro _ _ ⟨rfl,rfl⟩;refine ⟨hH,?_⟩
   ((with_reducible apply a1d (nn 31));rfl;kernel_rfl;kernel_rfl;kernel_rfl;exact (fun _ _ _ h=>h);exact hH;(iterate 4 rfl);rfl;exact (fun a ha=>o6 a7 ha rfl);rfl)
   ((with_reducible apply a2B (nn 32));rfl;kernel_rfl;kernel_rfl;kernel_rfl;exact (fun _ _ _ h=>h);exact hH;exact a4X rfl (by (rfl)) rfl;rfl)
   refine a0G (by kernel_rfl) ?_;by_cases hrm:a0g (sp.map (·.s))<=(ns:Int);rotate_left
   ·rw [xj5 hrm,xq2] at hfe;rw [hfe]
    repeat' (first|(with_reducible apply a8 a7);rfl;rfl;rfl|refine yDn (by with_reducible constructor) ?_|(with_reducible apply b9);rfl;all_goals (intro hb hp;try (exfalso;omega)))
    (refine k8 rfl ?_)
    exact ⟨rfl,hS.sub (xj6 _)⟩
   rw [xj7 hrm,xq1] at hfe
   repeat' (first|(with_reducible apply a8 a7);rfl;rfl;rfl|(with_reducible apply a9);rfl;(apply Ld.sl a7;rfl;exact hS.blkC 1 rfl rfl);rfl|refine yDn (by with_reducible constructor) ?_|(with_reducible apply b9);rfl;all_goals (intro hb hp;try (exfalso;omega)))
   have hpg:=a8h hall;clear hg hH hb hp hd1 hd2 hroom;refine l5 (X:=Nat) (fun x=>[(89,.int .i64 (x:Nat))]) [1,3,87,88] rfl (fun _=>[]) (fun x=>x<=nf/\∀ (j:Nat) f,j < x->fr[j]?=some f->a1m (shs sh) f (j6 (sp.map (·.s)) 1 (j:Nat))=true) (fun x=>nf - x) 0 (by exact Fr.sub_of rfl) ⟨xg5 _,fun j f h=>by omega⟩ hS ?_;clear hS;rintro i w4 ⟨hi,hpre⟩ hS;dsimp only [List.cons_append,List.nil_append] at hi hpre hS |-;by_cases hlt:i < nf
   ·obtain ⟨f,hf⟩:=j5 (l:=fr) (i:=i) (by omega);have hrow:=d5 (f:=fmC) hf;obtain ⟨b,off,rfl,hro⟩:=k2.at_ (i:=i) (by omega);obtain ⟨v,hv⟩:=hGF.2 i (.slice none 0 0,[]) (List.getElem?_replicate_of_lt hlt);rw [List.nil_append,a1c] at hv;have hmem:nsA (v,j6 (sp.map (·.s)) 1 ((i:Nat):Int)) ∈ nlR NF:=xj0.2 ⟨_,xd0 hv,rfl⟩;have hrowN:(nlC NF)[i]?=some [v]:=d5 (f:=fun (x:Value×List Nm)=>[x.1]) hv;have hby:∀ n ∈ j6 (sp.map (·.s)) 1 ((i:Nat):Int),-1000000<=n.1.page/\n.1.page<=1000000:=fun n hn=>by
     rw [<- a1c] at hn;exact hpg n (xj1.1 hn).1
    generalize hbyn:j6 (sp.map (·.s)) 1 ((i:Nat):Int)=by_ at *;have hSm:∀ wd Γd,St nF w wd Γd->nsA (v,by_) ∈ Γd->Sl nF wd 7 v (by_.map nmC):=fun wd Γd hd hm=>St.slMem hd hm;obtain ⟨pv,cv,hvv⟩:=(hSm _ _ hS (by repeat (first|exact xe5 _ hmem|apply xc6))).form;subst hvv;have hfr:=fun wd (a:Bs nF wd ⟨gl,0,none⟩ (.pointer (some ⟨gk,0,none⟩))) (b:Bs nF wd ⟨gk,0,none⟩ (.slice p1 sh.length c1)) (c:ShsV wd sh (.slice p1 sh.length c1)) (d:Sl nF wd 7 (.slice pv (by_.map nmC).length cv) (by_.map nmC))=>a8F (f:=f) a b c hsh d hby;unfold fmC at hfr hrow
    cases hfb:a1m (shs sh) f by_ with
    |false=>
     rw [hfb] at hfr;have hff:a03 ⟨shs sh,fr,sl,sp.map (·.s),hand⟩=false:=by
      unfold a03;rw [xq7];refine ⟨i,by rw [xi5];show i < fr.length;omega,?_⟩;show ¬(match fr[i]? with|some f=>a1m (shs sh) f (j6 (sp.map (·.s)) 1 ((i:Nat):Int))|none=>true)=true;rw [hf,hbyn];show ¬a1m (shs sh) f by_=true;rw [hfb];simp
     rw [hff,xq2] at hfe;rw [hfe]
     repeat' (first|(with_reducible apply a8 a7);rfl;rfl;rfl|(with_reducible apply a9);rfl;(apply Ld.st a7;rfl;exact hS.roR (by assumption) (by assumption);rfl);rfl|(with_reducible apply l8 a7);rfl;rfl;rfl;rfl;omega;rfl|refine yDn (by with_reducible constructor) ?_|(with_reducible apply d7 hS a7);rfl;rfl;rfl;clear hS;intro g w' hS|(with_reducible apply b8 hS a7 (i:=0));(iterate 8 rfl);exact (rfl:_=[_,_,_,_]);clear hS;intro w' hS;simp only [List.set] at hS|(with_reducible apply b9);rfl;all_goals (intro hb hp;try (exfalso;omega)))
     (focus ((with_reducible apply d8 _ _ _ (by kernel_rfl) (by kernel_rfl) hS);(repeat' (first|(first|(with_reducible apply i9 a7);rfl;rfl|(with_reducible apply i7);rfl;(intro wd hd;replace hd:St _ _ wd _:=hd;(first|apply Ld.sc a7;rfl;exact hd.blkC 1 rfl rfl|apply Ld.sl a7;rfl;exact hd.blkC 3 rfl rfl|apply Ld.st a7;rfl;exact hd.blkR 0 rfl;rfl));rfl|(with_reducible apply x6 a7);rfl;rfl;rfl;rfl;omega;rfl)|(with_reducible apply i7);rfl;(intro wd hd;replace hd:St _ _ wd _:=hd;apply Ld.sl a7;rfl;exact hd.rowC0 4 rfl hrowN rfl);rfl|(with_reducible apply y0);rfl;rfl;rfl;refine ⟨_,fun wd hd=>hfr _ (Bs.of (hd.blkC 3 rfl rfl)) (Bs.of (hd.blkC 2 rfl rfl)) (k1.now hd) (hSm _ _ hd (by repeat (first|exact xe5 _ hmem|apply xc6))),?_⟩));all_goals ((with_reducible apply j9);intro w' hS';clear hS;have hS:=hS';clear hS')))
     repeat' (first|(with_reducible apply a8 a7);rfl;rfl;rfl|refine yDn (by with_reducible constructor) ?_|(with_reducible apply f6);rfl;rfl)
     (refine k8 rfl ?_)
     exact ⟨rfl,hS.sub (xj6 _)⟩
    |true=>
     rw [hfb] at hfr
     repeat' (first|(with_reducible apply a8 a7);rfl;rfl;rfl|(with_reducible apply a9);rfl;(apply Ld.st a7;rfl;exact hS.roR (by assumption) (by assumption);rfl);rfl|(with_reducible apply l8 a7);rfl;rfl;rfl;rfl;omega;rfl|refine yDn (by with_reducible constructor) ?_|(with_reducible apply d7 hS a7);rfl;rfl;rfl;clear hS;intro g w' hS|(with_reducible apply b8 hS a7 (i:=0));(iterate 8 rfl);exact (rfl:_=[_,_,_,_]);clear hS;intro w' hS;simp only [List.set] at hS|(with_reducible apply b9);rfl;all_goals (intro hb hp;try (exfalso;omega)))
     (focus ((with_reducible apply d8 _ _ _ (by kernel_rfl) (by kernel_rfl) hS);(repeat' (first|(first|(with_reducible apply i9 a7);rfl;rfl|(with_reducible apply i7);rfl;(intro wd hd;replace hd:St _ _ wd _:=hd;(first|apply Ld.sc a7;rfl;exact hd.blkC 1 rfl rfl|apply Ld.sl a7;rfl;exact hd.blkC 3 rfl rfl|apply Ld.st a7;rfl;exact hd.blkR 0 rfl;rfl));rfl|(with_reducible apply x6 a7);rfl;rfl;rfl;rfl;omega;rfl)|(with_reducible apply i7);rfl;(intro wd hd;replace hd:St _ _ wd _:=hd;apply Ld.sl a7;rfl;exact hd.rowC0 4 rfl hrowN rfl);rfl|(with_reducible apply y0);rfl;rfl;rfl;refine ⟨_,fun wd hd=>hfr _ (Bs.of (hd.blkC 3 rfl rfl)) (Bs.of (hd.blkC 2 rfl rfl)) (k1.now hd) (hSm _ _ hd (by repeat (first|exact xe5 _ hmem|apply xc6))),?_⟩));all_goals ((with_reducible apply j9);intro w' hS';clear hS;have hS:=hS';clear hS')))
     repeat' (first|(with_reducible apply a8 a7);rfl;rfl;rfl|(with_reducible apply j4);rfl;rfl;omega;omega;rfl|refine yDn (by with_reducible constructor) ?_|(with_reducible apply f8);rfl;rfl)
     refine e9 (i + 1) (by exact Fr.sub_of rfl) ⟨by show i + 1<=nf;omega,fun j f' hj hf'=>?_⟩ hS.drop (by show nf - (i + 1) < nf - i;omega);rcases xp9.1 hj with h|h
     ·exact hpre j f' h hf'
     ·subst h;rw [hf] at hf'
      cases hf'
      rw [hbyn];exact hfb
   obtain rfl:i=nf:=by omega
   have hff:a03 ⟨shs sh,fr,sl,sp.map (·.s),hand⟩=true:=by
    unfold a03;rw [xc7];intro j hj;rw [xi5] at hj;dsimp only at hj;obtain ⟨f,hf⟩:=j5 (l:=fr) (i:=j) (by omega);show (match fr[j]? with|some f=>a1m (shs sh) f (j6 (sp.map (·.s)) 1 ((j:Nat):Int))|none=>true)=true;rw [hf];exact hpre j f (by have:=c9 hf;omega) hf
   rw [hff,xq1] at hfe;rw [hfe]
   repeat' (first|(with_reducible apply a8 a7);rfl;rfl;rfl|(with_reducible apply a9);rfl;(apply Ld.sl a7;rfl;exact hS.blkC 1 rfl rfl);rfl|refine yDn (by with_reducible constructor) ?_|(with_reducible apply b9);rfl;all_goals (intro hb hp;try (exfalso;omega)))
   refine l5 (X:=Nat) (fun x=>[(109,.int .i64 (x:Nat))]) [1,3,107,108] rfl (fun _=>[]) (fun x=>x<=ns/\∀ (j:Nat) f,j < x->sl[j]?=some f->a1Z f (j6 (sp.map (·.s)) 2 (j:Nat))=true) (fun x=>ns - x) 0 (by exact Fr.sub_of rfl) ⟨xg5 _,fun j f h=>by omega⟩ hS ?_;clear hS hpre hlt hi hb hp hH;rintro i w5 ⟨hi,hpre⟩ hS;dsimp only [List.cons_append,List.nil_append] at hi hpre hS |-;by_cases hlt:i < ns;rotate_left
   ·obtain rfl:i=ns:=by omega
    have hsf:a1O ⟨shs sh,fr,sl,sp.map (·.s),hand⟩=true:=by
     unfold a1O;rw [xc7];intro j hj;rw [xi5] at hj;dsimp only at hj;obtain ⟨f,hf⟩:=j5 (l:=sl) (i:=j) (by omega);show (match sl[j]? with|some f=>a1Z f (j6 (sp.map (·.s)) 2 ((j:Nat):Int))|none=>true)=true;rw [hf];exact hpre j f (by have:=c9 hf;omega) hf
    rw [hsf]
    repeat' (first|(with_reducible apply a8 a7);rfl;rfl;rfl|refine yDn (by with_reducible constructor) ?_|(with_reducible apply b9);rfl;all_goals (intro hb hp;try (exfalso;omega)))
    (refine k8 rfl ?_)
    exact ⟨rfl,hS.sub (xj6 _)⟩
   obtain ⟨f,hf⟩:=j5 (l:=sl) (i:=i) (by omega);have hrow:=d5 (f:=swC) hf;obtain ⟨b,off,rfl,hro⟩:=k3.at_ (i:=i) (by omega);obtain ⟨v,hv⟩:=hGS.2 i (.slice none 0 0,[]) (List.getElem?_replicate_of_lt hlt);rw [List.nil_append,a1c] at hv;have hmem:nsA (v,j6 (sp.map (·.s)) 2 ((i:Nat):Int)) ∈ nlR NS:=xj0.2 ⟨_,xd0 hv,rfl⟩;have hrowN:(nlC NS)[i]?=some [v]:=d5 (f:=fun (x:Value×List Nm)=>[x.1]) hv;have hbad:a1Z f (j6 (sp.map (·.s)) 2 ((i:Nat):Int))=false->a1O ⟨shs sh,fr,sl,sp.map (·.s),hand⟩=false:=fun h=>by
    unfold a1O;rw [xq7];refine ⟨i,by rw [xi5];show i < sl.length;omega,?_⟩;show ¬(match sl[i]? with|some f=>a1Z f (j6 (sp.map (·.s)) 2 ((i:Nat):Int))|none=>true)=true;rw [hf];show ¬a1Z f (j6 (sp.map (·.s)) 2 ((i:Nat):Int))=true;rw [h];simp
   have hgood:a1Z f (j6 (sp.map (·.s)) 2 ((i:Nat):Int))=true->∀ (j:Nat) f,j < i + 1->sl[j]?=some f->a1Z f (j6 (sp.map (·.s)) 2 (j:Nat))=true:=fun hg j f' hj hf'=>by
    rcases xp9.1 hj with h|h
    ·exact hpre j f' h hf'
    ·subst h;rw [hf] at hf'
     cases hf'
     exact hg
   generalize hbyn:j6 (sp.map (·.s)) 2 ((i:Nat):Int)=by_ at hmem hbad hgood hv;have hSm:∀ wd Γd,St nF w wd Γd->nsA (v,by_) ∈ Γd->Sl nF wd 7 v (by_.map nmC):=fun wd Γd hd hm=>St.slMem hd hm;obtain ⟨pv,cv,hvv⟩:=(hSm _ _ hS (by repeat (first|exact xe6 _ hmem|apply xc6))).form;subst hvv;unfold swC at hrow
   cases by_ with
   |nil=>
    have e0:a1Z f ([]:List Nm)=decide (f=sw0):=rfl;rw [e0] at hbad hgood;by_cases hz:f=sw0
    ·have hd:(!decide (f=sw0))=false:=by rw [xj7 hz];rfl
     repeat' (first|(with_reducible apply a8 a7);rfl;rfl;rfl|(with_reducible apply a9);rfl;(first|apply Ld.sc a7;rfl;exact hS.blkC 1 rfl rfl|apply Ld.sl a7;rfl;exact hS.blkC 3 rfl rfl|apply Ld.st a7;rfl;(first|exact hS.blkR 0 rfl|exact hS.roR (by assumption) (by assumption));rfl);rfl|(with_reducible apply l8 a7);rfl;rfl;rfl;rfl;omega;rfl|(with_reducible apply j4);rfl;rfl;omega;omega;rfl|(with_reducible apply l4 a7);rfl;rfl;exact (rfl:_=some [_,_]);rfl|refine yDn (by with_reducible constructor) ?_|((with_reducible apply k6);(iterate 4 rfl);first|rfl|assumption)|(with_reducible apply r9);(iterate 4 rfl);rfl;rfl|(with_reducible apply a1e);(iterate 5 rfl)|(with_reducible apply f7);rfl;rfl;rfl;rfl|(with_reducible apply d9);rfl;(first|rfl|assumption);rfl;rfl|(with_reducible apply f8);rfl;rfl|(with_reducible apply d7 hS a7);rfl;rfl;rfl;clear hS;intro g w' hS|(with_reducible apply b8 hS a7 (i:=0));(iterate 8 rfl);exact (rfl:_=[_,_]);clear hS;intro w' hS;simp only [List.set] at hS|(with_reducible apply b9);rfl;all_goals (intro hb hp;try (exfalso;omega))|(with_reducible apply a9);rfl;(apply Ld.sl a7;rfl;exact hS.rowC0 5 rfl hrowN rfl);rfl|(with_reducible apply b1a);rfl;rfl;exact b28 f sw0;rfl)
     exact e9 (i + 1) (by exact Fr.sub_of rfl) ⟨by show i + 1<=ns;omega,hgood (xj7 hz)⟩ hS.drop (by show ns - (i + 1) < ns - i;omega)
    ·have hd:(!decide (f=sw0))=true:=by rw [xj5 hz];rfl
     rw [hbad (xj5 hz)]
     repeat' (first|(with_reducible apply a8 a7);rfl;rfl;rfl|(with_reducible apply a9);rfl;(first|apply Ld.sc a7;rfl;exact hS.blkC 1 rfl rfl|apply Ld.sl a7;rfl;exact hS.blkC 3 rfl rfl|apply Ld.st a7;rfl;(first|exact hS.blkR 0 rfl|exact hS.roR (by assumption) (by assumption));rfl);rfl|(with_reducible apply l8 a7);rfl;rfl;rfl;rfl;omega;rfl|(with_reducible apply l4 a7);rfl;rfl;exact (rfl:_=some [_,_]);rfl|refine yDn (by with_reducible constructor) ?_|(with_reducible apply k6);(iterate 4 rfl);rfl|(with_reducible apply r9);(iterate 4 rfl);assumption;rfl|(with_reducible apply a1e);(iterate 5 rfl)|(with_reducible apply f7);rfl;(first|rfl|assumption);rfl;rfl|(with_reducible apply f6);rfl;rfl|(with_reducible apply d7 hS a7);rfl;rfl;rfl;clear hS;intro g w' hS|(with_reducible apply b8 hS a7 (i:=0));(iterate 8 rfl);exact (rfl:_=[_,_]);clear hS;intro w' hS;simp only [List.set] at hS|(with_reducible apply b9);rfl;all_goals (intro hb hp;try (exfalso;omega))|(with_reducible apply a9);rfl;(apply Ld.sl a7;rfl;exact hS.rowC0 5 rfl hrowN rfl);rfl|(with_reducible apply b1a);rfl;rfl;exact b28 f sw0;rfl)
     (refine k8 rfl ?_)
     exact ⟨rfl,hS.sub (xj6 _)⟩
   |cons n r=>
    have hal:=fun wd (h:Sl nF wd 7 (.slice pv ((n::r).map nmC).length cv) ((n::r).map nmC))=>a7D h rfl;have e0:a1Z f (n::r)=(decide (f.refs=((n::r).length:Int)/\f.data.length=16) && a0N (n::r)):=rfl;rw [e0] at hbad hgood;clear e0;have hml:((n::r).map nmC).length=(n::r).length:=xj4 _;have hm0:0 < (n::r).length:=Nat.succ_pos _;have bnd:=(hSm _ _ hS (by repeat (first|exact xe6 _ hmem|apply xc6))).bound;rw [hml] at hal hrowN hSm hmem;generalize hlen:(n::r).length=m at *;by_cases h1:f.refs=(m:Int);rotate_left
    ·have hd:(!decide (f.refs=(m:Int)))=true:=by rw [xj5 h1];rfl
     rw [hbad (by rw [xj5 (fun h=>h1 h.1),xq2])]
     repeat' (first|(with_reducible apply a8 a7);rfl;rfl;rfl|(with_reducible apply a9);rfl;(first|apply Ld.sc a7;rfl;(first|exact hS.blkC 0 rfl rfl|exact hS.blkC 1 rfl rfl)|apply Ld.sl a7;rfl;exact hS.blkC 3 rfl rfl|apply Ld.st a7;rfl;exact hS.roR (by assumption) (by assumption);rfl);rfl|(with_reducible apply l8 a7);rfl;rfl;rfl;rfl;omega;rfl|refine yDn (by with_reducible constructor) ?_|((with_reducible apply k6);(iterate 4 rfl);first|rfl|assumption)|(with_reducible apply r9);(iterate 4 rfl);(first|rfl|assumption);rfl|(with_reducible apply f7);rfl;(first|rfl|assumption);rfl;rfl|(with_reducible apply d9);rfl;(first|rfl|assumption);rfl;rfl|(with_reducible apply f6);rfl;rfl|(with_reducible apply d7 hS a7);rfl;rfl;rfl;clear hS;intro g w' hS|(with_reducible apply b8 hS a7 (i:=0));(iterate 8 rfl);exact (rfl:_=[_,_]);clear hS;intro w' hS;simp only [List.set] at hS|(with_reducible apply r5);rfl;rfl;rfl;all_goals (intro hb hp;try (exfalso;omega))|(with_reducible apply b9);rfl;all_goals (intro hb hp;try (exfalso;omega))|(with_reducible apply a9);rfl;(apply Ld.sl a7;rfl;exact hS.rowC0 5 rfl hrowN rfl);rfl)
     (refine k8 rfl ?_)
     exact ⟨rfl,hS.sub (xj6 _)⟩
    have hd:(!decide (f.refs=(m:Int)))=false:=by rw [xj7 h1];rfl
    by_cases h2:f.data.length=16;rotate_left
    ·have hd2:(!decide ((f.data.length:Int)=16))=true:=by rw [xj5 (by omega)];rfl
     rw [hbad (by rw [xj5 (fun h=>h2 h.2),xq2])]
     repeat' (first|(with_reducible apply a8 a7);rfl;rfl;rfl|(with_reducible apply a9);rfl;(first|apply Ld.sc a7;rfl;(first|exact hS.blkC 0 rfl rfl|exact hS.blkC 1 rfl rfl)|apply Ld.sl a7;rfl;exact hS.blkC 3 rfl rfl|apply Ld.st a7;rfl;exact hS.roR (by assumption) (by assumption);rfl);rfl|(with_reducible apply l8 a7);rfl;rfl;rfl;rfl;omega;rfl|refine yDn (by with_reducible constructor) ?_|((with_reducible apply k6);(iterate 4 rfl);first|rfl|assumption)|(with_reducible apply r9);(iterate 4 rfl);assumption;rfl|(with_reducible apply f7);rfl;assumption;rfl;rfl|(with_reducible apply d9);rfl;(first|rfl|assumption);rfl;rfl|(with_reducible apply f6);rfl;rfl|(with_reducible apply d7 hS a7);rfl;rfl;rfl;clear hS;intro g w' hS|(with_reducible apply b8 hS a7 (i:=0));(iterate 8 rfl);exact (rfl:_=[_,_]);clear hS;intro w' hS;simp only [List.set] at hS|(with_reducible apply r5);rfl;rfl;rfl;all_goals (intro hb hp;try (exfalso;omega))|(with_reducible apply b9);rfl;all_goals (intro hb hp;try (exfalso;omega))|(with_reducible apply a9);rfl;(apply Ld.sl a7;rfl;exact hS.rowC0 5 rfl hrowN rfl);rfl)
     (refine k8 rfl ?_)
     exact ⟨rfl,hS.sub (xj6 _)⟩
    have hd2:(!decide ((f.data.length:Int)=16))=false:=by rw [xj7 (by omega)];rfl
    rw [xj7 ⟨h1,h2⟩,xq1] at hbad hgood
    cases ha:a0N (n::r) with
    |false=>
     rw [ha] at hal hbad;rw [hbad rfl]
     repeat' (first|(with_reducible apply a8 a7);rfl;rfl;rfl|(with_reducible apply a9);rfl;(first|apply Ld.sc a7;rfl;(first|exact hS.blkC 0 rfl rfl|exact hS.blkC 1 rfl rfl)|apply Ld.sl a7;rfl;exact hS.blkC 3 rfl rfl|apply Ld.st a7;rfl;exact hS.roR (by assumption) (by assumption);rfl);rfl|(with_reducible apply l8 a7);rfl;rfl;rfl;rfl;omega;rfl|refine yDn (by with_reducible constructor) ?_|((with_reducible apply k6);(iterate 4 rfl);first|rfl|assumption)|(with_reducible apply r9);(iterate 4 rfl);assumption;rfl|(with_reducible apply f7);rfl;assumption;rfl;rfl|(with_reducible apply d9);rfl;(first|rfl|assumption);rfl;rfl|(with_reducible apply f6);rfl;rfl|(with_reducible apply d7 hS a7);rfl;rfl;rfl;clear hS;intro g w' hS|(with_reducible apply b8 hS a7 (i:=0));(iterate 8 rfl);exact (rfl:_=[_,_]);clear hS;intro w' hS;simp only [List.set] at hS|(with_reducible apply r5);rfl;rfl;rfl;all_goals (intro hb hp;try (exfalso;omega))|(with_reducible apply b9);rfl;all_goals (intro hb hp;try (exfalso;omega))|(with_reducible apply a9);rfl;(apply Ld.sl a7;rfl;exact hS.rowC0 5 rfl hrowN rfl);rfl|(with_reducible apply d6 hS);rfl;rfl;rfl;refine ⟨_,hal _ (hSm _ _ hS (by repeat (first|exact xe6 _ hmem|apply xc6))),?_⟩;clear hS;intro w' hS)
     (refine k8 rfl ?_)
     exact ⟨rfl,hS.sub (xj6 _)⟩
    |true=>
     rw [ha] at hal hgood
     repeat' (first|(with_reducible apply a8 a7);rfl;rfl;rfl|(with_reducible apply a9);rfl;(first|apply Ld.sc a7;rfl;(first|exact hS.blkC 0 rfl rfl|exact hS.blkC 1 rfl rfl)|apply Ld.sl a7;rfl;exact hS.blkC 3 rfl rfl|apply Ld.st a7;rfl;exact hS.roR (by assumption) (by assumption);rfl);rfl|(with_reducible apply l8 a7);rfl;rfl;rfl;rfl;omega;rfl|(with_reducible apply j4);rfl;rfl;omega;omega;rfl|refine yDn (by with_reducible constructor) ?_|((with_reducible apply k6);(iterate 4 rfl);first|rfl|assumption)|(with_reducible apply r9);(iterate 4 rfl);assumption;rfl|(with_reducible apply f7);rfl;assumption;rfl;rfl|(with_reducible apply d9);rfl;(first|rfl|assumption);rfl;rfl|(with_reducible apply f8);rfl;rfl|(with_reducible apply d7 hS a7);rfl;rfl;rfl;clear hS;intro g w' hS|(with_reducible apply b8 hS a7 (i:=0));(iterate 8 rfl);exact (rfl:_=[_,_]);clear hS;intro w' hS;simp only [List.set] at hS|(with_reducible apply r5);rfl;rfl;rfl;all_goals (intro hb hp;try (exfalso;omega))|(with_reducible apply b9);rfl;all_goals (intro hb hp;try (exfalso;omega))|(with_reducible apply a9);rfl;(apply Ld.sl a7;rfl;exact hS.rowC0 5 rfl hrowN rfl);rfl|(with_reducible apply d6 hS);rfl;rfl;rfl;refine ⟨_,hal _ (hSm _ _ hS (by repeat (first|exact xe6 _ hmem|apply xc6))),?_⟩;clear hS;intro w' hS)
     exact e9 (i + 1) (by exact Fr.sub_of rfl) ⟨by show i + 1<=ns;omega,hgood rfl⟩ hS.drop (by show ns - (i + 1) < ns - i;omega)
def a25 (l:List (Sh×Value)) (p:Int):Option (Sh×Value):=l.find? fun x=>decide (x.1.page=p)
def a5p (o:Option (Sh×Value)):Value:=match o with
 |some x=>.tuple #[.agg (shC x.1 x.2).toArray,.bool true]
 |none=>.tuple #[.agg #[.int .i64 0,.string ⟨#[]⟩,.slice none 0 0],.bool false]
theorem b2j {α:Type} {p:α->Bool} {l:List α} {i:Nat} {x:α} (h:(l.take i).all (fun y=>!p y)=true) (hx:l[i]?=some x) (hp:p x=true):l.find? p=some x:=by
 rw [xn9];obtain ⟨h1,rfl⟩:=xa7.1 hx;refine ⟨hp,i,h1,rfl,fun j hj=>?_⟩;have:=xc7.1 h l[j] (xd9.2 ⟨j,by rw [xf5];simp [hj]⟩);exact this
theorem a99 {α:Type} {p:α->Bool} {l:List α} (h:l.all (fun y=>!p y)=true):l.find? p=none:=by
 rw [xn8];intro x hx hp;have:=xc7.1 h x hx;rw [hp] at this
 cases this
theorem a6d {l:List (Sh×Value)} {w:World} {vs:Value} (hL:ShsV w l vs) (p:Int):Fn Tryz.prog 120 [vs,.int .i64 p] w (RBf (a5p (a25 l p)) w):=by
 have bnd:=hL.sl.bound;have hsl:=hL.sl;obtain ⟨pv,c,rfl⟩:=hL.sl.len;refine yEn Tryz.func120 Tryz.ntmps120 (by kernel_rfl) (by kernel_rfl) rfl rfl ?_;have hS:=St.start w
 repeat' (first|(with_reducible apply a8 a7);rfl;rfl;rfl|refine yDn (by with_reducible constructor) ?_|(with_reducible apply d7 hS a7);rfl;rfl;rfl;clear hS;intro g w' hS)
 refine l5 (X:=Nat) (fun x=>[(6,.int .i64 (x:Nat))]) [0,1,4] rfl (fun _=>[]) (fun x=>x<=l.length/\(l.take x).all (fun y=>!decide (y.1.page=p))=true) (fun x=>l.length - x) 0 (by exact Fr.sub_of rfl) ⟨xg5 _,rfl⟩ hS ?_;clear hS;rintro i w1 ⟨hi,hall⟩ hS;dsimp only [List.cons_append,List.nil_append] at hi hall hS |-;by_cases hlt:i < l.length;rotate_left
 ·obtain rfl:i=l.length:=by omega
  rw [xg7] at hall;unfold a25;rw [a99 hall];unfold a5p
  repeat' (first|(with_reducible apply a8 a7);rfl;rfl;rfl|(with_reducible apply l4 a7);rfl;rfl;exact (rfl:_=some [_,_,_]);rfl|refine yDn (by with_reducible constructor) ?_|(with_reducible apply b8 hS a7 (i:=0));(iterate 8 rfl);exact (rfl:_=[_,_,_]);clear hS;intro w' hS;simp only [List.set] at hS|(with_reducible apply b9);rfl;all_goals (intro hb hp;try (exfalso;omega)))
  (apply a8e;repeat (first|exact ResL.nil|apply ResL.tmp;rfl|apply ResL.cell;rfl;(apply Ld.st a7;rfl;exact hS.blkR 0 rfl;rfl)))
  exact ⟨rfl,hS.sub (xj6 _)⟩
 obtain ⟨x,hx⟩:=j5 (l:=l) (i:=i) (by omega);have hrow:=d5 (f:=fun p:Sh×Value=>shC p.1 p.2) hx;obtain ⟨b,off,rfl,hro⟩:=hsl.at_ (i:=i) hlt;have hfx:=hL.fx x (xd0 hx);by_cases hp:x.1.page=p
 ·have hf:a25 l p=some x:=b2j hall hx (xj7 hp);rw [hf];unfold a5p;have hd:decide (x.1.page=p)=true:=xj7 hp;obtain ⟨S,u⟩:=x;dsimp only [shC] at hrow hfx hd |-;obtain ⟨pu,cu,rfl⟩:=hfx.len
  repeat' (first|(with_reducible apply a8 a7);rfl;rfl;rfl|(with_reducible apply a9);rfl;(first|apply Ld.sc a7;rfl;exact hS.roC0 (by assumption) (by assumption) rfl|apply Ld.st a7;rfl;exact hS.roR (by assumption) (by assumption);rfl);rfl|(with_reducible apply l8 a7);rfl;rfl;rfl;rfl;omega;rfl|refine yDn (by with_reducible constructor) ?_|(with_reducible apply f6);rfl;assumption|(with_reducible apply b8 hS a7 (i:=0));(iterate 8 rfl);exact (rfl:_=[_,_,_]);clear hS;intro w' hS;simp only [List.set] at hS|(with_reducible apply b9);rfl;all_goals (intro hb hp;try (exfalso;omega)))
  (apply a8e;repeat (first|exact ResL.nil|apply ResL.tmp;rfl|apply ResL.cell;rfl;(apply Ld.st a7;rfl;exact hS.blkR 0 rfl;rfl)))
  exact ⟨rfl,hS.sub (xj6 _)⟩
 ·have hd:decide (x.1.page=p)=false:=xj5 hp;have hstep:=a0z hall hx (by rw [hd];rfl);obtain ⟨S,u⟩:=x;dsimp only [shC] at hrow hfx hd;obtain ⟨pu,cu,rfl⟩:=hfx.len
  repeat' (first|(with_reducible apply a8 a7);rfl;rfl;rfl|(with_reducible apply a9);rfl;(apply Ld.sc a7;rfl;exact hS.roC0 (by assumption) (by assumption) rfl);rfl|(with_reducible apply l8 a7);rfl;rfl;rfl;rfl;omega;rfl|(with_reducible apply j4);rfl;rfl;omega;omega;rfl|refine yDn (by with_reducible constructor) ?_|(with_reducible apply f8);rfl;assumption|(with_reducible apply b9);rfl;all_goals (intro hb hp;try (exfalso;omega)))
  exact e9 (i + 1) (by exact Fr.sub_of rfl) ⟨by show i + 1<=l.length;omega,hstep⟩ hS (by show l.length - (i + 1) < l.length - i;omega)
theorem a2r {w:World} {x:Sp} (hx:SpV w x) (p:Int):Fn Tryz.prog 78 [.agg (spC x).toArray,.int .i64 p] w (RBf (.int .i64 (a1v (fun e=>decide (e.page=p)) x.s.entries)) w):=by
 have bnd:=hx.en.bound;have hsl:=hx.en;have har:=hx.ar;obtain ⟨s,va,ve⟩:=x;obtain ⟨live,A,es⟩:=s;dsimp only at hsl bnd har |-;obtain ⟨pa,ca,rfl⟩:=har.len;obtain ⟨pv,c,rfl⟩:=hsl.len;unfold spC;dsimp only;refine yEn Tryz.func78 Tryz.ntmps78 (by kernel_rfl) (by kernel_rfl) rfl rfl ?_;have hS:=St.start w
 repeat' (first|(with_reducible apply a8 a7);rfl;rfl;rfl|refine yDn (by with_reducible constructor) ?_|(with_reducible apply l9 hS);rfl;rfl;rfl;clear hS;intro g w' hS)
 refine l5 (X:=Nat) (fun x=>[(5,.int .i64 (x:Nat))]) [1,2] rfl (fun _=>[]) (fun x=>x<=es.length/\(es.take x).all (fun y=>!decide (y.page=p))=true) (fun x=>es.length - x) 0 (by exact Fr.sub_of rfl) ⟨xg5 _,rfl⟩ hS ?_;clear hS;rintro i w1 ⟨hi,hall⟩ hS;dsimp only [List.cons_append,List.nil_append] at hi hall hS |-;by_cases hlt:i < es.length;rotate_left
 ·rw [a2g hall (by omega)]
  repeat' (first|(with_reducible apply a8 a7);rfl;rfl;rfl|(with_reducible apply a9);rfl;(apply Ld.sl a7;rfl;exact hS.blkC 0 rfl rfl);rfl|refine yDn (by with_reducible constructor) ?_|(with_reducible apply b9);rfl;all_goals (intro hb hp;try (exfalso;omega)))
  (refine k8 rfl ?_)
  exact ⟨rfl,hS.sub (xj6 _)⟩
 obtain ⟨e,he⟩:=j5 (l:=es) (i:=i) (by omega);have hrow:=d5 (f:=enC) he;obtain ⟨b,off,rfl,hro⟩:=hsl.at_ (i:=i) hlt;unfold enC at hrow;by_cases hp:e.page=p
 ·rw [a2W hall he (xj7 hp)];have hd:decide (e.page=p)=true:=xj7 hp
  repeat' (first|(with_reducible apply a8 a7);rfl;rfl;rfl|(with_reducible apply a9);rfl;(first|apply Ld.sc a7;rfl;exact hS.roC0 (by assumption) (by assumption) rfl|apply Ld.sl a7;rfl;exact hS.blkC 0 rfl rfl);rfl|(with_reducible apply l8 a7);rfl;rfl;rfl;rfl;omega;rfl|refine yDn (by with_reducible constructor) ?_|(with_reducible apply f6);rfl;assumption|(with_reducible apply b9);rfl;all_goals (intro hb hp;try (exfalso;omega)))
  (refine k8 rfl ?_)
  exact ⟨rfl,hS.sub (xj6 _)⟩
 ·have hd:decide (e.page=p)=false:=xj5 hp;have hstep:=a0z hall he (by rw [hd];rfl)
  repeat' (first|(with_reducible apply a8 a7);rfl;rfl;rfl|(with_reducible apply a9);rfl;(first|apply Ld.sc a7;rfl;exact hS.roC0 (by assumption) (by assumption) rfl|apply Ld.sl a7;rfl;exact hS.blkC 0 rfl rfl);rfl|(with_reducible apply l8 a7);rfl;rfl;rfl;rfl;omega;rfl|(with_reducible apply j4);rfl;rfl;omega;omega;rfl|refine yDn (by with_reducible constructor) ?_|(with_reducible apply f8);rfl;assumption|(with_reducible apply b9);rfl;all_goals (intro hb hp;try (exfalso;omega)))
  exact e9 (i + 1) (by exact Fr.sub_of rfl) ⟨by show i + 1<=es.length;omega,hstep⟩ hS (by show es.length - (i + 1) < es.length - i;omega)
theorem b0F {l:List Sc} {i:Nat} {s:Sc} (h:l[i]?=some s):a0g (l.take (i + 1))=a0g (l.take i) + a0r s.areas:=by
 rw [q8 h,a62]
theorem b4Y {w:World} {k:KV} (hK:KerV w k) (hc:∀ p ∈ k.sp,l7 p.s.areas=0) (h4:k.sp.length<=4):Fn Tryz.prog 70 [.agg (kvC k).toArray] w (RBf (.int .i64 (a0g (k.sp.map (·.s)))) w):=by
 obtain ⟨sh,fr,sl,sp,hand,vsh,vfr,vsl,vsp⟩:=k;obtain ⟨k1,k2,k3,k4,k5⟩:=hK;dsimp only at k1 k2 k3 k4 k5 hc h4 |-;obtain ⟨p1,c1,rfl⟩:=k1.sl.len;obtain ⟨p2,c2,rfl⟩:=k2.len;obtain ⟨p3,c3,rfl⟩:=k3.len;obtain ⟨p4,c4,rfl⟩:=k4.len;unfold kvC;dsimp only;refine yEn Tryz.func70 Tryz.ntmps70 (by kernel_rfl) (by kernel_rfl) rfl rfl ?_;have hS:=St.start w
 repeat' (first|(with_reducible apply a8 a7);rfl;rfl;rfl|refine yDn (by with_reducible constructor) ?_|(with_reducible apply l9 hS);rfl;rfl;rfl;clear hS;intro g w' hS)
 refine l5 (X:=Nat×Int) (fun x=>[(4,.int .i64 (x.1:Nat)),(3,.int .i64 x.2)]) [1] rfl (fun _=>[]) (fun x=>x.1<=sp.length/\x.2=a0g ((sp.map (·.s)).take x.1)/\0<=x.2/\x.2<=70000 * (x.1:Int)) (fun x=>sp.length - x.1) (0,0) (by exact Fr.sub_of rfl) ⟨xg5 _,rfl,xi8 _,xi8 _⟩ hS ?_;clear hS;rintro ⟨i,room⟩ w1 ⟨hi,hroom,hr0,hr1⟩ hS;dsimp only [List.cons_append,List.nil_append] at hi hroom hr0 hr1 hS |-;by_cases hlt:i < sp.length;rotate_left
 ·obtain rfl:i=sp.length:=by omega
  rw [xa0 (by rw [xj4];omega)] at hroom
  repeat' (first|(with_reducible apply a8 a7);rfl;rfl;rfl|(with_reducible apply a9);rfl;(apply Ld.sl a7;rfl;exact hS.blkC 0 rfl rfl);rfl|refine yDn (by with_reducible constructor) ?_|(with_reducible apply b9);rfl;all_goals (intro hb hp;try (exfalso;omega)))
  (refine k8 rfl ?_)
  exact ⟨by rw [hroom],hS.sub (xj6 _)⟩
 obtain ⟨x,hx⟩:=j5 (l:=sp) (i:=i) (by omega);have hxs:(sp.map (·.s))[i]?=some x.s:=d5 (f:=fun p:Sp=>p.s) hx;have hrow:=d5 (f:=spC) hx;obtain ⟨b,off,rfl,hro⟩:=k4.at_ (i:=i) hlt;have hxv:=k5 x (xd0 hx);have hcx:=hc x (xd0 hx);have hsum:=a8w (a0Q (v6.1 hcx).2) x.s.areas.length;have hAl:=(v6.1 hcx).1;rw [xg7] at hsum;have htk:=b0F hxs;have har:=hxv.ar;obtain ⟨s,va,ve⟩:=x;dsimp only at har hcx hsum hAl htk;unfold spC at hrow;dsimp only at hrow;obtain ⟨pa,ca,rfl⟩:=har.len
 repeat' (first|(with_reducible apply a8 a7);rfl;rfl;rfl|(with_reducible apply a9);rfl;(apply Ld.sl a7;rfl;(first|exact hS.blkC 0 rfl rfl|exact hS.roC (by assumption) (by assumption) rfl));rfl|(with_reducible apply l8 a7);rfl;rfl;rfl;rfl;omega;rfl|(with_reducible apply j4);rfl;rfl;omega;omega;rfl|refine yDn (by with_reducible constructor) ?_|(with_reducible apply b9);rfl;all_goals (intro hb hp;try (exfalso;omega))|(with_reducible apply d6 hS);rfl;rfl;rfl;refine ⟨_,b2W (har.now hS) hcx,?_⟩;clear hS;intro w' hS)
 exact e9 (i + 1,room + a0r s.areas) (by exact Fr.sub_of rfl) ⟨by show i + 1<=sp.length;omega,by rw [htk,<- hroom],by show 0<=room + a0r s.areas;omega,by show room + a0r s.areas<=70000 * ((i + 1:Nat):Int);omega⟩ hS (by show sp.length - (i + 1) < sp.length - i;omega)
theorem a5H (l:List (Sh×Value)) (p:Int):a7p (shs l) p=(a25 l p).map (·.1):=by
 unfold a7p a25 shs;rw [List.find?_map];rfl
theorem a80 {w:World} {k:KV} (hK:KerV w k) {a:Ar} {p:Int} {x:List UInt8} (hr:a0V 0 (shs k.sh)=true) (hx:a0H (shs k.sh) a.z p=some x):Fn Tryz.prog 72 [.agg (kvC k).toArray,.agg (arC a).toArray,.int .i64 p] w (RBf (.string ⟨x.toArray⟩) w):=by
 obtain ⟨sh,fr,sl,sp,hand,vsh,vfr,vsl,vsp⟩:=k;obtain ⟨k1,k2,k3,k4,k5⟩:=hK;dsimp only at k1 k2 k3 k4 k5 hr hx |-;have hso:=fun w1 (h:ShsV w1 sh vsh)=>a6d h p;obtain ⟨p1,c1,rfl⟩:=k1.sl.len;obtain ⟨p2,c2,rfl⟩:=k2.len;obtain ⟨p3,c3,rfl⟩:=k3.len;obtain ⟨p4,c4,rfl⟩:=k4.len;unfold kvC arC;dsimp only;unfold a0H at hx
 cases hz:a.z with
 |true=>
  rw [hz,xf0 rfl] at hx
  cases hx
  refine yEn Tryz.func72 Tryz.ntmps72 (by kernel_rfl) (by kernel_rfl) rfl rfl ?_;have hS:=St.start w
  repeat' (first|(with_reducible apply a8 a7);rfl;rfl;rfl|(with_reducible apply a9);rfl;(apply Ld.sc a7;rfl;exact hS.blkC 0 rfl rfl);rfl|refine yDn (by with_reducible constructor) ?_|(with_reducible apply f6);rfl;rfl|(with_reducible apply l9 hS);rfl;rfl;rfl;clear hS;intro g w' hS|(with_reducible apply b2Z hS a7 (m:=16));(iterate 5 rfl);omega;omega;rfl;rfl;intro gz w' hS';clear hS;have hS:=hS';clear hS')
  ((with_reducible apply a09);rfl;exact b0T hS a7 (i:=0) (l:=List.replicate 16 0) rfl rfl rfl rfl (by rw [xi1]) (by unfold bR;rw [xq6];rfl);rintro _ _ ⟨rfl,rfl⟩)
  repeat' (first|(with_reducible apply a8 a7);rfl;rfl;rfl|refine yDn (by with_reducible constructor) ?_)
  (refine k8 rfl ?_)
  exact ⟨rfl,hS.sub (xj6 _)⟩
 |false=>
  rw [hz,xf1 (by simp),a5H] at hx;obtain ⟨y,hy,rfl⟩:∃ y,a25 sh p=some y/\a5w y.1=x:=by
   cases hq:a25 sh p with
   |none=>rw [hq] at hx;cases hx
   |some y=>rw [hq] at hx;exact ⟨y,rfl,by simpa using hx⟩
  have hm:=xi2 hy;have hrt:=((a2P hr).1 y.1 (xj0.2 ⟨y,hm,rfl⟩)).1;have hfx:=k1.fx y hm;obtain ⟨S,u⟩:=y;dsimp only at hrt hfx |-;rw [hy] at hso;unfold a5p at hso;dsimp only [shC] at hso;obtain ⟨pu,cu,rfl⟩:=hfx.len;have hfl:=fun w1 (h:ShV w1 S (.slice pu S.fixes.length cu))=>b2s h hrt;unfold shA shC at hfl;refine yEn Tryz.func72 Tryz.ntmps72 (by kernel_rfl) (by kernel_rfl) rfl rfl ?_;have hS:=St.start w
  repeat' (first|(with_reducible apply a8 a7);rfl;rfl;rfl|(with_reducible apply a9);rfl;(first|apply Ld.sc a7;rfl;exact hS.blkC 0 rfl rfl|apply Ld.sl a7;rfl;exact hS.blkC 1 rfl rfl|apply Ld.st a7;rfl;exact hS.blkR 0 rfl;rfl);rfl|refine yDn (by with_reducible constructor) ?_|(with_reducible apply f8);rfl;rfl|(with_reducible apply l9 hS);rfl;rfl;rfl;clear hS;intro g w' hS|(with_reducible apply d7 hS a7);rfl;rfl;rfl;clear hS;intro g w' hS|(with_reducible apply b8 hS a7 (i:=0));(iterate 8 rfl);exact (rfl:_=[_,_,_]);clear hS;intro w' hS;simp only [List.set] at hS|(with_reducible apply d6 hS);rfl;rfl;rfl;refine ⟨_,hso _ (k1.now hS),?_⟩;clear hS;intro w' hS|(with_reducible apply d6 hS);rfl;rfl;rfl;refine ⟨_,hfl _ (hfx.now hS),?_⟩;clear hS;intro w' hS)
  (refine k8 rfl ?_)
  exact ⟨rfl,hS.sub (xj6 _)⟩
abbrev b2L:=Int×Int×Bool×Ar
def a2K (st:b2L) (m:Nm):b2L:=(st.1 + 1,m.1.page,st.2.2.1 && (decide (st.1=0)||(decide (m.1.page=st.2.1) && decide (m.2.z=st.2.2.2.z))),m.2)
def a0Y (l:List Nm):b2L:=l.foldl a2K (0,0,true,a2H)
def nmV (l:List Nm):Value:=.tuple #[.int .i64 (a0Y l).1,.int .i64 (a0Y l).2.1,.bool (a0Y l).2.2.1,.agg (arC (a0Y l).2.2.2).toArray]
theorem a8K (l:List Nm) (m:Nm):a0Y (l++[m])=a2K (a0Y l) m:=by unfold a0Y;rw [List.foldl_append];rfl
theorem a8V (L:List Sc) (s:Sc) (kind at_:Int):j6 (L++[s]) kind at_=j6 L kind at_++((s.entries.filter fun e=>decide (e.kind=kind/\e.at_=at_)).map (a0J s)):=by
 unfold j6;rw [List.flatMap_append,xm4,xm5,List.append_nil]
def a2Z (s:Sc) (kind at_:Int) (l:List En):List Nm:=(l.filter fun e=>decide (e.kind=kind/\e.at_=at_)).map (a0J s)
theorem b0c {s:Sc} {kind at_:Int} {l:List En} {i:Nat} {e:En} (h:l[i]?=some e) (hk:e.kind=kind/\e.at_=at_):a2Z s kind at_ (l.take (i + 1))=a2Z s kind at_ (l.take i)++[a0J s e]:=by
 unfold a2Z;rw [q8 h,xl0,xl1 (by simpa using hk),xl2,xm0];rfl
theorem a9C {s:Sc} {kind at_:Int} {l:List En} {i:Nat} {e:En} (h:l[i]?=some e) (hk:¬(e.kind=kind/\e.at_=at_)):a2Z s kind at_ (l.take (i + 1))=a2Z s kind at_ (l.take i):=by
 unfold a2Z;rw [q8 h,xl0,xl3 (by simpa using hk),xl2,List.append_nil]
theorem b1L {w:World} {k:KV} (hK:KerV w k) (hc:∀ p ∈ k.sp,l7 p.s.areas=0) (h4:k.sp.length<=4) (hlen:∀ p ∈ k.sp,p.s.entries.length<=255) (kind at_:Int):Fn Tryz.prog 71 [.agg (kvC k).toArray,.int .i64 kind,.int .i64 at_] w (RBf (nmV (j6 (k.sp.map (·.s)) kind at_)) w):=by
 obtain ⟨sh,fr,sl,sp,hand,vsh,vfr,vsl,vsp⟩:=k;obtain ⟨k1,k2,k3,k4,k5⟩:=hK;dsimp only at k1 k2 k3 k4 k5 hc h4 hlen |-;obtain ⟨p1,c1,rfl⟩:=k1.sl.len;obtain ⟨p2,c2,rfl⟩:=k2.len;obtain ⟨p3,c3,rfl⟩:=k3.len;obtain ⟨p4,c4,rfl⟩:=k4.len;unfold kvC;dsimp only;refine yEn Tryz.func71 Tryz.ntmps71 (by kernel_rfl) (by kernel_rfl) rfl rfl ?_;have hS:=St.start w
 repeat' (first|(with_reducible apply a8 a7);rfl;rfl;rfl|refine yDn (by with_reducible constructor) ?_|(with_reducible apply l9 hS);rfl;rfl;rfl;clear hS;intro g w' hS|(with_reducible apply d7 hS a7);rfl;rfl;rfl;clear hS;intro g w' hS)
 rename Nat=>g13
 replace hS:St nF w w' (.blk g13 [.int .i64 0,.int .i64 0,.int .i64 0,.bool false]::_):=hS;refine l5 (X:=Nat×b2L) (fun x=>[(14,.int .i64 (x.1:Nat)),(10,.int .i64 x.2.1),(11,.int .i64 x.2.2.1),(12,.bool x.2.2.2.1)]) [1,2,3,9,13] rfl (fun x=>[.blk g13 [.int .i64 x.2.2.2.2.pg,.int .i64 x.2.2.2.2.n,.int .i64 x.2.2.2.2.prot,.bool x.2.2.2.2.z]]) (fun x=>x.1<=sp.length/\x.2=a0Y (j6 ((sp.map (·.s)).take x.1) kind at_)/\0<=x.2.1/\x.2.1<=255 * (x.1:Int)) (fun x=>sp.length - x.1) (0,0,0,true,a2H) (by exact Fr.sub_of rfl) ⟨xg5 _,rfl,xi8 _,xi8 _⟩ hS ?_;clear hS;rintro ⟨i,n,page,same,ar⟩ w1 ⟨hi,hst,hn0,hn1⟩ hS;dsimp only [List.cons_append,List.nil_append] at hi hst hn0 hn1 hS |-;by_cases hlt:i < sp.length;rotate_left
 ·obtain rfl:i=sp.length:=by omega
  rw [xa0 (by rw [xj4];omega)] at hst;unfold nmV;rw [<- hst]
  repeat' (first|(with_reducible apply a8 a7);rfl;rfl;rfl|(with_reducible apply a9);rfl;(apply Ld.sl a7;rfl;exact hS.blkC 2 rfl rfl);rfl|refine yDn (by with_reducible constructor) ?_|(with_reducible apply b9);rfl;all_goals (intro hb hp;try (exfalso;omega)))
  (focus ((with_reducible apply a0c _ _ _ 7 (by kernel_rfl) (by kernel_rfl) hS);(simp only [xl7,xl8,xm1,xm2]);(repeat' ((first|(with_reducible apply i9 a7);rfl;rfl|(with_reducible apply i7);rfl;(intro wd hd;replace hd:St _ _ wd _:=hd;(apply Ld.st a7;rfl;exact hd.blkR 0 rfl;rfl));rfl)));all_goals ((with_reducible apply j9);intro w' hS';clear hS;have hS:=hS';clear hS')))
  repeat' (first|refine yDn (by with_reducible constructor) ?_|(with_reducible apply b8 hS a7 (i:=1));(iterate 8 rfl);exact (rfl:_=[_,_,_,_]);clear hS;intro w' hS;simp only [List.set] at hS)
  (apply b67);(repeat (first|exact ResL.nil|apply ResL.tmp;rfl|apply ResL.cell;rfl;(apply Ld.st a7;rfl;exact hS.blkR 1 rfl;rfl)))
  exact ⟨rfl,hS.sub (xj6 _)⟩
 obtain ⟨x,hx⟩:=j5 (l:=sp) (i:=i) (by omega);have hxs:(sp.map (·.s))[i]?=some x.s:=d5 (f:=fun p:Sp=>p.s) hx;have hrow:=d5 (f:=spC) hx;obtain ⟨b,off,rfl,hro⟩:=k4.at_ (i:=i) hlt;have hxv:=k5 x (xd0 hx);have hcx:=hc x (xd0 hx);have hlx:=hlen x (xd0 hx);have hara:=hxv.ar;have henx:=hxv.en;obtain ⟨s,va,ve⟩:=x;obtain ⟨live,A,es⟩:=s;dsimp only at hara henx hcx hlx;unfold spC at hrow;dsimp only at hrow;obtain ⟨pa,ca,rfl⟩:=hara.len;obtain ⟨pe,ce,rfl⟩:=henx.len;have hok:=a0Q (v6.1 hcx).2
 repeat' (first|(with_reducible apply a8 a7);rfl;rfl;rfl|(with_reducible apply a9);rfl;(apply Ld.sl a7;rfl;exact hS.blkC 2 rfl rfl);rfl|refine yDn (by with_reducible constructor) ?_|(with_reducible apply b9);rfl;all_goals (intro hb hp;try (exfalso;omega)))
 refine l5 (X:=Nat×b2L) (fun x=>[(15,.int .i64 (x.1:Nat)),(10,.int .i64 x.2.1),(11,.int .i64 x.2.2.1),(12,.bool x.2.2.2.1)]) [1,2,3,9,13,14] rfl (fun x=>[.blk g13 [.int .i64 x.2.2.2.2.pg,.int .i64 x.2.2.2.2.n,.int .i64 x.2.2.2.2.prot,.bool x.2.2.2.2.z]]) (fun x=>x.1<=es.length/\x.2=a0Y (j6 ((sp.map (·.s)).take i) kind at_++a2Z ⟨live,A,es⟩ kind at_ (es.take x.1))/\0<=x.2.1/\x.2.1<=255 * (i:Int) + x.1) (fun x=>es.length - x.1) (0,n,page,same,ar) (by exact Fr.sub_of rfl) ⟨xg5 _,by unfold a2Z;simpa using hst,hn0,by show n<=255 * (i:Int) + ((0:Nat):Int);omega⟩ hS ?_;clear hS hst hn0 hn1;rintro ⟨j,n,page,same,ar⟩ w2 ⟨hj,hst,hn0,hn1⟩ hS;dsimp only [List.cons_append,List.nil_append] at hj hst hn0 hn1 hS |-;by_cases hjl:j < es.length;rotate_left
 ·obtain rfl:j=es.length:=by omega
  repeat' (first|(with_reducible apply a8 a7);rfl;rfl;rfl|(with_reducible apply a9);rfl;(apply Ld.sl a7;rfl;(first|exact hS.blkC 2 rfl rfl|exact hS.roC (by assumption) (by assumption) rfl));rfl|(with_reducible apply l8 a7);rfl;rfl;rfl;rfl;omega;rfl|(with_reducible apply j4);rfl;rfl;omega;omega;rfl|refine yDn (by with_reducible constructor) ?_|(with_reducible apply b9);rfl;all_goals (intro hb hp;try (exfalso;omega)))
  refine e9 (i + 1,n,page,same,ar) (by exact Fr.sub_of rfl) ⟨by show i + 1<=sp.length;omega,?_,hn0,by show n<=255 * ((i + 1:Nat):Int);omega⟩ hS (by show sp.length - (i + 1) < sp.length - i;omega);rw [hst,q8 hxs,a8V,xg7];rfl
 obtain ⟨e,he⟩:=j5 (l:=es) (i:=j) (by omega);have hrow2:=d5 (f:=enC) he;obtain ⟨b2,off2,rfl,hro2⟩:=henx.at_ (i:=j) hjl;unfold enC at hrow2;by_cases hk:e.kind=kind/\e.at_=at_;rotate_left
 ·have hmiss:=a9C (s:=⟨live,A,es⟩) he hk
  repeat' (first|(with_reducible apply a8 a7);rfl;rfl;rfl|(with_reducible apply a9);rfl;(first|apply Ld.sc a7;rfl;exact hS.blkC 0 rfl rfl|apply Ld.sl a7;rfl;(first|exact hS.blkC 2 rfl rfl|exact hS.roC (by assumption) (by assumption) rfl)|apply Ld.st a7;rfl;exact hS.roR (by assumption) (by assumption);rfl);rfl|(with_reducible apply l8 a7);rfl;rfl;rfl;rfl;omega;rfl|(with_reducible apply j4);rfl;rfl;omega;omega;rfl|refine yDn (by with_reducible constructor) ?_|(with_reducible apply k6);(iterate 4 rfl);assumption|(with_reducible apply r9);(iterate 4 rfl);assumption;rfl|(with_reducible apply f7);rfl;assumption;rfl;rfl|(with_reducible apply d9);rfl;assumption;rfl;rfl|(with_reducible apply f6);rfl;rfl|(with_reducible apply d7 hS a7);rfl;rfl;rfl;clear hS;intro g w' hS|(with_reducible apply b8 hS a7 (i:=0));(iterate 8 rfl);exact (rfl:_=[_,_,_]);clear hS;intro w' hS;simp only [List.set] at hS|(with_reducible apply a1S);rfl;rfl;rfl;all_goals (intro hb hp;try (exfalso;omega))|(with_reducible apply b9);rfl;all_goals (intro hb hp;try (exfalso;omega))|(with_reducible apply a1u);rfl;all_goals (intro hb hp;try (exfalso;omega)))
  all_goals exact e9 (j + 1,n,page,same,ar) (by exact Fr.sub_of rfl) ⟨by show j + 1<=es.length;omega,by rw [hmiss];exact hst,hn0,by show n<=255 * (i:Int) + ((j + 1:Nat):Int);omega⟩ hS.drop (by show es.length - (j + 1) < es.length - j;omega)
 have hhit:=b0c (s:=⟨live,A,es⟩) he hk;obtain ⟨hk1,hk2⟩:=hk;have haa:=fun w1 (h:Sl nF w1 4 (.slice pa A.length ca) (A.map arC))=>a2Q e.page h hok;unfold a1I at haa;obtain ⟨a,hag⟩:∃ a,(o9 A e.page).getD a2H=a:=⟨_,rfl⟩;have hnm:a0J ⟨live,A,es⟩ e=(e,a):=by unfold a0J;rw [hag]
 rw [hag] at haa;unfold arC at haa;have hnew:a0Y (j6 ((sp.map (·.s)).take i) kind at_++a2Z ⟨live,A,es⟩ kind at_ (es.take (j + 1)))=(n + 1,e.page,same && (decide (n=0)||(decide (e.page=page) && decide (a.z=ar.z))),a):=by
  rw [hhit,<- xg1,a8K,<- hst,hnm];rfl
 repeat' (first|(with_reducible apply a8 a7);rfl;rfl;rfl|(with_reducible apply a9);rfl;(first|apply Ld.sc a7;rfl;exact hS.blkC 0 rfl rfl|apply Ld.sl a7;rfl;(first|exact hS.blkC 2 rfl rfl|exact hS.roC (by assumption) (by assumption) rfl)|apply Ld.st a7;rfl;exact hS.roR (by assumption) (by assumption);rfl);rfl|(with_reducible apply l8 a7);rfl;rfl;rfl;rfl;omega;rfl|refine yDn (by with_reducible constructor) ?_|(with_reducible apply k6);(iterate 4 rfl);assumption|(with_reducible apply d9);rfl;assumption;rfl;rfl|(with_reducible apply d7 hS a7);rfl;rfl;rfl;clear hS;intro g w' hS|(with_reducible apply b8 hS a7 (i:=0));(iterate 8 rfl);exact (rfl:_=[_,_,_]);clear hS;intro w' hS;simp only [List.set] at hS|(with_reducible apply a1S);rfl;rfl;rfl;all_goals (intro hb hp;try (exfalso;omega))|(with_reducible apply b9);rfl;all_goals (intro hb hp;try (exfalso;omega))|(with_reducible apply a1u);rfl;all_goals (intro hb hp;try (exfalso;omega)))
 refine a8f 15 rfl hS (by kernel_rfl) ?_;intro wh hh;clear hS;have hS:=hh;clear hh
 ((with_reducible apply q7 (nn 0) a7);rfl;kernel_rfl;exact (fun _ _ _ h=>h);exact hS;rfl;rfl)
 ((with_reducible apply a0o (nn 1));rfl;kernel_rfl;exact (fun _ _ _ h=>h);exact hS;rfl;(intro wd hd;replace hd:St _ _ wd _:=hd;(apply Ld.sl a7;rfl;exact hd.blkC 3 rfl rfl));rfl)
 ((with_reducible apply q7 (nn 2) a7);rfl;kernel_rfl;exact (fun _ _ _ h=>h);exact hS;rfl;rfl)
 ((with_reducible apply b6A (nn 3) a7);rfl;kernel_rfl;kernel_rfl;kernel_rfl;exact (fun _ _ _ _ h=>h);exact hS;rfl;rfl;rfl;rfl;omega;rfl)
 ((with_reducible apply q7 (nn 4) a7);rfl;kernel_rfl;exact (fun _ _ _ h=>h);exact hS;rfl;rfl)
 ((with_reducible apply a0o (nn 5));rfl;kernel_rfl;exact (fun _ _ _ h=>h);exact hS;rfl;(intro wd hd;replace hd:St _ _ wd _:=hd;(apply Ld.sl a7;rfl;exact hd.roC (by assumption) (by assumption) rfl));rfl)
 ((with_reducible apply q7 (nn 6) a7);rfl;kernel_rfl;exact (fun _ _ _ h=>h);exact hS;rfl;rfl)
 ((with_reducible apply a0o (nn 7));rfl;kernel_rfl;exact (fun _ _ _ h=>h);exact hS;rfl;(intro wd hd;replace hd:St _ _ wd _:=hd;(apply Ld.sc a7;rfl;exact hd.blkC 0 rfl rfl));rfl)
 refine a4D (i:=8) (j:=12) (by kernel_rfl) ?_ ?_
 ·refine o7 rfl (a0f (first:=[]) (caps:=[]) rfl rfl (haa _ (hara.now hS))) rfl ?_;rintro _ w' ⟨rfl,hS'⟩;replace hS:=hS.transA hS';simp only [t4] at hS;clear hS';refine ⟨hS,?_⟩
  ((with_reducible apply q7 (nn 9) a7);rfl;kernel_rfl;exact (fun _ _ _ h=>h);exact hS;rfl;rfl)
  ((with_reducible apply q7 (nn 10) a7);rfl;kernel_rfl;exact (fun _ _ _ h=>h);exact hS;rfl;rfl)
  ((with_reducible apply q7 (nn 11) a7);rfl;kernel_rfl;exact (fun _ _ _ h=>h);exact hS;rfl;rfl)
  refine t5 (i:=12) (by kernel_rfl) ?_;refine o7 rfl (r8 hS a7 rfl rfl) rfl ?_;rintro _ w' ⟨g,rfl,hS'⟩;clear hS;have hS:=hS';clear hS';refine ⟨hS.drop,?_⟩;refine t5 (i:=13) (by kernel_rfl) ?_;refine y5 (Φ:=fun _ w'=>St _ _ w' _) rfl (n8 hS a7 (i:=0) rfl rfl rfl rfl rfl (xg2 rfl) (xc7.1 rfl)) ?_;intro _ w' hS';simp only [List.set] at hS';clear hS;have hS:=hS';clear hS';refine ⟨hS.drop,?_⟩
  ((with_reducible apply q7 (nn 14) a7);rfl;kernel_rfl;exact (fun _ _ _ h=>h);exact hS.drop;rfl;rfl)
  refine a0G (by kernel_rfl) ?_
  cases same with
  |false=>
   repeat' (first|(with_reducible apply a8 a7);rfl;rfl;rfl|(with_reducible apply a9);rfl;(first|apply Ld.sc a7;rfl;exact hS.blkC 1 rfl rfl|apply Ld.st a7;rfl;exact hS.blkR 0 rfl;rfl);rfl|(with_reducible apply j4);rfl;rfl;omega;omega;rfl|refine yDn (by with_reducible constructor) ?_|(with_reducible apply r9);(iterate 4 rfl);rfl;rfl|(with_reducible apply a1e);(iterate 5 rfl)|(with_reducible apply d9);rfl;rfl;rfl;rfl|(with_reducible apply b8 hS a7 (i:=2));(iterate 8 rfl);exact (rfl:_=[_,_,_,_]);clear hS;intro w' hS;simp only [List.set] at hS)
   exact e9 (j + 1,n + 1,e.page,false,a) (by exact Fr.sub_of rfl) ⟨by show j + 1<=es.length;omega,by rw [hnew];rfl,by show 0<=n + 1;omega,by show n + 1<=255 * (i:Int) + ((j + 1:Nat):Int);omega⟩ hS.drop.drop (by show es.length - (j + 1) < es.length - j;omega)
  |true=>
   by_cases h0:n=0
   ·have hd0:decide (n=0)=true:=xj7 h0
    repeat' (first|(with_reducible apply a8 a7);rfl;rfl;rfl|(with_reducible apply a9);rfl;(first|apply Ld.sc a7;rfl;exact hS.blkC 1 rfl rfl|apply Ld.st a7;rfl;exact hS.blkR 0 rfl;rfl);rfl|(with_reducible apply j4);rfl;rfl;omega;omega;rfl|refine yDn (by with_reducible constructor) ?_|(with_reducible apply k6);(iterate 4 rfl);rfl|(with_reducible apply r9);(iterate 4 rfl);assumption;rfl|(with_reducible apply a1e);(iterate 5 rfl)|(with_reducible apply f7);rfl;(first|rfl|assumption);rfl;rfl|(with_reducible apply b8 hS a7 (i:=2));(iterate 8 rfl);exact (rfl:_=[_,_,_,_]);clear hS;intro w' hS;simp only [List.set] at hS)
    exact e9 (j + 1,n + 1,e.page,true,a) (by exact Fr.sub_of rfl) ⟨by show j + 1<=es.length;omega,by rw [hnew];(rw [hd0];rfl),by show 0<=n + 1;omega,by show n + 1<=255 * (i:Int) + ((j + 1:Nat):Int);omega⟩ hS.drop.drop (by show es.length - (j + 1) < es.length - j;omega)
   ·have hd0:decide (n=0)=false:=xj5 h0;by_cases h1:e.page=page
    ·have hd1:decide (e.page=page)=true:=xj7 h1
     repeat' (first|(with_reducible apply a8 a7);rfl;rfl;rfl|(with_reducible apply a9);rfl;(first|apply Ld.sc a7;rfl;(first|exact hS.blkC 0 rfl rfl|exact hS.blkC 1 rfl rfl|exact hS.blkC 2 rfl rfl)|apply Ld.st a7;rfl;exact hS.blkR 0 rfl;rfl);rfl|(with_reducible apply j4);rfl;rfl;omega;omega;rfl|(with_reducible apply b5X a7);(iterate 4 rfl)|refine yDn (by with_reducible constructor) ?_|((with_reducible apply k6);(iterate 4 rfl);first|rfl|assumption)|(with_reducible apply f7);rfl;(first|rfl|assumption);rfl;rfl|(with_reducible apply d9);rfl;assumption;rfl;rfl|(with_reducible apply b8 hS a7 (i:=2));(iterate 8 rfl);exact (rfl:_=[_,_,_,_]);clear hS;intro w' hS;simp only [List.set] at hS)
     exact e9 (j + 1,n + 1,e.page,(decide (a.z=ar.z)),a) (by exact Fr.sub_of rfl) ⟨by show j + 1<=es.length;omega,by rw [hnew];(rw [hd0,hd1];rfl),by show 0<=n + 1;omega,by show n + 1<=255 * (i:Int) + ((j + 1:Nat):Int);omega⟩ hS.drop.drop (by show es.length - (j + 1) < es.length - j;omega)
    ·have hd1:decide (e.page=page)=false:=xj5 h1
     repeat' (first|(with_reducible apply a8 a7);rfl;rfl;rfl|(with_reducible apply a9);rfl;(first|apply Ld.sc a7;rfl;exact hS.blkC 1 rfl rfl|apply Ld.st a7;rfl;exact hS.blkR 0 rfl;rfl);rfl|(with_reducible apply j4);rfl;rfl;omega;omega;rfl|refine yDn (by with_reducible constructor) ?_|((with_reducible apply k6);(iterate 4 rfl);first|rfl|assumption)|(with_reducible apply r9);(iterate 4 rfl);assumption;rfl|(with_reducible apply f7);rfl;rfl;rfl;rfl|(with_reducible apply d9);rfl;assumption;rfl;rfl|(with_reducible apply b8 hS a7 (i:=2));(iterate 8 rfl);exact (rfl:_=[_,_,_,_]);clear hS;intro w' hS;simp only [List.set] at hS)
     exact e9 (j + 1,n + 1,e.page,false,a) (by exact Fr.sub_of rfl) ⟨by show j + 1<=es.length;omega,by rw [hnew];(rw [hd0,hd1];rfl),by show 0<=n + 1;omega,by show n + 1<=255 * (i:Int) + ((j + 1:Nat):Int);omega⟩ hS.drop.drop (by show es.length - (j + 1) < es.length - j;omega)
 ·refine o7 rfl (r8 hS a7 rfl rfl) rfl ?_;rintro _ w' ⟨g,rfl,hS'⟩;clear hS;have hS:=hS';clear hS';refine ⟨hS.drop,?_⟩;refine t5 (i:=8) (by kernel_rfl) ?_;refine o7 rfl (a0f (first:=[]) (caps:=[]) rfl rfl (haa _ (hara.now hS))) rfl ?_;rintro _ w' ⟨rfl,hS'⟩;replace hS:=hS.transA hS';simp only [t4] at hS;clear hS';refine ⟨hS.drop,?_⟩
  ((with_reducible apply q7 (nn 9) a7);rfl;kernel_rfl;exact (fun _ _ _ h=>h);exact hS.drop;rfl;rfl)
  ((with_reducible apply q7 (nn 10) a7);rfl;kernel_rfl;exact (fun _ _ _ h=>h);exact hS.drop;rfl;rfl)
  ((with_reducible apply q7 (nn 11) a7);rfl;kernel_rfl;exact (fun _ _ _ h=>h);exact hS.drop;rfl;rfl)
  refine t5 (i:=13) (by kernel_rfl) ?_;refine y5 (Φ:=fun _ w'=>St _ _ w' _) rfl (n8 hS a7 (i:=0) rfl rfl rfl rfl rfl (xg2 rfl) (xc7.1 rfl)) ?_;intro _ w' hS';simp only [List.set] at hS';clear hS;have hS:=hS';clear hS';refine ⟨hS.drop,?_⟩
  ((with_reducible apply q7 (nn 14) a7);rfl;kernel_rfl;exact (fun _ _ _ h=>h);exact hS.drop;rfl;rfl)
  refine a0G (by kernel_rfl) ?_
  cases same with
  |false=>
   repeat' (first|(with_reducible apply a8 a7);rfl;rfl;rfl|(with_reducible apply a9);rfl;(first|apply Ld.sc a7;rfl;exact hS.blkC 1 rfl rfl|apply Ld.st a7;rfl;exact hS.blkR 0 rfl;rfl);rfl|(with_reducible apply j4);rfl;rfl;omega;omega;rfl|refine yDn (by with_reducible constructor) ?_|(with_reducible apply r9);(iterate 4 rfl);rfl;rfl|(with_reducible apply a1e);(iterate 5 rfl)|(with_reducible apply d9);rfl;rfl;rfl;rfl|(with_reducible apply b8 hS a7 (i:=2));(iterate 8 rfl);exact (rfl:_=[_,_,_,_]);clear hS;intro w' hS;simp only [List.set] at hS)
   exact e9 (j + 1,n + 1,e.page,false,a) (by exact Fr.sub_of rfl) ⟨by show j + 1<=es.length;omega,by rw [hnew];rfl,by show 0<=n + 1;omega,by show n + 1<=255 * (i:Int) + ((j + 1:Nat):Int);omega⟩ hS.drop.drop (by show es.length - (j + 1) < es.length - j;omega)
  |true=>
   by_cases h0:n=0
   ·have hd0:decide (n=0)=true:=xj7 h0
    repeat' (first|(with_reducible apply a8 a7);rfl;rfl;rfl|(with_reducible apply a9);rfl;(first|apply Ld.sc a7;rfl;exact hS.blkC 1 rfl rfl|apply Ld.st a7;rfl;exact hS.blkR 0 rfl;rfl);rfl|(with_reducible apply j4);rfl;rfl;omega;omega;rfl|refine yDn (by with_reducible constructor) ?_|(with_reducible apply k6);(iterate 4 rfl);rfl|(with_reducible apply r9);(iterate 4 rfl);assumption;rfl|(with_reducible apply a1e);(iterate 5 rfl)|(with_reducible apply f7);rfl;(first|rfl|assumption);rfl;rfl|(with_reducible apply b8 hS a7 (i:=2));(iterate 8 rfl);exact (rfl:_=[_,_,_,_]);clear hS;intro w' hS;simp only [List.set] at hS)
    exact e9 (j + 1,n + 1,e.page,true,a) (by exact Fr.sub_of rfl) ⟨by show j + 1<=es.length;omega,by rw [hnew];(rw [hd0];rfl),by show 0<=n + 1;omega,by show n + 1<=255 * (i:Int) + ((j + 1:Nat):Int);omega⟩ hS.drop.drop (by show es.length - (j + 1) < es.length - j;omega)
   ·have hd0:decide (n=0)=false:=xj5 h0;by_cases h1:e.page=page
    ·have hd1:decide (e.page=page)=true:=xj7 h1
     repeat' (first|(with_reducible apply a8 a7);rfl;rfl;rfl|(with_reducible apply a9);rfl;(first|apply Ld.sc a7;rfl;(first|exact hS.blkC 0 rfl rfl|exact hS.blkC 1 rfl rfl|exact hS.blkC 2 rfl rfl)|apply Ld.st a7;rfl;exact hS.blkR 0 rfl;rfl);rfl|(with_reducible apply j4);rfl;rfl;omega;omega;rfl|(with_reducible apply b5X a7);(iterate 4 rfl)|refine yDn (by with_reducible constructor) ?_|((with_reducible apply k6);(iterate 4 rfl);first|rfl|assumption)|(with_reducible apply f7);rfl;(first|rfl|assumption);rfl;rfl|(with_reducible apply d9);rfl;assumption;rfl;rfl|(with_reducible apply b8 hS a7 (i:=2));(iterate 8 rfl);exact (rfl:_=[_,_,_,_]);clear hS;intro w' hS;simp only [List.set] at hS)
     exact e9 (j + 1,n + 1,e.page,(decide (a.z=ar.z)),a) (by exact Fr.sub_of rfl) ⟨by show j + 1<=es.length;omega,by rw [hnew];(rw [hd0,hd1];rfl),by show 0<=n + 1;omega,by show n + 1<=255 * (i:Int) + ((j + 1:Nat):Int);omega⟩ hS.drop.drop (by show es.length - (j + 1) < es.length - j;omega)
    ·have hd1:decide (e.page=page)=false:=xj5 h1
     repeat' (first|(with_reducible apply a8 a7);rfl;rfl;rfl|(with_reducible apply a9);rfl;(first|apply Ld.sc a7;rfl;exact hS.blkC 1 rfl rfl|apply Ld.st a7;rfl;exact hS.blkR 0 rfl;rfl);rfl|(with_reducible apply j4);rfl;rfl;omega;omega;rfl|refine yDn (by with_reducible constructor) ?_|((with_reducible apply k6);(iterate 4 rfl);first|rfl|assumption)|(with_reducible apply r9);(iterate 4 rfl);assumption;rfl|(with_reducible apply f7);rfl;rfl;rfl;rfl|(with_reducible apply d9);rfl;assumption;rfl;rfl|(with_reducible apply b8 hS a7 (i:=2));(iterate 8 rfl);exact (rfl:_=[_,_,_,_]);clear hS;intro w' hS;simp only [List.set] at hS)
     exact e9 (j + 1,n + 1,e.page,false,a) (by exact Fr.sub_of rfl) ⟨by show j + 1<=es.length;omega,by rw [hnew];(rw [hd0,hd1];rfl),by show 0<=n + 1;omega,by show n + 1<=255 * (i:Int) + ((j + 1:Nat):Int);omega⟩ hS.drop.drop (by show es.length - (j + 1) < es.length - j;omega)
theorem a45 {A:List Ar}:∀ {e:Int},v9 e A->∀ a ∈ A,e<=a.pg/\a.ok:=by
 induction A with
 |nil=>intro e _ a h;cases h
 |cons b A ih=>
  intro e h a ha;obtain ⟨h1,h2,h3⟩:=h;rcases xc4.1 ha with rfl|ha
  ·exact ⟨h2,h1⟩
  ·have:=ih h3 a ha;unfold Ar.ok at h1;unfold Ar.fin at this;exact ⟨by omega,this.2⟩
theorem b2c {A:List Ar}:∀ {e:Int},v9 e A->∀ a ∈ A,∀ p,a.pg<=p->p < a.pg + a.n->o9 A p=some a:=by
 induction A with
 |nil=>intro e _ a h;cases h
 |cons b A ih=>
  intro e h a ha p h1 h2;obtain ⟨g1,g2,g3⟩:=h;unfold o9;rcases xc4.1 ha with rfl|ha
  ·rw [List.find?_cons_of_pos];unfold z8 Ar.fin;exact xj7 ⟨h1,h2⟩
  ·have:=(a45 g3 a ha).1;unfold Ar.fin at this;rw [xq8]
   ·exact ih g3 a ha p h1 h2
   ·unfold z8 Ar.fin;rw [xb3];omega
def a7x (l:List Sh) (A:List Ar) (p:Int):Bool:=match o9 A p with
 |some a=>a.z||(a7p l p).isSome
 |none=>true
theorem a6o {l:List Sh} {A:List Ar} (hg:a4p A):a1C l A=true ↔ ∀ p:Int,1<=p->p<=255->a7x l A p=true:=by
 constructor
 ·intro h p h1 h2;unfold a7x
  cases hf:o9 A p with
  |none=>rfl
  |some a=>
   have hm:=xi2 hf;have hh:=xi4 hf;unfold z8 Ar.fin at hh;rw [xb3] at hh;unfold a1C at h;have h3:=xc7.1 (xc7.1 h a hm) (p - a.pg).toNat (by rw [xi5];omega);rw [show a.pg + (((p - a.pg).toNat:Nat):Int)=p by omega] at h3;unfold a0H at h3;show (a.z||(a7p l p).isSome)=true
   cases hz:a.z with
   |true=>rfl
   |false=>rw [hz,xf1 (by simp)] at h3;simpa using h3
 ·intro h;unfold a1C;rw [xc7];intro a ha;rw [xc7];intro j hj;rw [xi5] at hj;have h1:=a45 hg.1 a ha;have hok:=h1.2;unfold Ar.ok at hok;have hf:=b2c hg.1 a ha (a.pg + (j:Nat)) (by omega) (by omega);have h3:=h (a.pg + (j:Nat)) (by omega) (by omega);unfold a7x at h3;rw [hf] at h3;unfold a0H
  cases hz:a.z with
  |true=>rfl
  |false=>rw [xf1 (by simp)];simpa [hz] using h3
theorem a6O {A:List Ar} (hc:l7 A=0) {e:En} (h:(o9 A e.page).isSome=true):0 < e.page:=by
 obtain ⟨a,ha⟩:=xi3.1 h;have:=(a0U hc ha).2;omega
end Go.Proofs.YtejnpppejalhfabGreat
