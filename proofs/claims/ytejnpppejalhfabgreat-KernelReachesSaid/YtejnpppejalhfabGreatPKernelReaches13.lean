/- Texts that the proof stands on, one behind the other: Ke40, Ke24, Ke25, Sc27, Ke26, Ke27. -/
import Derived.Test.YtejnpppejalhfabGreatPKernelReaches12
set_option linter.unusedVariables false
set_option linter.unusedSimpArgs false
namespace Go.Proofs.YtejnpppejalhfabGreat
set_option maxRecDepth 100000
set_option maxHeartbeats 8000000
open Go.RowKit Go.Sort
theorem b5d {w:World} {k:KV} (hK:KerV w k) (hB:KBd k):Fn Tryz.prog 32 [.agg (kvC k).toArray] w (fun v w'=>∃ k':KV,v=.agg (kvC k').toArray/\k'.K=k.K/\St nF w w' (kA k')):=by
 obtain ⟨sh,fr,sl,sp,hand,vsh,vfr,vsl,vsp⟩:=k;obtain ⟨k1,k2,k3,k4,k5⟩:=hK;obtain ⟨b1,b2,b3,b4,b5,b6,b7⟩:=hB;dsimp only at k1 k2 k3 k4 k5 b1 b2 b3 b4 b5 b6 b7 |-;obtain ⟨p1,c1,rfl⟩:=k1.sl.len;obtain ⟨p2,c2,rfl⟩:=k2.len;obtain ⟨p3,c3,rfl⟩:=k3.len;obtain ⟨p4,c4,rfl⟩:=k4.len;unfold kvC;dsimp only;refine yEn Tryz.func32 Tryz.ntmps32 (by kernel_rfl) (by kernel_rfl) rfl rfl ?_;have hS:=St.start w
 (repeat ((refine yDn (by with_reducible constructor) ?_)))
 (((with_reducible apply l6 hS);rfl;rfl;rfl);clear hS;intro g1 w' hS)
 (((with_reducible apply d7 hS a7);rfl;rfl;rfl);clear hS;intro g2 w' hS)
 (repeat (first|(with_reducible apply a8 a7);rfl;rfl;rfl|(with_reducible apply a9);rfl;(apply Ld.sc a7;rfl;exact hS.blkC 1 rfl rfl);rfl|(with_reducible apply l4 a7);rfl;rfl;exact (rfl:_=some [_,_,_,_,_]);rfl|refine yDn (by with_reducible constructor) ?_))
 (((with_reducible apply d7 hS a7);rfl;rfl;rfl);clear hS;intro g3 w' hS)
 repeat' (first|(with_reducible apply a8 a7);rfl;rfl;rfl|refine yDn (by with_reducible constructor) ?_|(with_reducible apply b8 hS a7 (i:=0));(iterate 8 rfl);exact (rfl:_=[_,_,_,_,_]);clear hS;intro w' hS;simp only [List.set] at hS)
 replace hS:=hS.addNil 94 3;have hsl1:=k1.sl;refine l7 (F:=nF) (w0:=w) (X:=Option Addr×Nat×List (Sh×Value)) (fun x=>[(4,.int .i64 (x.2.2.length:Nat))]) [1,2,3] rfl (fun x=>[.row 94 3 (.slice x.1 x.2.2.length x.2.1) (a3j x.2.2),.blk g3 [.slice x.1 x.2.2.length x.2.1,.slice none 0 0,.slice none 0 0,.slice none 0 0,.int .i64 hand],.blk g2 [.slice none 0 0,.slice none 0 0,.slice none 0 0,.slice none 0 0,.int .i64 0],.blk g1 [.slice p1 sh.length c1,.slice p2 fr.length c2,.slice p3 sl.length c3,.slice p4 sp.length c4,.int .i64 hand]]++x.2.2.map fxA) (Γ:=[]) (fun x=>x.2.2.length<=sh.length/\shs x.2.2=(shs sh).take x.2.2.length) (fun x=>sh.length - x.2.2.length) (none,0,[]) (by exact Fr.sub_of rfl) ⟨xg6 _,rfl⟩ hS ?_;clear hS;rintro ⟨qH,cH,N⟩ w1 ⟨hN,hNs⟩ hS;dsimp only [List.cons_append,List.nil_append,List.append_nil] at hN hNs hS |-;rw [List.append_nil] at hS;by_cases hlt:N.length < sh.length
 ·obtain ⟨x,hx⟩:=j3 (l:=sh) (i:=N.length) (by omega);have hrow:=c9 (f:=fun p:Sh×Value=>shC p.1 p.2) hx;obtain ⟨b,off,rfl,hro⟩:=hsl1.at_ (i:=N.length) hlt;have hfx:=k1.fx x (xd0 hx);have hfl:=b5 x (xd0 hx);obtain ⟨S,u⟩:=x;dsimp only [shC] at hrow hfx hfl;obtain ⟨pu,cu,rfl⟩:=hfx.len
  repeat' (first|(with_reducible apply a8 a7);rfl;rfl;rfl|(with_reducible apply a9);rfl;(first|apply Ld.sl a7;rfl;(first|exact hS.blkC 1 rfl rfl|exact hS.blkC 3 rfl rfl)|apply Ld.st a7;rfl;(first|exact hS.blkR 1 rfl|exact hS.roR (by assumption) (by assumption));rfl);rfl|(with_reducible apply l9 a7);rfl;rfl;rfl;rfl;omega;rfl|refine yDn (by with_reducible constructor) ?_|(with_reducible apply d7 hS a7);rfl;rfl;rfl;clear hS;intro g w' hS|(with_reducible apply a0S hS a7);(iterate 7 rfl);clear hS;intro g w' hS|(with_reducible apply b8 hS a7 (i:=0));(iterate 8 rfl);exact (rfl:_=[_,_,_]);clear hS;intro w' hS;simp only [List.set] at hS|(with_reducible apply b8 hS a7 (i:=1));(iterate 8 rfl);exact (rfl:_=[_,_,_]);clear hS;intro w' hS;simp only [List.set] at hS|(with_reducible apply d5);rfl;all_goals (intro hb hp;try (exfalso;omega))|(((with_reducible apply a05 hS a7 0);(iterate 4 rfl);exact hfx.now hS;(simp only [xj1,xb1,xa2,xe9];omega);rfl;clear hS;intro qX cX w' hS;simp only [List.set] at hS);simp only [xa2,xj1,xa9,List.nil_append] at hS |-))
  have hsr:(a3j N).length=N.length:=by unfold a3j;rw [xj1]
  repeat' (first|(with_reducible apply a8 a7);rfl;rfl;rfl|(with_reducible apply j0);rfl;rfl;omega;omega;rfl|refine yDn (by with_reducible constructor) ?_|(with_reducible apply b8 hS a7 (i:=4));(iterate 8 rfl);exact (rfl:_=[_,_,_,_,_]);clear hS;intro w' hS;simp only [List.set] at hS|(with_reducible apply a2t hS a7 3);(iterate 4 rfl);exact hS.rowRo 0 rfl;rfl;omega;rfl;intro p' cap' w' hS';simp only [List.set] at hS';clear hS;have hS:=hS';clear hS')
  rw [hsr] at hS |-
  repeat' (fail)
  replace hS:=St.reorderT 7 [3,4,5,6,1] hS (by decide) rfl;simp only [v7,xl8,xl9] at hS;have hyS:fxA (S,.slice qX S.fixes.length cX)=.row 96 2 (.slice qX S.fixes.length cX) (S.fixes.map fxC):=rfl;rw [<- hyS] at hS;refine f7 (p',cap',N++[(S,.slice qX S.fixes.length cX)]) ?_ ?_ ?_ ?_
  ·dsimp only;rw [xe9,xi8];exact Fr.sub_of rfl
  ·dsimp only;refine ⟨by rw [xe9,xi8];omega,?_⟩;rw [xe9,xi8,q9 (a3q hx),<- hNs];unfold shs;rw [xl7];rfl
  ·dsimp only;unfold a3j at hS |-;rw [xe9,xi8,xl7,xl7,List.append_nil];refine hS.perm ?_
   repeat (apply List.Perm.cons)
   exact (xm4 _ _).symm
  ·dsimp only;rw [xe9,xi8];omega
 have hNn:N.length=sh.length:=by omega
 replace hS:=((hS.addNil 89 4).addNil 143 2).addNil 75 3;have hsl4:=k4
 repeat' (first|(with_reducible apply a8 a7);rfl;rfl;rfl|(with_reducible apply a9);rfl;(apply Ld.sl a7;rfl;(first|exact hS.blkC 4 rfl rfl|exact hS.blkC 6 rfl rfl));rfl|refine yDn (by with_reducible constructor) ?_|(with_reducible apply b8 hS a7 (i:=4));(iterate 8 rfl);exact (rfl:_=[_,_,_,_,_]);clear hS;intro w' hS;simp only [List.set] at hS|(with_reducible apply d5);rfl;all_goals (intro hb hp;try (exfalso;omega))|(((with_reducible apply a05 hS a7 2);(iterate 4 rfl);exact k2.now hS;(simp only [xj1,xb1,xa2,xe9];omega);rfl;clear hS;intro qF cF w' hS;simp only [List.set] at hS);simp only [xa2,xj1,xa9,List.nil_append] at hS |-)|(((with_reducible apply a05 hS a7 1);(iterate 4 rfl);exact k3.now hS;(simp only [xj1,xb1,xa2,xe9];omega);rfl;clear hS;intro qS cS w' hS;simp only [List.set] at hS);simp only [xa2,xj1,xa9,List.nil_append] at hS |-))
 replace hS:=St.reorderT 7 [4,0,3,2,1,5,6] hS (by decide) rfl;simp only [v7,xl8,xl9] at hS;refine l7 (F:=nF) (w0:=w) (X:=Option Addr×Nat×List Sp) (fun x=>[(6,.int .i64 (x.2.2.length:Nat))]) [1,2,3] rfl (fun x=>[.blk g3 [.slice qH N.length cH,.slice qF fr.length cF,.slice qS sl.length cS,.slice x.1 x.2.2.length x.2.1,.int .i64 hand],.row 75 3 (.slice x.1 x.2.2.length x.2.1) (x.2.2.map spC),.row 94 3 (.slice qH N.length cH) (a3j N),.row 89 4 (.slice qF fr.length cF) (fr.map fmC),.row 143 2 (.slice qS sl.length cS) (sl.map swC),.blk g2 [.slice none 0 0,.slice none 0 0,.slice none 0 0,.slice none 0 0,.int .i64 0],.blk g1 [.slice p1 sh.length c1,.slice p2 fr.length c2,.slice p3 sl.length c3,.slice p4 sp.length c4,.int .i64 hand]]++(N.map fxA++spA x.2.2)) (Γ:=[]) (fun x=>x.2.2.length<=sp.length/\x.2.2.map (·.s)=(sp.map (·.s)).take x.2.2.length) (fun x=>sp.length - x.2.2.length) (none,0,[]) (by exact Fr.sub_of rfl) ⟨xg6 _,rfl⟩ (by show St nF w _ ((_++(N.map fxA++[]))++[]);rw [List.append_nil,List.append_nil];exact hS) ?_;clear hS;rintro ⟨qP,cP,M⟩ w1 ⟨hM,hMs⟩ hS;dsimp only [List.cons_append,List.nil_append] at hM hMs hS |-;rw [List.append_nil] at hS;by_cases hlt2:M.length < sp.length;rotate_left
 ·have hMn:M.length=sp.length:=by omega
  repeat' (first|(with_reducible apply a8 a7);rfl;rfl;rfl|(with_reducible apply a9);rfl;(first|apply Ld.sl a7;rfl;exact hS.blkC 6 rfl rfl|apply Ld.st a7;rfl;exact hS.blkR 0 rfl;rfl);rfl|refine yDn (by with_reducible constructor) ?_|(with_reducible apply d5);rfl;all_goals (intro hb hp;try (exfalso;omega))|(with_reducible apply b8 hS a7 (i:=5));(iterate 8 rfl);exact (rfl:_=[_,_,_,_,_]);clear hS;intro w' hS;simp only [List.set] at hS)
  (apply w7;repeat (first|exact ResL.nil|apply ResL.cell;rfl;(apply Ld.st a7;rfl;exact hS.blkR 5 rfl;rfl)))
  rw [hNn] at hNs hS |-;rw [hMn] at hMs hS |-;rw [xa0 (by rw [a1S];omega)] at hNs;rw [xa0 (by rw [xj1];omega)] at hMs;refine ⟨⟨N,fr,sl,M,hand,.slice qH sh.length cH,.slice qF fr.length cF,.slice qS sl.length cS,.slice qP sp.length cP⟩,rfl,?_,?_⟩
  ·unfold KV.K;dsimp only;rw [hNs,hMs]
  ·unfold kA;dsimp only;replace hS:=hS.reorderT 7 [2,3,4,1] (by decide) rfl;simp only [v7,xl8,xl9] at hS;exact hS
 obtain ⟨x,hx⟩:=j3 (l:=sp) (i:=M.length) (by omega);have hxs:(sp.map (·.s))[M.length]?=some x.s:=c9 (f:=fun p:Sp=>p.s) hx;have hrow:=c9 (f:=spC) hx;obtain ⟨b,off,rfl,hro⟩:=hsl4.at_ (i:=M.length) hlt2;have hxv:=k5 x (xd0 hx);have hxa:=b6 x (xd0 hx);have hxe:=b7 x (xd0 hx);have har:=hxv.ar;have hen:=hxv.en;obtain ⟨s,va,ve⟩:=x;dsimp only at har hen hxa hxe hxs;obtain ⟨pa,ca,rfl⟩:=har.len;obtain ⟨pe,ce,rfl⟩:=hen.len;unfold spC at hrow;dsimp only at hrow
 repeat' (first|(with_reducible apply a8 a7);rfl;rfl;rfl|(with_reducible apply a9);rfl;(first|apply Ld.sl a7;rfl;exact hS.blkC 6 rfl rfl|apply Ld.st a7;rfl;exact hS.roR (by assumption) (by assumption);rfl);rfl|(with_reducible apply l9 a7);rfl;rfl;rfl;rfl;omega;rfl|refine yDn (by with_reducible constructor) ?_|(with_reducible apply d7 hS a7);rfl;rfl;rfl;clear hS;intro g w' hS|(with_reducible apply b8 hS a7 (i:=0));(iterate 8 rfl);exact (rfl:_=[_,_,_]);clear hS;intro w' hS;simp only [List.set] at hS|(with_reducible apply d5);rfl;all_goals (intro hb hp;try (exfalso;omega)))
 refine a1U 2 16 17 rfl hS (by kernel_rfl) ?_;intro w10 hS';clear hS;have hS:=hS';clear hS';simp only [xl4,xl5];have hH:=hS.sub (xm5 [_,_] _)
 ((with_reducible apply j9 (nn 0) a7);rfl;kernel_rfl;exact (fun _ _ _ h=>h);exact xd3 hH;rfl;rfl)
 ((with_reducible apply n6 (nn 1));rfl;kernel_rfl;kernel_rfl;rfl;exact (fun _ _ _ h=>h);exact hH;rfl;(intro w2 hw2;(replace hw2:St _ _ w2 _:=hw2;(apply Ld.sl a7;rfl;exact hw2.blkC 1 rfl rfl)));rfl)
 ((with_reducible apply j9 (nn 2) a7);rfl;kernel_rfl;exact (fun _ _ _ h=>h);exact xd3 hH;rfl;rfl)
 ((with_reducible apply n6 (nn 3));rfl;kernel_rfl;kernel_rfl;rfl;exact (fun _ _ _ h=>h);exact hH;rfl;(intro w2 hw2;(replace hw2:St _ _ w2 _:=hw2;(apply Ld.sc a7;rfl;exact hw2.blkC 0 rfl rfl)));rfl)
 ((with_reducible apply j9 (nn 5) a7);rfl;kernel_rfl;exact (fun _ _ _ h=>h);exact xd3 hH;rfl;rfl)
 ((with_reducible apply n6 (nn 6));rfl;kernel_rfl;kernel_rfl;rfl;exact (fun _ _ _ h=>h);exact hH;rfl;(intro w2 hw2;(replace hw2:St _ _ w2 _:=hw2;(apply Ld.sl a7;rfl;exact hw2.blkC 0 rfl rfl)));rfl)
 ((with_reducible apply j9 (nn 9) a7);rfl;kernel_rfl;exact (fun _ _ _ h=>h);exact xd3 hH;rfl;rfl)
 ((with_reducible apply n6 (nn 10));rfl;kernel_rfl;kernel_rfl;rfl;exact (fun _ _ _ h=>h);exact hH;rfl;(intro w2 hw2;(replace hw2:St _ _ w2 _:=hw2;(apply Ld.sl a7;rfl;exact hw2.blkC 0 rfl rfl)));rfl)
 refine a8d (i:=4) (j:=8) (by kernel_rfl) ?_ ?_
 ·refine m7 rfl (y0 hS a7 rfl rfl rfl rfl rfl rfl) rfl ?_;rintro _ w' ⟨gA,rfl,hS'⟩;clear hS;have hS:=hS';clear hS';refine ⟨xd3 (xd3 (hS.drop.sub (xm5 [_,_] _))),?_⟩;refine a8d (i:=7) (j:=8) (by kernel_rfl) ?_ ?_
  ·refine m7 rfl (a0z hS a7 (i:=0) rfl rfl rfl rfl (har.now hS) (by simp only [xj1,xa2];omega)) rfl ?_;rintro _ w' ⟨qA,cA,rfl,hS'⟩;simp only [List.set,xa2,xj1,xa9,List.nil_append] at hS' |-;clear hS;have hS:=hS';clear hS';refine ⟨xd3 (xd3 (hS.drop.sub (xm5 [_,_] _))),?_⟩;refine p9 (i:=8) (by kernel_rfl) ?_;refine m7 rfl (y0 hS a7 rfl rfl rfl rfl rfl rfl) rfl ?_;rintro _ w' ⟨gE,rfl,hS'⟩;clear hS;have hS:=hS';clear hS';refine ⟨xd3 (xd3 (hS.drop.drop.sub (xm5 [_,_] _))),?_⟩;refine p9 (i:=11) (by kernel_rfl) ?_;refine m7 rfl (a0z hS a7 (i:=0) rfl rfl rfl rfl (hen.now hS) (by simp only [xj1,xa2];omega)) rfl ?_;rintro _ w' ⟨qE,cE,rfl,hS'⟩;simp only [List.set,xa2,xj1,xa9,List.nil_append] at hS' |-;clear hS;have hS:=hS';clear hS';refine ⟨xd3 (xd3 (hS.drop.drop.sub (xm5 [_,_] _))),?_⟩;have hH:=hS.drop.drop.sub (xm5 [_,_] _)
   ((with_reducible apply a3S (nn 12) a7);rfl;kernel_rfl;kernel_rfl;kernel_rfl;rfl;exact (fun _ _ _ _ h=>h);exact xd3 hH;rfl;rfl;exact (rfl:_=some [_,_,_]);rfl)
   refine p9 (i:=13) (by kernel_rfl) ?_;refine m7 rfl (y0 hS a7 rfl rfl rfl rfl rfl rfl) rfl ?_;rintro _ w' ⟨g9,rfl,hS'⟩;clear hS;have hS:=hS';clear hS';refine ⟨xd3 (xd3 (hS.drop.drop.drop.sub (xm5 [_,_] _))),?_⟩;refine p9 (i:=14) (by kernel_rfl) ?_;refine m7 rfl (a0v hS a7 (i:=5) rfl rfl rfl rfl (hS.rowRo 0 rfl) rfl (by simp only [xj1];omega)) rfl ?_;rintro _ w' ⟨p',c',rfl,hS'⟩;simp only [List.set,xj1] at hS' |-;clear hS;have hS:=hS';clear hS';have hH:=hS.drop.drop.drop.sub (xm5 [_,_] _);refine ⟨xd3 (xd3 hH),?_⟩
   ((with_reducible apply j9 (nn 15) a7);rfl;kernel_rfl;exact (fun _ _ _ h=>h);exact xd3 hH;rfl;rfl)
   refine p9 (i:=16) (by kernel_rfl) ?_;refine a1a (Φ:=fun _ w'=>St _ _ w' _) rfl (l8 hS a7 (i:=4) rfl rfl rfl rfl rfl (xg3 rfl) (by intro u hu;simp [Value.cells] at hu;subst hu;rfl)) ?_;intro _ w' hS';simp only [List.set] at hS';clear hS;have hS:=hS';clear hS';refine ⟨xd6 rfl,?_⟩;refine a1c (by kernel_rfl) ?_
   repeat' (first|(with_reducible apply a8 a7);rfl;rfl;rfl|(with_reducible apply j0);rfl;rfl;omega;omega;rfl|refine yDn (by with_reducible constructor) ?_)
   refine f7 (p',c',M++[⟨s,.slice qA s.areas.length cA,.slice qE s.entries.length cE⟩]) ?_ ?_ ?_ ?_
   ·dsimp only;rw [xe9,xi8];exact Fr.sub_of rfl
   ·dsimp only;refine ⟨by rw [xe9,xi8];omega,?_⟩;rw [xe9,xi8,q9 hxs,<- hMs,xl7];rfl
   ·replace hS:=hS.reorderT 11 [4,5,6,7,8,9,10,2,1] (by decide) rfl;simp only [v7,xl8,xl9] at hS;dsimp only;rw [xe9,xi8,xl7,List.append_nil,a4D];refine hS.perm ?_
    repeat (apply List.Perm.cons)
    rw [<- xg2];exact xm6 (l₁:=[_,_])
   ·dsimp only;rw [xe9,xi8];omega
  ·refine m7 rfl (y0 hS a7 rfl rfl rfl rfl rfl rfl) rfl ?_;rintro _ w' ⟨gE,rfl,hS'⟩;clear hS;have hS:=hS';clear hS';refine ⟨xd3 (xd3 (hS.drop.drop.sub (xm5 [_,_] _))),?_⟩;refine p9 (i:=7) (by kernel_rfl) ?_;refine m7 rfl (a0z hS a7 (i:=1) rfl rfl rfl rfl (har.now hS) (by simp only [xj1,xa2];omega)) rfl ?_;rintro _ w' ⟨qA,cA,rfl,hS'⟩;simp only [List.set,xa2,xj1,xa9,List.nil_append] at hS' |-;clear hS;have hS:=hS';clear hS';refine ⟨xd3 (xd3 (hS.drop.drop.sub (xm5 [_,_] _))),?_⟩;refine p9 (i:=11) (by kernel_rfl) ?_;refine m7 rfl (a0z hS a7 (i:=0) rfl rfl rfl rfl (hen.now hS) (by simp only [xj1,xa2];omega)) rfl ?_;rintro _ w' ⟨qE,cE,rfl,hS'⟩;simp only [List.set,xa2,xj1,xa9,List.nil_append] at hS' |-;clear hS;have hS:=hS';clear hS';refine ⟨xd3 (xd3 (hS.drop.drop.sub (xm5 [_,_] _))),?_⟩;have hH:=hS.drop.drop.sub (xm5 [_,_] _)
   ((with_reducible apply a3S (nn 12) a7);rfl;kernel_rfl;kernel_rfl;kernel_rfl;rfl;exact (fun _ _ _ _ h=>h);exact xd3 hH;rfl;rfl;exact (rfl:_=some [_,_,_]);rfl)
   refine p9 (i:=13) (by kernel_rfl) ?_;refine m7 rfl (y0 hS a7 rfl rfl rfl rfl rfl rfl) rfl ?_;rintro _ w' ⟨g9,rfl,hS'⟩;clear hS;have hS:=hS';clear hS';refine ⟨xd3 (xd3 (hS.drop.drop.drop.sub (xm5 [_,_] _))),?_⟩;refine p9 (i:=14) (by kernel_rfl) ?_;refine m7 rfl (a0v hS a7 (i:=5) rfl rfl rfl rfl (hS.rowRo 0 rfl) rfl (by simp only [xj1];omega)) rfl ?_;rintro _ w' ⟨p',c',rfl,hS'⟩;simp only [List.set,xj1] at hS' |-;clear hS;have hS:=hS';clear hS';have hH:=hS.drop.drop.drop.sub (xm5 [_,_] _);refine ⟨xd3 (xd3 hH),?_⟩
   ((with_reducible apply j9 (nn 15) a7);rfl;kernel_rfl;exact (fun _ _ _ h=>h);exact xd3 hH;rfl;rfl)
   refine p9 (i:=16) (by kernel_rfl) ?_;refine a1a (Φ:=fun _ w'=>St _ _ w' _) rfl (l8 hS a7 (i:=4) rfl rfl rfl rfl rfl (xg3 rfl) (by intro u hu;simp [Value.cells] at hu;subst hu;rfl)) ?_;intro _ w' hS';simp only [List.set] at hS';clear hS;have hS:=hS';clear hS';refine ⟨xd6 rfl,?_⟩;refine a1c (by kernel_rfl) ?_
   repeat' (first|(with_reducible apply a8 a7);rfl;rfl;rfl|(with_reducible apply j0);rfl;rfl;omega;omega;rfl|refine yDn (by with_reducible constructor) ?_)
   refine f7 (p',c',M++[⟨s,.slice qA s.areas.length cA,.slice qE s.entries.length cE⟩]) ?_ ?_ ?_ ?_
   ·dsimp only;rw [xe9,xi8];exact Fr.sub_of rfl
   ·dsimp only;refine ⟨by rw [xe9,xi8];omega,?_⟩;rw [xe9,xi8,q9 hxs,<- hMs,xl7];rfl
   ·replace hS:=hS.reorderT 11 [4,5,6,7,8,9,10,2,1] (by decide) rfl;simp only [v7,xl8,xl9] at hS;dsimp only;rw [xe9,xi8,xl7,List.append_nil,a4D];refine hS.perm ?_
    repeat (apply List.Perm.cons)
    rw [<- xg2];exact xm6 (l₁:=[_,_])
   ·dsimp only;rw [xe9,xi8];omega
 ·refine m7 rfl (y0 hS a7 rfl rfl rfl rfl rfl rfl) rfl ?_;rintro _ w' ⟨gE,rfl,hS'⟩;clear hS;have hS:=hS';clear hS';refine ⟨xd3 (xd3 (hS.drop.sub (xm5 [_,_] _))),?_⟩;refine p9 (i:=4) (by kernel_rfl) ?_;refine m7 rfl (y0 hS a7 rfl rfl rfl rfl rfl rfl) rfl ?_;rintro _ w' ⟨gA,rfl,hS'⟩;clear hS;have hS:=hS';clear hS';refine ⟨xd3 (xd3 (hS.drop.drop.sub (xm5 [_,_] _))),?_⟩;refine p9 (i:=7) (by kernel_rfl) ?_;refine m7 rfl (a0z hS a7 (i:=0) rfl rfl rfl rfl (har.now hS) (by simp only [xj1,xa2];omega)) rfl ?_;rintro _ w' ⟨qA,cA,rfl,hS'⟩;simp only [List.set,xa2,xj1,xa9,List.nil_append] at hS' |-;clear hS;have hS:=hS';clear hS';refine ⟨xd3 (xd3 (hS.drop.drop.sub (xm5 [_,_] _))),?_⟩;refine p9 (i:=11) (by kernel_rfl) ?_;refine m7 rfl (a0z hS a7 (i:=1) rfl rfl rfl rfl (hen.now hS) (by simp only [xj1,xa2];omega)) rfl ?_;rintro _ w' ⟨qE,cE,rfl,hS'⟩;simp only [List.set,xa2,xj1,xa9,List.nil_append] at hS' |-;clear hS;have hS:=hS';clear hS';refine ⟨xd3 (xd3 (hS.drop.drop.sub (xm5 [_,_] _))),?_⟩;replace hS:=St.reorderT 2 [1,0] hS (by decide) rfl;simp only [v7,xl8,xl9] at hS;have hH:=hS.drop.drop.sub (xm5 [_,_] _)
  ((with_reducible apply a3S (nn 12) a7);rfl;kernel_rfl;kernel_rfl;kernel_rfl;rfl;exact (fun _ _ _ _ h=>h);exact xd3 hH;rfl;rfl;exact (rfl:_=some [_,_,_]);rfl)
  refine p9 (i:=13) (by kernel_rfl) ?_;refine m7 rfl (y0 hS a7 rfl rfl rfl rfl rfl rfl) rfl ?_;rintro _ w' ⟨g9,rfl,hS'⟩;clear hS;have hS:=hS';clear hS';refine ⟨xd3 (xd3 (hS.drop.drop.drop.sub (xm5 [_,_] _))),?_⟩;refine p9 (i:=14) (by kernel_rfl) ?_;refine m7 rfl (a0v hS a7 (i:=5) rfl rfl rfl rfl (hS.rowRo 0 rfl) rfl (by simp only [xj1];omega)) rfl ?_;rintro _ w' ⟨p',c',rfl,hS'⟩;simp only [List.set,xj1] at hS' |-;clear hS;have hS:=hS';clear hS';have hH:=hS.drop.drop.drop.sub (xm5 [_,_] _);refine ⟨xd3 (xd3 hH),?_⟩
  ((with_reducible apply j9 (nn 15) a7);rfl;kernel_rfl;exact (fun _ _ _ h=>h);exact xd3 hH;rfl;rfl)
  refine p9 (i:=16) (by kernel_rfl) ?_;refine a1a (Φ:=fun _ w'=>St _ _ w' _) rfl (l8 hS a7 (i:=4) rfl rfl rfl rfl rfl (xg3 rfl) (by intro u hu;simp [Value.cells] at hu;subst hu;rfl)) ?_;intro _ w' hS';simp only [List.set] at hS';clear hS;have hS:=hS';clear hS';refine ⟨xd6 rfl,?_⟩;refine a1c (by kernel_rfl) ?_
  repeat' (first|(with_reducible apply a8 a7);rfl;rfl;rfl|(with_reducible apply j0);rfl;rfl;omega;omega;rfl|refine yDn (by with_reducible constructor) ?_)
  refine f7 (p',c',M++[⟨s,.slice qA s.areas.length cA,.slice qE s.entries.length cE⟩]) ?_ ?_ ?_ ?_
  ·dsimp only;rw [xe9,xi8];exact Fr.sub_of rfl
  ·dsimp only;refine ⟨by rw [xe9,xi8];omega,?_⟩;rw [xe9,xi8,q9 hxs,<- hMs,xl7];rfl
  ·replace hS:=hS.reorderT 11 [4,5,6,7,8,9,10,2,1] (by decide) rfl;simp only [v7,xl8,xl9] at hS;dsimp only;rw [xe9,xi8,xl7,List.append_nil,a4D];refine hS.perm ?_
   repeat (apply List.Perm.cons)
   rw [<- xg2];exact xm6 (l₁:=[_,_])
  ·dsimp only;rw [xe9,xi8];omega
theorem v8 {A:List Ar} {addr size way:Int} {i:Nat} {p:Int×Int} (h0:¬(way=2/\addr.tmod 8≠0)) (hi:(i:Int) < size) (hp:∀ j:Nat,j < i->n7 A way (addr + (j:Nat))=none) (h:n7 A way (addr + (i:Nat))=some p):q8 A addr size way=p:=by
 unfold q8;rw [xf1 h0];have:(List.range size.toNat).findSome? (fun i=>n7 A way (addr + (i:Nat)))=some p:=by
  rw [List.findSome?_eq_some_iff];obtain ⟨m,hm⟩:∃ m,size.toNat=i + (m + 1):=⟨size.toNat - (i + 1),by omega⟩;refine ⟨List.range i,i,(List.range' (i + 1) m),?_,h,fun j hj=>hp j (xi6.1 hj)⟩;rw [hm,List.range_eq_range',List.range_eq_range',<- List.range'_append_1,xa9,List.range'_succ]
 rw [this];rfl
theorem a2D {A:List Ar} {addr size way:Int} (h0:¬(way=2/\addr.tmod 8≠0)) (hp:∀ j:Nat,(j:Int) < size->n7 A way (addr + (j:Nat))=none):q8 A addr size way=(0,0):=by
 unfold q8;rw [xf1 h0];have:(List.range size.toNat).findSome? (fun i=>n7 A way (addr + (i:Nat)))=none:=by
  rw [List.findSome?_eq_none_iff];intro i hi;rw [xi6] at hi;exact hp i (by omega)
 rw [this];rfl
theorem b2G {w:World} {g:Nat} {k:KV} {sp:Nat} {vh:Value} {held:List Nat} (hV:WkV w g k sp vh held) {x:Sp} (hx:k.sp[sp]?=some x) (hc:m6 x.s.areas=0) {addr size way:Int} (hb0:-9223372036854775808<=addr) (hb1:addr<=9223372036854775807) (hs1:1<=size) (hs8:size<=8) (hway:way=0\/way=1\/way=2):Fn Tryz.prog 122 [.pointer (some ⟨g,0,none⟩),.int .i64 addr,.int .i64 size,.int .i64 way] w (RBf (.agg #[.int .i64 (q8 x.s.areas addr size way).1,.int .i64 (q8 x.s.areas addr size way).2]) w):=by
 have hV0:=hV;have hspc:=fun w1 (h:WkV w1 g k sp vh held)=>a3P h (b9 hx);obtain ⟨c0,c1,c2,c3,c4,c5,c6,hh,⟨k1,k2,k3,k4,k5⟩⟩:=hV;obtain ⟨bs,os,cs,hvsp⟩:=k4.form1 hx;have hrowS:=c9 (f:=spC) hx;have har:=(k5 x (xd0 hx)).ar;rw [hvsp] at hspc k4;unfold a11 at hspc;dsimp only at hspc;unfold spC at hrowS;have hfnd:=fun w1 (h:Sl nF w1 4 x.va (x.s.areas.map arC)) (p:Int)=>a8n p h;obtain ⟨n,hn⟩:∃ n:Nat,size=(n:Nat):=⟨size.toNat,by omega⟩;subst hn;by_cases hal:way=2/\addr.tmod 8≠0
 ·have hF:q8 x.s.areas addr (n:Nat) way=(3,addr):=by unfold q8;rw [xf0 hal]
  obtain ⟨rfl,hal2⟩:=hal;have hd:decide (addr.tmod 8=0)=false:=xj2 hal2;refine yEn Tryz.func122 Tryz.ntmps122 (by kernel_rfl) (by kernel_rfl) rfl rfl ?_;have hS:=St.start w
  repeat' (first|(with_reducible apply a8 a7);rfl;rfl;rfl|(with_reducible apply l4 a7);rfl;rfl;exact (rfl:_=some [_,_]);rfl|refine yDn (by with_reducible constructor) ?_|(with_reducible apply j5);(iterate 4 rfl);rfl|(with_reducible apply e9);rfl;rfl;rfl;rfl|(with_reducible apply d7 hS a7);rfl;rfl;rfl;clear hS;intro g w' hS|(with_reducible apply b8 hS a7 (i:=0));(iterate 8 rfl);exact (rfl:_=[_,_]);clear hS;intro w' hS;simp only [List.set] at hS|(with_reducible apply a1r);rfl;all_goals (intro hb hp;try (exfalso;omega))|(with_reducible apply a4n);rfl;rfl;omega;rfl)
  (apply w7;repeat (first|exact ResL.nil|apply ResL.cell;rfl;(apply Ld.st a7;rfl;exact hS.blkR 0 rfl;rfl)))
  exact ⟨by rw [hF],hS.sub (xj3 _)⟩
 obtain ⟨F,hF⟩:∃ F,F=q8 x.s.areas addr (n:Nat) way:=⟨_,rfl⟩;rw [<- hF];have hstep:∀ i:Nat,(∀ j:Nat,j < i->n7 x.s.areas way (addr + (j:Nat))=none)->1<=i->addr<=4095/\16<=addr:=fun i h h1=>by
  have h2:=a16 hc (h 0 (by omega));have h3:addr + ((0:Nat):Int)=addr:=by omega
  rw [h3] at h2;omega
 rcases hway with rfl|rfl|rfl
 ·refine yEn Tryz.func122 Tryz.ntmps122 (by kernel_rfl) (by kernel_rfl) rfl rfl ?_;have hS:=St.start w
  repeat' (first|(with_reducible apply a8 a7);rfl;rfl;rfl|refine yDn (by with_reducible constructor) ?_|(with_reducible apply s9);(iterate 4 rfl);rfl;rfl|(with_reducible apply f5);rfl;rfl;rfl;rfl|(with_reducible apply f6);rfl;rfl|(with_reducible apply d7 hS a7);rfl;rfl;rfl;clear hS;intro g w' hS)
  replace hS:St nF w w' (.blk _ [.int .i64 0,.int .i64 0]::[]):=hS;refine a1v hS 23 [0,1,3,8,22] rfl (n) (fun i=>∀ j:Nat,j < i->n7 x.s.areas 0 (addr + (j:Nat))=none) 0 rfl (xg6 _) (by (intros;omega)) ?_;rintro i w1 hi hall hS';clear hS;have hS:=hS';clear hS';by_cases hlt:i < n;rotate_left
  ·obtain rfl:i=n:=by omega
   have hff:F=(0,0):=hF.trans (a2D hal (fun j hj=>hall j (by omega)))
   repeat' (first|(with_reducible apply a8 a7);rfl;rfl;rfl|(with_reducible apply l4 a7);rfl;rfl;exact (rfl:_=some [_,_]);rfl|refine yDn (by with_reducible constructor) ?_|(with_reducible apply b8 hS a7 (i:=0));(iterate 8 rfl);exact (rfl:_=[_,_]);clear hS;intro w' hS;simp only [List.set] at hS|(with_reducible apply d5);rfl;all_goals (intro hb hp;try (exfalso;omega)))
   (apply w7;repeat (first|exact ResL.nil|apply ResL.cell;rfl;(apply Ld.st a7;rfl;exact hS.blkR 0 rfl;rfl)))
   exact ⟨by rw [hff],hS.sub (xj3 _)⟩
  have hbd:-9223372036854775808<=addr + (i:Nat)/\addr + (i:Nat)<=9223372036854775807:=by
   by_cases h0:i=0
   ·subst h0;omega
   ·have:=hstep i hall (by omega);omega
  have hbd1:=hbd.1;have hbd2:=hbd.2;have hf2:=fun w1 h=>hfnd w1 h ((addr + (i:Nat)).tdiv 16);rw [a2m hc] at hf2
  cases hfa:o9 x.s.areas ((addr + (i:Nat)).tdiv 16) with
  |none=>
   rw [hfa] at hf2;unfold a1w arC at hf2;dsimp only [Option.getD,Option.isSome] at hf2;by_cases hneg:addr + (i:Nat) < 0
   ·have hdn:decide (addr + ((i:Nat):Int) < 0)=true:=xj4 hneg;have hff:F=(1,addr + (i:Nat)):=hF.trans (v8 hal (by omega) hall (by unfold n7;rw [hfa]))
    repeat' (first|(with_reducible apply a8 a7);rfl;rfl;rfl|(with_reducible apply j0);rfl;rfl;omega;omega;rfl|(with_reducible apply l4 a7);rfl;rfl;exact (rfl:_=some [_,_]);rfl|refine yDn (by with_reducible constructor) ?_|(with_reducible apply s9);(iterate 4 rfl);assumption;rfl|(with_reducible apply e9);rfl;assumption;rfl;rfl|(with_reducible apply d9);rfl;rfl|(with_reducible apply d7 hS a7);rfl;rfl;rfl;clear hS;intro g w' hS|(with_reducible apply b8 hS a7 (i:=0));(iterate 8 rfl);exact (rfl:_=[_,_,_,_]);clear hS;intro w' hS;simp only [List.set] at hS|(with_reducible apply b8 hS a7 (i:=1));(iterate 8 rfl);exact (rfl:_=[_,_]);clear hS;intro w' hS;simp only [List.set] at hS|(with_reducible apply d5);rfl;all_goals (intro hb hp;try (exfalso;omega))|(with_reducible apply d6 hS);rfl;rfl;rfl;refine ⟨_,hspc _ (hV0.now hS),?_⟩;clear hS;intro w' hS|(with_reducible apply x6 a7);rfl;rfl;rfl;refine ⟨_,hS.baseC (k4.cel hrowS rfl) id,?_⟩|(with_reducible apply d6 hS);rfl;rfl;rfl;refine ⟨_,hf2 _ (har.now hS),?_⟩;clear hS;intro w' hS|(with_reducible apply a0t);rfl;rfl;omega;omega;omega;rfl)
    (apply w7;repeat (first|exact ResL.nil|apply ResL.cell;rfl;(apply Ld.st a7;rfl;exact hS.blkR 1 rfl;rfl)))
    exact ⟨by rw [hff],hS.sub (xj3 _)⟩
   ·have hdn:decide (addr + ((i:Nat):Int) < 0)=false:=xj2 hneg;have hff:F=(1,addr + (i:Nat)):=hF.trans (v8 hal (by omega) hall (by unfold n7;rw [hfa]))
    repeat' (first|(with_reducible apply a8 a7);rfl;rfl;rfl|(with_reducible apply j0);rfl;rfl;omega;omega;rfl|(with_reducible apply l4 a7);rfl;rfl;exact (rfl:_=some [_,_]);rfl|refine yDn (by with_reducible constructor) ?_|(with_reducible apply j5);(iterate 4 rfl);assumption|(with_reducible apply f5);rfl;assumption;rfl;rfl|(with_reducible apply d9);rfl;rfl|(with_reducible apply d7 hS a7);rfl;rfl;rfl;clear hS;intro g w' hS|(with_reducible apply b8 hS a7 (i:=0));(iterate 8 rfl);exact (rfl:_=[_,_,_,_]);clear hS;intro w' hS;simp only [List.set] at hS|(with_reducible apply b8 hS a7 (i:=1));(iterate 8 rfl);exact (rfl:_=[_,_]);clear hS;intro w' hS;simp only [List.set] at hS|(with_reducible apply d5);rfl;all_goals (intro hb hp;try (exfalso;omega))|(with_reducible apply d6 hS);rfl;rfl;rfl;refine ⟨_,hspc _ (hV0.now hS),?_⟩;clear hS;intro w' hS|(with_reducible apply x6 a7);rfl;rfl;rfl;refine ⟨_,hS.baseC (k4.cel hrowS rfl) id,?_⟩|(with_reducible apply d6 hS);rfl;rfl;rfl;refine ⟨_,hf2 _ (har.now hS),?_⟩;clear hS;intro w' hS|(with_reducible apply a0t);rfl;rfl;omega;omega;omega;rfl)
    (apply w7;repeat (first|exact ResL.nil|apply ResL.cell;rfl;(apply Ld.st a7;rfl;exact hS.blkR 1 rfl;rfl)))
    exact ⟨by rw [hff],hS.sub (xj3 _)⟩
  |some a=>
   rw [hfa] at hf2;unfold a1w arC at hf2;dsimp only [Option.getD,Option.isSome] at hf2;by_cases hneg:addr + (i:Nat) < 0
   ·have hdn:decide (addr + ((i:Nat):Int) < 0)=true:=xj4 hneg;have hff:F=(1,addr + (i:Nat)):=hF.trans (v8 hal (by omega) hall (by unfold n7;rw [hfa];exact xf0 hneg))
    repeat' (first|(with_reducible apply a8 a7);rfl;rfl;rfl|(with_reducible apply j0);rfl;rfl;omega;omega;rfl|(with_reducible apply l4 a7);rfl;rfl;exact (rfl:_=some [_,_]);rfl|refine yDn (by with_reducible constructor) ?_|(with_reducible apply s9);(iterate 4 rfl);assumption;rfl|(with_reducible apply e9);rfl;assumption;rfl;rfl|(with_reducible apply d9);rfl;rfl|(with_reducible apply d7 hS a7);rfl;rfl;rfl;clear hS;intro g w' hS|(with_reducible apply b8 hS a7 (i:=0));(iterate 8 rfl);exact (rfl:_=[_,_,_,_]);clear hS;intro w' hS;simp only [List.set] at hS|(with_reducible apply b8 hS a7 (i:=1));(iterate 8 rfl);exact (rfl:_=[_,_]);clear hS;intro w' hS;simp only [List.set] at hS|(with_reducible apply d5);rfl;all_goals (intro hb hp;try (exfalso;omega))|(with_reducible apply d6 hS);rfl;rfl;rfl;refine ⟨_,hspc _ (hV0.now hS),?_⟩;clear hS;intro w' hS|(with_reducible apply x6 a7);rfl;rfl;rfl;refine ⟨_,hS.baseC (k4.cel hrowS rfl) id,?_⟩|(with_reducible apply d6 hS);rfl;rfl;rfl;refine ⟨_,hf2 _ (har.now hS),?_⟩;clear hS;intro w' hS|(with_reducible apply a0t);rfl;rfl;omega;omega;omega;rfl)
    (apply w7;repeat (first|exact ResL.nil|apply ResL.cell;rfl;(apply Ld.st a7;rfl;exact hS.blkR 1 rfl;rfl)))
    exact ⟨by rw [hff],hS.sub (xj3 _)⟩
   have hdn:decide (addr + ((i:Nat):Int) < 0)=false:=xj2 hneg;have hdv:(addr + ((i:Nat):Int)).tdiv 16=(addr + (i:Nat)) / 16:=xf2 (by omega);have haok:a.ok:=(a0R hc (by rw [hdv] at hfa;exact hfa)).1;unfold Ar.ok at haok
   (skip)
   repeat' (first|(with_reducible apply a8 a7);rfl;rfl;rfl|(with_reducible apply j0);rfl;rfl;omega;omega;rfl|refine yDn (by with_reducible constructor) ?_|(with_reducible apply j5);(iterate 4 rfl);assumption|(with_reducible apply s9);(iterate 4 rfl);rfl;rfl|(with_reducible apply f5);rfl;(first|rfl|assumption);rfl;rfl|(with_reducible apply f6);rfl;rfl|(with_reducible apply d7 hS a7);rfl;rfl;rfl;clear hS;intro g w' hS|(with_reducible apply b8 hS a7 (i:=0));(iterate 8 rfl);exact (rfl:_=[_,_,_,_]);clear hS;intro w' hS;simp only [List.set] at hS|(with_reducible apply d5);rfl;all_goals (intro hb hp;try (exfalso;omega))|(with_reducible apply d6 hS);rfl;rfl;rfl;refine ⟨_,hspc _ (hV0.now hS),?_⟩;clear hS;intro w' hS|(with_reducible apply x6 a7);rfl;rfl;rfl;refine ⟨_,hS.baseC (k4.cel hrowS rfl) id,?_⟩|(with_reducible apply d6 hS);rfl;rfl;rfl;refine ⟨_,hf2 _ (har.now hS),?_⟩;clear hS;intro w' hS|(with_reducible apply a0t);rfl;rfl;omega;omega;omega;rfl)
   have hnx:n7 x.s.areas 0 (addr + (i:Nat))=none:=by
    unfold n7;rw [hfa];dsimp only;rw [xf1 hneg,xf1];omega
   exact a0N (i + 1) (by exact Fr.sub_of rfl) (by omega) (fun j hj=>by
    by_cases e:j=i
    ·rw [e];exact hnx
    ·exact hall j (by omega)) (by omega) (hS.sub (by repeat (first|exact xm0 _|apply xm3)))
 ·refine yEn Tryz.func122 Tryz.ntmps122 (by kernel_rfl) (by kernel_rfl) rfl rfl ?_;have hS:=St.start w
  repeat' (first|(with_reducible apply a8 a7);rfl;rfl;rfl|refine yDn (by with_reducible constructor) ?_|(with_reducible apply s9);(iterate 4 rfl);rfl;rfl|(with_reducible apply f5);rfl;rfl;rfl;rfl|(with_reducible apply f6);rfl;rfl|(with_reducible apply d7 hS a7);rfl;rfl;rfl;clear hS;intro g w' hS)
  replace hS:St nF w w' (.blk _ [.int .i64 0,.int .i64 0]::[]):=hS;refine a1v hS 23 [0,1,3,8,22] rfl (n) (fun i=>∀ j:Nat,j < i->n7 x.s.areas 1 (addr + (j:Nat))=none) 0 rfl (xg6 _) (by (intros;omega)) ?_;rintro i w1 hi hall hS';clear hS;have hS:=hS';clear hS';by_cases hlt:i < n;rotate_left
  ·obtain rfl:i=n:=by omega
   have hff:F=(0,0):=hF.trans (a2D hal (fun j hj=>hall j (by omega)))
   repeat' (first|(with_reducible apply a8 a7);rfl;rfl;rfl|(with_reducible apply l4 a7);rfl;rfl;exact (rfl:_=some [_,_]);rfl|refine yDn (by with_reducible constructor) ?_|(with_reducible apply b8 hS a7 (i:=0));(iterate 8 rfl);exact (rfl:_=[_,_]);clear hS;intro w' hS;simp only [List.set] at hS|(with_reducible apply d5);rfl;all_goals (intro hb hp;try (exfalso;omega)))
   (apply w7;repeat (first|exact ResL.nil|apply ResL.cell;rfl;(apply Ld.st a7;rfl;exact hS.blkR 0 rfl;rfl)))
   exact ⟨by rw [hff],hS.sub (xj3 _)⟩
  have hbd:-9223372036854775808<=addr + (i:Nat)/\addr + (i:Nat)<=9223372036854775807:=by
   by_cases h0:i=0
   ·subst h0;omega
   ·have:=hstep i hall (by omega);omega
  have hbd1:=hbd.1;have hbd2:=hbd.2;have hf2:=fun w1 h=>hfnd w1 h ((addr + (i:Nat)).tdiv 16);rw [a2m hc] at hf2
  cases hfa:o9 x.s.areas ((addr + (i:Nat)).tdiv 16) with
  |none=>
   rw [hfa] at hf2;unfold a1w arC at hf2;dsimp only [Option.getD,Option.isSome] at hf2;by_cases hneg:addr + (i:Nat) < 0
   ·have hdn:decide (addr + ((i:Nat):Int) < 0)=true:=xj4 hneg;have hff:F=(1,addr + (i:Nat)):=hF.trans (v8 hal (by omega) hall (by unfold n7;rw [hfa]))
    repeat' (first|(with_reducible apply a8 a7);rfl;rfl;rfl|(with_reducible apply j0);rfl;rfl;omega;omega;rfl|(with_reducible apply l4 a7);rfl;rfl;exact (rfl:_=some [_,_]);rfl|refine yDn (by with_reducible constructor) ?_|(with_reducible apply s9);(iterate 4 rfl);assumption;rfl|(with_reducible apply e9);rfl;assumption;rfl;rfl|(with_reducible apply d9);rfl;rfl|(with_reducible apply d7 hS a7);rfl;rfl;rfl;clear hS;intro g w' hS|(with_reducible apply b8 hS a7 (i:=0));(iterate 8 rfl);exact (rfl:_=[_,_,_,_]);clear hS;intro w' hS;simp only [List.set] at hS|(with_reducible apply b8 hS a7 (i:=1));(iterate 8 rfl);exact (rfl:_=[_,_]);clear hS;intro w' hS;simp only [List.set] at hS|(with_reducible apply d5);rfl;all_goals (intro hb hp;try (exfalso;omega))|(with_reducible apply d6 hS);rfl;rfl;rfl;refine ⟨_,hspc _ (hV0.now hS),?_⟩;clear hS;intro w' hS|(with_reducible apply x6 a7);rfl;rfl;rfl;refine ⟨_,hS.baseC (k4.cel hrowS rfl) id,?_⟩|(with_reducible apply d6 hS);rfl;rfl;rfl;refine ⟨_,hf2 _ (har.now hS),?_⟩;clear hS;intro w' hS|(with_reducible apply a0t);rfl;rfl;omega;omega;omega;rfl)
    (apply w7;repeat (first|exact ResL.nil|apply ResL.cell;rfl;(apply Ld.st a7;rfl;exact hS.blkR 1 rfl;rfl)))
    exact ⟨by rw [hff],hS.sub (xj3 _)⟩
   ·have hdn:decide (addr + ((i:Nat):Int) < 0)=false:=xj2 hneg;have hff:F=(1,addr + (i:Nat)):=hF.trans (v8 hal (by omega) hall (by unfold n7;rw [hfa]))
    repeat' (first|(with_reducible apply a8 a7);rfl;rfl;rfl|(with_reducible apply j0);rfl;rfl;omega;omega;rfl|(with_reducible apply l4 a7);rfl;rfl;exact (rfl:_=some [_,_]);rfl|refine yDn (by with_reducible constructor) ?_|(with_reducible apply j5);(iterate 4 rfl);assumption|(with_reducible apply f5);rfl;assumption;rfl;rfl|(with_reducible apply d9);rfl;rfl|(with_reducible apply d7 hS a7);rfl;rfl;rfl;clear hS;intro g w' hS|(with_reducible apply b8 hS a7 (i:=0));(iterate 8 rfl);exact (rfl:_=[_,_,_,_]);clear hS;intro w' hS;simp only [List.set] at hS|(with_reducible apply b8 hS a7 (i:=1));(iterate 8 rfl);exact (rfl:_=[_,_]);clear hS;intro w' hS;simp only [List.set] at hS|(with_reducible apply d5);rfl;all_goals (intro hb hp;try (exfalso;omega))|(with_reducible apply d6 hS);rfl;rfl;rfl;refine ⟨_,hspc _ (hV0.now hS),?_⟩;clear hS;intro w' hS|(with_reducible apply x6 a7);rfl;rfl;rfl;refine ⟨_,hS.baseC (k4.cel hrowS rfl) id,?_⟩|(with_reducible apply d6 hS);rfl;rfl;rfl;refine ⟨_,hf2 _ (har.now hS),?_⟩;clear hS;intro w' hS|(with_reducible apply a0t);rfl;rfl;omega;omega;omega;rfl)
    (apply w7;repeat (first|exact ResL.nil|apply ResL.cell;rfl;(apply Ld.st a7;rfl;exact hS.blkR 1 rfl;rfl)))
    exact ⟨by rw [hff],hS.sub (xj3 _)⟩
  |some a=>
   rw [hfa] at hf2;unfold a1w arC at hf2;dsimp only [Option.getD,Option.isSome] at hf2;by_cases hneg:addr + (i:Nat) < 0
   ·have hdn:decide (addr + ((i:Nat):Int) < 0)=true:=xj4 hneg;have hff:F=(1,addr + (i:Nat)):=hF.trans (v8 hal (by omega) hall (by unfold n7;rw [hfa];exact xf0 hneg))
    repeat' (first|(with_reducible apply a8 a7);rfl;rfl;rfl|(with_reducible apply j0);rfl;rfl;omega;omega;rfl|(with_reducible apply l4 a7);rfl;rfl;exact (rfl:_=some [_,_]);rfl|refine yDn (by with_reducible constructor) ?_|(with_reducible apply s9);(iterate 4 rfl);assumption;rfl|(with_reducible apply e9);rfl;assumption;rfl;rfl|(with_reducible apply d9);rfl;rfl|(with_reducible apply d7 hS a7);rfl;rfl;rfl;clear hS;intro g w' hS|(with_reducible apply b8 hS a7 (i:=0));(iterate 8 rfl);exact (rfl:_=[_,_,_,_]);clear hS;intro w' hS;simp only [List.set] at hS|(with_reducible apply b8 hS a7 (i:=1));(iterate 8 rfl);exact (rfl:_=[_,_]);clear hS;intro w' hS;simp only [List.set] at hS|(with_reducible apply d5);rfl;all_goals (intro hb hp;try (exfalso;omega))|(with_reducible apply d6 hS);rfl;rfl;rfl;refine ⟨_,hspc _ (hV0.now hS),?_⟩;clear hS;intro w' hS|(with_reducible apply x6 a7);rfl;rfl;rfl;refine ⟨_,hS.baseC (k4.cel hrowS rfl) id,?_⟩|(with_reducible apply d6 hS);rfl;rfl;rfl;refine ⟨_,hf2 _ (har.now hS),?_⟩;clear hS;intro w' hS|(with_reducible apply a0t);rfl;rfl;omega;omega;omega;rfl)
    (apply w7;repeat (first|exact ResL.nil|apply ResL.cell;rfl;(apply Ld.st a7;rfl;exact hS.blkR 1 rfl;rfl)))
    exact ⟨by rw [hff],hS.sub (xj3 _)⟩
   have hdn:decide (addr + ((i:Nat):Int) < 0)=false:=xj2 hneg;have hdv:(addr + ((i:Nat):Int)).tdiv 16=(addr + (i:Nat)) / 16:=xf2 (by omega);have haok:a.ok:=(a0R hc (by rw [hdv] at hfa;exact hfa)).1;unfold Ar.ok at haok
   (skip)
   have h1:=b74 (p:=a.prot) (by omega) (by omega);by_cases hp1:a.prot=1\/a.prot=3
   ·rw [xf0 hp1] at h1
    repeat' (first|(with_reducible apply a8 a7);rfl;rfl;rfl|(with_reducible apply a9);rfl;(apply Ld.sc a7;rfl;exact hS.blkC 0 rfl rfl);rfl|(with_reducible apply j0);rfl;rfl;omega;omega;rfl|refine yDn (by with_reducible constructor) ?_|((with_reducible apply j5);(iterate 4 rfl);first|rfl|assumption)|(with_reducible apply s9);(iterate 4 rfl);rfl;rfl|(with_reducible apply e9);rfl;rfl;rfl;rfl|(with_reducible apply f5);rfl;(first|rfl|assumption);rfl;rfl|(with_reducible apply f6);rfl;rfl|(with_reducible apply d7 hS a7);rfl;rfl;rfl;clear hS;intro g w' hS|(with_reducible apply b8 hS a7 (i:=0));(iterate 8 rfl);exact (rfl:_=[_,_,_,_]);clear hS;intro w' hS;simp only [List.set] at hS|(with_reducible apply d5);rfl;all_goals (intro hb hp;try (exfalso;omega))|(with_reducible apply d6 hS);rfl;rfl;rfl;refine ⟨_,hspc _ (hV0.now hS),?_⟩;clear hS;intro w' hS|(with_reducible apply x6 a7);rfl;rfl;rfl;refine ⟨_,hS.baseC (k4.cel hrowS rfl) id,?_⟩|(with_reducible apply d6 hS);rfl;rfl;rfl;refine ⟨_,hf2 _ (har.now hS),?_⟩;clear hS;intro w' hS|(with_reducible apply a0t);rfl;rfl;omega;omega;omega;rfl|(with_reducible apply b1d);rfl;rfl;exact h1;rfl)
    have hnx:n7 x.s.areas 1 (addr + (i:Nat))=none:=by
     unfold n7;rw [hfa];dsimp only;rw [xf1 hneg,xf1];omega
    exact a0N (i + 1) (by exact Fr.sub_of rfl) (by omega) (fun j hj=>by
     by_cases e:j=i
     ·rw [e];exact hnx
     ·exact hall j (by omega)) (by omega) (hS.sub (by repeat (first|exact xm0 _|apply xm3)))
   ·rw [xf1 hp1] at h1;have hff:F=(2,addr + (i:Nat)):=hF.trans (v8 hal (by omega) hall (by
     unfold n7;rw [hfa];dsimp only;rw [xf1 hneg,xf0];omega))
    repeat' (first|(with_reducible apply a8 a7);rfl;rfl;rfl|(with_reducible apply a9);rfl;(apply Ld.sc a7;rfl;exact hS.blkC 0 rfl rfl);rfl|(with_reducible apply j0);rfl;rfl;omega;omega;rfl|(with_reducible apply l4 a7);rfl;rfl;exact (rfl:_=some [_,_]);rfl|refine yDn (by with_reducible constructor) ?_|((with_reducible apply j5);(iterate 4 rfl);first|rfl|assumption)|(with_reducible apply e9);rfl;rfl;rfl;rfl|(with_reducible apply f5);rfl;assumption;rfl;rfl|(with_reducible apply d9);rfl;rfl|(with_reducible apply f6);rfl;rfl|(with_reducible apply d7 hS a7);rfl;rfl;rfl;clear hS;intro g w' hS|(with_reducible apply b8 hS a7 (i:=0));(iterate 8 rfl);exact (rfl:_=[_,_,_,_]);clear hS;intro w' hS;simp only [List.set] at hS|(with_reducible apply b8 hS a7 (i:=1));(iterate 8 rfl);exact (rfl:_=[_,_]);clear hS;intro w' hS;simp only [List.set] at hS|(with_reducible apply d5);rfl;all_goals (intro hb hp;try (exfalso;omega))|(with_reducible apply d6 hS);rfl;rfl;rfl;refine ⟨_,hspc _ (hV0.now hS),?_⟩;clear hS;intro w' hS|(with_reducible apply x6 a7);rfl;rfl;rfl;refine ⟨_,hS.baseC (k4.cel hrowS rfl) id,?_⟩|(with_reducible apply d6 hS);rfl;rfl;rfl;refine ⟨_,hf2 _ (har.now hS),?_⟩;clear hS;intro w' hS|(with_reducible apply a0t);rfl;rfl;omega;omega;omega;rfl|(with_reducible apply b1d);rfl;rfl;exact h1;rfl)
    (apply w7;repeat (first|exact ResL.nil|apply ResL.cell;rfl;(apply Ld.st a7;rfl;exact hS.blkR 1 rfl;rfl)))
    exact ⟨by rw [hff],hS.sub (xj3 _)⟩
 ·refine yEn Tryz.func122 Tryz.ntmps122 (by kernel_rfl) (by kernel_rfl) rfl rfl ?_;have hS:=St.start w
  repeat' (first|(with_reducible apply a8 a7);rfl;rfl;rfl|refine yDn (by with_reducible constructor) ?_|(with_reducible apply j5);(iterate 4 rfl);rfl|(with_reducible apply e9);rfl;rfl;rfl;rfl|(with_reducible apply d7 hS a7);rfl;rfl;rfl;clear hS;intro g w' hS|(with_reducible apply a1r);rfl;all_goals (intro hb hp;try (exfalso;omega))|(with_reducible apply a4n);rfl;rfl;omega;rfl)
  replace hS:St nF w w' (.blk _ [.int .i64 0,.int .i64 0]::[]):=hS;refine a1v hS 23 [0,1,3,8,22] rfl (n) (fun i=>∀ j:Nat,j < i->n7 x.s.areas 2 (addr + (j:Nat))=none) 0 rfl (xg6 _) (by (intros;omega)) ?_;rintro i w1 hi hall hS';clear hS;have hS:=hS';clear hS';by_cases hlt:i < n;rotate_left
  ·obtain rfl:i=n:=by omega
   have hff:F=(0,0):=hF.trans (a2D hal (fun j hj=>hall j (by omega)))
   repeat' (first|(with_reducible apply a8 a7);rfl;rfl;rfl|(with_reducible apply l4 a7);rfl;rfl;exact (rfl:_=some [_,_]);rfl|refine yDn (by with_reducible constructor) ?_|(with_reducible apply b8 hS a7 (i:=0));(iterate 8 rfl);exact (rfl:_=[_,_]);clear hS;intro w' hS;simp only [List.set] at hS|(with_reducible apply d5);rfl;all_goals (intro hb hp;try (exfalso;omega)))
   (apply w7;repeat (first|exact ResL.nil|apply ResL.cell;rfl;(apply Ld.st a7;rfl;exact hS.blkR 0 rfl;rfl)))
   exact ⟨by rw [hff],hS.sub (xj3 _)⟩
  have hbd:-9223372036854775808<=addr + (i:Nat)/\addr + (i:Nat)<=9223372036854775807:=by
   by_cases h0:i=0
   ·subst h0;omega
   ·have:=hstep i hall (by omega);omega
  have hbd1:=hbd.1;have hbd2:=hbd.2;have hf2:=fun w1 h=>hfnd w1 h ((addr + (i:Nat)).tdiv 16);rw [a2m hc] at hf2
  cases hfa:o9 x.s.areas ((addr + (i:Nat)).tdiv 16) with
  |none=>
   rw [hfa] at hf2;unfold a1w arC at hf2;dsimp only [Option.getD,Option.isSome] at hf2;by_cases hneg:addr + (i:Nat) < 0
   ·have hdn:decide (addr + ((i:Nat):Int) < 0)=true:=xj4 hneg;have hff:F=(1,addr + (i:Nat)):=hF.trans (v8 hal (by omega) hall (by unfold n7;rw [hfa]))
    repeat' (first|(with_reducible apply a8 a7);rfl;rfl;rfl|(with_reducible apply j0);rfl;rfl;omega;omega;rfl|(with_reducible apply l4 a7);rfl;rfl;exact (rfl:_=some [_,_]);rfl|refine yDn (by with_reducible constructor) ?_|(with_reducible apply s9);(iterate 4 rfl);assumption;rfl|(with_reducible apply e9);rfl;assumption;rfl;rfl|(with_reducible apply d9);rfl;rfl|(with_reducible apply d7 hS a7);rfl;rfl;rfl;clear hS;intro g w' hS|(with_reducible apply b8 hS a7 (i:=0));(iterate 8 rfl);exact (rfl:_=[_,_,_,_]);clear hS;intro w' hS;simp only [List.set] at hS|(with_reducible apply b8 hS a7 (i:=1));(iterate 8 rfl);exact (rfl:_=[_,_]);clear hS;intro w' hS;simp only [List.set] at hS|(with_reducible apply d5);rfl;all_goals (intro hb hp;try (exfalso;omega))|(with_reducible apply d6 hS);rfl;rfl;rfl;refine ⟨_,hspc _ (hV0.now hS),?_⟩;clear hS;intro w' hS|(with_reducible apply x6 a7);rfl;rfl;rfl;refine ⟨_,hS.baseC (k4.cel hrowS rfl) id,?_⟩|(with_reducible apply d6 hS);rfl;rfl;rfl;refine ⟨_,hf2 _ (har.now hS),?_⟩;clear hS;intro w' hS|(with_reducible apply a0t);rfl;rfl;omega;omega;omega;rfl)
    (apply w7;repeat (first|exact ResL.nil|apply ResL.cell;rfl;(apply Ld.st a7;rfl;exact hS.blkR 1 rfl;rfl)))
    exact ⟨by rw [hff],hS.sub (xj3 _)⟩
   ·have hdn:decide (addr + ((i:Nat):Int) < 0)=false:=xj2 hneg;have hff:F=(1,addr + (i:Nat)):=hF.trans (v8 hal (by omega) hall (by unfold n7;rw [hfa]))
    repeat' (first|(with_reducible apply a8 a7);rfl;rfl;rfl|(with_reducible apply j0);rfl;rfl;omega;omega;rfl|(with_reducible apply l4 a7);rfl;rfl;exact (rfl:_=some [_,_]);rfl|refine yDn (by with_reducible constructor) ?_|(with_reducible apply j5);(iterate 4 rfl);assumption|(with_reducible apply f5);rfl;assumption;rfl;rfl|(with_reducible apply d9);rfl;rfl|(with_reducible apply d7 hS a7);rfl;rfl;rfl;clear hS;intro g w' hS|(with_reducible apply b8 hS a7 (i:=0));(iterate 8 rfl);exact (rfl:_=[_,_,_,_]);clear hS;intro w' hS;simp only [List.set] at hS|(with_reducible apply b8 hS a7 (i:=1));(iterate 8 rfl);exact (rfl:_=[_,_]);clear hS;intro w' hS;simp only [List.set] at hS|(with_reducible apply d5);rfl;all_goals (intro hb hp;try (exfalso;omega))|(with_reducible apply d6 hS);rfl;rfl;rfl;refine ⟨_,hspc _ (hV0.now hS),?_⟩;clear hS;intro w' hS|(with_reducible apply x6 a7);rfl;rfl;rfl;refine ⟨_,hS.baseC (k4.cel hrowS rfl) id,?_⟩|(with_reducible apply d6 hS);rfl;rfl;rfl;refine ⟨_,hf2 _ (har.now hS),?_⟩;clear hS;intro w' hS|(with_reducible apply a0t);rfl;rfl;omega;omega;omega;rfl)
    (apply w7;repeat (first|exact ResL.nil|apply ResL.cell;rfl;(apply Ld.st a7;rfl;exact hS.blkR 1 rfl;rfl)))
    exact ⟨by rw [hff],hS.sub (xj3 _)⟩
  |some a=>
   rw [hfa] at hf2;unfold a1w arC at hf2;dsimp only [Option.getD,Option.isSome] at hf2;by_cases hneg:addr + (i:Nat) < 0
   ·have hdn:decide (addr + ((i:Nat):Int) < 0)=true:=xj4 hneg;have hff:F=(1,addr + (i:Nat)):=hF.trans (v8 hal (by omega) hall (by unfold n7;rw [hfa];exact xf0 hneg))
    repeat' (first|(with_reducible apply a8 a7);rfl;rfl;rfl|(with_reducible apply j0);rfl;rfl;omega;omega;rfl|(with_reducible apply l4 a7);rfl;rfl;exact (rfl:_=some [_,_]);rfl|refine yDn (by with_reducible constructor) ?_|(with_reducible apply s9);(iterate 4 rfl);assumption;rfl|(with_reducible apply e9);rfl;assumption;rfl;rfl|(with_reducible apply d9);rfl;rfl|(with_reducible apply d7 hS a7);rfl;rfl;rfl;clear hS;intro g w' hS|(with_reducible apply b8 hS a7 (i:=0));(iterate 8 rfl);exact (rfl:_=[_,_,_,_]);clear hS;intro w' hS;simp only [List.set] at hS|(with_reducible apply b8 hS a7 (i:=1));(iterate 8 rfl);exact (rfl:_=[_,_]);clear hS;intro w' hS;simp only [List.set] at hS|(with_reducible apply d5);rfl;all_goals (intro hb hp;try (exfalso;omega))|(with_reducible apply d6 hS);rfl;rfl;rfl;refine ⟨_,hspc _ (hV0.now hS),?_⟩;clear hS;intro w' hS|(with_reducible apply x6 a7);rfl;rfl;rfl;refine ⟨_,hS.baseC (k4.cel hrowS rfl) id,?_⟩|(with_reducible apply d6 hS);rfl;rfl;rfl;refine ⟨_,hf2 _ (har.now hS),?_⟩;clear hS;intro w' hS|(with_reducible apply a0t);rfl;rfl;omega;omega;omega;rfl)
    (apply w7;repeat (first|exact ResL.nil|apply ResL.cell;rfl;(apply Ld.st a7;rfl;exact hS.blkR 1 rfl;rfl)))
    exact ⟨by rw [hff],hS.sub (xj3 _)⟩
   have hdn:decide (addr + ((i:Nat):Int) < 0)=false:=xj2 hneg;have hdv:(addr + ((i:Nat):Int)).tdiv 16=(addr + (i:Nat)) / 16:=xf2 (by omega);have haok:a.ok:=(a0R hc (by rw [hdv] at hfa;exact hfa)).1;unfold Ar.ok at haok
   (skip)
   have h1:=b78 (p:=a.prot) (by omega) (by omega);by_cases hp1:2<=a.prot
   ·rw [xf0 hp1] at h1
    repeat' (first|(with_reducible apply a8 a7);rfl;rfl;rfl|(with_reducible apply a9);rfl;(apply Ld.sc a7;rfl;exact hS.blkC 0 rfl rfl);rfl|(with_reducible apply j0);rfl;rfl;omega;omega;rfl|refine yDn (by with_reducible constructor) ?_|((with_reducible apply j5);(iterate 4 rfl);first|rfl|assumption)|(with_reducible apply s9);(iterate 4 rfl);rfl;rfl|(with_reducible apply e9);rfl;rfl;rfl;rfl|(with_reducible apply f5);rfl;(first|rfl|assumption);rfl;rfl|(with_reducible apply f6);rfl;rfl|(with_reducible apply d7 hS a7);rfl;rfl;rfl;clear hS;intro g w' hS|(with_reducible apply b8 hS a7 (i:=0));(iterate 8 rfl);exact (rfl:_=[_,_,_,_]);clear hS;intro w' hS;simp only [List.set] at hS|(with_reducible apply d5);rfl;all_goals (intro hb hp;try (exfalso;omega))|(with_reducible apply d6 hS);rfl;rfl;rfl;refine ⟨_,hspc _ (hV0.now hS),?_⟩;clear hS;intro w' hS|(with_reducible apply x6 a7);rfl;rfl;rfl;refine ⟨_,hS.baseC (k4.cel hrowS rfl) id,?_⟩|(with_reducible apply d6 hS);rfl;rfl;rfl;refine ⟨_,hf2 _ (har.now hS),?_⟩;clear hS;intro w' hS|(with_reducible apply a0t);rfl;rfl;omega;omega;omega;rfl|(with_reducible apply b1d);rfl;rfl;exact h1;rfl)
    have hnx:n7 x.s.areas 2 (addr + (i:Nat))=none:=by
     unfold n7;rw [hfa];dsimp only;rw [xf1 hneg,xf1];omega
    exact a0N (i + 1) (by exact Fr.sub_of rfl) (by omega) (fun j hj=>by
     by_cases e:j=i
     ·rw [e];exact hnx
     ·exact hall j (by omega)) (by omega) (hS.sub (by repeat (first|exact xm0 _|apply xm3)))
   ·rw [xf1 hp1] at h1;have hff:F=(2,addr + (i:Nat)):=hF.trans (v8 hal (by omega) hall (by
     unfold n7;rw [hfa];dsimp only;rw [xf1 hneg,xf0];omega))
    repeat' (first|(with_reducible apply a8 a7);rfl;rfl;rfl|(with_reducible apply a9);rfl;(apply Ld.sc a7;rfl;exact hS.blkC 0 rfl rfl);rfl|(with_reducible apply j0);rfl;rfl;omega;omega;rfl|(with_reducible apply l4 a7);rfl;rfl;exact (rfl:_=some [_,_]);rfl|refine yDn (by with_reducible constructor) ?_|((with_reducible apply j5);(iterate 4 rfl);first|rfl|assumption)|(with_reducible apply s9);(iterate 4 rfl);rfl;rfl|(with_reducible apply e9);rfl;rfl;rfl;rfl|(with_reducible apply f5);rfl;(first|rfl|assumption);rfl;rfl|(with_reducible apply d9);rfl;rfl|(with_reducible apply f6);rfl;rfl|(with_reducible apply d7 hS a7);rfl;rfl;rfl;clear hS;intro g w' hS|(with_reducible apply b8 hS a7 (i:=0));(iterate 8 rfl);exact (rfl:_=[_,_,_,_]);clear hS;intro w' hS;simp only [List.set] at hS|(with_reducible apply b8 hS a7 (i:=1));(iterate 8 rfl);exact (rfl:_=[_,_]);clear hS;intro w' hS;simp only [List.set] at hS|(with_reducible apply d5);rfl;all_goals (intro hb hp;try (exfalso;omega))|(with_reducible apply d6 hS);rfl;rfl;rfl;refine ⟨_,hspc _ (hV0.now hS),?_⟩;clear hS;intro w' hS|(with_reducible apply x6 a7);rfl;rfl;rfl;refine ⟨_,hS.baseC (k4.cel hrowS rfl) id,?_⟩|(with_reducible apply d6 hS);rfl;rfl;rfl;refine ⟨_,hf2 _ (har.now hS),?_⟩;clear hS;intro w' hS|(with_reducible apply a0t);rfl;rfl;omega;omega;omega;rfl|(with_reducible apply b1d);rfl;rfl;exact h1;rfl)
    (apply w7;repeat (first|exact ResL.nil|apply ResL.cell;rfl;(apply Ld.st a7;rfl;exact hS.blkR 1 rfl;rfl)))
    exact ⟨by rw [hff],hS.sub (xj3 _)⟩
theorem WkV.own {F:Nat->Prop} {w0 w:World} {g:Nat} {k:KV} {sp:Nat} {vh:Value} {held:List Nat} {Γ:List Asr} (hS:St F w0 w (wkS g k sp vh held++(a0U k++Γ))):WkV w g k sp vh held :=
 WkV.of (Γ:=[]) (by rw [List.append_nil];exact St.startM hS) (KRo.own hS)
theorem a6W {K:Ker} {space size way addr:Int} {sp:Nat} (h0:x5 K space size way=0) (hsp:space=(sp:Nat)) (hF:(q8 (k7 K sp) addr size way).1=0):Right K/\1<=size/\size<=8/\(way=0\/way=1\/way=2)/\16<=addr/\addr + size<=4096/\∀ i,0<=i->i < size->At K sp ((addr + i) / 16):=by
 unfold x5 at h0;by_cases hl:a0Q K space=0;rotate_left
 ·rw [xf1 hl] at h0;exact absurd h0 hl
 rw [xf0 hl] at h0;by_cases h1:size < 1\/8 < size
 ·rw [xf0 h1] at h0;cases h0
 rw [xf1 h1] at h0;by_cases h2:way < 0\/2 < way
 ·rw [xf0 h2] at h0;cases h0
 unfold a0Q at hl;by_cases h3:a02 K=0;rotate_left
 ·rw [xf1 h3] at hl;exact absurd hl h3
 rw [xf0 h3] at hl;have hr:=a3X.1 h3;subst hsp;by_cases h4:0<=((sp:Nat):Int)/\((sp:Nat):Int) < (K.spaces.length:Int)/\(a0C K ((sp:Nat):Int).toNat).live=true;rotate_left
 ·rw [xf1 h4] at hl;cases hl
 obtain ⟨-,hlt,hlv⟩:=h4;have hsl:sp < K.spaces.length:=by omega
 have hs:=xe1 hsl;have hsc:=(z7 hr _ (xd0 hs)).1;have hA:k7 K sp=K.spaces[sp].areas:=by unfold k7;rw [a01 hs]
 have hc:m6 (k7 K sp)=0:=by rw [hA];exact hsc.ar
 obtain ⟨-,hno⟩:=a9n hc hF (by omega);have hf0:=a16 hc (hno 0 (by omega) (by omega));have hf1:=a16 hc (hno (size - 1) (by omega) (by omega));refine ⟨hr,by omega,by omega,by omega,by omega,by omega,fun i hi1 hi2=>⟨hlv,?_⟩⟩;obtain ⟨-,-,-,a,ha⟩:=a16 hc (hno i hi1 hi2);rw [ha];rfl
def a2b (F:Int×Int):Value:=.agg #[.int .i64 F.1,.int .i64 F.2]
theorem a9S {w:World} {k:KV} (hK:KerV w k) {space addr size way:Int} (hb0:-9223372036854775808<=addr) (hb1:addr<=9223372036854775807):Fn Tryz.prog 73 [.agg (kvC k).toArray,.int .i64 space,.int .i64 addr,.int .i64 size,.int .i64 way] w (fun v w'=>
  (x5 k.K space size way≠0/\v=.tuple #[.pointer none,a2b (0,0),.int .i64 (x5 k.K space size way)]/\St nF w w' []) \/
  (x5 k.K space size way=0/\(q8 (k7 k.K space.toNat) addr size way).1≠0/\v=.tuple #[.pointer none,a2b (q8 (k7 k.K space.toNat) addr size way),.int .i64 0]/\St nF w w' []) \/
  ∃ (g sp:Nat) (k':KV) (vh:Value) (held:List Nat),x5 k.K space size way=0/\(q8 (k7 k.K space.toNat) addr size way).1=0/\space=(sp:Nat)/\v=.tuple #[.pointer (some ⟨g,0,none⟩),a2b (0,0),.int .i64 0]/\k'.K=a0H k.K sp addr size (decide (way=1))/\St nF w w' (wkS g k' sp vh held++a0U k')):=by
 have hbeg:=fun w1 (h:KerV w1 k)=>b2R h space;have hK0:=hK;obtain ⟨RE,hRE⟩:∃ e,e=x5 k.K space size way:=⟨_,rfl⟩;rw [<- hRE];unfold x5 at hRE;obtain ⟨sh,fr,sl,sps,hand,vsh,vfr,vsl,vsp⟩:=k;obtain ⟨k1,k2,k3,k4,k5⟩:=hK;dsimp only at k1 k2 k3 k4 k5;obtain ⟨p1,c1,rfl⟩:=k1.sl.len;obtain ⟨p2,c2,rfl⟩:=k2.len;obtain ⟨p3,c3,rfl⟩:=k3.len;obtain ⟨p4,c4,rfl⟩:=k4.len;generalize hKK:KV.K ⟨sh,fr,sl,sps,hand,.slice p1 sh.length c1,.slice p2 fr.length c2,.slice p3 sl.length c3,.slice p4 sps.length c4⟩=K at hbeg hRE |-;unfold a2b;dsimp only;have hpre:∀ w1 Γ1,St nF w w1 Γ1->KerV w1 ⟨sh,fr,sl,sps,hand,.slice p1 sh.length c1,.slice p2 fr.length c2,.slice p3 sl.length c3,.slice p4 sps.length c4⟩:=fun w1 Γ1 h=>hK0.now h;unfold kvC at hbeg |-;dsimp only at hbeg |-;refine yEn Tryz.func73 Tryz.ntmps73 (by kernel_rfl) (by kernel_rfl) rfl rfl ?_;have hS:=St.start w
 repeat' (first|(with_reducible apply a8 a7);rfl;rfl;rfl|(with_reducible apply a9);rfl;(apply Ld.st a7;rfl;exact hS.blkR 1 rfl;rfl);rfl|refine yDn (by with_reducible constructor) ?_|(with_reducible apply l6 hS);rfl;rfl;rfl;clear hS;intro g w' hS|(with_reducible apply d7 hS a7);rfl;rfl;rfl;clear hS;intro g w' hS)
 refine a4v rfl rfl (hbeg _ (hpre _ _ hS)) rfl ?_;rintro v w2 (⟨he,rfl,hS'⟩|⟨gw,sp,k',he,hsp,rfl,hk',hS'⟩)
 ·replace hS:=hS.transA hS';simp only [v7] at hS;rw [xf1 he] at hRE;have hd:decide (a0Q K space=0)=false:=xj2 he;rw [<- hRE] at he hd |-
  repeat' (first|(with_reducible apply a8 a7);rfl;rfl;rfl|(with_reducible apply l4 a7);rfl;rfl;exact (rfl:_=some [_,_]);rfl|refine yDn (by with_reducible constructor) ?_|(with_reducible apply b8 hS a7 (i:=0));(iterate 8 rfl);exact (rfl:_=[_,_]);clear hS;intro w' hS;simp only [List.set] at hS|(with_reducible apply a1r);rfl;all_goals (intro hb hp;try (exfalso;omega)))
  (apply a3w;repeat (first|exact ResL.nil|apply ResL.tmp;rfl|apply ResL.cell;rfl;(apply Ld.st a7;rfl;exact hS.blkR 0 rfl;rfl)))
  exact xd6 ⟨he,rfl,hS.sub (xj3 _)⟩
 rw [xf0 he] at hRE;replace hS:=hS.trans hS';clear hS' hbeg;replace hS:=hS.perm xm6;dsimp only [List.cons_append,List.nil_append] at hS;have hsub:∀ {w1 L},St nF w w1 L->St nF w w1 []:=fun h=>h.sub (xj3 _);by_cases h1:size < 1\/8 < size
 ·rw [xf0 h1] at hRE;subst hRE
  repeat' (first|(with_reducible apply a8 a7);rfl;rfl;rfl|(with_reducible apply l4 a7);rfl;rfl;exact (rfl:_=some [_,_]);rfl|refine yDn (by with_reducible constructor) ?_|(with_reducible apply j5);(iterate 4 rfl);assumption|(with_reducible apply s9);(iterate 4 rfl);assumption;rfl|(with_reducible apply e9);rfl;assumption;rfl;rfl|(with_reducible apply f5);rfl;assumption;rfl;rfl|(with_reducible apply d9);rfl;rfl|(with_reducible apply f6);rfl;rfl|(with_reducible apply b8 hS a7 (i:=0));(iterate 8 rfl);exact (rfl:_=[_,_]);clear hS;intro w' hS;simp only [List.set] at hS|(with_reducible apply r9);rfl;rfl;rfl;all_goals (intro hb hp;try (exfalso;omega))|(with_reducible apply d5);rfl;all_goals (intro hb hp;try (exfalso;omega)))
  all_goals (apply a3w)
  all_goals (repeat (first|exact ResL.nil|apply ResL.tmp;rfl|apply ResL.cell;rfl;(apply Ld.st a7;rfl;exact hS.blkR 0 rfl;rfl)))
  all_goals (exact xd6 ⟨by omega,rfl,hsub hS⟩)
 rw [xf1 h1] at hRE;by_cases h2:way < 0\/2 < way
 ·rw [xf0 h2] at hRE;subst hRE
  repeat' (first|(with_reducible apply a8 a7);rfl;rfl;rfl|(with_reducible apply l4 a7);rfl;rfl;exact (rfl:_=some [_,_]);rfl|refine yDn (by with_reducible constructor) ?_|(with_reducible apply j5);(iterate 4 rfl);assumption|(with_reducible apply s9);(iterate 4 rfl);assumption;rfl|(with_reducible apply e9);rfl;assumption;rfl;rfl|(with_reducible apply f5);rfl;assumption;rfl;rfl|(with_reducible apply d9);rfl;rfl|(with_reducible apply f6);rfl;rfl|(with_reducible apply b8 hS a7 (i:=0));(iterate 8 rfl);exact (rfl:_=[_,_]);clear hS;intro w' hS;simp only [List.set] at hS|(with_reducible apply r9);rfl;rfl;rfl;all_goals (intro hb hp;try (exfalso;omega))|(with_reducible apply d5);rfl;all_goals (intro hb hp;try (exfalso;omega)))
  all_goals (apply a3w)
  all_goals (repeat (first|exact ResL.nil|apply ResL.tmp;rfl|apply ResL.cell;rfl;(apply Ld.st a7;rfl;exact hS.blkR 0 rfl;rfl)))
  all_goals (exact xd6 ⟨by omega,rfl,hsub hS⟩)
 rw [xf1 h2] at hRE;have hRE0:x5 K space size way=0:=by unfold x5;rw [xf0 he,xf1 h1,xf1 h2]
 subst hsp;rw [show (((sp:Nat):Int)).toNat=sp from rfl];have hr:Right k'.K:=by
  rw [hk'];unfold a0Q at he;by_cases h3:a02 K=0
  ·exact a3X.1 h3
  ·rw [xf1 h3] at he;exact absurd he h3
 obtain ⟨x,hx⟩:∃ x,k'.sp[sp]?=some x:=by
  unfold a0Q at he;by_cases h3:a02 K=0
  ·rw [xf0 h3] at he;by_cases h4:0<=((sp:Nat):Int)/\((sp:Nat):Int) < (K.spaces.length:Int)/\(a0C K ((sp:Nat):Int).toNat).live=true
   ·have:K.spaces.length=k'.sp.length:=by rw [<- hk'];exact xj1 _
    exact j3 (by omega)
   ·rw [xf1 h4] at he;cases he
  ·rw [xf1 h3] at he;exact absurd he h3
 have hxA:k7 K sp=x.s.areas:=by rw [<- hk'];unfold k7;rw [a01 (a1F hx)]
 have hsc:=(z7 hr x.s (xd0 (a1F hx))).1;obtain ⟨F,hF⟩:∃ F,F=q8 (k7 K sp) addr size way:=⟨_,rfl⟩;have hflt:=fun w1 vh held Γ1 (h:St nF w w1 (wkS gw k' sp vh held++(a0U k'++Γ1)))=>b2G (WkV.own h) hx hsc.ar hb0 hb1 (size:=size) (way:=way) (by omega) (by omega) (by omega);rw [<- hxA,<- hF] at hflt;rw [<- hF];have hback:∀ {w1 a b},St nF w w1 (a::b::(wkS gw k' sp (.slice none 0 0) []++a0U k'))->St nF w w1 (wkS gw k' sp (.slice none 0 0) []++(a0U k'++[a,b])):=fun h=>by
  rw [<- xg2];exact h.perm (xm6 (l₁:=[_,_]))
 by_cases hF0:F.1=0;rotate_left
 ·have hd:decide (F.1=0)=false:=xj2 hF0
  repeat' (first|(with_reducible apply a8 a7);rfl;rfl;rfl|(with_reducible apply a9);rfl;(apply Ld.sc a7;rfl;exact hS.blkC 0 rfl rfl);rfl|refine yDn (by with_reducible constructor) ?_|(with_reducible apply j5);(iterate 4 rfl);assumption|(with_reducible apply f5);rfl;assumption;rfl;rfl|(with_reducible apply f6);rfl;rfl|(with_reducible apply d7 hS a7);rfl;rfl;rfl;clear hS;intro g w' hS|(with_reducible apply b8 hS a7 (i:=0));(iterate 8 rfl);exact (rfl:_=[_,_]);clear hS;intro w' hS;simp only [List.set] at hS|(with_reducible apply r9);rfl;rfl;rfl;all_goals (intro hb hp;try (exfalso;omega))|(with_reducible apply d5);rfl;all_goals (intro hb hp;try (exfalso;omega))|(with_reducible apply a1r);rfl;all_goals (intro hb hp;try (exfalso;omega))|(with_reducible apply d6 hS);rfl;rfl;rfl;refine ⟨_,hflt _ _ _ _ (hback hS),?_⟩;clear hS;intro w' hS)
  (focus ((with_reducible apply a0b _ _ _ 2 (by kernel_rfl) (by kernel_rfl) hS);(simp only [xl4,xl5,xl8,xl9]);(repeat' ((first|(with_reducible apply i9 a7);rfl;rfl|(with_reducible apply i7);rfl;(intro wd hd;replace hd:St _ _ wd _:=hd;(apply Ld.st a7;rfl;exact hd.blkR 0 rfl;rfl));rfl)));all_goals ((with_reducible apply j7);intro w' hS';clear hS;have hS:=hS';clear hS')))
  repeat' (first|(with_reducible apply a8 a7);rfl;rfl;rfl|refine yDn (by with_reducible constructor) ?_|(with_reducible apply b8 hS a7 (i:=1));(iterate 8 rfl);exact (rfl:_=[_,_]);clear hS;intro w' hS;simp only [List.set] at hS)
  (apply a3w;repeat (first|exact ResL.nil|apply ResL.tmp;rfl|apply ResL.cell;rfl;(apply Ld.st a7;rfl;exact hS.blkR 1 rfl;rfl)))
  exact xd3 (xd6 ⟨hRE,hF0,rfl,hsub hS⟩)
 have hd:decide (F.1=0)=true:=xj4 hF0;obtain ⟨-,hs1,hs8,hwy,ha16,ha4,hAt⟩:=a6W hRE0 rfl (by rw [<- hF];exact hF0)
 repeat' (first|(with_reducible apply a8 a7);rfl;rfl;rfl|(with_reducible apply a9);rfl;(apply Ld.sc a7;rfl;exact hS.blkC 0 rfl rfl);rfl|refine yDn (by with_reducible constructor) ?_|(with_reducible apply j5);(iterate 4 rfl);assumption|(with_reducible apply f5);rfl;assumption;rfl;rfl|(with_reducible apply f6);rfl;rfl|(with_reducible apply d7 hS a7);rfl;rfl;rfl;clear hS;intro g w' hS|(with_reducible apply b8 hS a7 (i:=0));(iterate 8 rfl);exact (rfl:_=[_,_]);clear hS;intro w' hS;simp only [List.set] at hS|(with_reducible apply r9);rfl;rfl;rfl;all_goals (intro hb hp;try (exfalso;omega))|(with_reducible apply d5);rfl;all_goals (intro hb hp;try (exfalso;omega))|(with_reducible apply a1r);rfl;all_goals (intro hb hp;try (exfalso;omega))|(with_reducible apply d6 hS);rfl;rfl;rfl;refine ⟨_,hflt _ _ _ _ (hback hS),?_⟩;clear hS;intro w' hS|(with_reducible apply a8Y);rfl;rfl;omega;omega;omega;rfl)
 replace hS:=hS.sub (xm3 _ (List.Sublist.cons_cons _ (xm3 _ (xm0 _))));obtain ⟨B,hB⟩:∃ B,B=a0y K sp (addr / 16) (decide (way=1)) []:=⟨_,rfl⟩;obtain ⟨C,hC⟩:∃ C,C=a0y B.1 sp ((addr + size - 1) / 16) (decide (way=1)) [B.2]:=⟨_,rfl⟩;have hrK:a0H K sp addr size (decide (way=1))=if (addr + size - 1) / 16=addr / 16 then B.1 else C.1:=by unfold a0H;rw [<- hB,<- hC]
 refine l7 (F:=nF) (w0:=w) (X:=Nat×KV×Value×List Nat) (fun x=>[(16,.int .i64 (addr / 16 + (x.1:Nat)))]) [2,3,4,11,13] rfl (fun x=>.blk _ [.int .i64 0,.int .i64 0]::(wkS gw x.2.1 sp x.2.2.1 x.2.2.2++a0U k')) (Γ:=[]) (fun x=>KLike k' x.2.1/\((x.1=0/\x.2.1.K=K/\x.2.2.2=[])\/(x.1=1/\x.2.1.K=B.1/\x.2.2.2=[B.2])\/(x.1=2/\(addr + size - 1) / 16≠addr / 16/\x.2.1.K=C.1))) (fun x=>2 - x.1) (0,k',.slice none 0 0,[]) (by dsimp only;rw [show addr / 16 + ((0:Nat):Int)=addr / 16 by omega];exact Fr.sub_of rfl) ⟨KLike.refl _,xd6 ⟨rfl,hk',rfl⟩⟩ (by rw [List.append_nil];exact hS) ?_;clear hS;rintro ⟨r,k2,vh2,hd2⟩ w3 ⟨hl2,hcase⟩ hS;dsimp only at hl2 hcase hS |-;rw [List.append_nil] at hS;rw [<- a1L hl2] at hS;have hwrap:∀ {w1 a L R},St nF w w1 (a::(L++R))->St nF w w1 (L++(R++[a])):=fun h=>by
  rw [<- xg2];exact h.perm (xm4 _ _).symm
 have hwrap2:∀ {w1 a L R},St nF w w1 (L++(R++[a]))->St nF w w1 (a::(L++R)):=fun h=>by
  rw [<- xg2] at h;exact h.perm (xm4 _ _)
 dsimp only [List.cons_append,List.nil_append];by_cases hmore:addr / 16 + (r:Nat)<=(addr + size - 1) / 16;rotate_left
 ·have hd3:decide (addr / 16 + ((r:Nat):Int)<=(addr + size - 1) / 16)=false:=xj2 hmore;have hK2:k2.K=a0H K sp addr size (decide (way=1)):=by
   rw [hrK];rcases hcase with ⟨rfl,-,-⟩|⟨rfl,h3,-⟩|⟨rfl,h3,h4⟩
   ·omega
   ·rw [xf0 (by omega),h3]
   ·rw [xf1 h3,h4]
  repeat' (first|(with_reducible apply a8 a7);rfl;rfl;rfl|(with_reducible apply j0);rfl;rfl;omega;omega;rfl|(with_reducible apply a0h);rfl;rfl;omega;omega;rfl|(with_reducible apply l4 a7);rfl;rfl;exact (rfl:_=some [_,_]);rfl|refine yDn (by with_reducible constructor) ?_|(with_reducible apply f6);rfl;assumption|(with_reducible apply b8 hS a7 (i:=0));(iterate 8 rfl);exact (rfl:_=[_,_]);clear hS;intro w' hS;simp only [List.set] at hS|(with_reducible apply a8Y);rfl;rfl;omega;omega;omega;rfl)
  (apply a3w;repeat (first|exact ResL.nil|apply ResL.tmp;rfl|apply ResL.cell;rfl;(apply Ld.st a7;rfl;exact hS.blkR 0 rfl;rfl)))
  exact xd3 (xd3 ⟨gw,sp,k2,vh2,hd2,hRE,hF0,rfl,rfl,hK2,hS.drop⟩)
 have hd3:decide (addr / 16 + ((r:Nat):Int)<=(addr + size - 1) / 16)=true:=xj4 hmore;rcases hcase with ⟨rfl,h3,rfl⟩|⟨rfl,h3,rfl⟩|⟨rfl,h3,h4⟩
 ·have hp:=hAt 0 (by omega) (by omega);rw [Int.add_zero] at hp;have hr2:Right k2.K:=by rw [h3,<- hk'];exact hr
  have hbr:=fun w1 Γ1 (h:St nF w w1 (wkS gw k2 sp vh2 []++(a0U k2++Γ1)))=>a75 h (KRo.own h) hr2 (page:=addr / 16) (by rw [h3];exact hp) (decide (way=1)) (by simp) (by simp);rw [h3,<- hB] at hbr;rw [show addr / 16 + ((0:Nat):Int)=addr / 16 by omega] at hd3 |-
  repeat' (first|(with_reducible apply a8 a7);rfl;rfl;rfl|(with_reducible apply j0);rfl;rfl;omega;omega;rfl|(with_reducible apply a0h);rfl;rfl;omega;omega;rfl|refine yDn (by with_reducible constructor) ?_|(with_reducible apply d9);rfl;assumption|(with_reducible apply a8Y);rfl;rfl;omega;omega;omega;rfl)
  replace hS:=hwrap hS
  repeat' (first|(with_reducible apply a8 a7);rfl;rfl;rfl|(with_reducible apply j0);rfl;rfl;omega;omega;rfl|refine yDn (by with_reducible constructor) ?_|(with_reducible apply m9);rfl;rfl;rfl;refine ⟨_,hbr _ _ hS,?_⟩;rintro _ w4 ⟨rfl,k3,vh3,e3,l3,h4⟩;(replace hS:=hwrap2 (St.transM hS h4));clear h4)
  rw [a1L hl2] at hS;exact f7 (1,k3,vh3,[B.2]) (by dsimp only;rw [show addr / 16 + ((1:Nat):Int)=addr / 16 + 1 by omega];exact Fr.sub_of rfl) ⟨hl2.trans l3,xd3 (xd6 ⟨rfl,e3,rfl⟩)⟩ (by rw [List.append_nil];exact hS) (by show 2 - 1 < 2 - 0;omega)
 ·have hp:=hAt 0 (by omega) (by omega);rw [Int.add_zero] at hp;have hp2:=hAt (size - 1) (by omega) (by omega);rw [show addr + (size - 1)=addr + size - 1 by omega] at hp2;have hpg:(addr + size - 1) / 16=addr / 16 + ((1:Nat):Int):=by omega
  have hbo:=(a34 (by rw [<- hk'];exact hr) hp (decide (way=1)) (held:=[]) (by simp) (by simp)).1;rw [<- hB] at hbo;have hr2:Right k2.K:=by rw [h3];exact hbo.right
  have hbr:=fun w1 Γ1 (h:St nF w w1 (wkS gw k2 sp vh2 [B.2]++(a0U k2++Γ1)))=>a75 h (KRo.own h) hr2 (page:=(addr + size - 1) / 16) (by rw [h3];exact hp2.same hbo.same.ar hbo.same.live) (decide (way=1)) (by simp) (fun i hi=>by
   rw [xj0] at hi;subst hi;exact ⟨addr / 16,by omega,by rw [h3];exact hbo.ent⟩)
  rw [h3,<- hC,hpg] at hbr
  repeat' (first|(with_reducible apply a8 a7);rfl;rfl;rfl|(with_reducible apply j0);rfl;rfl;omega;omega;rfl|(with_reducible apply a0h);rfl;rfl;omega;omega;rfl|refine yDn (by with_reducible constructor) ?_|(with_reducible apply d9);rfl;assumption|(with_reducible apply a8Y);rfl;rfl;omega;omega;omega;rfl)
  replace hS:=hwrap hS
  repeat' (first|(with_reducible apply a8 a7);rfl;rfl;rfl|(with_reducible apply j0);rfl;rfl;omega;omega;rfl|refine yDn (by with_reducible constructor) ?_|(with_reducible apply m9);rfl;rfl;rfl;refine ⟨_,hbr _ _ hS,?_⟩;rintro _ w4 ⟨rfl,k3,vh3,e3,l3,h4⟩;(replace hS:=hwrap2 (St.transM hS h4));clear h4)
  rw [a1L hl2] at hS;exact f7 (2,k3,vh3,_) (by dsimp only;rw [show addr / 16 + ((2:Nat):Int)=addr / 16 + ((1:Nat):Int) + 1 by omega];exact Fr.sub_of rfl) ⟨hl2.trans l3,xd3 (xd3 ⟨rfl,by omega,e3⟩)⟩ (by rw [List.append_nil];exact hS) (by show 2 - 2 < 2 - 1;omega)
 ·exfalso;omega
section
variable {P:Program} {n:Nat} {ds:List Deferred} {E:Fr} {w w':World} {Q:Exit->Act->World->Prop} {ops:Array Oper} {rest:List Oper} {d:Nat} {dst:Option Nat} {ty:TypeId} {pos:String} {after:Array Edge} {F:Nat->Prop} {w0:World} {Γ:List Asr} {T:Tab}
theorem b09 {t yt:TypeId} {x y:Operand} {p:Option Addr} (ht:P.underlying t=some (.pointer (P.pointee t))) (hx:E.ev x=some (.pointer p)) (hy:E.ev y=some (.pointer none)):∀ a,Has n ds a E->∀ dst,a0V P ⟨dst,.binOp .eql t x y yt,ty,pos,after,none⟩ a (.bool p.isNone):=fun a ha _ w=>by
 have e:=run_eql_pointer_nil (P:=P) (w:=w) t p ht;simp only [execOp,ha.ev hx,ha.ev hy,eqGuard];simp [e,Result.andThen]
theorem a2G {t yt:TypeId} {x y:Operand} {p:Option Addr} (ht:P.underlying t=some (.pointer (P.pointee t))) (hx:E.ev x=some (.pointer p)) (hy:E.ev y=some (.pointer none)) (hd:Nat.blt d n=true) (k':WL P ops Q rest n ds ((d,.bool p.isNone)::E) w):WL P ops Q (⟨some d,.binOp .eql t x y yt,ty,pos,after,none⟩::rest) n ds E w:=a0l (fun a ha=>b09 ht hx hy a ha _) hd k'
end
def a5n (k:KV):List Asr:=frA k::slA k::a08 k::(k.sp.map a0j++a0U k)
theorem KerV.own {F:Nat->Prop} {w0 w:World} {k:KV} {Γ:List Asr} (hS:St F w0 w (a5n k++Γ)):KerV w k:=by
 have hmem:∀ {e sz:Nat} {v:Value} {rows:List (List Value)},Asr.row e sz v rows ∈ a5n k->Sl nF w sz v rows:=fun h=>hS.slMem (xe5 Γ h);have hr:∀ {A},A ∈ a0U k->A ∈ a5n k:=fun h=>xc6 _ (xc6 _ (xc6 _ (xe6 _ h)));refine ⟨⟨hmem (e:=94) (hr xc5),fun p hp=>?_⟩,hmem (e:=89) xc5,hmem (e:=143) (xc6 _ xc5),hmem (e:=75) (xc6 _ (xc6 _ xc5)),fun p hp=>⟨?_,?_⟩⟩
 ·exact hmem (e:=96) (hr (xc6 _ (xe5 _ (xm7.2 ⟨p,hp,rfl⟩))))
 ·exact hmem (e:=81) (hr (xc6 _ (xe6 _ (xm7.2 ⟨p,hp,rfl⟩))))
 ·exact hmem (e:=91) (xc6 _ (xc6 _ (xc6 _ (xe5 _ (xm7.2 ⟨p,hp,rfl⟩)))))
def b0R:Ker:=⟨[],[],[],[],0⟩
def kv0:KV:=⟨[],[],[],[],0,.slice none 0 0,.slice none 0 0,.slice none 0 0,.slice none 0 0⟩
theorem a4V (w:World):KerV w kv0:=⟨⟨Sl.nil0 w 3,(fun _ h=>by cases h)⟩,Sl.nil0 w 4,Sl.nil0 w 2,Sl.nil0 w 3,(fun _ h=>by cases h)⟩
def Came (w w':World) (k:KV):Prop:=(k=kv0/\St nF w w' [])\/St nF w w' (a5n k)
theorem Came.st {w w':World} {k:KV} (h:Came w w' k):St nF w w' []:=by
 rcases h with ⟨-,h⟩|h
 ·exact h
 ·exact h.sub (xj3 _)
theorem Came.V {w w':World} {k:KV} (h:Came w w' k):KerV w' k:=by
 rcases h with ⟨rfl,-⟩|h
 ·exact a4V w'
 ·exact KerV.own (Γ:=[]) (by rw [List.append_nil];exact h)
theorem b06 {w w':World} {g sp:Nat} {k:KV} {vh:Value} {held:List Nat} {Γ:List Asr} (h:St nF w w' (wkS g k sp vh held++(a0U k++Γ))):Came w w' k:=by
 refine xd3 ?_;rw [<- xg2] at h;replace h:=h.sub (xm5 _ _);unfold wkS at h;have h2:St nF w w' (frA k::slA k::a08 k::(k.sp.map a0j++a0U k)):=h.drop.drop;exact h2
def okR (K:Ker) (space addr size way:Int):Prop:=x5 K space size way=0/\(q8 (k7 K space.toNat) addr size way).1=0
instance (K:Ker) (space addr size way:Int):Decidable (okR K space addr size way):=by unfold okR;infer_instance
def a2q (K:Ker) (space addr size way:Int):Ker:=if okR K space addr size way then a0H K space.toNat addr size (decide (way=1)) else b0R
def a19 (K:Ker) (space addr size way:Int):Int×Int:=if x5 K space size way=0 then q8 (k7 K space.toNat) addr size way else (0,0)
theorem a5h {K:Ker} {space addr size way:Int} (h:okR K space addr size way):a19 K space addr size way=(0,0):=by
 unfold a19;rw [xf0 h.1];obtain ⟨h1,h2⟩:=h;have hs1:1<=size:=by
  unfold x5 at h1;by_cases hl:a0Q K space=0
  ·rw [xf0 hl] at h1;by_cases h3:size < 1\/8 < size
   ·rw [xf0 h3] at h1;cases h1
   ·omega
  ·rw [xf1 hl] at h1;exact absurd h1 hl
 unfold q8 at h2 |-;by_cases hw:way=2/\addr.tmod 8≠0
 ·rw [xf0 hw] at h2;cases h2
 ·rw [xf1 hw] at h2 |-
  cases hf:(List.range size.toNat).findSome? fun i=>n7 (k7 K space.toNat) way (addr + (i:Nat)) with
  |none=>rfl
  |some p=>
   exfalso;rw [hf] at h2;dsimp only [Option.getD] at h2;obtain ⟨i,-,hi⟩:=List.exists_of_findSome?_eq_some hf;unfold n7 at hi
   split at hi
   ·cases hi;cases h2
   ·split at hi
    ·cases hi;cases h2
    ·split at hi
     ·cases hi;cases h2
     ·cases hi
theorem b3l {w:World} {k:KV} (hK:KerV w k) {space addr size way:Int} (hb0:-9223372036854775808<=addr) (hb1:addr<=9223372036854775807):Fn Tryz.prog 33 [.agg (kvC k).toArray,.int .i64 space,.int .i64 addr,.int .i64 size,.int .i64 way] w (fun v w'=>∃ k',v=.tuple #[.agg (kvC k').toArray,a2b (a19 k.K space addr size way),.int .i64 (x5 k.K space size way)]/\k'.K=a2q k.K space addr size way/\Came w w' k'):=by
 have hre:=fun w1 (h:KerV w1 k)=>a9S h (space:=space) (size:=size) (way:=way) hb0 hb1;have hK0:=hK;obtain ⟨sh,fr,sl,sps,hand,vsh,vfr,vsl,vsp⟩:=k;obtain ⟨k1,k2,k3,k4,k5⟩:=hK;dsimp only at k1 k2 k3 k4 k5;obtain ⟨p1,c1,rfl⟩:=k1.sl.len;obtain ⟨p2,c2,rfl⟩:=k2.len;obtain ⟨p3,c3,rfl⟩:=k3.len;obtain ⟨p4,c4,rfl⟩:=k4.len;generalize hKK:KV.K ⟨sh,fr,sl,sps,hand,.slice p1 sh.length c1,.slice p2 fr.length c2,.slice p3 sl.length c3,.slice p4 sps.length c4⟩=K at hre |-;have hpre:∀ w1 Γ1,St nF w w1 Γ1->KerV w1 ⟨sh,fr,sl,sps,hand,.slice p1 sh.length c1,.slice p2 fr.length c2,.slice p3 sl.length c3,.slice p4 sps.length c4⟩:=fun w1 Γ1 h=>hK0.now h;unfold a2b at hre |-;unfold kvC at hre;dsimp only at hre;unfold kvC;dsimp only;refine yEn Tryz.func33 Tryz.ntmps33 (by kernel_rfl) (by kernel_rfl) rfl rfl ?_;have hS:=St.start w
 repeat' (first|(with_reducible apply a8 a7);rfl;rfl;rfl|(with_reducible apply a9);rfl;(apply Ld.st a7;rfl;exact hS.blkR 2 rfl;rfl);rfl|refine yDn (by with_reducible constructor) ?_|(with_reducible apply l6 hS);rfl;rfl;rfl;clear hS;intro g w' hS|(with_reducible apply d7 hS a7);rfl;rfl;rfl;clear hS;intro g w' hS)
 refine a4v rfl rfl (hre _ (hpre _ _ hS)) rfl ?_;rintro v w2 (⟨he,rfl,hS'⟩|⟨he,hf,rfl,hS'⟩|⟨gw,sp,k',vh,held,he,hf,hsp,rfl,hk',hS'⟩)
 ·replace hS:=hS.transA hS';simp only [v7] at hS
  repeat' (first|(with_reducible apply a8 a7);rfl;rfl;rfl|refine yDn (by with_reducible constructor) ?_|(with_reducible apply d9);rfl;rfl|(with_reducible apply d7 hS a7);rfl;rfl;rfl;clear hS;intro g w' hS|(with_reducible apply b8 hS a7 (i:=0));(iterate 8 rfl);exact (rfl:_=[_,_]);clear hS;intro w' hS;simp only [List.set] at hS|(with_reducible apply a2G (by kernel_rfl));rfl;rfl;rfl)
  rename Nat=>g14
  refine a2L (fun w'=>St nF w w' [.blk g14 [.int .i64 0,.int .i64 0]]) 6 rfl hS (by kernel_rfl) ?_;intro w1 hS';clear hS;have hS:=hS';clear hS';have hH:St nF w w1 [.blk g14 [.int .i64 0,.int .i64 0]]:=hS.sub (.cons_cons _ (xj3 _))
  ((with_reducible apply a0O (nn 0) a7);rfl;kernel_rfl;kernel_rfl;kernel_rfl;exact (fun _ _ _ _ h=>h);exact hH;rfl;rfl;exact (rfl:_=some [_,_,_,_,_]);rfl)
  ((with_reducible apply r8 (nn 1));rfl;kernel_rfl;exact (fun _ _ _ h=>h);exact hH;rfl;(intro wd hd;replace hd:St _ _ wd _:=hd;(apply Ld.st a7;rfl;exact hd.blkR 0 rfl;rfl));rfl)
  ((with_reducible apply l5 (nn 2) a7);rfl;kernel_rfl;exact (fun _ _ _ h=>h);exact hH;rfl;rfl)
  refine o5 (i:=3) (by kernel_rfl) ?_;refine n9 (Φ:=fun _ w'=>St _ _ w' _) rfl (l8 hS a7 (i:=2) rfl rfl rfl rfl rfl (xg3 rfl) (xc7.1 rfl)) ?_;intro _ w' hS';simp only [List.set] at hS';clear hS;have hS:=hS';clear hS';refine ⟨(hS.sub (.cons_cons _ (xj3 _))),?_⟩;refine o5 (i:=4) (by kernel_rfl) ?_;refine n9 (Φ:=fun _ w'=>St _ _ w' _) rfl (l8 hS a7 (i:=1) rfl rfl rfl rfl rfl (xg3 rfl) (xc7.1 rfl)) ?_;intro _ w' hS';simp only [List.set] at hS';clear hS;have hS:=hS';clear hS';refine ⟨(hS.sub (.cons_cons _ (xj3 _))),?_⟩;have hH:St nF w w' [.blk g14 [.int .i64 0,.int .i64 0]]:=hS.sub (.cons_cons _ (xj3 _))
  ((with_reducible apply l5 (nn 5) a7);rfl;kernel_rfl;exact (fun _ _ _ h=>h);exact hH;rfl;rfl)
  refine z8 (by kernel_rfl) ?_
  repeat' ((refine yDn (by with_reducible constructor) ?_))
  (apply a3w;repeat (first|exact ResL.nil|apply ResL.tmp;rfl|apply ResL.cell;rfl;(apply Ld.st a7;rfl;(first|exact hS.blkR 1 rfl|exact hS.blkR 2 rfl);rfl)))
  refine ⟨kv0,?_,?_,xd6 ⟨rfl,hS.sub (xj3 _)⟩⟩
  ·unfold a19;rw [xf1 he];rfl
  ·unfold a2q;rw [xf1 (fun h=>he h.1)];rfl
 ·replace hS:=hS.transA hS';simp only [v7] at hS
  repeat' (first|(with_reducible apply a8 a7);rfl;rfl;rfl|refine yDn (by with_reducible constructor) ?_|(with_reducible apply d9);rfl;rfl|(with_reducible apply d7 hS a7);rfl;rfl;rfl;clear hS;intro g w' hS|(with_reducible apply b8 hS a7 (i:=0));(iterate 8 rfl);exact (rfl:_=[_,_]);clear hS;intro w' hS;simp only [List.set] at hS|(with_reducible apply a2G (by kernel_rfl));rfl;rfl;rfl)
  rename Nat=>g14
  refine a2L (fun w'=>St nF w w' [.blk g14 [.int .i64 (q8 (k7 K space.toNat) addr size way).1,.int .i64 (q8 (k7 K space.toNat) addr size way).2]]) 6 rfl hS (by kernel_rfl) ?_;intro w1 hS';clear hS;have hS:=hS';clear hS';have hH:St nF w w1 [.blk g14 [.int .i64 (q8 (k7 K space.toNat) addr size way).1,.int .i64 (q8 (k7 K space.toNat) addr size way).2]]:=hS.sub (.cons_cons _ (xj3 _))
  ((with_reducible apply a0O (nn 0) a7);rfl;kernel_rfl;kernel_rfl;kernel_rfl;exact (fun _ _ _ _ h=>h);exact hH;rfl;rfl;exact (rfl:_=some [_,_,_,_,_]);rfl)
  ((with_reducible apply r8 (nn 1));rfl;kernel_rfl;exact (fun _ _ _ h=>h);exact hH;rfl;(intro wd hd;replace hd:St _ _ wd _:=hd;(apply Ld.st a7;rfl;exact hd.blkR 0 rfl;rfl));rfl)
  ((with_reducible apply l5 (nn 2) a7);rfl;kernel_rfl;exact (fun _ _ _ h=>h);exact hH;rfl;rfl)
  refine o5 (i:=3) (by kernel_rfl) ?_;refine n9 (Φ:=fun _ w'=>St _ _ w' _) rfl (l8 hS a7 (i:=2) rfl rfl rfl rfl rfl (xg3 rfl) (xc7.1 rfl)) ?_;intro _ w' hS';simp only [List.set] at hS';clear hS;have hS:=hS';clear hS';refine ⟨(hS.sub (.cons_cons _ (xj3 _))),?_⟩;refine o5 (i:=4) (by kernel_rfl) ?_;refine n9 (Φ:=fun _ w'=>St _ _ w' _) rfl (l8 hS a7 (i:=1) rfl rfl rfl rfl rfl (xg3 rfl) (xc7.1 rfl)) ?_;intro _ w' hS';simp only [List.set] at hS';clear hS;have hS:=hS';clear hS';refine ⟨(hS.sub (.cons_cons _ (xj3 _))),?_⟩;have hH:St nF w w' [.blk g14 [.int .i64 (q8 (k7 K space.toNat) addr size way).1,.int .i64 (q8 (k7 K space.toNat) addr size way).2]]:=hS.sub (.cons_cons _ (xj3 _))
  ((with_reducible apply l5 (nn 5) a7);rfl;kernel_rfl;exact (fun _ _ _ h=>h);exact hH;rfl;rfl)
  refine z8 (by kernel_rfl) ?_
  repeat' ((refine yDn (by with_reducible constructor) ?_))
  (apply a3w;repeat (first|exact ResL.nil|apply ResL.tmp;rfl|apply ResL.cell;rfl;(apply Ld.st a7;rfl;(first|exact hS.blkR 1 rfl|exact hS.blkR 2 rfl);rfl)))
  refine ⟨kv0,?_,?_,xd6 ⟨rfl,hS.sub (xj3 _)⟩⟩
  ·unfold a19;rw [xf0 he,he];rfl
  ·unfold a2q;rw [xf1 (fun h=>hf h.2)];rfl
 ·have hkv:KerV w2 k':=(WkV.own (Γ:=[]) (by rw [List.append_nil];exact hS')).ker;replace hS:=hS.trans hS';clear hS' hre;replace hS:=hS.perm xm6;dsimp only [List.cons_append,List.nil_append] at hS
  repeat' (first|(with_reducible apply a8 a7);rfl;rfl;rfl|refine yDn (by with_reducible constructor) ?_|(with_reducible apply f6);rfl;rfl|(with_reducible apply d7 hS a7);rfl;rfl;rfl;clear hS;intro g w' hS|(with_reducible apply b8 hS a7 (i:=0));(iterate 8 rfl);exact (rfl:_=[_,_]);clear hS;intro w' hS;simp only [List.set] at hS|(with_reducible apply a2G (by kernel_rfl));rfl;rfl;rfl)
  rename Nat=>g14
  obtain ⟨sh',fr',sl',sps',hand',vsh',vfr',vsl',vsp'⟩:=k';obtain ⟨m1,m2,m3,m4,-⟩:=hkv;dsimp only at m1 m2 m3 m4;obtain ⟨q1,d1,rfl⟩:=m1.sl.len;obtain ⟨q2,d2,rfl⟩:=m2.len;obtain ⟨q3,d3,rfl⟩:=m3.len;obtain ⟨q4,d4,rfl⟩:=m4.len;unfold wkS wkB at hS;dsimp only [List.cons_append,List.nil_append] at hS;refine a2L (fun w'=>St nF w w' [.blk g14 [.int .i64 0,.int .i64 0],.blk gw [.slice q1 sh'.length d1,.slice q2 fr'.length d2,.slice q3 sl'.length d3,.slice q4 sps'.length d4,.int .i64 hand',.int .i64 (sp:Nat),vh]]) 9 rfl hS (by kernel_rfl) ?_;intro w1 hS';clear hS;have hS:=hS';clear hS';have hH:St nF w w1 [.blk g14 [.int .i64 0,.int .i64 0],.blk gw [.slice q1 sh'.length d1,.slice q2 fr'.length d2,.slice q3 sl'.length d3,.slice q4 sps'.length d4,.int .i64 hand',.int .i64 (sp:Nat),vh]]:=hS.sub (.cons_cons _ (.cons _ (.cons _ (.cons _ (.cons_cons _ (xj3 _))))))
  ((with_reducible apply l5 (nn 0) a7);rfl;kernel_rfl;exact (fun _ _ _ h=>h);exact hH;rfl;rfl)
  ((with_reducible apply l5 (nn 1) a7);rfl;kernel_rfl;exact (fun _ _ _ h=>h);exact hH;rfl;rfl)
  ((with_reducible apply l5 (nn 2) a7);rfl;kernel_rfl;exact (fun _ _ _ h=>h);exact hH;rfl;rfl)
  ((with_reducible apply a6d (nn 3));rfl;kernel_rfl;kernel_rfl;kernel_rfl;exact (fun _ _ _ h=>h);exact hH;rfl;(intro wd hd;replace hd:St _ _ wd _:=hd;(apply Ld.st a7;rfl;exact (hd.blkRk 1 0 5 rfl);rfl));rfl)
  ((with_reducible apply r8 (nn 4));rfl;kernel_rfl;exact (fun _ _ _ h=>h);exact hH;rfl;(intro wd hd;replace hd:St _ _ wd _:=hd;(apply Ld.st a7;rfl;exact hd.blkR 0 rfl;rfl));rfl)
  ((with_reducible apply l5 (nn 5) a7);rfl;kernel_rfl;exact (fun _ _ _ h=>h);exact hH;rfl;rfl)
  refine o5 (i:=6) (by kernel_rfl) ?_;simp only [xl4,xl5,xl9];refine n9 (Φ:=fun _ w'=>St _ _ w' _) rfl (l8 hS a7 (i:=2) rfl rfl rfl rfl rfl (xg3 rfl) (xc7.1 rfl)) ?_;intro _ w' hS';simp only [List.set] at hS';clear hS;have hS:=hS';clear hS';refine ⟨(hS.sub (.cons_cons _ (.cons _ (.cons _ (.cons _ (.cons_cons _ (xj3 _))))))),?_⟩;refine o5 (i:=7) (by kernel_rfl) ?_;refine n9 (Φ:=fun _ w'=>St _ _ w' _) rfl (l8 hS a7 (i:=1) rfl rfl rfl rfl rfl (xg3 rfl) (xc7.1 rfl)) ?_;intro _ w' hS';simp only [List.set] at hS';clear hS;have hS:=hS';clear hS';refine ⟨(hS.sub (.cons_cons _ (.cons _ (.cons _ (.cons _ (.cons_cons _ (xj3 _))))))),?_⟩;have hH:St nF w w' [.blk g14 [.int .i64 0,.int .i64 0],.blk gw [.slice q1 sh'.length d1,.slice q2 fr'.length d2,.slice q3 sl'.length d3,.slice q4 sps'.length d4,.int .i64 hand',.int .i64 (sp:Nat),vh]]:=hS.sub (.cons_cons _ (.cons _ (.cons _ (.cons _ (.cons_cons _ (xj3 _))))))
  ((with_reducible apply l5 (nn 8) a7);rfl;kernel_rfl;exact (fun _ _ _ h=>h);exact hH;rfl;rfl)
  refine z8 (by kernel_rfl) ?_
  repeat' ((refine yDn (by with_reducible constructor) ?_))
  (apply a3w;repeat (first|exact ResL.nil|apply ResL.tmp;rfl|apply ResL.cell;rfl;(apply Ld.st a7;rfl;(first|exact hS.blkR 1 rfl|exact hS.blkR 2 rfl);rfl)))
  have hok:okR K space addr size way:=⟨he,hf⟩;refine ⟨⟨sh',fr',sl',sps',hand',.slice q1 sh'.length d1,.slice q2 fr'.length d2,.slice q3 sl'.length d3,.slice q4 sps'.length d4⟩,?_,?_,?_⟩
  ·rw [a5h hok,he];rfl
  ·rw [hk'];unfold a2q;rw [xf0 hok,hsp];rfl
  ·refine b06 (Γ:=[]) (g:=gw) (sp:=sp) (vh:=vh) (held:=held) ?_;rw [List.append_nil];exact hS.sub (.cons _ (.cons _ (.cons _ (.cons _ (.refl _)))))
section
variable {P:Program} {n:Nat} {ds:List Deferred} {E:Fr} {ops:Array Oper} {rest:List Oper} {d:Nat} {ty:TypeId} {pos:String} {after:Array Edge} {T:Tab}
end
theorem b59 (l:List UInt8) (i:Nat) (c:UInt8):bR (l.set i c)=(bR l).set i [.int .u8 c.toNat]:=by unfold bR;rw [xl3]
theorem b24 {F:Nat->Prop} {w0 w:World} {Γ:List Asr} {k:KV} {p:Option Addr} {n c gc f:Nat} {l:List UInt8} {off i:Nat} {x:UInt8} (hS0:St F w0 w ([.row 5 1 (.slice p n c) (bR l),.blk gc [.slice p n c],frA k]++Γ)) (hf:f < k.fr.length) (hx:(k9 k.fr f).data[off]?=some x) (hi:i < l.length):Fn Tryz.prog 86 [a11 k.vfr (f * 4),.int .i64 (off:Nat),.int .i64 (i:Nat),.pointer (some ⟨gc,0,none⟩)] w (fun v w'=>v=.tuple #[]/\St (fps [.row 5 1 (.slice p n c) (bR l),.blk gc [.slice p n c],frA k]) w w' [.row 5 1 (.slice p n c) (bR (l.set i x)),.blk gc [.slice p n c],frA k]):=by
 have hS:=St.startM hS0;have hnl:=a2H l;generalize fps [_,_,_]=G at hS |-;obtain ⟨sh,fr,sl,sps,hand,vsh,vfr,vsl,vsp⟩:=k;dsimp only at hf hx |-;unfold frA at hS |-;dsimp only at hS |-;obtain ⟨pf,cf,he⟩:=hS.rowSlice 0 rfl;injection he with e1 e2 e3
 subst e2 e3;obtain ⟨gf,rfl⟩:=hS.rowSome 0 rfl (by omega);obtain ⟨pg,cg,rfl⟩:=hS.rowSlice 2 rfl;simp only [xj1] at hS |-;obtain ⟨gg,rfl⟩:=hS.rowSome 2 rfl (by omega);obtain ⟨fm,hfm⟩:=j3 (l:=fr) (i:=f) (by omega);rw [o3 hfm] at hx;have hrow:=c9 (f:=fmC) hfm;unfold fmC at hrow;obtain ⟨y,hy⟩:=j3 (l:=l) (i:=i) (by omega);have hr:(bR l)[i]?=some [.int .u8 y.toNat]:=c9 (f:=fun b:UInt8=>[Value.int .u8 b.toNat]) hy;unfold a11;dsimp only;rw [b59];refine yEn Tryz.func86 Tryz.ntmps86 (by kernel_rfl) (by kernel_rfl) rfl rfl ?_
 repeat' (fail)
 (focus ((with_reducible apply a0b _ _ _ 9 (by kernel_rfl) (by kernel_rfl) hS);(simp only [xl4,xl5,xl8,xl9]);(repeat' (first|(first|(with_reducible apply i9 a7);rfl;rfl|(with_reducible apply i7);rfl;(intro wd hd;replace hd:St _ _ wd _:=hd;(first|apply Ld.sc a7;rfl;exact hd.rowC0 2 rfl (by assumption) rfl|apply Ld.sl a7;rfl;exact hd.blkC 1 rfl rfl));rfl|(with_reducible apply x7 a7);rfl;rfl;rfl;rfl;omega;rfl)|(with_reducible apply b7P a7);(iterate 4 rfl);exact hx;rfl));all_goals ((with_reducible apply j7);intro w' hS';clear hS;have hS:=hS';clear hS')))
 repeat' (first|refine yDn (by with_reducible constructor) ?_|(with_reducible apply q7 hS a7 (i:=0));(iterate 4 rfl);assumption;(iterate 5 rfl);intro w' hS';simp only [List.set] at hS';clear hS;have hS:=hS';clear hS')
 (refine a56 rfl ?_)
 exact ⟨rfl,hS⟩
end Go.Proofs.YtejnpppejalhfabGreat
