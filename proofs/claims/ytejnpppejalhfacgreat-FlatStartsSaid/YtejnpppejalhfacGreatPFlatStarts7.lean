/- Texts that the proof stands on, one behind the other: Fl8, PlFl2, Fl9, PlKer3, PlRun, Ke13, Ke14, Ke15, PlRun2, PlRun3, PlRun4, PlRun5, PlRun6, PlRun7, Ke16, Ke17, Ke18, Ke19, Ke20, PlRun8, Ke21, Ke22, PlRun9, Ke23, Ke24, Ke25, Ke26, Ke27, Ke28, Ke29, Ke30, Ke31, Ke32. -/
import Derived.Test.YtejnpppejalhfacGreatPFlatStarts6
set_option linter.unusedVariables false
set_option linter.unusedSimpArgs false
namespace Go.Proofs.YtejnpppejalhfacGreat
set_option maxRecDepth 100000
set_option maxHeartbeats 8000000
open Go.RowKit Go.Sort
theorem a36 {w:World} {f:FlV} (hK:FlOk w f):Fn Tryz.prog 40 [.agg (flC f).toArray] w (RBf (.int .i64 (p9 f)) w):=by
 obtain ⟨m1,m2,m3,m4,m5⟩:=hK;have b1:=m1.bound;have b2:=m4.bound;have b3:=m5.bound;obtain ⟨slots,sp,pr,out,vsp,vpr,vout⟩:=f;dsimp only at m1 m2 m3 m4 m5 b1 b2 b3 |-;obtain ⟨p1,c1,rfl⟩:=m1.len;obtain ⟨p2,c2,rfl⟩:=m4.len;obtain ⟨p3,c3,rfl⟩:=m5.len;unfold flC;dsimp only;by_cases h1:1<=sp.length/\sp.length<=4;rotate_left
 ·have hd1:(!decide ((1:Int)<=(sp.length:Int)/\(sp.length:Int)<=4))=true:=by rw [xh9 (by omega)];rfl
  refine yEn Tryz.func40 Tryz.ntmps40 (by kernel_rfl) (by kernel_rfl) rfl rfl ?_;have hS:=St.start w
  repeat' (first|(with_reducible apply a5 a4);rfl;rfl;rfl|(with_reducible apply a6);rfl;(apply Ld.sl a4;rfl;exact hS.blkC 0 rfl rfl);rfl|refine yDn (by with_reducible constructor) ?_|(with_reducible apply o4);(iterate 4 rfl);(first|rfl|assumption);rfl|(with_reducible apply d9);rfl;(first|rfl|assumption);rfl;rfl|(with_reducible apply a9);rfl;rfl|(with_reducible apply d8 hS);rfl;rfl;rfl;clear hS;intro g w' hS|(with_reducible apply b5 hS);rfl;rfl;rfl;refine ⟨_,d7 _ _ _ _,?_⟩;clear hS;intro w' hS)
  (refine d4 rfl ?_)
  exact ⟨by unfold p9;rw [xd8 (by unfold y8;dsimp only;omega)],hS.sub (xh8 _)⟩
 have hd1:(!decide ((1:Int)<=(sp.length:Int)/\(sp.length:Int)<=4))=false:=by rw [xh7 (by omega)];rfl
 by_cases h3:pr.length=sp.length;rotate_left
 ·have hd3:(!decide ((pr.length:Int)=(sp.length:Int)))=true:=by rw [xh9 (by omega)];rfl
  refine yEn Tryz.func40 Tryz.ntmps40 (by kernel_rfl) (by kernel_rfl) rfl rfl ?_;have hS:=St.start w
  repeat' (first|(with_reducible apply a5 a4);rfl;rfl;rfl|(with_reducible apply a6);rfl;(apply Ld.sl a4;rfl;exact hS.blkC 0 rfl rfl);rfl|refine yDn (by with_reducible constructor) ?_|(with_reducible apply e9);(iterate 4 rfl);assumption|(with_reducible apply o4);(iterate 4 rfl);(first|rfl|assumption);rfl|(with_reducible apply d9);rfl;(first|rfl|assumption);rfl;rfl|(with_reducible apply a7);rfl;assumption;rfl;rfl|(with_reducible apply a9);rfl;rfl|(with_reducible apply d8 hS);rfl;rfl;rfl;clear hS;intro g w' hS|(with_reducible apply b5 hS);rfl;rfl;rfl;refine ⟨_,d7 _ _ _ _,?_⟩;clear hS;intro w' hS)
  (refine d4 rfl ?_)
  exact ⟨by unfold p9;rw [xd8 (by unfold y8;dsimp only;omega)],hS.sub (xh8 _)⟩
 have hd3:(!decide ((pr.length:Int)=(sp.length:Int)))=false:=by rw [xh7 (by omega)];rfl
 by_cases h4:0<=slots/\slots<=512;rotate_left
 ·have hd4:(!decide (0<=slots/\slots<=512))=true:=by rw [xh9 h4];rfl
  refine yEn Tryz.func40 Tryz.ntmps40 (by kernel_rfl) (by kernel_rfl) rfl rfl ?_;have hS:=St.start w
  repeat' (first|(with_reducible apply a5 a4);rfl;rfl;rfl|(with_reducible apply a6);rfl;(first|apply Ld.sc a4;rfl;exact hS.blkC 0 rfl rfl|apply Ld.sl a4;rfl;exact hS.blkC 0 rfl rfl);rfl|refine yDn (by with_reducible constructor) ?_|(with_reducible apply e9);(iterate 4 rfl);assumption|(with_reducible apply o4);(iterate 4 rfl);assumption;rfl|(with_reducible apply d9);rfl;assumption;rfl;rfl|(with_reducible apply a7);rfl;assumption;rfl;rfl|(with_reducible apply a9);rfl;rfl|(with_reducible apply d8 hS);rfl;rfl;rfl;clear hS;intro g w' hS|(with_reducible apply b5 hS);rfl;rfl;rfl;refine ⟨_,d7 _ _ _ _,?_⟩;clear hS;intro w' hS)
  (refine d4 rfl ?_)
  exact ⟨by unfold p9;rw [xd8 (by unfold y8;dsimp only;omega)],hS.sub (xh8 _)⟩
 have hd4:(!decide (0<=slots/\slots<=512))=false:=by rw [xh7 h4];rfl
 by_cases h6:2000 < out.length
 ·have hd6:decide ((2000:Int) < (out.length:Int))=true:=xh7 (by omega);refine yEn Tryz.func40 Tryz.ntmps40 (by kernel_rfl) (by kernel_rfl) rfl rfl ?_;have hS:=St.start w
  repeat' (first|(with_reducible apply a5 a4);rfl;rfl;rfl|(with_reducible apply a6);rfl;(first|apply Ld.sc a4;rfl;exact hS.blkC 0 rfl rfl|apply Ld.sl a4;rfl;exact hS.blkC 0 rfl rfl);rfl|refine yDn (by with_reducible constructor) ?_|(with_reducible apply e9);(iterate 4 rfl);assumption|(with_reducible apply a7);rfl;assumption;rfl;rfl|(with_reducible apply a9);rfl;assumption|(with_reducible apply d8 hS);rfl;rfl;rfl;clear hS;intro g w' hS|(with_reducible apply b5 hS);rfl;rfl;rfl;refine ⟨_,d7 _ _ _ _,?_⟩;clear hS;intro w' hS)
  (refine d4 rfl ?_)
  exact ⟨by unfold p9;rw [xd8 (by unfold y8;dsimp only;omega)],hS.sub (xh8 _)⟩
 have hd6:decide ((2000:Int) < (out.length:Int))=false:=xh9 (by omega);have hfl:¬y8 ⟨slots,sp,pr,out,.slice p1 sp.length c1,.slice p2 pr.length c2,.slice p3 out.length c3⟩:=by unfold y8;dsimp only;omega
 unfold p9;rw [xd9 hfl];dsimp only;refine yEn Tryz.func40 Tryz.ntmps40 (by kernel_rfl) (by kernel_rfl) rfl rfl ?_;have hS:=St.start w
 (repeat ((refine yDn (by with_reducible constructor) ?_)))
 (((with_reducible apply d8 hS);rfl;rfl;rfl);clear hS;intro g1 w' hS)
 repeat' (first|(with_reducible apply a5 a4);rfl;rfl;rfl|(with_reducible apply a6);rfl;(first|apply Ld.sc a4;rfl;exact hS.blkC 0 rfl rfl|apply Ld.sl a4;rfl;exact hS.blkC 0 rfl rfl);rfl|refine yDn (by with_reducible constructor) ?_|(with_reducible apply e9);(iterate 4 rfl);assumption|(with_reducible apply a7);rfl;assumption;rfl;rfl|(with_reducible apply f8);rfl;assumption|(with_reducible apply b5 hS);rfl;rfl;rfl;refine ⟨_,d7 _ _ _ _,?_⟩;clear hS;intro w' hS)
 obtain ⟨g0,hf0⟩:∃ g0:Nat->Bool,g0=a79 ⟨slots,sp,pr,out,.slice p1 sp.length c1,.slice p2 pr.length c2,.slice p3 out.length c3⟩:=⟨_,rfl⟩;have hspk:∀ (i:Nat) x p,sp[i]?=some x->pr[i]?=some p->g0 i=(fsB x.1 && o5 p x.1.live):=fun i x p h1 h2=>by
  rw [hf0];unfold a79;dsimp only;rw [h1,h2]
 rw [<- hf0];clear hf0 hfl;refine o6 (F:=nF) (w0:=w) (X:=Nat) (fun i=>[(4,.int .i64 (i:Nat)),(3,.int .i64 (a0z (sp.take i):Nat))]) [1] rfl (fun _=>[]) (fun i=>i<=sp.length/\(List.range i).all g0=true/\a0z (sp.take i)<=65025 * i) (fun i=>sp.length - i) 0 (by exact Fr.sub_of rfl) ⟨xf0 _,rfl,xf0 _⟩ hS ?_;clear hS;rintro i w1 ⟨hi,hal,hsm⟩ hS;dsimp only [List.cons_append,List.nil_append] at hi hal hsm hS |-;by_cases hlt:i < sp.length;rotate_left
 ·obtain rfl:i=sp.length:=by omega
  rw [xf2] at hsm |-;have hto:=fun w1 (h:Sl nF w1 2 (.slice p3 out.length c3) (out.map wdC))=>a4f h pr.length b2;rw [hal,xl0];by_cases hg:slots < (a0z sp:Nat)
  ·have hdg:decide (slots < ((a0z sp:Nat):Int))=true:=xh7 hg
   repeat' (first|(with_reducible apply a5 a4);rfl;rfl;rfl|(with_reducible apply a6);rfl;(first|apply Ld.sc a4;rfl;exact hS.blkC 0 rfl rfl|apply Ld.sl a4;rfl;exact hS.blkC 0 rfl rfl);rfl|refine yDn (by with_reducible constructor) ?_|(with_reducible apply o4);(iterate 4 rfl);assumption;rfl|(with_reducible apply d9);rfl;assumption;rfl;rfl|(with_reducible apply a9);rfl;rfl|(with_reducible apply b6);rfl;all_goals (intro hb hp;try (exfalso;omega)))
   (refine d4 rfl ?_)
   exact ⟨by rw [xh9 (show ¬((a0z sp:Nat):Int)<=slots by omega),xl1];rfl,hS.sub (xh8 _)⟩
  have hdg:decide (slots < ((a0z sp:Nat):Int))=false:=xh9 hg;rw [xh7 (show ((a0z sp:Nat):Int)<=slots by omega),xl0]
  cases ht:a0O out (pr.length:Nat) with
  |true=>
   simp only [ht] at hto
   repeat' (first|(with_reducible apply a5 a4);rfl;rfl;rfl|(with_reducible apply a6);rfl;(first|apply Ld.sc a4;rfl;exact hS.blkC 0 rfl rfl|apply Ld.sl a4;rfl;exact hS.blkC 0 rfl rfl);rfl|refine yDn (by with_reducible constructor) ?_|(with_reducible apply e9);(iterate 4 rfl);assumption|(with_reducible apply a7);rfl;assumption;rfl;rfl|(with_reducible apply f8);rfl;rfl|(with_reducible apply b6);rfl;all_goals (intro hb hp;try (exfalso;omega))|(with_reducible apply b5 hS);rfl;rfl;rfl;refine ⟨_,hto _ (m5.now hS),?_⟩;clear hS;intro w' hS)
   (refine d4 rfl ?_)
   exact ⟨rfl,hS.sub (xh8 _)⟩
  |false=>
   simp only [ht] at hto
   repeat' (first|(with_reducible apply a5 a4);rfl;rfl;rfl|(with_reducible apply a6);rfl;(first|apply Ld.sc a4;rfl;exact hS.blkC 0 rfl rfl|apply Ld.sl a4;rfl;exact hS.blkC 0 rfl rfl);rfl|refine yDn (by with_reducible constructor) ?_|(with_reducible apply e9);(iterate 4 rfl);assumption|(with_reducible apply a7);rfl;assumption;rfl;rfl|(with_reducible apply a9);rfl;rfl|(with_reducible apply b6);rfl;all_goals (intro hb hp;try (exfalso;omega))|(with_reducible apply b5 hS);rfl;rfl;rfl;refine ⟨_,hto _ (m5.now hS),?_⟩;clear hS;intro w' hS)
   (refine d4 rfl ?_)
   exact ⟨rfl,hS.sub (xh8 _)⟩
 obtain ⟨x,hx⟩:=l9 (l:=sp) (i:=i) (by omega);obtain ⟨p,hp⟩:=l9 (l:=pr) (i:=i) (by omega);have hxm:=xc1 hx;have hrow:=i7 (f:=fsC) hx;have hrow2:=i7 (f:=prC) hp;obtain ⟨b,off,rfl,hro⟩:=m1.at_ (i:=i) hlt;obtain ⟨b',off',rfl,hro2⟩:=m4.at_ (i:=i) (by omega);unfold fsC at hrow;have hfn:=fun w1=>a5r p x.1.live w1;have hck:=fun w1 (h:Sl nF w1 4 x.2.1 (x.1.areas.map arC))=>a1r h;have hpa0:=fun w1 (h:Sl nF w1 4 x.2.1 (x.1.areas.map arC)) hc=>a3c h hc;have hk:=hspk i x p hx hp;have hst:=a49 (g:=g0) (i:=i);rw [hal,xl0] at hst;have hss:=a3G hx;have har:=m2 x hxm;have hpg:=m3 x hxm;unfold prC at hfn hrow2;obtain ⟨⟨live,ars,pgs⟩,va,vp⟩:=x;dsimp only at hrow hfn hck hpa0 hk hss har hpg;obtain ⟨pa,ca,rfl⟩:=har.len;obtain ⟨pp,cp,rfl⟩:=hpg.len;have hpa:=hpa0;have ba:=har.bound;have bp:=hpg.bound
 cases hfb:o5 p live with
 |false=>
  simp only [hfb] at hfn;rw [hfb,xl5] at hk
  repeat' (first|(with_reducible apply a5 a4);rfl;rfl;rfl|(with_reducible apply a6);rfl;(first|apply Ld.sl a4;rfl;exact hS.blkC 0 rfl rfl|apply Ld.st a4;rfl;exact hS.roR (by assumption) (by assumption);rfl);rfl|(with_reducible apply t3 a4);rfl;rfl;rfl;rfl;omega;rfl|refine yDn (by with_reducible constructor) ?_|(with_reducible apply b8 hS a4);rfl;rfl;rfl;clear hS;intro g w' hS|(with_reducible apply b7 hS a4 (i:=0));(iterate 8 rfl);exact (rfl:_=[_,_,_]);clear hS;intro w' hS;simp only [List.set] at hS|(with_reducible apply b6);rfl;all_goals (intro hb hp;try (exfalso;omega)))
  (focus ((with_reducible apply a8 _ _ _ (by kernel_rfl) (by kernel_rfl) hS);(repeat' (first|(first|(with_reducible apply i4 a4);rfl;rfl|(with_reducible apply i6);rfl;(intro wd hd;replace hd:St _ _ wd _:=hd;(first|apply Ld.sc a4;rfl;exact hd.blkC 0 rfl rfl|apply Ld.sl a4;rfl;exact hd.blkC 1 rfl rfl|apply Ld.st a4;rfl;exact hd.roR (by assumption) (by assumption);rfl));rfl|(with_reducible apply z9 a4);rfl;rfl;rfl;rfl;omega;rfl|(first|(with_reducible apply a0S);(iterate 4 rfl);rfl;rfl|(with_reducible apply a0q);(iterate 5 rfl)|(with_reducible apply l6);rfl;rfl;rfl;rfl))|(with_reducible apply b9);rfl;rfl;rfl;refine ⟨_,fun wd hd=>hfn _,?_⟩));all_goals ((with_reducible apply l3);intro w' hS';clear hS;have hS:=hS';clear hS')))
  repeat' (first|(with_reducible apply a5 a4);rfl;rfl;rfl|refine yDn (by with_reducible constructor) ?_|(with_reducible apply a9);rfl;rfl)
  (refine d4 rfl ?_)
  exact ⟨by rw [v8 hlt (by rw [hk])];rfl,hS.sub (xh8 _)⟩
 |true=>
 simp only [hfb] at hfn;rw [hfb,xj1] at hk;by_cases hle:live=false/\¬(ars=[]/\pgs=[])
 ·obtain ⟨rfl,hne⟩:=hle;have hkb:fsB ⟨false,ars,pgs⟩=false:=by
   unfold fsB;rw [xd9 (by simp)]
   cases ars with
   |nil=>cases pgs with
    |nil=>exact absurd ⟨rfl,rfl⟩ hne
    |cons=>rfl
   |cons=>rfl
  rw [hkb] at hk;by_cases ha:ars=[]
  ·have hpn:¬pgs.length=0:=fun h=>hne ⟨ha,List.length_eq_zero_iff.1 h⟩;have hda:decide ((0:Int) < (ars.length:Int))=false:=by rw [ha];rfl
   have hdp:decide ((0:Int) < (pgs.length:Int))=true:=xh7 (by omega)
   repeat' (first|(with_reducible apply a5 a4);rfl;rfl;rfl|(with_reducible apply a6);rfl;(first|apply Ld.sl a4;rfl;exact hS.blkC 0 rfl rfl|apply Ld.st a4;rfl;exact hS.roR (by assumption) (by assumption);rfl);rfl|(with_reducible apply t3 a4);rfl;rfl;rfl;rfl;omega;rfl|refine yDn (by with_reducible constructor) ?_|(with_reducible apply b8 hS a4);rfl;rfl;rfl;clear hS;intro g w' hS|(with_reducible apply b7 hS a4 (i:=0));(iterate 8 rfl);exact (rfl:_=[_,_,_]);clear hS;intro w' hS;simp only [List.set] at hS|(with_reducible apply b6);rfl;all_goals (intro hb hp;try (exfalso;omega)))
   (focus ((with_reducible apply a8 _ _ _ (by kernel_rfl) (by kernel_rfl) hS);(repeat' (first|(first|(with_reducible apply i4 a4);rfl;rfl|(with_reducible apply i6);rfl;(intro wd hd;replace hd:St _ _ wd _:=hd;(first|apply Ld.sc a4;rfl;exact hd.blkC 0 rfl rfl|apply Ld.sl a4;rfl;(first|exact hd.blkC 0 rfl rfl|exact hd.blkC 1 rfl rfl)|apply Ld.st a4;rfl;exact hd.roR (by assumption) (by assumption);rfl));rfl|(with_reducible apply z9 a4);rfl;rfl;rfl;rfl;omega;rfl|(first|((with_reducible apply p7);(iterate 4 rfl);first|rfl|assumption)|(with_reducible apply a0S);(iterate 4 rfl);(first|rfl|assumption);rfl|(with_reducible apply l6);rfl;(first|rfl|assumption);rfl;rfl|(with_reducible apply l2);rfl;(first|rfl|assumption);rfl;rfl))|(with_reducible apply b9);rfl;rfl;rfl;refine ⟨_,fun wd hd=>hfn _,?_⟩));all_goals ((with_reducible apply l3);intro w' hS';clear hS;have hS:=hS';clear hS')))
   repeat' (first|(with_reducible apply a5 a4);rfl;rfl;rfl|refine yDn (by with_reducible constructor) ?_|(with_reducible apply a9);rfl;rfl)
   (refine d4 rfl ?_)
   exact ⟨by rw [v8 hlt (by rw [hk])];rfl,hS.sub (xh8 _)⟩
  ·have han:¬ars.length=0:=fun h=>ha (List.length_eq_zero_iff.1 h);have hda:decide ((0:Int) < (ars.length:Int))=true:=xh7 (by omega)
   repeat' (first|(with_reducible apply a5 a4);rfl;rfl;rfl|(with_reducible apply a6);rfl;(first|apply Ld.sl a4;rfl;exact hS.blkC 0 rfl rfl|apply Ld.st a4;rfl;exact hS.roR (by assumption) (by assumption);rfl);rfl|(with_reducible apply t3 a4);rfl;rfl;rfl;rfl;omega;rfl|refine yDn (by with_reducible constructor) ?_|(with_reducible apply b8 hS a4);rfl;rfl;rfl;clear hS;intro g w' hS|(with_reducible apply b7 hS a4 (i:=0));(iterate 8 rfl);exact (rfl:_=[_,_,_]);clear hS;intro w' hS;simp only [List.set] at hS|(with_reducible apply b6);rfl;all_goals (intro hb hp;try (exfalso;omega)))
   (focus ((with_reducible apply a8 _ _ _ (by kernel_rfl) (by kernel_rfl) hS);(repeat' (first|(first|(with_reducible apply i4 a4);rfl;rfl|(with_reducible apply i6);rfl;(intro wd hd;replace hd:St _ _ wd _:=hd;(first|apply Ld.sc a4;rfl;exact hd.blkC 0 rfl rfl|apply Ld.sl a4;rfl;(first|exact hd.blkC 0 rfl rfl|exact hd.blkC 1 rfl rfl)|apply Ld.st a4;rfl;exact hd.roR (by assumption) (by assumption);rfl));rfl|(with_reducible apply z9 a4);rfl;rfl;rfl;rfl;omega;rfl|(first|(with_reducible apply p7);(iterate 4 rfl);rfl|(with_reducible apply a0S);(iterate 4 rfl);(first|rfl|assumption);rfl|(with_reducible apply l6);rfl;(first|rfl|assumption);rfl;rfl|(with_reducible apply l2);rfl;rfl;rfl;rfl))|(with_reducible apply b9);rfl;rfl;rfl;refine ⟨_,fun wd hd=>hfn _,?_⟩));all_goals ((with_reducible apply l3);intro w' hS';clear hS;have hS:=hS';clear hS')))
   repeat' (first|(with_reducible apply a5 a4);rfl;rfl;rfl|refine yDn (by with_reducible constructor) ?_|(with_reducible apply a9);rfl;rfl)
   (refine d4 rfl ?_)
   exact ⟨by rw [v8 hlt (by rw [hk])];rfl,hS.sub (xh8 _)⟩
 by_cases hc:b4 ars=0;rotate_left
 ·have hd:(!decide (b4 ars=0))=true:=by rw [xh9 hc];rfl
  have hlv:live=true:=by
   cases live with
   |true=>rfl
   |false=>
    obtain ⟨h1,h2⟩:ars=[]/\pgs=[]:=by
     by_cases h:ars=[]/\pgs=[]
     ·exact h
     ·exact absurd ⟨rfl,h⟩ hle
    rw [h1] at hc;exact absurd rfl hc
  subst hlv;have hkb:fsB ⟨true,ars,pgs⟩=false:=by unfold fsB;rw [xd8 rfl,xh9 hc,xl1]
  rw [hkb] at hk
  repeat' (first|(with_reducible apply a5 a4);rfl;rfl;rfl|(with_reducible apply a6);rfl;(first|apply Ld.sl a4;rfl;exact hS.blkC 0 rfl rfl|apply Ld.st a4;rfl;exact hS.roR (by assumption) (by assumption);rfl);rfl|(with_reducible apply t3 a4);rfl;rfl;rfl;rfl;omega;rfl|refine yDn (by with_reducible constructor) ?_|(with_reducible apply b8 hS a4);rfl;rfl;rfl;clear hS;intro g w' hS|(with_reducible apply b7 hS a4 (i:=0));(iterate 8 rfl);exact (rfl:_=[_,_,_]);clear hS;intro w' hS;simp only [List.set] at hS|(with_reducible apply b6);rfl;all_goals (intro hb hp;try (exfalso;omega)))
  (focus ((with_reducible apply a8 _ _ _ (by kernel_rfl) (by kernel_rfl) hS);(repeat' (first|(first|(with_reducible apply i4 a4);rfl;rfl|(with_reducible apply i6);rfl;(intro wd hd;replace hd:St _ _ wd _:=hd;(first|apply Ld.sc a4;rfl;exact hd.blkC 0 rfl rfl|apply Ld.sl a4;rfl;(first|exact hd.blkC 0 rfl rfl|exact hd.blkC 1 rfl rfl)|apply Ld.st a4;rfl;exact hd.roR (by assumption) (by assumption);rfl));rfl|(with_reducible apply z9 a4);rfl;rfl;rfl;rfl;omega;rfl|(first|(with_reducible apply p7);(iterate 4 rfl);rfl|(with_reducible apply a0S);(iterate 4 rfl);(first|rfl|assumption);rfl|(with_reducible apply a0q);(iterate 5 rfl)|(with_reducible apply l6);rfl;assumption;rfl;rfl|(with_reducible apply l2);rfl;rfl;rfl;rfl))|(with_reducible apply b9);rfl;rfl;rfl;refine ⟨_,fun wd hd=>hfn _,?_⟩|(with_reducible apply b9);rfl;rfl;rfl;refine ⟨_,fun wd hd=>hck _ (har.now hd),?_⟩));all_goals ((with_reducible apply l3);intro w' hS';clear hS;have hS:=hS';clear hS')))
  repeat' (first|(with_reducible apply a5 a4);rfl;rfl;rfl|refine yDn (by with_reducible constructor) ?_|(with_reducible apply a9);rfl;rfl)
  (refine d4 rfl ?_)
  exact ⟨by rw [v8 hlt (by rw [hk])];rfl,hS.sub (xh8 _)⟩
 have hdc:(!decide (b4 ars=0))=false:=by rw [xh7 hc];rfl
 have hpa:=fun w1 h=>hpa0 w1 h hc;have hok:=v9 (o3.1 hc).2;by_cases hn:(pgs.length:Int)=l7 ars;rotate_left
 ·have hdn:(!decide ((pgs.length:Int)=l7 ars))=true:=by rw [xh9 hn];rfl
  have hlv:live=true:=by
   cases live with
   |true=>rfl
   |false=>
    obtain ⟨h1,h2⟩:ars=[]/\pgs=[]:=by
     by_cases h:ars=[]/\pgs=[]
     ·exact h
     ·exact absurd ⟨rfl,h⟩ hle
    rw [h1,h2] at hn;exact absurd rfl hn
  subst hlv;have hkb:fsB ⟨true,ars,pgs⟩=false:=by unfold fsB;rw [xd8 rfl];simp [hn]
  rw [hkb] at hk
  repeat' (first|(with_reducible apply a5 a4);rfl;rfl;rfl|(with_reducible apply a6);rfl;(first|apply Ld.sl a4;rfl;exact hS.blkC 0 rfl rfl|apply Ld.st a4;rfl;exact hS.roR (by assumption) (by assumption);rfl);rfl|(with_reducible apply t3 a4);rfl;rfl;rfl;rfl;omega;rfl|refine yDn (by with_reducible constructor) ?_|(with_reducible apply b8 hS a4);rfl;rfl;rfl;clear hS;intro g w' hS|(with_reducible apply b7 hS a4 (i:=0));(iterate 8 rfl);exact (rfl:_=[_,_,_]);clear hS;intro w' hS;simp only [List.set] at hS|(with_reducible apply b6);rfl;all_goals (intro hb hp;try (exfalso;omega)))
  (focus ((with_reducible apply a8 _ _ _ (by kernel_rfl) (by kernel_rfl) hS);(repeat' (first|(first|(with_reducible apply i4 a4);rfl;rfl|(with_reducible apply i6);rfl;(intro wd hd;replace hd:St _ _ wd _:=hd;(first|apply Ld.sc a4;rfl;exact hd.blkC 0 rfl rfl|apply Ld.sl a4;rfl;(first|exact hd.blkC 0 rfl rfl|exact hd.blkC 1 rfl rfl)|apply Ld.st a4;rfl;exact hd.roR (by assumption) (by assumption);rfl));rfl|(with_reducible apply z9 a4);rfl;rfl;rfl;rfl;omega;rfl|(first|((with_reducible apply p7);(iterate 4 rfl);first|rfl|assumption)|(with_reducible apply a0S);(iterate 4 rfl);rfl;rfl|(with_reducible apply a0q);(iterate 5 rfl)|(with_reducible apply l2);rfl;(first|rfl|assumption);rfl;rfl))|(with_reducible apply b9);rfl;rfl;rfl;refine ⟨_,fun wd hd=>hfn _,?_⟩|(with_reducible apply b9);rfl;rfl;rfl;refine ⟨_,fun wd hd=>hck _ (har.now hd),?_⟩|(with_reducible apply b9);rfl;rfl;rfl;refine ⟨_,fun wd hd=>hpa _ (har.now hd),?_⟩));all_goals ((with_reducible apply l3);intro w' hS';clear hS;have hS:=hS';clear hS')))
  repeat' (first|(with_reducible apply a5 a4);rfl;rfl;rfl|refine yDn (by with_reducible constructor) ?_|(with_reducible apply a9);rfl;assumption)
  (refine d4 rfl ?_)
  exact ⟨by rw [v8 hlt (by rw [hk])];rfl,hS.sub (xh8 _)⟩
 have hdn:(!decide ((pgs.length:Int)=l7 ars))=false:=by rw [xh7 hn];rfl
 have hfs:fsB ⟨live,ars,pgs⟩=y7 ars pgs pgs.length:=by
  unfold fsB
  cases live with
  |true=>rw [xd8 rfl];simp [hc,hn]
  |false=>
   obtain ⟨h1,h2⟩:ars=[]/\pgs=[]:=by
    by_cases h:ars=[]/\pgs=[]
    ·exact h
    ·exact absurd ⟨rfl,h⟩ hle
   rw [xd9 (by simp)];dsimp only;rw [h1,h2];rfl
 have hpl:pgs.length<=65025:=by
  have:=a60 hok ars.length;rw [xf2] at this;have:=(o3.1 hc).1;omega
 have hgo:∀ {w1:World} {Γ1:List Asr},True:=fun {_ _}=>trivial;clear hgo;have hlive:(live=true)\/(live=false/\ars=[]/\pgs=[]):=by
  cases live with
  |true=>exact xc7 rfl
  |false=>
   refine xc4 ⟨rfl,?_⟩;by_cases h:ars=[]/\pgs=[]
   ·exact h
   ·exact absurd ⟨rfl,h⟩ hle
 repeat' (first|(with_reducible apply a5 a4);rfl;rfl;rfl|(with_reducible apply a6);rfl;(first|apply Ld.sl a4;rfl;exact hS.blkC 0 rfl rfl|apply Ld.st a4;rfl;exact hS.roR (by assumption) (by assumption);rfl);rfl|(with_reducible apply t3 a4);rfl;rfl;rfl;rfl;omega;rfl|refine yDn (by with_reducible constructor) ?_|(with_reducible apply b8 hS a4);rfl;rfl;rfl;clear hS;intro g w' hS|(with_reducible apply b7 hS a4 (i:=0));(iterate 8 rfl);exact (rfl:_=[_,_,_]);clear hS;intro w' hS;simp only [List.set] at hS|(with_reducible apply b6);rfl;all_goals (intro hb hp;try (exfalso;omega)))
 rename Nat=>g5
 replace hS:St nF w w' (.blk g5 [.bool live,.slice pa ars.length ca,.slice pp pgs.length cp]::_):=hS;refine a9o (F:=nF) (w0:=w) (X:=Unit) (fun _=>[(1,.pointer (some ⟨g1,0,none⟩)),(3,.int .i64 (a0z (sp.take i):Nat)),(4,.int .i64 (i:Nat)),(5,.pointer (some ⟨g5,0,none⟩)),(87,.bool (!decide ((pgs.length:Int)=l7 ars)))]) (fun _=>[.blk g5 [.bool live,.slice pa ars.length ca,.slice pp pgs.length cp],.blk g1 [.int .i64 slots,.slice (some ⟨b,off,none⟩) sp.length c1,.slice (some ⟨b',off',none⟩) pr.length c2,.slice p3 out.length c3]]) (fun _=>True) ?_ ?_
 ·rcases hlive with rfl|⟨rfl,rfl,rfl⟩
  ·repeat' (fail)
   (focus ((with_reducible apply a8 _ _ _ (by kernel_rfl) (by kernel_rfl) hS);(repeat' (first|(first|(with_reducible apply i4 a4);rfl;rfl|(with_reducible apply i6);rfl;(intro wd hd;replace hd:St _ _ wd _:=hd;(first|apply Ld.sc a4;rfl;exact hd.blkC 0 rfl rfl|apply Ld.sl a4;rfl;(first|exact hd.blkC 0 rfl rfl|exact hd.blkC 1 rfl rfl)|apply Ld.st a4;rfl;exact hd.roR (by assumption) (by assumption);rfl));rfl|(with_reducible apply z9 a4);rfl;rfl;rfl;rfl;omega;rfl|(first|((with_reducible apply p7);(iterate 4 rfl);first|rfl|assumption)|(with_reducible apply a0S);(iterate 4 rfl);rfl;rfl|(with_reducible apply a0q);(iterate 5 rfl)|(with_reducible apply l2);rfl;(first|rfl|assumption);rfl;rfl))|(with_reducible apply b9);rfl;rfl;rfl;refine ⟨_,fun wd hd=>hfn _,?_⟩|(with_reducible apply b9);rfl;rfl;rfl;refine ⟨_,fun wd hd=>hck _ (har.now hd),?_⟩|(with_reducible apply b9);rfl;rfl;rfl;refine ⟨_,fun wd hd=>hpa _ (har.now hd),?_⟩));all_goals ((with_reducible apply l3);intro w' hS';clear hS;have hS:=hS';clear hS')))
   repeat' ((refine yDn (by with_reducible constructor) ?_))
   exact a4l () (by exact Fr.sub_of rfl) trivial hS
  ·repeat' (fail)
   (focus ((with_reducible apply a8 _ _ _ (by kernel_rfl) (by kernel_rfl) hS);(repeat' (first|(first|(with_reducible apply i4 a4);rfl;rfl|(with_reducible apply i6);rfl;(intro wd hd;replace hd:St _ _ wd _:=hd;(first|apply Ld.sc a4;rfl;exact hd.blkC 0 rfl rfl|apply Ld.sl a4;rfl;(first|exact hd.blkC 0 rfl rfl|exact hd.blkC 1 rfl rfl)|apply Ld.st a4;rfl;exact hd.roR (by assumption) (by assumption);rfl));rfl|(with_reducible apply z9 a4);rfl;rfl;rfl;rfl;omega;rfl|(first|(with_reducible apply p7);(iterate 4 rfl);rfl|(with_reducible apply l6);rfl;rfl;rfl;rfl|(with_reducible apply l2);rfl;rfl;rfl;rfl))|(with_reducible apply b9);rfl;rfl;rfl;refine ⟨_,fun wd hd=>hfn _,?_⟩|(with_reducible apply b9);rfl;rfl;rfl;refine ⟨_,fun wd hd=>hck _ (har.now hd),?_⟩|(with_reducible apply b9);rfl;rfl;rfl;refine ⟨_,fun wd hd=>hpa _ (har.now hd),?_⟩));all_goals ((with_reducible apply l3);intro w' hS';clear hS;have hS:=hS';clear hS')))
   repeat' ((refine yDn (by with_reducible constructor) ?_))
   exact a4l () (by exact Fr.sub_of rfl) trivial hS
 clear hS;rintro - w2 - hS
 repeat' (first|(with_reducible apply a5 a4);rfl;rfl;rfl|(with_reducible apply a6);rfl;(apply Ld.sl a4;rfl;exact hS.blkC 0 rfl rfl);rfl|(with_reducible apply o9);rfl;rfl;omega;omega;rfl|refine yDn (by with_reducible constructor) ?_|(with_reducible apply f8);rfl;assumption)
 refine o6 (F:=nF) (w0:=w) (X:=Nat) (fun j=>[(6,.int .i64 (j:Nat))]) [1,3,4,5] rfl (fun _=>[]) (fun j=>j<=pgs.length/\y7 ars pgs j=true) (fun j=>pgs.length - j) 0 (by exact Fr.sub_of rfl) ⟨xf0 _,rfl⟩ hS ?_;clear hS;rintro j w3 ⟨hj,hpb⟩ hS;dsimp only [List.cons_append,List.nil_append] at hj hpb hS |-;by_cases hjl:j < pgs.length;rotate_left
 ·obtain rfl:j=pgs.length:=by omega
  repeat' (first|(with_reducible apply a5 a4);rfl;rfl;rfl|(with_reducible apply a6);rfl;(apply Ld.sl a4;rfl;exact hS.blkC 0 rfl rfl);rfl|(with_reducible apply o9);rfl;rfl;omega;omega;rfl|refine yDn (by with_reducible constructor) ?_|(with_reducible apply b6);rfl;all_goals (intro hb hp;try (exfalso;omega)))
  refine m8 (i + 1) (by rw [hss];exact Fr.sub_of rfl) ⟨by omega,by rw [hst,hk,hfs,hpb],by rw [hss];omega⟩ hS.drop (by omega)
 obtain ⟨y,hy⟩:=l9 (l:=pgs) (i:=j) (by omega);have hrow3:=i7 (f:=fpC) hy;obtain ⟨b3,off3,rfl,hro3⟩:=hpg.at_ (i:=j) hjl;unfold fpC at hrow3;have haa:=fun w1 (h:Sl nF w1 4 (.slice pa ars.length ca) (ars.map arC))=>a3J y.page h hok;unfold a26 at haa;obtain ⟨a,hag⟩:∃ a,(k6 ars y.page).getD a2f=a:=⟨_,rfl⟩;obtain ⟨is,his⟩:∃ is,(k6 ars y.page).isSome=is:=⟨_,rfl⟩;rw [hag,his] at haa;unfold arC at haa;have hpst:=a1V (A:=ars) (l:=pgs) (n:=j);rw [hpb,xl0] at hpst;have bx:(y.data.length:Int)=16 ↔ y.data.length=16:=by omega
 repeat' (first|(with_reducible apply a5 a4);rfl;rfl;rfl|(with_reducible apply a6);rfl;(apply Ld.sl a4;rfl;exact hS.blkC 0 rfl rfl);rfl|refine yDn (by with_reducible constructor) ?_|(with_reducible apply b6);rfl;all_goals (intro hb hp;try (exfalso;omega)))
 refine a9o (F:=nF) (w0:=w) (X:=Unit) (fun _=>[(1,.pointer (some ⟨g1,0,none⟩)),(3,.int .i64 ((a0z (sp.take i):Nat) + (pgs.length:Nat))),(4,.int .i64 (i:Nat)),(5,.pointer (some ⟨g5,0,none⟩)),(6,.int .i64 (j:Nat)),(8,.bool is)]) (fun _=>[.blk g5 [.bool live,.slice pa ars.length ca,.slice (some ⟨b3,off3,none⟩) pgs.length cp],.blk g1 [.int .i64 slots,.slice (some ⟨b,off,none⟩) sp.length c1,.slice (some ⟨b',off',none⟩) pr.length c2,.slice p3 out.length c3]]) (fun _=>True) ?_ ?_
 ·refine a4n 15 rfl hS (by kernel_rfl) ?_;intro wh hh;clear hS;have hS:=hh;clear hh
  ((with_reducible apply i3 (nn 0) a4);rfl;kernel_rfl;exact (fun _ _ _ h=>h);exact hS;rfl;rfl)
  ((with_reducible apply n9 (nn 1));rfl;kernel_rfl;exact (fun _ _ _ h=>h);exact hS;rfl;(intro wd hd;replace hd:St _ _ wd _:=hd;(apply Ld.sl a4;rfl;exact hd.blkC 0 rfl rfl));rfl)
  ((with_reducible apply i3 (nn 2) a4);rfl;kernel_rfl;exact (fun _ _ _ h=>h);exact hS;rfl;rfl)
  ((with_reducible apply n9 (nn 3));rfl;kernel_rfl;exact (fun _ _ _ h=>h);exact hS;rfl;(intro wd hd;replace hd:St _ _ wd _:=hd;(apply Ld.sl a4;rfl;exact hd.blkC 0 rfl rfl));rfl)
  ((with_reducible apply i3 (nn 4) a4);rfl;kernel_rfl;exact (fun _ _ _ h=>h);exact hS;rfl;rfl)
  ((with_reducible apply a9U (nn 5) a4);rfl;kernel_rfl;kernel_rfl;kernel_rfl;exact (fun _ _ _ _ h=>h);exact hS;rfl;rfl;rfl;rfl;omega;rfl)
  ((with_reducible apply i3 (nn 6) a4);rfl;kernel_rfl;exact (fun _ _ _ h=>h);exact hS;rfl;rfl)
  ((with_reducible apply n9 (nn 7));rfl;kernel_rfl;exact (fun _ _ _ h=>h);exact hS;rfl;(intro wd hd;replace hd:St _ _ wd _:=hd;(apply Ld.sc a4;rfl;exact hd.roC0 (by assumption) (by assumption) rfl));rfl)
  refine a5t (i:=8) (j:=12) (by kernel_rfl) ?_ ?_
  ·refine o8 rfl (a0m (first:=[]) (caps:=[]) rfl rfl (haa _ (har.now hS))) rfl ?_;rintro _ w' ⟨rfl,hS'⟩;replace hS:=hS.transA hS';simp only [a1P] at hS;clear hS';refine ⟨hS,?_⟩
   ((with_reducible apply i3 (nn 9) a4);rfl;kernel_rfl;exact (fun _ _ _ h=>h);exact hS;rfl;rfl)
   ((with_reducible apply i3 (nn 10) a4);rfl;kernel_rfl;exact (fun _ _ _ h=>h);exact hS;rfl;rfl)
   ((with_reducible apply i3 (nn 11) a4);rfl;kernel_rfl;exact (fun _ _ _ h=>h);exact hS;rfl;rfl)
   refine s7 (i:=12) (by kernel_rfl) ?_;refine o8 rfl (s9 hS a4 rfl rfl) rfl ?_;rintro _ w' ⟨g,rfl,hS'⟩;clear hS;have hS:=hS';clear hS';refine ⟨hS.drop,?_⟩;refine s7 (i:=13) (by kernel_rfl) ?_;refine t4 (Φ:=fun _ w'=>St _ _ w' _) rfl (p8 hS a4 (i:=0) rfl rfl rfl rfl rfl (xe8 rfl) (xb8.1 rfl)) ?_;intro _ w' hS';simp only [List.set] at hS';clear hS;have hS:=hS';clear hS';refine ⟨hS.drop,?_⟩
   ((with_reducible apply i3 (nn 14) a4);rfl;kernel_rfl;exact (fun _ _ _ h=>h);exact hS.drop;rfl;rfl)
   refine a0v (by kernel_rfl) ?_;refine a4l () (by exact Fr.sub_of rfl) trivial hS.drop
  ·refine o8 rfl (s9 hS a4 rfl rfl) rfl ?_;rintro _ w' ⟨g,rfl,hS'⟩;clear hS;have hS:=hS';clear hS';refine ⟨hS.drop,?_⟩;refine s7 (i:=8) (by kernel_rfl) ?_;refine o8 rfl (a0m (first:=[]) (caps:=[]) rfl rfl (haa _ (har.now hS))) rfl ?_;rintro _ w' ⟨rfl,hS'⟩;replace hS:=hS.transA hS';simp only [a1P] at hS;clear hS';refine ⟨hS.drop,?_⟩
   ((with_reducible apply i3 (nn 9) a4);rfl;kernel_rfl;exact (fun _ _ _ h=>h);exact hS.drop;rfl;rfl)
   ((with_reducible apply i3 (nn 10) a4);rfl;kernel_rfl;exact (fun _ _ _ h=>h);exact hS.drop;rfl;rfl)
   ((with_reducible apply i3 (nn 11) a4);rfl;kernel_rfl;exact (fun _ _ _ h=>h);exact hS.drop;rfl;rfl)
   refine s7 (i:=13) (by kernel_rfl) ?_;refine t4 (Φ:=fun _ w'=>St _ _ w' _) rfl (p8 hS a4 (i:=0) rfl rfl rfl rfl rfl (xe8 rfl) (xb8.1 rfl)) ?_;intro _ w' hS';simp only [List.set] at hS';clear hS;have hS:=hS';clear hS';refine ⟨hS.drop,?_⟩
   ((with_reducible apply i3 (nn 14) a4);rfl;kernel_rfl;exact (fun _ _ _ h=>h);exact hS.drop;rfl;rfl)
   refine a0v (by kernel_rfl) ?_;refine a4l () (by exact Fr.sub_of rfl) trivial hS.drop
 clear hS;rintro - w4 - hS
 cases is with
 |false=>
  have hbp:=s5 (A:=ars) (n:=pgs.length) hjl (by unfold r8;rw [hy];dsimp only;rw [his];rfl);have hbad:=v8 (g:=g0) hlt (by rw [hk,hfs,hbp])
  repeat' ((refine yDn (by with_reducible constructor) ?_))
  (focus ((with_reducible apply a8 _ _ _ (by kernel_rfl) (by kernel_rfl) hS);(repeat' ((first|(with_reducible apply i4 a4);rfl;rfl|(first|(with_reducible apply a0S);(iterate 4 rfl);rfl;rfl|(with_reducible apply a0q);(iterate 5 rfl)|(with_reducible apply l6);rfl;rfl;rfl;rfl))));all_goals ((with_reducible apply l3);intro w' hS';clear hS;have hS:=hS';clear hS')))
  repeat' (first|(with_reducible apply a5 a4);rfl;rfl;rfl|refine yDn (by with_reducible constructor) ?_|(with_reducible apply a9);rfl;rfl)
  (refine d4 rfl ?_)
  exact ⟨by rw [hbad];rfl,hS.sub (xh8 _)⟩
 |true=>
 cases j with
 |zero=>
  have hd0:decide ((0:Int) < ((0:Nat):Int))=false:=rfl;by_cases hl:y.data.length=16;rotate_left
  ·have hdl:(!decide ((y.data.length:Int)=16))=true:=by rw [xh9 (fun h=>hl (bx.1 h))];rfl
   have hbp:=s5 (A:=ars) (n:=pgs.length) hjl (by unfold r8;rw [hy];dsimp only;rw [xh9 hl,xl1,xl5]);have hbad:=v8 (g:=g0) hlt (by rw [hk,hfs,hbp])
   repeat' ((refine yDn (by with_reducible constructor) ?_))
   (focus ((with_reducible apply a8 _ _ _ (by kernel_rfl) (by kernel_rfl) hS);(repeat' ((first|(with_reducible apply i4 a4);rfl;rfl|(with_reducible apply i6);rfl;(intro wd hd;replace hd:St _ _ wd _:=hd;(first|apply Ld.sc a4;rfl;exact hd.roC (by assumption) (by assumption) rfl|apply Ld.sl a4;rfl;exact hd.blkC 0 rfl rfl));rfl|(with_reducible apply z9 a4);rfl;rfl;rfl;rfl;omega;rfl|(first|(with_reducible apply p7);(iterate 4 rfl);rfl|(with_reducible apply a0S);(iterate 4 rfl);rfl;rfl|(with_reducible apply l2);rfl;rfl;rfl;rfl))));all_goals ((with_reducible apply l3);intro w' hS';clear hS;have hS:=hS';clear hS')))
   repeat' (first|(with_reducible apply a5 a4);rfl;rfl;rfl|refine yDn (by with_reducible constructor) ?_|(with_reducible apply a9);rfl;assumption)
   (refine d4 rfl ?_)
   exact ⟨by rw [hbad];rfl,hS.sub (xh8 _)⟩
  have hdl:(!decide ((y.data.length:Int)=16))=false:=by rw [xh7 (bx.2 hl)];rfl
  have hok2:r8 ars pgs 0=true:=by
   unfold r8;rw [hy];dsimp only;rw [his,xh7 hl];rfl
  rw [hok2] at hpst
  repeat' ((refine yDn (by with_reducible constructor) ?_))
  (focus ((with_reducible apply a8 _ _ _ (by kernel_rfl) (by kernel_rfl) hS);(repeat' ((first|(with_reducible apply i4 a4);rfl;rfl|(with_reducible apply i6);rfl;(intro wd hd;replace hd:St _ _ wd _:=hd;(first|apply Ld.sc a4;rfl;exact hd.roC (by assumption) (by assumption) rfl|apply Ld.sl a4;rfl;exact hd.blkC 0 rfl rfl));rfl|(with_reducible apply z9 a4);rfl;rfl;rfl;rfl;omega;rfl|(first|(with_reducible apply p7);(iterate 4 rfl);rfl|(with_reducible apply a0S);(iterate 4 rfl);rfl;rfl|(with_reducible apply l2);rfl;rfl;rfl;rfl))));all_goals ((with_reducible apply l3);intro w' hS';clear hS;have hS:=hS';clear hS')))
  repeat' (first|(with_reducible apply a5 a4);rfl;rfl;rfl|(with_reducible apply o9);rfl;rfl;omega;omega;rfl|refine yDn (by with_reducible constructor) ?_|(with_reducible apply f8);rfl;assumption)
  exact m8 1 (by exact Fr.sub_of rfl) ⟨by omega,hpst⟩ hS (by omega)
 |succ j=>
  have hd0:decide ((0:Int) < ((j + 1:Nat):Int))=true:=xh7 (by omega);obtain ⟨q,hq⟩:=l9 (l:=pgs) (i:=j) (by omega);have hjj:(((j + 1:Nat):Int) - 1).toNat=j:=by omega
  have hrowq:(pgs.map fpC)[(((j + 1:Nat):Int) - 1).toNat]?=some [.int .i64 q.page,.string ⟨q.data.toArray⟩]:=by rw [hjj];exact i7 (f:=fpC) hq
  by_cases hr:y.page<=q.page
  ·have hdr:decide (y.page<=q.page)=true:=xh7 hr;have hbp:=s5 (A:=ars) (n:=pgs.length) hjl (by unfold r8;rw [hy];dsimp only;rw [hq];dsimp only;rw [xh9 (show ¬q.page < y.page by omega),xl5,xl5]);have hbad:=v8 (g:=g0) hlt (by rw [hk,hfs,hbp])
   repeat' ((refine yDn (by with_reducible constructor) ?_))
   (focus ((with_reducible apply a8 _ _ _ (by kernel_rfl) (by kernel_rfl) hS);(repeat' ((first|(with_reducible apply a2Q);rfl;rfl;omega;omega;rfl|(with_reducible apply i4 a4);rfl;rfl|(with_reducible apply i6);rfl;(intro wd hd;replace hd:St _ _ wd _:=hd;(first|apply Ld.sc a4;rfl;exact hd.roC0 (by assumption) (by assumption) rfl|apply Ld.sl a4;rfl;exact hd.blkC 0 rfl rfl));rfl|(with_reducible apply z9 a4);rfl;rfl;rfl;(first|rfl|exact xk9 (by omega));omega;rfl|(first|((with_reducible apply p7);(iterate 4 rfl);first|rfl|assumption)|(with_reducible apply a0S);(iterate 4 rfl);assumption;rfl|(with_reducible apply l6);rfl;assumption;rfl;rfl|(with_reducible apply l2);rfl;rfl;rfl;rfl))));all_goals ((with_reducible apply l3);intro w' hS';clear hS;have hS:=hS';clear hS')))
   repeat' (first|(with_reducible apply a5 a4);rfl;rfl;rfl|refine yDn (by with_reducible constructor) ?_|(with_reducible apply a9);rfl;rfl)
   (refine d4 rfl ?_)
   exact ⟨by rw [hbad];rfl,hS.sub (xh8 _)⟩
  ·have hdr:decide (y.page<=q.page)=false:=xh9 hr;by_cases hl:y.data.length=16;rotate_left
   ·have hdl:(!decide ((y.data.length:Int)=16))=true:=by rw [xh9 (fun h=>hl (bx.1 h))];rfl
    have hbp:=s5 (A:=ars) (n:=pgs.length) hjl (by unfold r8;rw [hy];dsimp only;rw [xh9 hl,xl1,xl5]);have hbad:=v8 (g:=g0) hlt (by rw [hk,hfs,hbp])
    repeat' ((refine yDn (by with_reducible constructor) ?_))
    (focus ((with_reducible apply a8 _ _ _ (by kernel_rfl) (by kernel_rfl) hS);(repeat' ((first|(with_reducible apply a2Q);rfl;rfl;omega;omega;rfl|(with_reducible apply i4 a4);rfl;rfl|(with_reducible apply i6);rfl;(intro wd hd;replace hd:St _ _ wd _:=hd;(first|apply Ld.sc a4;rfl;(first|exact hd.roC0 (by assumption) (by assumption) rfl|exact hd.roC (by assumption) (by assumption) rfl)|apply Ld.sl a4;rfl;exact hd.blkC 0 rfl rfl));rfl|(with_reducible apply z9 a4);rfl;rfl;rfl;(first|rfl|exact xk9 (by omega));omega;rfl|(first|((with_reducible apply p7);(iterate 4 rfl);first|rfl|assumption)|(with_reducible apply l6);rfl;assumption;rfl;rfl|(with_reducible apply l2);rfl;(first|rfl|assumption);rfl;rfl))));all_goals ((with_reducible apply l3);intro w' hS';clear hS;have hS:=hS';clear hS')))
    repeat' (first|(with_reducible apply a5 a4);rfl;rfl;rfl|refine yDn (by with_reducible constructor) ?_|(with_reducible apply a9);rfl;assumption)
    (refine d4 rfl ?_)
    exact ⟨by rw [hbad];rfl,hS.sub (xh8 _)⟩
   have hdl:(!decide ((y.data.length:Int)=16))=false:=by rw [xh7 (bx.2 hl)];rfl
   have hok2:r8 ars pgs (j + 1)=true:=by
    unfold r8;rw [hy];dsimp only;rw [hq];dsimp only;rw [his,xh7 hl,xh7 (show q.page < y.page by omega)];rfl
   rw [hok2] at hpst
   repeat' ((refine yDn (by with_reducible constructor) ?_))
   (focus ((with_reducible apply a8 _ _ _ (by kernel_rfl) (by kernel_rfl) hS);(repeat' ((first|(with_reducible apply a2Q);rfl;rfl;omega;omega;rfl|(with_reducible apply i4 a4);rfl;rfl|(with_reducible apply i6);rfl;(intro wd hd;replace hd:St _ _ wd _:=hd;(first|apply Ld.sc a4;rfl;(first|exact hd.roC0 (by assumption) (by assumption) rfl|exact hd.roC (by assumption) (by assumption) rfl)|apply Ld.sl a4;rfl;exact hd.blkC 0 rfl rfl));rfl|(with_reducible apply z9 a4);rfl;rfl;rfl;(first|rfl|exact xk9 (by omega));omega;rfl|(first|((with_reducible apply p7);(iterate 4 rfl);first|rfl|assumption)|(with_reducible apply l6);rfl;assumption;rfl;rfl|(with_reducible apply l2);rfl;(first|rfl|assumption);rfl;rfl))));all_goals ((with_reducible apply l3);intro w' hS';clear hS;have hS:=hS';clear hS')))
   repeat' (first|(with_reducible apply a5 a4);rfl;rfl;rfl|(with_reducible apply o9);rfl;rfl;omega;omega;rfl|refine yDn (by with_reducible constructor) ?_|(with_reducible apply f8);rfl;assumption)
   exact m8 (j + 1 + 1) (by exact Fr.sub_of rfl) ⟨by omega,hpst⟩ hS (by omega)
structure Flt where
 slots:Int
 sp:List Fs
 pr:List Pc
 out:List Wd
def FlV.F (f:FlV):Flt:=⟨f.slots,f.sp.map (·.1),f.pr,f.out⟩
def faA (x:Fs×Value×Value):Asr:=.row 136 4 x.2.1 (x.1.areas.map arC)
def fpA (x:Fs×Value×Value):Asr:=.row 145 2 x.2.2 (x.1.pages.map fpC)
def fsA (l:List (Fs×Value×Value)):List Asr:=l.flatMap fun x=>[faA x,fpA x]
def fA (f:FlV):List Asr:=.row 139 3 f.vsp (f.sp.map fsC)::.row 123 13 f.vpr (f.pr.map prC)::.row 120 2 f.vout (f.out.map wdC)::fsA f.sp
theorem FlOk.mem {F:Nat->Prop} {w0 w:World} {Γ:List Asr} {f:FlV} (hS:St F w0 w Γ) (hm:∀ A ∈ fA f,A ∈ Γ):FlOk w f:=by
 have hr:∀ {x A},x ∈ f.sp->A ∈ [faA x,fpA x]->A ∈ Γ:=fun {x A} hx hA=>hm _ (xb6 _ (xb6 _ (xb6 _ (List.mem_flatMap.2 ⟨x,hx,hA⟩))));refine ⟨hS.slMem (e:=139) (hm _ xb5),fun x hx=>?_,fun x hx=>?_,hS.slMem (e:=123) (hm _ (xb6 _ xb5)),hS.slMem (e:=120) (hm _ (xb6 _ (xb6 _ xb5)))⟩
 ·exact hS.slMem (e:=136) (hr hx xb5)
 ·exact hS.slMem (e:=145) (hr hx (xb6 _ xb5))
theorem a6Q {w w':World} {f:FlV} (h:St nF w w' (fA f)):∃ Δ,St nF w w' Δ/\∀ {F:Nat->Prop} {w0 w2:World} {Γ:List Asr},St F w0 w2 Γ->(∀ A ∈ Δ,A ∈ Γ)->FlOk w2 f:=⟨fA f,h,fun hS hm=>FlOk.mem hS hm⟩
def fl0:FlV:=⟨0,[],[],[],.slice none 0 0,.slice none 0 0,.slice none 0 0⟩
theorem b3d {w w':World} {Γ:List Asr} (h:St nF w w' Γ):St nF w w' (fA fl0):=(((h.sub (xh8 _)).addNil _ _).addNil _ _).addNil _ _
theorem b2f (w:World):FlOk w fl0:=⟨Sl.nil0 w 3,(fun _ h=>by cases h),(fun _ h=>by cases h),Sl.nil0 w 13,Sl.nil0 w 2⟩
def b26:Flt:=⟨0,[],[],[]⟩
theorem b3f (a b:Fp):a3s Tryz.prog 145 (fpC a) (fpC b) (decide (a=b)):=by
 refine ⟨fun w=>?_,by kernel_rfl⟩
 cases a
 cases b
 unfold fpC;simp [go_sem]
 repeat' split
 all_goals simp_all
theorem a13 {w:World} {k k':FlV} (hK:FlOk w k) (hK':FlOk w k') (he:k.F=k'.F):Fn Tryz.prog 38 [.agg (flC k).toArray,.agg (flC k').toArray] w (RBf (.bool true) w):=by
 have b1:=hK.sp.bound;have b2:=hK'.sp.bound;obtain ⟨slots,sps,pr,out,vsp,vpr,vout⟩:=k;obtain ⟨slots',sps',pr',out',vsp',vpr',vout'⟩:=k';unfold FlV.F at he;injection he with e1 e2 e3 e4
 dsimp only at e1 e2 e3 e4;subst e1 e3 e4;have hl4:sps.length=sps'.length:=by have:=congrArg List.length e2;simpa using this
 obtain ⟨k1,k2,k3,k4,k5⟩:=hK;obtain ⟨m1,m2,m3,m4,m5⟩:=hK';dsimp only at b1 b2 k1 k2 k3 k4 k5 m1 m2 m3 m4 m5;have hsp:=fun w1 (h:Sl nF w1 13 vpr (pr.map prC)) (h':Sl nF w1 13 vpr' (pr.map prC))=>a4z h h';have hso:=fun w1 (h:Sl nF w1 2 vout (out.map wdC)) (h':Sl nF w1 2 vout' (out.map wdC))=>a4y h h';obtain ⟨p1,c1,rfl⟩:=k1.len;obtain ⟨p2,c2,rfl⟩:=k4.len;obtain ⟨p3,c3,rfl⟩:=k5.len;obtain ⟨q1,d1,rfl⟩:=m1.len;obtain ⟨q2,d2,rfl⟩:=m4.len;obtain ⟨q3,d3,rfl⟩:=m5.len;unfold flC;dsimp only;have z0:(!decide (slots=slots))=false:=by rw [xh7 rfl];rfl
 have z4:(!decide ((sps.length:Int)=sps'.length))=false:=by rw [xh7 (by omega)];rfl
 refine yEn Tryz.func38 Tryz.ntmps38 (by kernel_rfl) (by kernel_rfl) rfl rfl ?_;have hS:=St.start w
 repeat' (first|(with_reducible apply a5 a4);rfl;rfl;rfl|(with_reducible apply a6);rfl;(first|apply Ld.sc a4;rfl;(first|exact hS.blkC 0 rfl rfl|exact hS.blkC 1 rfl rfl)|apply Ld.sl a4;rfl;(first|exact hS.blkC 0 rfl rfl|exact hS.blkC 1 rfl rfl));rfl|refine yDn (by with_reducible constructor) ?_|((with_reducible apply e9);(iterate 4 rfl);first|rfl|assumption)|(with_reducible apply a7);rfl;(first|rfl|assumption);rfl;rfl|(with_reducible apply f8);rfl;rfl|(with_reducible apply d8 hS);rfl;rfl;rfl;clear hS;intro g w' hS|(with_reducible apply b5 hS);rfl;rfl;rfl;refine ⟨_,hsp _ (k4.now hS) (m4.now hS),?_⟩;clear hS;intro w' hS|(with_reducible apply b5 hS);rfl;rfl;rfl;refine ⟨_,hso _ (k5.now hS) (m5.now hS),?_⟩;clear hS;intro w' hS)
 refine a2E hS 5 [2,3] rfl sps.length (fun _=>True) 0 rfl (xf0 _) trivial ?_;rintro i w1 hi - hS';clear hS;have hS:=hS';clear hS';by_cases hlt:i < sps.length;rotate_left
 ·repeat' (first|(with_reducible apply a5 a4);rfl;rfl;rfl|(with_reducible apply a6);rfl;(apply Ld.sl a4;rfl;exact hS.blkC 1 rfl rfl);rfl|refine yDn (by with_reducible constructor) ?_|(with_reducible apply b6);rfl;all_goals (intro hb hp;try (exfalso;omega)))
  (refine d4 rfl ?_)
  exact ⟨rfl,hS.sub (xh8 _)⟩
 obtain ⟨x,hx⟩:=l9 (l:=sps) (i:=i) (by omega);obtain ⟨y,hy⟩:=l9 (l:=sps') (i:=i) (by omega);have hxy:x.1=y.1:=by
  have h1:(sps.map (·.1))[i]?=some x.1:=i7 (f:=fun p:Fs×Value×Value=>p.1) hx;have h2:(sps'.map (·.1))[i]?=some y.1:=i7 (f:=fun p:Fs×Value×Value=>p.1) hy;rw [e2,h2] at h1;exact (Option.some.inj h1).symm
 have hrow:=i7 (f:=fsC) hx;have hrow':=i7 (f:=fsC) hy;obtain ⟨b,off,rfl,hro⟩:=k1.at_ (i:=i) hlt;obtain ⟨b',off',rfl,hro'⟩:=m1.at_ (i:=i) (by omega);have ha:=k2 x (xc1 hx);have hen:=k3 x (xc1 hx);have ha':=m2 y (xc1 hy);have hen':=m3 y (xc1 hy);obtain ⟨s,va,ve⟩:=x;obtain ⟨s',va',ve'⟩:=y;dsimp only at hxy ha hen ha' hen';subst hxy;have be:=hen.bound;obtain ⟨pa,ca,rfl⟩:=ha.len;obtain ⟨pe,ce,rfl⟩:=hen.len;obtain ⟨pa',ca',rfl⟩:=ha'.len;obtain ⟨pe',ce',rfl⟩:=hen'.len;unfold fsC at hrow hrow';dsimp only at hrow hrow';have hsa:=fun w1 (h:Sl nF w1 4 (.slice pa s.areas.length ca) (s.areas.map arC)) (h':Sl nF w1 4 (.slice pa' s.areas.length ca') (s.areas.map arC))=>b0u h h';rw [xh7 rfl] at hsa;have z5:(!decide ((s.pages.length:Int)=s.pages.length))=false:=by rw [xh7 rfl];rfl
 have z6:(!decide (s.live=s.live))=false:=by rw [xh7 rfl];rfl
 repeat' (first|(with_reducible apply a5 a4);rfl;rfl;rfl|(with_reducible apply a6);rfl;(apply Ld.sl a4;rfl;exact hS.blkC 1 rfl rfl);rfl|refine yDn (by with_reducible constructor) ?_|(with_reducible apply b6);rfl;all_goals (intro hb hp;try (exfalso;omega)))
 refine a4n 14 rfl hS (by kernel_rfl) ?_;intro wh hh;clear hS;have hS:=hh;clear hh
 ((with_reducible apply i3 (nn 0) a4);rfl;kernel_rfl;exact (fun _ _ _ h=>h);exact hS;rfl;rfl)
 ((with_reducible apply n9 (nn 1));rfl;kernel_rfl;exact (fun _ _ _ h=>h);exact hS;rfl;(intro wd hd;replace hd:St _ _ wd _:=hd;(apply Ld.sl a4;rfl;exact hd.blkC 1 rfl rfl));rfl)
 ((with_reducible apply i3 (nn 2) a4);rfl;kernel_rfl;exact (fun _ _ _ h=>h);exact hS;rfl;rfl)
 ((with_reducible apply a9U (nn 3) a4);rfl;kernel_rfl;kernel_rfl;kernel_rfl;exact (fun _ _ _ _ h=>h);exact hS;rfl;rfl;rfl;rfl;omega;rfl)
 ((with_reducible apply n9 (nn 4));rfl;kernel_rfl;exact (fun _ _ _ h=>h);exact hS;rfl;(intro wd hd;replace hd:St _ _ wd _:=hd;(apply Ld.st a4;rfl;exact hd.roR (by assumption) (by assumption);rfl));rfl)
 ((with_reducible apply i3 (nn 5) a4);rfl;kernel_rfl;exact (fun _ _ _ h=>h);exact hS;rfl;rfl)
 ((with_reducible apply n9 (nn 6));rfl;kernel_rfl;exact (fun _ _ _ h=>h);exact hS;rfl;(intro wd hd;replace hd:St _ _ wd _:=hd;(apply Ld.sl a4;rfl;exact hd.blkC 0 rfl rfl));rfl)
 ((with_reducible apply i3 (nn 7) a4);rfl;kernel_rfl;exact (fun _ _ _ h=>h);exact hS;rfl;rfl)
 ((with_reducible apply a9U (nn 8) a4);rfl;kernel_rfl;kernel_rfl;kernel_rfl;exact (fun _ _ _ _ h=>h);exact hS;rfl;rfl;rfl;rfl;omega;rfl)
 ((with_reducible apply n9 (nn 9));rfl;kernel_rfl;exact (fun _ _ _ h=>h);exact hS;rfl;(intro wd hd;replace hd:St _ _ wd _:=hd;(apply Ld.st a4;rfl;exact hd.roR (by assumption) (by assumption);rfl));rfl)
 refine a5t (i:=10) (j:=11) (by kernel_rfl) ?_ ?_
 ·refine o8 rfl (s9 hS a4 rfl rfl) rfl ?_;rintro _ w' ⟨g,rfl,hS'⟩;clear hS;have hS:=hS';clear hS';refine ⟨hS.drop,?_⟩;refine s7 (i:=11) (by kernel_rfl) ?_;refine o8 rfl (s9 hS a4 rfl rfl) rfl ?_;rintro _ w' ⟨g,rfl,hS'⟩;clear hS;have hS:=hS';clear hS';refine ⟨hS.drop.drop,?_⟩;refine s7 (i:=12) (by kernel_rfl) ?_;refine t4 (Φ:=fun _ w'=>St _ _ w' _) rfl (p8 hS a4 (i:=1) rfl rfl rfl rfl rfl (xe8 rfl) (xb8.1 rfl)) ?_;intro _ w' hS';simp only [List.set] at hS';clear hS;have hS:=hS';clear hS';refine ⟨hS.drop.drop,?_⟩;refine s7 (i:=13) (by kernel_rfl) ?_;refine t4 (Φ:=fun _ w'=>St _ _ w' _) rfl (p8 hS a4 (i:=0) rfl rfl rfl rfl rfl (xe8 rfl) (xb8.1 rfl)) ?_;intro _ w' hS';simp only [List.set] at hS';clear hS;have hS:=hS';clear hS';refine ⟨hS.drop.drop,?_⟩;refine a0v (by kernel_rfl) ?_
  repeat' (first|(with_reducible apply a5 a4);rfl;rfl;rfl|(with_reducible apply a6);rfl;(first|apply Ld.sc a4;rfl;(first|exact hS.blkC 0 rfl rfl|exact hS.blkC 1 rfl rfl)|apply Ld.sl a4;rfl;(first|exact hS.blkC 0 rfl rfl|exact hS.blkC 1 rfl rfl));rfl|(with_reducible apply a1p a4);(iterate 4 rfl)|refine yDn (by with_reducible constructor) ?_|((with_reducible apply e9);(iterate 4 rfl);first|rfl|assumption)|(with_reducible apply a7);rfl;(first|rfl|assumption);rfl;rfl|(with_reducible apply f8);rfl;assumption|(with_reducible apply b5 hS);rfl;rfl;rfl;refine ⟨_,hsa _ (ha.now hS) (ha'.now hS),?_⟩;clear hS;intro w' hS)
  refine a2E hS 8 [2,3,5,6,7] rfl s.pages.length (fun _=>True) 0 rfl (xf0 _) trivial ?_;rintro j w3 hj - hS';clear hS;have hS:=hS';clear hS';by_cases hjl:j < s.pages.length
  ·obtain ⟨e,he⟩:=l9 (l:=s.pages) (i:=j) (by omega);have hrow2:=i7 (f:=fpC) he;obtain ⟨b2,off2,rfl,hro2⟩:=hen.at_ (i:=j) hjl;obtain ⟨b3,off3,rfl,hro3⟩:=hen'.at_ (i:=j) hjl;have heq:=b3f e e;rw [xh7 rfl] at heq
   repeat' (first|(with_reducible apply a5 a4);rfl;rfl;rfl|(with_reducible apply a6);rfl;(apply Ld.sl a4;rfl;exact hS.blkC 1 rfl rfl);rfl|refine yDn (by with_reducible constructor) ?_|(with_reducible apply b6);rfl;all_goals (intro hb hp;try (exfalso;omega)))
   (focus ((with_reducible apply a8 _ _ _ (by kernel_rfl) (by kernel_rfl) hS);(repeat' (first|(first|(with_reducible apply i4 a4);rfl;rfl|(with_reducible apply i6);rfl;(intro wd hd;replace hd:St _ _ wd _:=hd;(first|apply Ld.sl a4;rfl;(first|exact hd.blkC 0 rfl rfl|exact hd.blkC 1 rfl rfl)|apply Ld.st a4;rfl;exact hd.roR (by assumption) (by assumption);rfl));rfl|(with_reducible apply z9 a4);rfl;rfl;rfl;rfl;omega;rfl)|(with_reducible apply a6M);rfl;rfl;exact heq;rfl));all_goals ((with_reducible apply l3);intro w' hS';clear hS;have hS:=hS';clear hS')))
   repeat' (first|(with_reducible apply a5 a4);rfl;rfl;rfl|(with_reducible apply o9);rfl;rfl;omega;omega;rfl|refine yDn (by with_reducible constructor) ?_|(with_reducible apply f8);rfl;rfl)
   exact a1h (j + 1) (by exact Fr.sub_of rfl) (by omega) trivial (by omega) hS
  ·repeat' (first|(with_reducible apply a5 a4);rfl;rfl;rfl|(with_reducible apply a6);rfl;(apply Ld.sl a4;rfl;exact hS.blkC 1 rfl rfl);rfl|(with_reducible apply o9);rfl;rfl;omega;omega;rfl|refine yDn (by with_reducible constructor) ?_|(with_reducible apply b6);rfl;all_goals (intro hb hp;try (exfalso;omega)))
   exact a1h (i + 1) (by exact Fr.sub_of rfl) (by omega) trivial (by omega) hS.drop.drop
 ·refine o8 rfl (s9 hS a4 rfl rfl) rfl ?_;rintro _ w' ⟨g,rfl,hS'⟩;clear hS;have hS:=hS';clear hS';refine ⟨hS.drop,?_⟩;refine s7 (i:=10) (by kernel_rfl) ?_;refine o8 rfl (s9 hS a4 rfl rfl) rfl ?_;rintro _ w' ⟨g,rfl,hS'⟩;clear hS;have hS:=hS';clear hS';refine ⟨hS.drop.drop,?_⟩;refine s7 (i:=12) (by kernel_rfl) ?_;refine t4 (Φ:=fun _ w'=>St _ _ w' _) rfl (p8 hS a4 (i:=0) rfl rfl rfl rfl rfl (xe8 rfl) (xb8.1 rfl)) ?_;intro _ w' hS';simp only [List.set] at hS';clear hS;have hS:=hS';clear hS';refine ⟨hS.drop.drop,?_⟩;refine s7 (i:=13) (by kernel_rfl) ?_;refine t4 (Φ:=fun _ w'=>St _ _ w' _) rfl (p8 hS a4 (i:=1) rfl rfl rfl rfl rfl (xe8 rfl) (xb8.1 rfl)) ?_;intro _ w' hS';simp only [List.set] at hS';clear hS;have hS:=hS';clear hS';refine ⟨hS.drop.drop,?_⟩;refine a0v (by kernel_rfl) ?_
  repeat' (first|(with_reducible apply a5 a4);rfl;rfl;rfl|(with_reducible apply a6);rfl;(first|apply Ld.sc a4;rfl;(first|exact hS.blkC 0 rfl rfl|exact hS.blkC 1 rfl rfl)|apply Ld.sl a4;rfl;(first|exact hS.blkC 0 rfl rfl|exact hS.blkC 1 rfl rfl));rfl|(with_reducible apply a1p a4);(iterate 4 rfl)|refine yDn (by with_reducible constructor) ?_|((with_reducible apply e9);(iterate 4 rfl);first|rfl|assumption)|(with_reducible apply a7);rfl;(first|rfl|assumption);rfl;rfl|(with_reducible apply f8);rfl;assumption|(with_reducible apply b5 hS);rfl;rfl;rfl;refine ⟨_,hsa _ (ha.now hS) (ha'.now hS),?_⟩;clear hS;intro w' hS)
  refine a2E hS 8 [2,3,5,6,7] rfl s.pages.length (fun _=>True) 0 rfl (xf0 _) trivial ?_;rintro j w3 hj - hS';clear hS;have hS:=hS';clear hS';by_cases hjl:j < s.pages.length
  ·obtain ⟨e,he⟩:=l9 (l:=s.pages) (i:=j) (by omega);have hrow2:=i7 (f:=fpC) he;obtain ⟨b2,off2,rfl,hro2⟩:=hen.at_ (i:=j) hjl;obtain ⟨b3,off3,rfl,hro3⟩:=hen'.at_ (i:=j) hjl;have heq:=b3f e e;rw [xh7 rfl] at heq
   repeat' (first|(with_reducible apply a5 a4);rfl;rfl;rfl|(with_reducible apply a6);rfl;(apply Ld.sl a4;rfl;exact hS.blkC 0 rfl rfl);rfl|refine yDn (by with_reducible constructor) ?_|(with_reducible apply b6);rfl;all_goals (intro hb hp;try (exfalso;omega)))
   (focus ((with_reducible apply a8 _ _ _ (by kernel_rfl) (by kernel_rfl) hS);(repeat' (first|(first|(with_reducible apply i4 a4);rfl;rfl|(with_reducible apply i6);rfl;(intro wd hd;replace hd:St _ _ wd _:=hd;(first|apply Ld.sl a4;rfl;(first|exact hd.blkC 0 rfl rfl|exact hd.blkC 1 rfl rfl)|apply Ld.st a4;rfl;exact hd.roR (by assumption) (by assumption);rfl));rfl|(with_reducible apply z9 a4);rfl;rfl;rfl;rfl;omega;rfl)|(with_reducible apply a6M);rfl;rfl;exact heq;rfl));all_goals ((with_reducible apply l3);intro w' hS';clear hS;have hS:=hS';clear hS')))
   repeat' (first|(with_reducible apply a5 a4);rfl;rfl;rfl|(with_reducible apply o9);rfl;rfl;omega;omega;rfl|refine yDn (by with_reducible constructor) ?_|(with_reducible apply f8);rfl;rfl)
   exact a1h (j + 1) (by exact Fr.sub_of rfl) (by omega) trivial (by omega) hS
  ·repeat' (first|(with_reducible apply a5 a4);rfl;rfl;rfl|(with_reducible apply a6);rfl;(apply Ld.sl a4;rfl;exact hS.blkC 0 rfl rfl);rfl|(with_reducible apply o9);rfl;rfl;omega;omega;rfl|refine yDn (by with_reducible constructor) ?_|(with_reducible apply b6);rfl;all_goals (intro hb hp;try (exfalso;omega)))
   exact a1h (i + 1) (by exact Fr.sub_of rfl) (by omega) trivial (by omega) hS.drop.drop
theorem a5W {A:List Ar} (hc:b4 A=0) {e:En} (h:(k6 A e.page).isSome=true):0 < e.page:=by
 obtain ⟨a,ha⟩:=xi1.1 h;have:=(a2P hc ha).2;omega
def a3Y (l:List En) (p:Int):Option En:=l.find? fun e=>decide (e.page=p)
def a06 (l:List En):List Int:=l.map fun e=>e.page
def b3D (l:List En) (e:En):List En:=l.take (lbd (a06 l) e.page)++e::l.drop (lbd (a06 l) e.page)
def putE (l:List En) (e:En):List En:=if e.page ∈ a06 l then l.set (lbd (a06 l) e.page) e else b3D l e
def a5o (l:List Fm) (i:Nat):Fm:=(l[i]?).getD fm0
def a8v (l:List Sw) (i:Nat):Sw:=(l[i]?).getD sw0
def sc0:Sc:=⟨false,[],[]⟩
def a1U (K:Ker) (sp:Nat):Sc:=(K.spaces[sp]?).getD sc0
def a1z (K:Ker) (sp:Nat):List En:=(a1U K sp).entries
def y6 (K:Ker) (sp:Nat):List Ar:=(a1U K sp).areas
def zAt (K:Ker) (sp:Nat) (page:Int):Bool:=((k6 (y6 K sp) page).getD a2f).z
def b1y (K:Ker) (sp:Nat) (page:Int):List UInt8:=(a6P K.sheets (zAt K sp page) page).getD []
def b2K (K:Ker) (e:En):List UInt8:=if e.kind=1 then (a5o K.frames e.at_.toNat).data else (a8v K.slots e.at_.toNat).data
def a3y (K:Ker) (sp:Nat) (page:Int):List UInt8:=match a3Y (a1z K sp) page with
 |some e=>b2K K e
 |none=>b1y K sp page
structure FmOk (sh:List Sh) (f:Fm) (N:List Nm):Prop where
 refs:f.refs=(N.length:Int)
 nil:N=[]->f=fm0
 len:N≠[]->f.data.length=16
 same:∀ n ∈ N,∀ m ∈ N,m.1.page=n.1.page/\m.2.z=n.2.z
 data:∀ n ∈ N,f.dirty=true\/some f.data=a6P sh n.2.z n.1.page
structure SwOk (s:Sw) (N:List Nm):Prop where
 refs:s.refs=(N.length:Int)
 nil:N=[]->s=sw0
 len:N≠[]->s.data.length=16
 same:∀ n ∈ N,∀ m ∈ N,m.1.page=n.1.page/\m.2.z=n.2.z
theorem FmOk.perm {sh:List Sh} {f:Fm} {N M:List Nm} (h:FmOk sh f N) (p:N.Perm M):FmOk sh f M :=
 ⟨by rw [<- p.length_eq];exact h.refs,fun e=>h.nil (by subst e;exact p.eq_nil),fun e=>h.len (fun e2=>e (by subst e2;exact p.symm.eq_nil)),fun n hn m hm=>h.same n (p.mem_iff.2 hn) m (p.mem_iff.2 hm),fun n hn=>h.data n (p.mem_iff.2 hn)⟩
theorem SwOk.perm {f:Sw} {N M:List Nm} (h:SwOk f N) (p:N.Perm M):SwOk f M :=
 ⟨by rw [<- p.length_eq];exact h.refs,fun e=>h.nil (by subst e;exact p.eq_nil),fun e=>h.len (fun e2=>e (by subst e2;exact p.symm.eq_nil)),fun n hn m hm=>h.same n (p.mem_iff.2 hn) m (p.mem_iff.2 hm)⟩
structure Right (K:Ker):Prop where
 cnt:3<=K.frames.length/\K.frames.length<=64/\K.slots.length<=512/\1<=K.spaces.length/\K.spaces.length<=4/\K.sheets.length<=255
 rise:a0k 0 K.sheets=true
 hand:0<=K.hand/\K.hand < K.frames.length
 spaces:∀ s ∈ K.spaces,a4x K.sheets K.frames.length K.slots.length s=true
 room:b1f K.spaces<=K.slots.length
 fr:∀ (i:Nat) f,K.frames[i]?=some f->FmOk K.sheets f (a03 K.spaces 1 (i:Nat))
 sl:∀ (i:Nat) s,K.slots[i]?=some s->SwOk s (a03 K.spaces 2 (i:Nat))
theorem a5I {α:Type} {f:α->List Value} {l:List α} {w:World} {v:Value} (hL:Sl nF w 4 v (l.map f)) (hl:l.length<=100000):Fn Tryz.prog 91 [v] w (fun v' w'=>∃ q c,v'=.slice q l.length c/\St nF w w' [.row 136 4 v' (l.map f)]):=by
 obtain ⟨pp,c,rfl⟩:=hL.len;refine yEn Tryz.func91 Tryz.ntmps91 (by kernel_rfl) (by kernel_rfl) rfl rfl ?_;have hS:=St.start w
 cases pp with
 |none=>
  have h0:l.map f=[]:=by
   rcases hL with ⟨p,c',h1,h2⟩|⟨b,off,cap,h1,-⟩
   ·exact h2
   ·cases h1
  have h1:l.length=0:=by simpa using h0
  repeat' (first|(with_reducible apply a5 a4);rfl;rfl;rfl|refine yDn (by with_reducible constructor) ?_|(with_reducible apply a9);rfl;rfl|(with_reducible apply a6R a4);(iterate 4 rfl))
  (refine d4 rfl ?_)
  refine ⟨none,0,by rw [h1],?_⟩;rw [h0];exact (hS.sub (xh8 _)).addNil _ _
 |some p=>
  repeat' (first|(with_reducible apply a5 a4);rfl;rfl;rfl|refine yDn (by with_reducible constructor) ?_|(with_reducible apply f8);rfl;rfl|(with_reducible apply a01 hS a4);(iterate 7 rfl);clear hS;intro g w' hS|(with_reducible apply a6R a4);(iterate 4 rfl)|(with_reducible apply a3e hS a4 0);(iterate 4 rfl);exact (hL.now hS);(simp only [xj5,xd7,xa2,xd6];omega);rfl;intro p' cap' w' hS';simp only [List.set] at hS';clear hS;have hS:=hS';clear hS')
  (refine d4 rfl ?_)
  refine ⟨p',cap',by rw [xa2,xe0,xj5],?_⟩;rw [List.nil_append] at hS;exact hS.sub (by repeat ((exact xl6 _)))
def fxA (x:Sh×Value):Asr:=.row 156 2 x.2 (x.1.fixes.map fxC)
def b3n (p:Sp):Asr:=.row 136 4 p.va (p.s.areas.map arC)
def b2C (p:Sp):Asr:=.row 82 3 p.ve (p.s.entries.map enC)
def b3g (N:List (Sh×Value)):List (List Value):=N.map fun p=>shC p.1 p.2
def nm1 (s:Sc) (k a:Int):List Nm:=(s.entries.filter fun e=>decide (e.kind=k/\e.at_=a)).map (b1Q s)
theorem a5d (L:List Sc) (k a:Int):a03 L k a=L.flatMap fun s=>nm1 s k a:=rfl
def b05 (A:List Ar) (nf ns:Int) (e:En):Prop:=(k6 A e.page).isSome=true/\((e.kind=1/\0<=e.at_/\e.at_ < nf)\/(e.kind=2/\0<=e.at_/\e.at_ < ns))
theorem a34 {A:List Ar} {nf ns:Int}:∀ {l:List En} {last:Int},a4N A nf ns last l=true ↔ (∀ e ∈ l,b05 A nf ns e/\last < e.page)/\Rises (a06 l)
 |[],last=>by simp [a4N,Rises,a06]
 |e::l,last=>by
  show (a76 A nf ns last e && a4N A nf ns e.page l)=true ↔ _;rw [xb7,a34 (l:=l)];unfold a76;rw [xb7,xh5];show _ ↔ _/\List.Pairwise _ (e.page::a06 l);rw [List.pairwise_cons];constructor
  ·rintro ⟨⟨h1,h2,h3⟩,h4,h5⟩;refine ⟨fun x hx=>?_,fun p hp=>?_,h5⟩
   ·rcases xb4.1 hx with rfl|hx
    ·exact ⟨⟨h1,h3⟩,h2⟩
    ·have:=h4 x hx;exact ⟨this.1,by omega⟩
   ·obtain ⟨x,hx,rfl⟩:=xi0.1 hp;exact (h4 x hx).2
  ·rintro ⟨h1,h2,h3⟩;have h0:=h1 e xb5;exact ⟨⟨h0.1.1,h0.2,h0.1.2⟩,fun x hx=>⟨(h1 x (xb6 _ hx)).1,h2 _ (xi0.2 ⟨x,hx,rfl⟩)⟩,h3⟩
structure b3p (sh:List Sh) (nf ns:Int) (s:Sc):Prop where
 dead:s.live=false->s.areas=[]/\s.entries=[]
 ar:b4 s.areas=0
 pages:a8l sh s.areas=true
 ents:∀ e ∈ s.entries,b05 s.areas nf ns e
 rises:Rises (a06 s.entries)
theorem a9h {sh:List Sh} {nf ns:Int} {s:Sc}:a4x sh nf ns s=true ↔ b3p sh nf ns s:=by
 unfold a4x
 cases hl:s.live with
 |false=>
  rw [xd9 (by simp),xh5];constructor
  ·rintro ⟨h1,h2⟩;refine ⟨fun _=>⟨h1,h2⟩,by rw [h1];rfl,by rw [h1];rfl,by rw [h2];simp,by rw [h2];exact List.Pairwise.nil⟩
  ·exact fun h=>h.dead hl
 |true=>
  rw [xd8 rfl,xb7,xb7,xh5,a34];constructor
  ·rintro ⟨h1,h2,h3,h4⟩;exact ⟨fun h=>(by rw [hl] at h;cases h),h1,h2,fun e he=>(h3 e he).1,h4⟩
  ·intro h;exact ⟨h.ar,h.pages,fun e he=>⟨h.ents e he,a5W h.ar (h.ents e he).1⟩,h.rises⟩
theorem a6K {l:List Fm} {i:Nat} {f:Fm} (h:l[i]?=some f):a5o l i=f:=by unfold a5o;rw [h];rfl
theorem a6G {l:List Sw} {i:Nat} {f:Sw} (h:l[i]?=some f):a8v l i=f:=by unfold a8v;rw [h];rfl
theorem SwOk.free {s:Sw} {N:List Nm} (h:SwOk s N) (h0:s.refs=0):N=[]/\s=sw0:=by
 have h1:=h.refs;have:N=[]:=xe1 (by omega);exact ⟨this,h.nil this⟩
theorem FmOk.free {sh:List Sh} {s:Fm} {N:List Nm} (h:FmOk sh s N) (h0:s.refs=0):N=[]/\s=fm0:=by
 have h1:=h.refs;have:N=[]:=xe1 (by omega);exact ⟨this,h.nil this⟩
theorem FmOk.zero (sh:List Sh):FmOk sh fm0 []:=⟨rfl,fun _=>rfl,fun h=>absurd rfl h,(fun _ h=>by cases h),(fun _ h=>by cases h)⟩
theorem SwOk.zero:SwOk sw0 []:=⟨rfl,fun _=>rfl,fun h=>absurd rfl h,(fun _ h=>by cases h)⟩
def b1Y (a b:Fm):Prop:=a.data=b.data/\a.refs=b.refs/\a.dirty=b.dirty
theorem FmOk.alike {sh:List Sh} {f g:Fm} {N:List Nm} (h:FmOk sh f N) (ha:b1Y g f) (hr:f.refs≠0):FmOk sh g N:=by
 obtain ⟨a1,a2,a3⟩:=ha;refine ⟨by rw [a2];exact h.refs,fun e=>absurd (by rw [h.refs,e];rfl) hr,by rw [a1];exact h.len,h.same,fun n hn=>by rw [a1,a3];exact h.data n hn⟩
theorem a7t {l:List En} {p:Int} {e:En} (h:a3Y l p=some e):e ∈ l/\e.page=p:=⟨List.mem_of_find?_eq_some h,by have:=List.find?_some h;simpa using this⟩
theorem a6O {K:Ker} {sp:Nat} {s:Sc} (h:K.spaces[sp]?=some s):a1U K sp=s:=by unfold a1U;rw [h];rfl
theorem a3N {K:Ker} {sp:Nat} (h:K.spaces[sp]?=none):a1U K sp=sc0:=by unfold a1U;rw [h];rfl
theorem a6s {K:Ker} {sp:Nat} {s:Sc} {e:En} (h:K.spaces[sp]?=some s) (he:e ∈ s.entries):b1Q s e ∈ a03 K.spaces e.kind e.at_:=by
 rw [a5d,List.mem_flatMap];refine ⟨s,xc1 h,?_⟩;unfold nm1;exact xi0.2 ⟨e,xg5.2 ⟨he,by simp⟩,rfl⟩
theorem Right.ent {K:Ker} (h:Right K) {sp:Nat} {s:Sc} {e:En} (hs:K.spaces[sp]?=some s) (he:e ∈ s.entries) :
  (k6 s.areas e.page).isSome=true/\((e.kind=1/\(∃ f:Nat,e.at_=(f:Nat)/\f < K.frames.length))\/(e.kind=2/\∃ f:Nat,e.at_=(f:Nat)/\f < K.slots.length)):=by
 have h1:=(a9h.1 (h.spaces s (xc1 hs))).ents e he;refine ⟨h1.1,?_⟩;rcases h1.2 with ⟨a,b,c⟩|⟨a,b,c⟩
 ·exact xc7 ⟨a,e.at_.toNat,by omega,by omega⟩
 ·exact xc4 ⟨a,e.at_.toNat,by omega,by omega⟩
structure SameP (K K':Ker):Prop where
 sheets:K'.sheets=K.sheets
 nfr:K'.frames.length=K.frames.length
 nsl:K'.slots.length=K.slots.length
 nsp:K'.spaces.length=K.spaces.length
 ar:∀ sp,y6 K' sp=y6 K sp
 live:∀ sp,(a1U K' sp).live=(a1U K sp).live
 peek:∀ sp p,a3y K' sp p=a3y K sp p
theorem SameP.refl (K:Ker):SameP K K:=⟨rfl,rfl,rfl,rfl,fun _=>rfl,fun _=>rfl,fun _ _=>rfl⟩
theorem SameP.trans {K K' K2:Ker} (h:SameP K K') (h2:SameP K' K2):SameP K K2:=⟨h2.sheets.trans h.sheets,h2.nfr.trans h.nfr,h2.nsl.trans h.nsl,h2.nsp.trans h.nsp,fun s=>(h2.ar s).trans (h.ar s),fun s=>(h2.live s).trans (h.live s),fun s p=>(h2.peek s p).trans (h.peek s p)⟩
structure InOk (K K':Ker) (sp:Nat) (page:Int) (f:Nat) (data:List UInt8) (dirty:Bool):Prop where
 right:Right K'
 sheets:K'.sheets=K.sheets
 nfr:K'.frames.length=K.frames.length
 nsl:K'.slots.length=K.slots.length
 nsp:K'.spaces.length=K.spaces.length
 ar:∀ i,y6 K' i=y6 K i
 live:∀ i,(a1U K' i).live=(a1U K i).live
 peek:∀ i p,¬(i=sp/\p=page)->a3y K' i p=a3y K i p
 here:a3y K' sp page=data
 ent:∀ i p,a3Y (a1z K' i) p=if i=sp/\p=page then some ⟨page,1,(f:Nat)⟩ else a3Y (a1z K i) p
 fm:a5o K'.frames f=⟨data,1,dirty,false⟩
 other:∀ i,i≠f->(∀ w0,a3Y (a1z K sp) page=some w0->¬(w0.kind=1/\w0.at_=((i:Nat):Int)))->a5o K'.frames i=a5o K.frames i
structure At (K:Ker) (sp:Nat) (page:Int):Prop where
 live:(a1U K sp).live=true
 ar:(k6 (y6 K sp) page).isSome=true
theorem At.sc {K:Ker} {sp:Nat} {page:Int} (h:At K sp page):∃ s,K.spaces[sp]?=some s/\s.live=true/\(k6 s.areas page).isSome=true:=by
 have h1:=h.live;have h2:=h.ar;unfold y6 at h2
 cases hs:K.spaces[sp]? with
 |none=>rw [a3N hs] at h1;cases h1
 |some s=>rw [a6O hs] at h1 h2;exact ⟨s,rfl,h1,h2⟩
theorem At.same {K K':Ker} {sp:Nat} {page:Int} (h:At K sp page) (h1:∀ i,y6 K' i=y6 K i) (h2:∀ i,(a1U K' i).live=(a1U K i).live):At K' sp page:=⟨(h2 sp).trans h.live,by rw [h1];exact h.ar⟩
theorem named {K:Ker} (h:Right K) {sp:Nat} {p:Int} {e:En} (he:a3Y (a1z K sp) p=some e) :
  e.page=p/\((e.kind=1/\∃ i:Nat,e.at_=(i:Nat)/\i < K.frames.length/\(a5o K.frames i).refs≠0/\(a5o K.frames i).data.length=16)\/(e.kind=2/\∃ i:Nat,e.at_=(i:Nat)/\i < K.slots.length/\(a8v K.slots i).refs≠0/\(a8v K.slots i).data.length=16))/\∃ s,K.spaces[sp]?=some s/\e ∈ s.entries:=by
 obtain ⟨h1,h2⟩:=a7t he
 cases hs:K.spaces[sp]? with
 |none=>unfold a1z at h1;rw [a3N hs] at h1;cases h1
 |some s=>
  have h3:e ∈ s.entries:=by unfold a1z at h1;rwa [a6O hs] at h1
  have hn:=a6s hs h3;refine ⟨h2,?_,s,rfl,h3⟩;rcases (h.ent hs h3).2 with ⟨a,i,b,c⟩|⟨a,i,b,c⟩
  ·have ho:=h.fr i _ (xd1 c);rw [a,b] at hn;refine xc7 ⟨a,i,b,c,?_,?_⟩
   ·rw [a6K (xd1 c),ho.refs];intro e0;have:a03 K.spaces 1 (i:Nat)=[]:=xe1 (by omega);rw [this] at hn
    cases hn
   ·rw [a6K (xd1 c)];exact ho.len (fun e0=>by rw [e0] at hn;cases hn)
  ·have ho:=h.sl i _ (xd1 c);rw [a,b] at hn;refine xc4 ⟨a,i,b,c,?_,?_⟩
   ·rw [a6G (xd1 c),ho.refs];intro e0;have:a03 K.spaces 2 (i:Nat)=[]:=xe1 (by omega);rw [this] at hn
    cases hn
   ·rw [a6G (xd1 c)];exact ho.len (fun e0=>by rw [e0] at hn;cases hn)
theorem InOk.same {K K' K2:Ker} {sp:Nat} {page:Int} {f:Nat} {data:List UInt8} {dirty:Bool} (h:InOk K' K2 sp page f data dirty) (h0:SameP K K') (hp:data=a3y K sp page):SameP K K2:=by
 refine ⟨h.sheets.trans h0.sheets,h.nfr.trans h0.nfr,h.nsl.trans h0.nsl,h.nsp.trans h0.nsp,fun i=>(h.ar i).trans (h0.ar i),fun i=>(h.live i).trans (h0.live i),fun i p=>?_⟩;by_cases e:i=sp/\p=page
 ·obtain ⟨rfl,rfl⟩:=e;rw [h.here,hp]
 ·rw [h.peek i p e,h0.peek]
def wkB (k:KV) (sp:Nat) (vh:Value):List Value:=[k.vsh,k.vfr,k.vsl,k.vsp,.int .i64 k.hand,.int .i64 (sp:Nat),vh]
def hdA (vh:Value) (held:List Nat):Asr:=.row 3 1 vh (held.map fun i=>[.int .i64 (i:Nat)])
def frA (k:KV):Asr:=.row 84 4 k.vfr (k.fr.map fmC)
def slA (k:KV):Asr:=.row 88 2 k.vsl (k.sl.map swC)
def b2Y (k:KV):Asr:=.row 78 3 k.vsp (k.sp.map spC)
def wkS (g:Nat) (k:KV) (sp:Nat) (vh:Value) (held:List Nat):List Asr:=.blk g (wkB k sp vh)::hdA vh held::frA k::slA k::b2Y k::k.sp.map b2C
structure KRo (F:Nat->Prop) (w:World) (k:KV):Prop where
 sh:ShsF F w k.sh k.vsh
 ar:∀ p ∈ k.sp,Sl F w 4 p.va (p.s.areas.map arC)
structure KLike (k k':KV):Prop where
 sh:k'.sh=k.sh
 vsh:k'.vsh=k.vsh
 ar:k'.sp.map (fun p=>(p.va,p.s.areas))=k.sp.map (fun p=>(p.va,p.s.areas))
theorem KLike.refl (k:KV):KLike k k:=⟨rfl,rfl,rfl⟩
theorem KLike.trans {k k' k2:KV} (h:KLike k k') (h2:KLike k' k2):KLike k k2:=⟨h2.sh.trans h.sh,h2.vsh.trans h.vsh,h2.ar.trans h.ar⟩
structure WkV (w:World) (g:Nat) (k:KV) (sp:Nat) (vh:Value) (held:List Nat):Prop where
 c0:Bs nF w ⟨g,0,none⟩ k.vsh
 c1:Bs nF w ⟨g,1,none⟩ k.vfr
 c2:Bs nF w ⟨g,2,none⟩ k.vsl
 c3:Bs nF w ⟨g,3,none⟩ k.vsp
 c4:Bs nF w ⟨g,4,none⟩ (.int .i64 k.hand)
 c5:Bs nF w ⟨g,5,none⟩ (.int .i64 (sp:Nat))
 c6:Bs nF w ⟨g,6,none⟩ vh
 held:Sl nF w 1 vh (held.map fun i=>[.int .i64 (i:Nat)])
 ker:KerV w k
theorem WkV.of {F:Nat->Prop} {w0 w:World} {Γ:List Asr} {g:Nat} {k:KV} {sp:Nat} {vh:Value} {held:List Nat} (hS:St F w0 w (wkS g k sp vh held++Γ)) (hR:KRo F w0 k):WkV w g k sp vh held:=by
 refine ⟨Bs.of (hS.blkC 0 rfl rfl),Bs.of (hS.blkC 0 rfl rfl),Bs.of (hS.blkC 0 rfl rfl),Bs.of (hS.blkC 0 rfl rfl),Bs.of (hS.blkC 0 rfl rfl),Bs.of (hS.blkC 0 rfl rfl),Bs.of (hS.blkC 0 rfl rfl),hS.rowSl 1 rfl,⟨hR.sh.now hS,hS.rowSl 2 rfl,hS.rowSl 3 rfl,hS.rowSl 4 rfl,fun p hp=>⟨(hR.ar p hp).now hS,?_⟩⟩⟩;refine hS.slMem (e:=82) (xd3 _ ?_);unfold wkS;exact xb6 _ (xb6 _ (xb6 _ (xb6 _ (xb6 _ (xi0.2 ⟨p,hp,rfl⟩)))))
theorem WkV.now {w w':World} {Γ:List Asr} {g:Nat} {k:KV} {sp:Nat} {vh:Value} {held:List Nat} (h:WkV w g k sp vh held) (hS:St nF w w' Γ):WkV w' g k sp vh held :=
 ⟨Bs.of (hS.bs h.c0),Bs.of (hS.bs h.c1),Bs.of (hS.bs h.c2),Bs.of (hS.bs h.c3),Bs.of (hS.bs h.c4),Bs.of (hS.bs h.c5),Bs.of (hS.bs h.c6),h.held.now hS,h.ker.now hS⟩
def b06 (K:Ker) (space:Int):Int:=if a9x K=0 then (if 0<=space/\space < (K.spaces.length:Int)/\(a1U K space.toNat).live=true then 0 else 6) else a9x K
def b1w (K:Ker) (space size way:Int):Int:=if b06 K space=0 then (if size < 1\/8 < size then 3 else if way < 0\/2 < way then 10 else 0) else b06 K space
def b1t (A:List Ar) (way at_:Int):Option (Int×Int):=match k6 A (at_.tdiv 16) with
 |none=>some (1,at_)
 |some a=>if at_ < 0 then some (1,at_) else if (way=1/\¬(a.prot=1\/a.prot=3))\/(way=2/\a.prot < 2) then some (2,at_) else none
def b1R (A:List Ar) (addr size way:Int):Int×Int:=if way=2/\addr.tmod 8≠0 then (3,addr) else ((List.range size.toNat).findSome? fun i=>b1t A way (addr + (i:Nat))).getD (0,0)
def a4Z (k:KV):List Asr:=.row 142 3 k.vsh (b3g k.sh)::(k.sh.map fxA++k.sp.map b3n)
theorem KRo.own {F:Nat->Prop} {w0 w:World} {g:Nat} {k:KV} {sp:Nat} {vh:Value} {held:List Nat} {Γ:List Asr} (hS:St F w0 w (wkS g k sp vh held++(a4Z k++Γ))):KRo (fps (wkS g k sp vh held)) w k:=by
 have hmem:∀ {e sz:Nat} {v:Value} {rows:List (List Value)},Asr.row e sz v rows ∈ a4Z k->Sl (fps (wkS g k sp vh held)) w sz v rows:=fun h=>by
  obtain ⟨j,hj⟩:=xc9.1 (xd3 Γ h);exact hS.ownSl j hj
 refine ⟨⟨hmem xb5,fun p hp=>?_⟩,fun p hp=>?_⟩
 ·exact hmem (e:=156) (xb6 _ (xd3 _ (xi0.2 ⟨p,hp,rfl⟩)))
 ·exact hmem (e:=136) (xb6 _ (List.mem_append_right _ (xi0.2 ⟨p,hp,rfl⟩)))
theorem WkV.own {F:Nat->Prop} {w0 w:World} {g:Nat} {k:KV} {sp:Nat} {vh:Value} {held:List Nat} {Γ:List Asr} (hS:St F w0 w (wkS g k sp vh held++(a4Z k++Γ))):WkV w g k sp vh held :=
 WkV.of (Γ:=[]) (by rw [xk0];exact St.startM hS) (KRo.own hS)
def b0b (k:KV):List Asr:=frA k::slA k::b2Y k::(k.sp.map b2C++a4Z k)
theorem KerV.own {F:Nat->Prop} {w0 w:World} {k:KV} {Γ:List Asr} (hS:St F w0 w (b0b k++Γ)):KerV w k:=by
 have hmem:∀ {e sz:Nat} {v:Value} {rows:List (List Value)},Asr.row e sz v rows ∈ b0b k->Sl nF w sz v rows:=fun h=>hS.slMem (xd3 Γ h);have hr:∀ {A},A ∈ a4Z k->A ∈ b0b k:=fun h=>xb6 _ (xb6 _ (xb6 _ (List.mem_append_right _ h)));refine ⟨⟨hmem (e:=142) (hr xb5),fun p hp=>?_⟩,hmem (e:=84) xb5,hmem (e:=88) (xb6 _ xb5),hmem (e:=78) (xb6 _ (xb6 _ xb5)),fun p hp=>⟨?_,?_⟩⟩
 ·exact hmem (e:=156) (hr (xb6 _ (xd3 _ (xi0.2 ⟨p,hp,rfl⟩))))
 ·exact hmem (e:=136) (hr (xb6 _ (List.mem_append_right _ (xi0.2 ⟨p,hp,rfl⟩))))
 ·exact hmem (e:=82) (xb6 _ (xb6 _ (xb6 _ (xd3 _ (xi0.2 ⟨p,hp,rfl⟩)))))
def kv0:KV:=⟨[],[],[],[],0,.slice none 0 0,.slice none 0 0,.slice none 0 0,.slice none 0 0⟩
def Came (w w':World) (k:KV):Prop:=(k=kv0/\St nF w w' [])\/St nF w w' (b0b k)
theorem Came.st {w w':World} {k:KV} (h:Came w w' k):St nF w w' []:=by
 rcases h with ⟨-,h⟩|h
 ·exact h
 ·exact h.sub (xh8 _)
def okR (K:Ker) (space addr size way:Int):Prop:=b1w K space size way=0/\(b1R (y6 K space.toNat) addr size way).1=0
instance (K:Ker) (space addr size way:Int):Decidable (okR K space addr size way):=by unfold okR;infer_instance
section
variable {P:Program} {n:Nat} {ds:List Deferred} {E:Fr} {ops:Array Oper} {rest:List Oper} {d:Nat} {ty:TypeId} {pos:String} {after:Array Edge} {T:Tab}
end
section
variable {P:Program} {n:Nat} {ds:List Deferred} {E:Fr} {w:World} {Q:Exit->Act->World->Prop} {ops:Array Oper} {S:World->Prop} {fuel:Nat} {li:Array Bool} {d:Nat} {op:Op} {ty:TypeId} {pos:String} {after:Array Edge} {F:Nat->Prop} {w0:World} {Γ:List Asr} {T:Tab}
end
def okL (K:Ker) (space addr size way:Int):Prop:=okR K space addr size way/\way≠1
instance (K:Ker) (space addr size way:Int):Decidable (okL K space addr size way):=by unfold okL;infer_instance
theorem a3F:∀ {l:List Ar} {e:Int},l0 e l->e<=256->s8 e l<=256
 |[],_,_,h=>h
 |a::l,e,h,_=>a3F (l:=l) (e:=a.fin) h.2.2 (by have:=h.1;unfold Ar.ok at this;unfold Ar.fin;omega)
theorem b0X {A:List Ar} {L:List Sh} {en:Int} (h:l8 A L en=0):b4 A=0/\A.length<=255/\L.length<=255/\∀ S ∈ L,S.fixes.length<=16:=by
 unfold l8 at h;by_cases h1:b4 A=0
 ·rw [xd8 h1] at h;by_cases h2:lkB A L en=true
  ·unfold lkB at h2;rw [a4t] at h2;simp only [xb7,xh5] at h2;obtain ⟨h3,⟨h4,-⟩,-⟩:=h2;obtain ⟨h5,h6⟩:=o3.1 h1;have h7:=(a7I (l:=A) (q:=1) (q':=256) h6.1 (a3F h6.1 (by omega)) (by omega)).1;exact ⟨h1,h5,by omega,fun S hS=>a22 ((a16 h4).1 S hS).1⟩
  ·rw [xd9 h2] at h;cases h
 ·rw [xd9 h1] at h;exact absurd h h1
end Go.Proofs.YtejnpppejalhfacGreat
