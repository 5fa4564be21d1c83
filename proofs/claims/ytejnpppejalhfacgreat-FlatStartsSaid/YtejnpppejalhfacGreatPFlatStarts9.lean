/- Texts that the proof stands on, one behind the other: Lk2, Lk3, Ke1, PlLnk3, Lk4, Lk5, PlLnk4, Lk6, PlLnk5, PlFix, PlLay, PlLink, Lk8, Lk7, Lk9, Lk10, Lk11, Im2, Im3, Im4, Sc13, Im5, Im6, Im7, Im8, Lk12, Lk14, Lk15, Im9, Im10, Lk16, PlOf, PlRd, Im21, Lk17, Lk18, Ke2, Lk19, Ke3, Ke4, Ke5, PlKer2, Ke6, Fl2. -/
import Derived.Test.YtejnpppejalhfacGreatPFlatStarts8
set_option linter.unusedVariables false
set_option linter.unusedSimpArgs false
namespace Go.Proofs.YtejnpppejalhfacGreat
set_option maxRecDepth 100000
set_option maxHeartbeats 8000000
open Go.RowKit Go.Sort
theorem a6o {A:List Ar} {Lp:List (Sh×Value)} {w:World} {va vs:Value} {en:Int} (hA:Sl nF w 4 va (A.map arC)) (hL:ShsV w Lp vs) (hen:-9223372036854775808<=en) (hen2:en<=9223372036854775807):Fn Tryz.prog 90 [lkA va vs en] w (RBf (.int .i64 (l7 A (shs Lp) en)) w):=by
 have bnd:=hL.sl.bound;have hsl:=hL.sl;obtain ⟨p,c,rfl⟩:=hL.sl.len;unfold lkA;by_cases hc:b5 A=0;rotate_left
 ·have hr:l7 A (shs Lp) en=b5 A:=xd9 hc;have hc':(!decide (b5 A=0))=true:=by rw [xg8 hc];rfl
  rw [hr];refine yEn Tryz.func90 Tryz.ntmps90 (by kernel_rfl) (by kernel_rfl) rfl rfl ?_;have hS:=St.start w
  repeat' (first|(with_reducible apply a5 a4);rfl;rfl;rfl|(with_reducible apply a6);rfl;(apply Ld.sl a4;rfl;exact hS.blkC 0 rfl rfl);rfl|refine yDn (by with_reducible constructor) ?_|(with_reducible apply a9);rfl;assumption|(with_reducible apply d8 hS);rfl;rfl;rfl;clear hS;intro g w' hS|(with_reducible apply b4 hS);rfl;rfl;rfl;refine ⟨_,a24 (hA.now hS),?_⟩;clear hS;intro w' hS)
  (refine d4 rfl ?_)
  exact ⟨rfl,hS.sub (xg7 _)⟩
 have hck:=fun w (h:Sl nF w 4 va (A.map arC))=>a24 h;have htot:=fun w (h:Sl nF w 4 va (A.map arC))=>a4L h;have hfnd:=fun w page (h:Sl nF w 4 va (A.map arC))=>a6E page h;have hfi:∀ page,a2q A page=k7 A page:=fun page=>xd8 hc;simp only [hc,if_true,hfi] at hck htot hfnd;have hr:l7 A (shs Lp) en=if lkB A (shs Lp) en=true then 0 else 1:=xd8 hc;rw [hr];unfold lkB;rw [a0f];by_cases hn:(Lp.length:Int)=l6 A;rotate_left
 ·have hn':(!decide ((Lp.length:Int)=l6 A))=true:=by rw [xg8 hn];rfl
  rw [xd9 (by rw [xg8 hn];simp)];refine yEn Tryz.func90 Tryz.ntmps90 (by kernel_rfl) (by kernel_rfl) rfl rfl ?_;have hS:=St.start w
  repeat' (first|(with_reducible apply a5 a4);rfl;rfl;rfl|(with_reducible apply a6);rfl;(apply Ld.sl a4;rfl;exact hS.blkC 0 rfl rfl);rfl|refine yDn (by with_reducible constructor) ?_|(with_reducible apply f8);rfl;rfl|(with_reducible apply d8 hS);rfl;rfl;rfl;clear hS;intro g w' hS|(with_reducible apply b4 hS);rfl;rfl;rfl;refine ⟨_,hck _ (hA.now hS),?_⟩;clear hS;intro w' hS)
  (focus ((with_reducible apply a8 _ _ _ (by kernel_rfl) (by kernel_rfl) hS);(repeat' (first|(first|(with_reducible apply i4 a4);rfl;rfl|(with_reducible apply i6);rfl;(intro wd hd;replace hd:St _ _ wd _:=hd;(apply Ld.sl a4;rfl;exact hd.blkC 0 rfl rfl));rfl)|(with_reducible apply b9);rfl;rfl;rfl;refine ⟨_,fun wd hd=>htot _ (hA.now hd),?_⟩));all_goals ((with_reducible apply l3);intro w' hS';clear hS;have hS:=hS';clear hS')))
  repeat' (first|(with_reducible apply a5 a4);rfl;rfl;rfl|refine yDn (by with_reducible constructor) ?_|(with_reducible apply a9);rfl;assumption)
  (refine d4 rfl ?_)
  exact ⟨rfl,hS.sub (xg7 _)⟩
 have hn':(!decide ((Lp.length:Int)=l6 A))=false:=by rw [xh0 hn];rfl
 rw [xh0 hn,xh1];refine yEn Tryz.func90 Tryz.ntmps90 (by kernel_rfl) (by kernel_rfl) rfl rfl ?_;have hS:=St.start w
 repeat' (first|(with_reducible apply a5 a4);rfl;rfl;rfl|(with_reducible apply a6);rfl;(apply Ld.sl a4;rfl;exact hS.blkC 0 rfl rfl);rfl|refine yDn (by with_reducible constructor) ?_|(with_reducible apply f8);rfl;rfl|(with_reducible apply d8 hS);rfl;rfl;rfl;clear hS;intro g w' hS|(with_reducible apply b4 hS);rfl;rfl;rfl;refine ⟨_,hck _ (hA.now hS),?_⟩;clear hS;intro w' hS)
 (focus ((with_reducible apply a8 _ _ _ (by kernel_rfl) (by kernel_rfl) hS);(repeat' (first|(first|(with_reducible apply i4 a4);rfl;rfl|(with_reducible apply i6);rfl;(intro wd hd;replace hd:St _ _ wd _:=hd;(apply Ld.sl a4;rfl;exact hd.blkC 0 rfl rfl));rfl)|(with_reducible apply b9);rfl;rfl;rfl;refine ⟨_,fun wd hd=>htot _ (hA.now hd),?_⟩));all_goals ((with_reducible apply l3);intro w' hS';clear hS;have hS:=hS';clear hS')))
 repeat' (first|(with_reducible apply a5 a4);rfl;rfl;rfl|(with_reducible apply a6);rfl;(apply Ld.sl a4;rfl;exact hS.blkC 0 rfl rfl);rfl|refine yDn (by with_reducible constructor) ?_|(with_reducible apply f8);rfl;assumption)
 refine o6 (X:=Nat×Int) (fun x=>[(27,.int .i64 (x.1:Nat)),(4,.int .i64 x.2)]) [1,25,26] rfl (fun _=>[]) (fun x=>x.1<=Lp.length/\a3p A 0 (shs Lp)=a3p A x.2 ((shs Lp).drop x.1)) (fun x=>Lp.length - x.1) (0,0) (by exact Fr.sub_of rfl) (by simp) hS ?_;clear hS;rintro ⟨i,last⟩ w1 ⟨hi,hok⟩ hS;dsimp only [List.cons_append,List.nil_append] at hi hok hS |-;by_cases hlt:i < Lp.length
 ·obtain ⟨x,hx⟩:=l9 (l:=Lp) (i:=i) (by omega);have hrow:=i7 (f:=fun p=>shC p.1 p.2) hx;obtain ⟨b,off,rfl,hro⟩:=hsl.at_ (i:=i) hlt;have hst:=a7H (A:=A) (last:=last) (a1I hx);have hfx:=hL.fx x (xc1 hx);have hfi2:=fun w h=>hfnd w x.1.page h;obtain ⟨S,u⟩:=x;dsimp only [shC] at hrow hst hfx hfi2;obtain ⟨pu,cu,rfl⟩:=hfx.len;have hrt:=fun w (h:ShV w S (.slice pu S.fixes.length cu))=>a4R h;rw [hst] at hok
  cases hf:k7 A S.page with
  |none=>
   simp only [hf] at hfi2;have ha:a02 A S.page=false:=by unfold a02;rw [hf]
   rw [ha,xg9] at hok
   repeat' (first|(with_reducible apply a5 a4);rfl;rfl;rfl|(with_reducible apply a6);rfl;(first|apply Ld.sc a4;rfl;exact hS.blkC 0 rfl rfl|apply Ld.sl a4;rfl;exact hS.blkC 1 rfl rfl|apply Ld.st a4;rfl;exact hS.roR (by assumption) (by assumption);rfl);rfl|(with_reducible apply s9 a4);rfl;rfl;rfl;rfl;omega;rfl|refine yDn (by with_reducible constructor) ?_|(with_reducible apply o4);(iterate 4 rfl);rfl;rfl|(with_reducible apply d9);rfl;rfl;rfl;rfl|(with_reducible apply a9);rfl;rfl|(with_reducible apply b8 hS a4);rfl;rfl;rfl;clear hS;intro g w' hS|(with_reducible apply b7 hS a4 (i:=0));(iterate 8 rfl);(first|exact (rfl:_=[_,_,_])|exact (rfl:_=[_,_,_,_]));clear hS;intro w' hS;simp only [List.set] at hS|(with_reducible apply b6);rfl;all_goals (intro hb hp;try (exfalso;omega))|(with_reducible apply b4 hS);rfl;rfl;rfl;refine ⟨_,hfi2 _ (hA.now hS),?_⟩;clear hS;intro w' hS)
   (refine d4 rfl ?_)
   exact ⟨by rw [hok];rfl,hS.sub (xg7 _)⟩
  |some a=>
   simp only [hf] at hfi2;obtain ⟨pg,n,prot,z⟩:=a
   cases z with
   |true=>
    have ha:a02 A S.page=false:=by unfold a02;rw [hf];rfl
    rw [ha,xg9] at hok
    repeat' (first|(with_reducible apply a5 a4);rfl;rfl;rfl|(with_reducible apply a6);rfl;(first|apply Ld.sc a4;rfl;exact hS.blkC 0 rfl rfl|apply Ld.sl a4;rfl;exact hS.blkC 1 rfl rfl|apply Ld.st a4;rfl;exact hS.roR (by assumption) (by assumption);rfl);rfl|(with_reducible apply s9 a4);rfl;rfl;rfl;rfl;omega;rfl|refine yDn (by with_reducible constructor) ?_|(with_reducible apply e9);(iterate 4 rfl);rfl|(with_reducible apply o4);(iterate 4 rfl);rfl;rfl|(with_reducible apply d9);rfl;rfl;rfl;rfl|(with_reducible apply a7);rfl;rfl;rfl;rfl|(with_reducible apply a9);rfl;rfl|(with_reducible apply b8 hS a4);rfl;rfl;rfl;clear hS;intro g w' hS|(with_reducible apply b7 hS a4 (i:=0));(iterate 8 rfl);(first|exact (rfl:_=[_,_,_])|exact (rfl:_=[_,_,_,_]));clear hS;intro w' hS;simp only [List.set] at hS|(with_reducible apply b6);rfl;all_goals (intro hb hp;try (exfalso;omega))|(with_reducible apply b4 hS);rfl;rfl;rfl;refine ⟨_,hfi2 _ (hA.now hS),?_⟩;clear hS;intro w' hS)
    (refine d4 rfl ?_)
    exact ⟨by rw [hok];rfl,hS.sub (xg7 _)⟩
   |false=>
    have ha:a02 A S.page=true:=by unfold a02;rw [hf];rfl
    rw [ha,xh1] at hok
    cases hR:j8 S with
    |false=>
     simp only [hR] at hrt;rw [hR,xg9] at hok
     repeat' (first|(with_reducible apply a5 a4);rfl;rfl;rfl|(with_reducible apply a6);rfl;(first|apply Ld.sc a4;rfl;exact hS.blkC 0 rfl rfl|apply Ld.sl a4;rfl;exact hS.blkC 1 rfl rfl|apply Ld.st a4;rfl;(first|exact hS.blkR 1 rfl|exact hS.roR (by assumption) (by assumption));rfl);rfl|(with_reducible apply s9 a4);rfl;rfl;rfl;rfl;omega;rfl|refine yDn (by with_reducible constructor) ?_|(with_reducible apply e9);(iterate 4 rfl);rfl|(with_reducible apply o4);(iterate 4 rfl);rfl;rfl|(with_reducible apply d9);rfl;rfl;rfl;rfl|(with_reducible apply a7);rfl;rfl;rfl;rfl|(with_reducible apply a9);rfl;rfl|(with_reducible apply b8 hS a4);rfl;rfl;rfl;clear hS;intro g w' hS|(with_reducible apply b7 hS a4 (i:=0));(iterate 8 rfl);(first|exact (rfl:_=[_,_,_])|exact (rfl:_=[_,_,_,_]));clear hS;intro w' hS;simp only [List.set] at hS|(with_reducible apply b6);rfl;all_goals (intro hb hp;try (exfalso;omega))|(with_reducible apply b4 hS);rfl;rfl;rfl;refine ⟨_,hfi2 _ (hA.now hS),?_⟩;clear hS;intro w' hS|(with_reducible apply b4 hS);rfl;rfl;rfl;refine ⟨_,hrt _ (hfx.now hS),?_⟩;clear hS;intro w' hS)
     (refine d4 rfl ?_)
     exact ⟨by rw [hok];rfl,hS.sub (xg7 _)⟩
    |true=>
     simp only [hR] at hrt;rw [hR,xh1] at hok;by_cases hlp:last < S.page
     ·rw [xh0 hlp,xh1] at hok
      repeat' (first|(with_reducible apply a5 a4);rfl;rfl;rfl|(with_reducible apply a6);rfl;(first|apply Ld.sc a4;rfl;(first|exact hS.blkC 0 rfl rfl|exact hS.blkC 1 rfl rfl)|apply Ld.sl a4;rfl;exact hS.blkC 1 rfl rfl|apply Ld.st a4;rfl;(first|exact hS.blkR 1 rfl|exact hS.roR (by assumption) (by assumption));rfl);rfl|(with_reducible apply s9 a4);rfl;rfl;rfl;rfl;omega;rfl|(with_reducible apply o9);rfl;rfl;omega;omega;rfl|refine yDn (by with_reducible constructor) ?_|(with_reducible apply e9);(iterate 4 rfl);rfl|(with_reducible apply a7);rfl;rfl;rfl;rfl|(with_reducible apply b8 hS a4);rfl;rfl;rfl;clear hS;intro g w' hS|(with_reducible apply b7 hS a4 (i:=0));(iterate 8 rfl);(first|exact (rfl:_=[_,_,_])|exact (rfl:_=[_,_,_,_]));clear hS;intro w' hS;simp only [List.set] at hS|(with_reducible apply b6);rfl;all_goals (intro hb hp;try (exfalso;omega))|(with_reducible apply b4 hS);rfl;rfl;rfl;refine ⟨_,hfi2 _ (hA.now hS),?_⟩;clear hS;intro w' hS|(with_reducible apply b4 hS);rfl;rfl;rfl;refine ⟨_,hrt _ (hfx.now hS),?_⟩;clear hS;intro w' hS)
      exact m8 (i + 1,S.page) (by exact Fr.sub_of rfl) ⟨by show i + 1<=Lp.length;omega,hok⟩ (hS.reorder [2] (by decide) rfl) (by show Lp.length - (i + 1) < Lp.length - i;omega)
     ·rw [xg8 hlp,xg9] at hok
      repeat' (first|(with_reducible apply a5 a4);rfl;rfl;rfl|(with_reducible apply a6);rfl;(first|apply Ld.sc a4;rfl;(first|exact hS.blkC 0 rfl rfl|exact hS.blkC 1 rfl rfl)|apply Ld.sl a4;rfl;exact hS.blkC 1 rfl rfl|apply Ld.st a4;rfl;(first|exact hS.blkR 1 rfl|exact hS.roR (by assumption) (by assumption));rfl);rfl|(with_reducible apply s9 a4);rfl;rfl;rfl;rfl;omega;rfl|refine yDn (by with_reducible constructor) ?_|(with_reducible apply e9);(iterate 4 rfl);rfl|(with_reducible apply a7);rfl;rfl;rfl;rfl|(with_reducible apply b8 hS a4);rfl;rfl;rfl;clear hS;intro g w' hS|(with_reducible apply b7 hS a4 (i:=0));(iterate 8 rfl);(first|exact (rfl:_=[_,_,_])|exact (rfl:_=[_,_,_,_]));clear hS;intro w' hS;simp only [List.set] at hS|(with_reducible apply b6);rfl;all_goals (intro hb hp;try (exfalso;omega))|(with_reducible apply b4 hS);rfl;rfl;rfl;refine ⟨_,hfi2 _ (hA.now hS),?_⟩;clear hS;intro w' hS|(with_reducible apply b4 hS);rfl;rfl;rfl;refine ⟨_,hrt _ (hfx.now hS),?_⟩;clear hS;intro w' hS)
      (refine d4 rfl ?_)
      exact ⟨by rw [hok];rfl,hS.sub (xg7 _)⟩
 rw [xk6 (by rw [a0f];omega)] at hok;have hrv:(if (a3p A 0 (shs Lp) && a0z A en)=true then (0:Int) else 1)=if a0z A en=true then 0 else 1:=by
  simp only [hok,a3p,xh1]
 rw [hrv];have hfe:=fun w h=>hfnd w (en.tdiv 16) h;by_cases he:0<=en/\en.tmod 8=0;rotate_left
 ·have hE:a0z A en=false:=by unfold a0z;rw [xg8 he];rfl
  rw [hE];have hrv2:(if false=true then (0:Int) else 1)=1:=rfl
  repeat' (first|(with_reducible apply a5 a4);rfl;rfl;rfl|(with_reducible apply a6);rfl;(apply Ld.sc a4;rfl;exact hS.blkC 0 rfl rfl);rfl|refine yDn (by with_reducible constructor) ?_|(with_reducible apply e9);(iterate 4 rfl);assumption|(with_reducible apply o4);(iterate 4 rfl);assumption;rfl|(with_reducible apply d9);rfl;assumption;rfl;rfl|(with_reducible apply a7);rfl;assumption;rfl;rfl|(with_reducible apply a9);rfl;rfl|(with_reducible apply v8);rfl;rfl;rfl;all_goals (intro hb hp;try (exfalso;omega))|(with_reducible apply b6);rfl;all_goals (intro hb hp;try (exfalso;omega))|(with_reducible apply a2r);rfl;all_goals (intro hb hp;try (exfalso;omega))|(with_reducible apply a1F);rfl;rfl;omega;rfl)
  all_goals (refine d4 rfl ?_;exact ⟨rfl,hS.sub (xg7 _)⟩)
 cases hf:k7 A (en.tdiv 16) with
 |none=>
  simp only [hf] at hfe;have hE:a0z A en=false:=by unfold a0z;rw [hf];simp
  rw [hE]
  repeat' (first|(with_reducible apply a5 a4);rfl;rfl;rfl|(with_reducible apply a6);rfl;(first|apply Ld.sc a4;rfl;exact hS.blkC 0 rfl rfl|apply Ld.sl a4;rfl;exact hS.blkC 0 rfl rfl);rfl|refine yDn (by with_reducible constructor) ?_|(with_reducible apply e9);(iterate 4 rfl);assumption|(with_reducible apply o4);(iterate 4 rfl);rfl;rfl|(with_reducible apply d9);rfl;rfl;rfl;rfl|(with_reducible apply a7);rfl;assumption;rfl;rfl|(with_reducible apply a9);rfl;rfl|(with_reducible apply b8 hS a4);rfl;rfl;rfl;clear hS;intro g w' hS|(with_reducible apply b7 hS a4 (i:=0));(iterate 8 rfl);exact (rfl:_=[_,_,_,_]);clear hS;intro w' hS;simp only [List.set] at hS|(with_reducible apply v8);rfl;rfl;rfl;all_goals (intro hb hp;try (exfalso;omega))|(with_reducible apply b6);rfl;all_goals (intro hb hp;try (exfalso;omega))|(with_reducible apply a2r);rfl;all_goals (intro hb hp;try (exfalso;omega))|(with_reducible apply a1F);rfl;rfl;omega;rfl|(with_reducible apply a1H);rfl;rfl;omega;omega;omega;rfl|(with_reducible apply b4 hS);rfl;rfl;rfl;refine ⟨_,hfe _ (hA.now hS),?_⟩;clear hS;intro w' hS)
  (refine d4 rfl ?_)
  exact ⟨rfl,hS.sub (xg7 _)⟩
 |some a=>
  simp only [hf] at hfe;have hok2:=(a3g hc hf).1;unfold Ar.ok at hok2;obtain ⟨pg,n,prot,z⟩:=a;dsimp only at hok2;have ha2:=b3E (p:=prot) (by omega) (by omega);by_cases h2:2<=prot
  ·have hE:a0z A en=true:=by unfold a0z;rw [hf,xh0 he];simp [h2]
   rw [hE];rw [xd8 h2] at ha2
   repeat' (first|(with_reducible apply a5 a4);rfl;rfl;rfl|(with_reducible apply a6);rfl;(first|apply Ld.sc a4;rfl;exact hS.blkC 0 rfl rfl|apply Ld.sl a4;rfl;exact hS.blkC 0 rfl rfl);rfl|refine yDn (by with_reducible constructor) ?_|((with_reducible apply e9);(iterate 4 rfl);first|rfl|assumption)|(with_reducible apply a7);rfl;(first|rfl|assumption);rfl;rfl|(with_reducible apply f8);rfl;rfl|(with_reducible apply b8 hS a4);rfl;rfl;rfl;clear hS;intro g w' hS|(with_reducible apply b7 hS a4 (i:=0));(iterate 8 rfl);exact (rfl:_=[_,_,_,_]);clear hS;intro w' hS;simp only [List.set] at hS|(with_reducible apply v8);rfl;rfl;rfl;all_goals (intro hb hp;try (exfalso;omega))|(with_reducible apply b6);rfl;all_goals (intro hb hp;try (exfalso;omega))|(with_reducible apply a2r);rfl;all_goals (intro hb hp;try (exfalso;omega))|(with_reducible apply a1F);rfl;rfl;omega;rfl|(with_reducible apply a1H);rfl;rfl;omega;omega;omega;rfl|(with_reducible apply b4 hS);rfl;rfl;rfl;refine ⟨_,hfe _ (hA.now hS),?_⟩;clear hS;intro w' hS|(with_reducible apply b06);rfl;rfl;exact ha2;rfl)
   (refine d4 rfl ?_)
   exact ⟨rfl,hS.sub (xg7 _)⟩
  ·have hE:a0z A en=false:=by unfold a0z;rw [hf];simp [h2]
   rw [hE];rw [xd9 h2] at ha2
   repeat' (first|(with_reducible apply a5 a4);rfl;rfl;rfl|(with_reducible apply a6);rfl;(first|apply Ld.sc a4;rfl;exact hS.blkC 0 rfl rfl|apply Ld.sl a4;rfl;exact hS.blkC 0 rfl rfl);rfl|refine yDn (by with_reducible constructor) ?_|((with_reducible apply e9);(iterate 4 rfl);first|rfl|assumption)|(with_reducible apply a7);rfl;(first|rfl|assumption);rfl;rfl|(with_reducible apply a9);rfl;rfl|(with_reducible apply b8 hS a4);rfl;rfl;rfl;clear hS;intro g w' hS|(with_reducible apply b7 hS a4 (i:=0));(iterate 8 rfl);exact (rfl:_=[_,_,_,_]);clear hS;intro w' hS;simp only [List.set] at hS|(with_reducible apply v8);rfl;rfl;rfl;all_goals (intro hb hp;try (exfalso;omega))|(with_reducible apply b6);rfl;all_goals (intro hb hp;try (exfalso;omega))|(with_reducible apply a2r);rfl;all_goals (intro hb hp;try (exfalso;omega))|(with_reducible apply a1F);rfl;rfl;omega;rfl|(with_reducible apply a1H);rfl;rfl;omega;omega;omega;rfl|(with_reducible apply b4 hS);rfl;rfl;rfl;refine ⟨_,hfe _ (hA.now hS),?_⟩;clear hS;intro w' hS|(with_reducible apply b06);rfl;rfl;exact ha2;rfl)
   (refine d4 rfl ?_)
   exact ⟨rfl,hS.sub (xg7 _)⟩
theorem a7E {A:List Ar} {p:Int} (h:a02 A p=true):(!(k7 A p).isSome)=false/\((k7 A p).getD a18).z=false:=by
 unfold a02 at h
 cases hf:k7 A p with
 |none=>rw [hf] at h;cases h
 |some a=>rw [hf] at h;exact ⟨rfl,by simpa using h⟩
theorem a5B {A:List Ar} {p:Int} (h:a02 A p=false):(!(k7 A p).isSome)=true\/((!(k7 A p).isSome)=false/\((k7 A p).getD a18).z=true):=by
 unfold a02 at h
 cases hf:k7 A p with
 |none=>exact xc7 rfl
 |some a=>rw [hf] at h;exact xc4 ⟨rfl,by simpa using h⟩
theorem a5R {l:List Sh} {i:Nat} {s:Sh} {last:Int} (h:l[i]?=some s):a0i last (l.drop i)=(j8 s && (decide (last < s.page) && a0i s.page (l.drop (i + 1)))):=by
 rw [a4z h];rfl
theorem a5G {S:Sh} (h:j8 S=true):1<=S.page/\S.page<=255:=by
 unfold j8 at h;simp only [xb7,xh4] at h;exact h.1.1
theorem a3q {Lp:List (Sh×Value)} {w:World} {vs:Value} (hL:ShsV w Lp vs):Fn Tryz.prog 123 [vs] w (RBf (.bool (a0i 0 (shs Lp))) w):=by
 have bnd:=hL.sl.bound;have hsl:=hL.sl;obtain ⟨p,c,rfl⟩:=hL.sl.len;refine yEn Tryz.func123 Tryz.ntmps123 (by kernel_rfl) (by kernel_rfl) rfl rfl ?_;have hS:=St.start w
 repeat' (first|(with_reducible apply a5 a4);rfl;rfl;rfl|refine yDn (by with_reducible constructor) ?_)
 refine o6 (X:=Nat×Int) (fun x=>[(3,.int .i64 (x.1:Nat))]) [0] rfl (fun _=>[]) (fun x=>x.1<=Lp.length/\((x.1=0/\x.2=0)\/(0 < x.1/\∃ y,Lp[x.1 - 1]?=some y/\x.2=y.1.page))/\a0i 0 (shs Lp)=a0i x.2 ((shs Lp).drop x.1)) (fun x=>Lp.length - x.1) (0,0) (by exact Fr.sub_of rfl) (by simp) hS ?_;clear hS;rintro ⟨i,last⟩ w1 ⟨hi,hlast,hok⟩ hS;dsimp only [List.cons_append,List.nil_append] at hi hlast hok hS |-;by_cases hlt:i < Lp.length;rotate_left
 ·rw [xk6 (by rw [a0f];omega)] at hok
  repeat' (first|(with_reducible apply a5 a4);rfl;rfl;rfl|refine yDn (by with_reducible constructor) ?_|(with_reducible apply b6);rfl;all_goals (intro hb hp;try (exfalso;omega)))
  (refine d4 rfl ?_)
  exact ⟨by rw [hok];rfl,hS.sub (xg7 _)⟩
 obtain ⟨x,hx⟩:=l9 (l:=Lp) (i:=i) (by omega);have hrow:=i7 (f:=fun p=>shC p.1 p.2) hx;obtain ⟨b,off,rfl,hro⟩:=hsl.at_ (i:=i) hlt;have hst:=a5R (last:=last) (a1I hx);have hfx:=hL.fx x (xc1 hx);obtain ⟨S,u⟩:=x;dsimp only [shC] at hrow hst hfx;obtain ⟨pu,cu,rfl⟩:=hfx.len;have hfine:=fun w (h:ShV w S (.slice pu S.fixes.length cu))=>a4b h;rw [hst] at hok
 cases hR:j8 S with
 |false=>
  simp only [hR] at hfine;rw [hR,xg9] at hok
  repeat' (first|(with_reducible apply a5 a4);rfl;rfl;rfl|refine yDn (by with_reducible constructor) ?_|(with_reducible apply b6);rfl;all_goals (intro hb hp;try (exfalso;omega)))
  (focus ((with_reducible apply a8 _ _ _ (by kernel_rfl) (by kernel_rfl) hS);(repeat' (first|(first|(with_reducible apply i4 a4);rfl;rfl|(with_reducible apply i6);rfl;(intro wd hd;replace hd:St _ _ wd _:=hd;(apply Ld.st a4;rfl;exact hd.roR (by assumption) (by assumption);rfl));rfl|(with_reducible apply a0a a4);rfl;rfl;rfl;rfl;omega;rfl|(first|(with_reducible apply a0U);(iterate 4 rfl);rfl;rfl|(with_reducible apply a0r);(iterate 5 rfl)|(with_reducible apply l8);rfl;rfl;rfl;rfl))|(with_reducible apply b9);rfl;rfl;rfl;refine ⟨_,fun wd hd=>hfine _ (hfx.now hd),?_⟩));all_goals ((with_reducible apply l3);intro w' hS';clear hS;have hS:=hS';clear hS')))
  all_goals (repeat' (first|(with_reducible apply a5 a4);rfl;rfl;rfl|refine yDn (by with_reducible constructor) ?_|(with_reducible apply a9);rfl;rfl))
  all_goals ((refine d4 rfl ?_))
  all_goals exact ⟨by rw [hok],hS.sub (xg7 _)⟩
 |true=>
  simp only [hR] at hfine;rw [hR,xh1] at hok;have hpg:=a5G hR;rcases hlast with ⟨rfl,rfl⟩|⟨hi0,y,hy,rfl⟩
  ·rw [xh0 (show (0:Int) < S.page by omega),xh1] at hok
   repeat' (first|(with_reducible apply a5 a4);rfl;rfl;rfl|refine yDn (by with_reducible constructor) ?_|(with_reducible apply b6);rfl;all_goals (intro hb hp;try (exfalso;omega)))
   (focus ((with_reducible apply a8 _ _ _ (by kernel_rfl) (by kernel_rfl) hS);(repeat' (first|(first|(with_reducible apply i4 a4);rfl;rfl|(with_reducible apply i6);rfl;(intro wd hd;replace hd:St _ _ wd _:=hd;(apply Ld.st a4;rfl;exact hd.roR (by assumption) (by assumption);rfl));rfl|(with_reducible apply a0a a4);rfl;rfl;rfl;rfl;omega;rfl|(first|(with_reducible apply p7);(iterate 4 rfl);rfl|(with_reducible apply a0U);(iterate 4 rfl);rfl;rfl|(with_reducible apply l2);rfl;rfl;rfl;rfl))|(with_reducible apply b9);rfl;rfl;rfl;refine ⟨_,fun wd hd=>hfine _ (hfx.now hd),?_⟩));all_goals ((with_reducible apply l3);intro w' hS';clear hS;have hS:=hS';clear hS')))
   repeat' (first|(with_reducible apply a5 a4);rfl;rfl;rfl|(with_reducible apply o9);rfl;rfl;omega;omega;rfl|refine yDn (by with_reducible constructor) ?_|(with_reducible apply f8);rfl;rfl)
   exact m8 (1,S.page) (by exact Fr.sub_of rfl) ⟨by show 1<=Lp.length;omega,xc4 ⟨by show 0 < 1;omega,_,hx,rfl⟩,hok⟩ hS (by show Lp.length - 1 < Lp.length - 0;omega)
  ·have e1:((i:Int) - 1).toNat=i - 1:=by omega
   have hrow2:(Lp.map fun p=>shC p.1 p.2)[((i:Int) - 1).toNat]?=some (shC y.1 y.2):=by rw [e1];exact i7 (f:=fun p=>shC p.1 p.2) hy
   obtain ⟨S2,u2⟩:=y;dsimp only [shC] at hrow2 hok;by_cases hlp:S2.page < S.page
   ·rw [xh0 hlp,xh1] at hok;have hd1:decide (S.page<=S2.page)=false:=xg8 (by omega)
    repeat' (first|(with_reducible apply a5 a4);rfl;rfl;rfl|refine yDn (by with_reducible constructor) ?_|(with_reducible apply b6);rfl;all_goals (intro hb hp;try (exfalso;omega)))
    (focus ((with_reducible apply a8 _ _ _ (by kernel_rfl) (by kernel_rfl) hS);(repeat' (first|(first|(with_reducible apply a3j);rfl;rfl;omega;omega;rfl|(with_reducible apply i4 a4);rfl;rfl|(with_reducible apply i6);rfl;(intro wd hd;replace hd:St _ _ wd _:=hd;(first|apply Ld.sc a4;rfl;exact hd.roC0 (by assumption) (by assumption) rfl|apply Ld.st a4;rfl;exact hd.roR (by assumption) (by assumption);rfl));rfl|(with_reducible apply a0a a4);rfl;rfl;rfl;(first|rfl|exact xh3 (by omega));omega;rfl|(first|((with_reducible apply p7);(iterate 4 rfl);first|rfl|assumption)|(with_reducible apply a6O);rfl;rfl;rfl;all_goals (intro hb hp;try (exfalso;omega))|(with_reducible apply l8);rfl;assumption;rfl;rfl|(with_reducible apply l2);rfl;rfl;rfl;rfl))|(with_reducible apply b9);rfl;rfl;rfl;refine ⟨_,fun wd hd=>hfine _ (hfx.now hd),?_⟩));all_goals ((with_reducible apply l3);intro w' hS';clear hS;have hS:=hS';clear hS')))
    repeat' (first|(with_reducible apply a5 a4);rfl;rfl;rfl|(with_reducible apply o9);rfl;rfl;omega;omega;rfl|refine yDn (by with_reducible constructor) ?_|(with_reducible apply f8);rfl;assumption)
    exact m8 (i + 1,S.page) (by exact Fr.sub_of rfl) ⟨by show i + 1<=Lp.length;omega,xc4 ⟨by show 0 < i + 1;omega,_,hx,rfl⟩,hok⟩ hS (by show Lp.length - (i + 1) < Lp.length - i;omega)
   ·rw [xg8 hlp,xg9] at hok;have hd1:decide (S.page<=S2.page)=true:=xh0 (by omega)
    repeat' (first|(with_reducible apply a5 a4);rfl;rfl;rfl|refine yDn (by with_reducible constructor) ?_|(with_reducible apply b6);rfl;all_goals (intro hb hp;try (exfalso;omega)))
    (focus ((with_reducible apply a8 _ _ _ (by kernel_rfl) (by kernel_rfl) hS);(repeat' (first|(first|(with_reducible apply a3j);rfl;rfl;omega;omega;rfl|(with_reducible apply i4 a4);rfl;rfl|(with_reducible apply i6);rfl;(intro wd hd;replace hd:St _ _ wd _:=hd;(first|apply Ld.sc a4;rfl;exact hd.roC0 (by assumption) (by assumption) rfl|apply Ld.st a4;rfl;exact hd.roR (by assumption) (by assumption);rfl));rfl|(with_reducible apply a0a a4);rfl;rfl;rfl;(first|rfl|exact xh3 (by omega));omega;rfl|(first|((with_reducible apply p7);(iterate 4 rfl);first|rfl|assumption)|(with_reducible apply a6O);rfl;rfl;rfl;all_goals (intro hb hp;try (exfalso;omega))|(with_reducible apply l8);rfl;assumption;rfl;rfl|(with_reducible apply l2);rfl;rfl;rfl;rfl))|(with_reducible apply b9);rfl;rfl;rfl;refine ⟨_,fun wd hd=>hfine _ (hfx.now hd),?_⟩));all_goals ((with_reducible apply l3);intro w' hS';clear hS;have hS:=hS';clear hS')))
    repeat' (first|(with_reducible apply a5 a4);rfl;rfl;rfl|refine yDn (by with_reducible constructor) ?_|(with_reducible apply a9);rfl;assumption)
    (refine d4 rfl ?_)
    exact ⟨by rw [hok],hS.sub (xg7 _)⟩
theorem a3b {A:List Ar} {Lp:List (Sh×Value)} {w:World} {va vs:Value} {en:Int} (hA:Sl nF w 4 va (A.map arC)) (hL:ShsV w Lp vs) (hen:-9223372036854775808<=en) (hen2:en<=9223372036854775807):Fn Tryz.prog 73 [lkA va vs en] w (RBf (.int .i64 (l7 A (shs Lp) en)) w):=by
 have bnd:=hL.sl.bound;have hsl:=hL.sl;have hrise:=fun w (h:ShsV w Lp vs)=>a3q h;obtain ⟨p,c,rfl⟩:=hL.sl.len;unfold lkA;have hca:=fun w (h:Sl nF w 4 va (A.map arC))=>a1t h;by_cases hc:b5 A=0;rotate_left
 ·have hr:l7 A (shs Lp) en=b5 A:=xd9 hc;have hc':(!decide (b5 A=0))=true:=by rw [xg8 hc];rfl
  rw [hr];refine yEn Tryz.func73 Tryz.ntmps73 (by kernel_rfl) (by kernel_rfl) rfl rfl ?_;have hS:=St.start w
  repeat' (first|(with_reducible apply a5 a4);rfl;rfl;rfl|(with_reducible apply a6);rfl;(apply Ld.sl a4;rfl;exact hS.blkC 0 rfl rfl);rfl|refine yDn (by with_reducible constructor) ?_|(with_reducible apply a9);rfl;assumption|(with_reducible apply d8 hS);rfl;rfl;rfl;clear hS;intro g w' hS|(with_reducible apply b4 hS);rfl;rfl;rfl;refine ⟨_,hca _ (hA.now hS),?_⟩;clear hS;intro w' hS)
  (refine d4 rfl ?_)
  exact ⟨rfl,hS.sub (xg7 _)⟩
 simp only [hc] at hca;have hpag:=fun w (h:Sl nF w 4 va (A.map arC))=>a27 h hc;have hat:=fun w page (h:Sl nF w 4 va (A.map arC))=>a3V page h (w5 (o3.1 hc).2);have hr:l7 A (shs Lp) en=if lkB A (shs Lp) en=true then 0 else 1:=xd8 hc;have hlk:lkB A (shs Lp) en=(decide ((Lp.length:Int)=l6 A) && (a0i 0 (shs Lp) && (arB A (shs Lp) && a0z A en))):=by
  unfold lkB;rw [a0f,a4B,Bool.and_assoc]
 rw [hr,hlk];refine yEn Tryz.func73 Tryz.ntmps73 (by kernel_rfl) (by kernel_rfl) rfl rfl ?_;have hS:=St.start w;by_cases hn:(Lp.length:Int)=l6 A;rotate_left
 ·have hn':(!decide ((Lp.length:Int)=l6 A))=true:=by rw [xg8 hn];rfl
  rw [xg8 hn,xg9]
  repeat' (first|(with_reducible apply a5 a4);rfl;rfl;rfl|(with_reducible apply a6);rfl;(apply Ld.sl a4;rfl;exact hS.blkC 0 rfl rfl);rfl|refine yDn (by with_reducible constructor) ?_|(with_reducible apply f8);rfl;rfl|(with_reducible apply d8 hS);rfl;rfl;rfl;clear hS;intro g w' hS|(with_reducible apply b4 hS);rfl;rfl;rfl;refine ⟨_,hca _ (hA.now hS),?_⟩;clear hS;intro w' hS)
  (focus ((with_reducible apply a8 _ _ _ (by kernel_rfl) (by kernel_rfl) hS);(repeat' (first|(first|(with_reducible apply i4 a4);rfl;rfl|(with_reducible apply i6);rfl;(intro wd hd;replace hd:St _ _ wd _:=hd;(apply Ld.sl a4;rfl;exact hd.blkC 0 rfl rfl));rfl|(first|(with_reducible apply a0U);(iterate 4 rfl);assumption;rfl|(with_reducible apply l8);rfl;assumption;rfl;rfl))|(with_reducible apply b9);rfl;rfl;rfl;refine ⟨_,fun wd hd=>hpag _ (hA.now hd),?_⟩));all_goals ((with_reducible apply l3);intro w' hS';clear hS;have hS:=hS';clear hS')))
  repeat' (first|(with_reducible apply a5 a4);rfl;rfl;rfl|refine yDn (by with_reducible constructor) ?_|(with_reducible apply a9);rfl;rfl)
  (refine d4 rfl ?_)
  exact ⟨rfl,hS.sub (xg7 _)⟩
 have hn':(!decide ((Lp.length:Int)=l6 A))=false:=by rw [xh0 hn];rfl
 rw [xh0 hn,xh1]
 cases hri:a0i 0 (shs Lp) with
 |false=>
  simp only [hri] at hrise;rw [xg9]
  repeat' (first|(with_reducible apply a5 a4);rfl;rfl;rfl|(with_reducible apply a6);rfl;(apply Ld.sl a4;rfl;exact hS.blkC 0 rfl rfl);rfl|refine yDn (by with_reducible constructor) ?_|(with_reducible apply f8);rfl;rfl|(with_reducible apply d8 hS);rfl;rfl;rfl;clear hS;intro g w' hS|(with_reducible apply b4 hS);rfl;rfl;rfl;refine ⟨_,hca _ (hA.now hS),?_⟩;clear hS;intro w' hS)
  (focus ((with_reducible apply a8 _ _ _ (by kernel_rfl) (by kernel_rfl) hS);(repeat' (first|(first|(with_reducible apply i4 a4);rfl;rfl|(with_reducible apply i6);rfl;(intro wd hd;replace hd:St _ _ wd _:=hd;(apply Ld.sl a4;rfl;exact hd.blkC 0 rfl rfl));rfl|(first|(with_reducible apply p7);(iterate 4 rfl);assumption|(with_reducible apply l2);rfl;assumption;rfl;rfl))|(with_reducible apply b9);rfl;rfl;rfl;refine ⟨_,fun wd hd=>hpag _ (hA.now hd),?_⟩|(with_reducible apply b9);rfl;rfl;rfl;refine ⟨_,fun wd hd=>hrise _ (hL.now hd),?_⟩));all_goals ((with_reducible apply l3);intro w' hS';clear hS;have hS:=hS';clear hS')))
  repeat' (first|(with_reducible apply a5 a4);rfl;rfl;rfl|refine yDn (by with_reducible constructor) ?_|(with_reducible apply a9);rfl;rfl)
  (refine d4 rfl ?_)
  exact ⟨rfl,hS.sub (xg7 _)⟩
 |true=>
 simp only [hri] at hrise;rw [xh1]
 repeat' (first|(with_reducible apply a5 a4);rfl;rfl;rfl|(with_reducible apply a6);rfl;(apply Ld.sl a4;rfl;exact hS.blkC 0 rfl rfl);rfl|refine yDn (by with_reducible constructor) ?_|(with_reducible apply f8);rfl;rfl|(with_reducible apply d8 hS);rfl;rfl;rfl;clear hS;intro g w' hS|(with_reducible apply b4 hS);rfl;rfl;rfl;refine ⟨_,hca _ (hA.now hS),?_⟩;clear hS;intro w' hS)
 (focus ((with_reducible apply a8 _ _ _ (by kernel_rfl) (by kernel_rfl) hS);(repeat' (first|(first|(with_reducible apply i4 a4);rfl;rfl|(with_reducible apply i6);rfl;(intro wd hd;replace hd:St _ _ wd _:=hd;(apply Ld.sl a4;rfl;exact hd.blkC 0 rfl rfl));rfl|(first|(with_reducible apply p7);(iterate 4 rfl);assumption|(with_reducible apply l2);rfl;assumption;rfl;rfl))|(with_reducible apply b9);rfl;rfl;rfl;refine ⟨_,fun wd hd=>hpag _ (hA.now hd),?_⟩|(with_reducible apply b9);rfl;rfl;rfl;refine ⟨_,fun wd hd=>hrise _ (hL.now hd),?_⟩));all_goals ((with_reducible apply l3);intro w' hS';clear hS;have hS:=hS';clear hS')))
 repeat' (first|(with_reducible apply a5 a4);rfl;rfl;rfl|refine yDn (by with_reducible constructor) ?_|(with_reducible apply f8);rfl;rfl)
 refine a2I hS 4 [1] rfl (Lp.length) (fun i=>((shs Lp).take i).all (fun s=>a02 A s.page)=true) 0 rfl (xf0 _) (by (rfl)) ?_;rintro i w1 hi hall hS';clear hS;have hS:=hS';clear hS';by_cases hlt:i < Lp.length
 ·obtain ⟨x,hx⟩:=l9 (l:=Lp) (i:=i) (by omega);have hrow:=i7 (f:=fun p=>shC p.1 p.2) hx;obtain ⟨b,off,rfl,hro⟩:=hsl.at_ (i:=i) hlt;have hsx:=a1I hx;obtain ⟨S,u⟩:=x;dsimp only [shC] at hrow hsx;have hat2:=fun w h=>hat w S.page h;have hz1:=fun h=>a7E (A:=A) (p:=S.page) h;have hz2:=fun h=>a5B (A:=A) (p:=S.page) h
  repeat' (first|(with_reducible apply a5 a4);rfl;rfl;rfl|(with_reducible apply a6);rfl;(apply Ld.sl a4;rfl;exact hS.blkC 0 rfl rfl);rfl|refine yDn (by with_reducible constructor) ?_|(with_reducible apply b6);rfl;all_goals (intro hb hp;try (exfalso;omega)))
  refine a4n 15 rfl hS (by kernel_rfl) ?_;intro wh hh;clear hS;have hS:=hh;clear hh
  ((with_reducible apply i3 (nn 0) a4);rfl;kernel_rfl;exact (fun _ _ _ h=>h);exact hS;rfl;rfl)
  ((with_reducible apply n9 (nn 1));rfl;kernel_rfl;exact (fun _ _ _ h=>h);exact hS;rfl;(intro wd hd;replace hd:St _ _ wd _:=hd;(apply Ld.sl a4;rfl;exact hd.blkC 0 rfl rfl));rfl)
  ((with_reducible apply i3 (nn 2) a4);rfl;kernel_rfl;exact (fun _ _ _ h=>h);exact hS;rfl;rfl)
  ((with_reducible apply n9 (nn 3));rfl;kernel_rfl;exact (fun _ _ _ h=>h);exact hS;rfl;(intro wd hd;replace hd:St _ _ wd _:=hd;(apply Ld.sl a4;rfl;exact hd.blkC 0 rfl rfl));rfl)
  ((with_reducible apply i3 (nn 4) a4);rfl;kernel_rfl;exact (fun _ _ _ h=>h);exact hS;rfl;rfl)
  ((with_reducible apply a9D (nn 5) a4);rfl;kernel_rfl;kernel_rfl;kernel_rfl;exact (fun _ _ _ _ h=>h);exact hS;rfl;rfl;rfl;rfl;omega;rfl)
  ((with_reducible apply i3 (nn 6) a4);rfl;kernel_rfl;exact (fun _ _ _ h=>h);exact hS;rfl;rfl)
  ((with_reducible apply n9 (nn 7));rfl;kernel_rfl;exact (fun _ _ _ h=>h);exact hS;rfl;(intro wd hd;replace hd:St _ _ wd _:=hd;(apply Ld.sc a4;rfl;exact hd.roC0 (by assumption) (by assumption) rfl));rfl)
  refine a4G (i:=8) (j:=12) (by kernel_rfl) ?_ ?_
  ·refine o7 rfl (a0n (first:=[]) (caps:=[]) rfl rfl (hat2 _ (hA.now hS))) rfl ?_;rintro _ w' ⟨rfl,hS'⟩;replace hS:=hS.transA hS';simp only [a1N] at hS;clear hS';refine ⟨hS,?_⟩
   ((with_reducible apply i3 (nn 9) a4);rfl;kernel_rfl;exact (fun _ _ _ h=>h);exact hS;rfl;rfl)
   ((with_reducible apply i3 (nn 10) a4);rfl;kernel_rfl;exact (fun _ _ _ h=>h);exact hS;rfl;rfl)
   ((with_reducible apply i3 (nn 11) a4);rfl;kernel_rfl;exact (fun _ _ _ h=>h);exact hS;rfl;rfl)
   refine s7 (i:=12) (by kernel_rfl) ?_;refine o7 rfl (t3 hS a4 rfl rfl) rfl ?_;rintro _ w' ⟨g,rfl,hS'⟩;clear hS;have hS:=hS';clear hS';refine ⟨hS.drop,?_⟩;refine s7 (i:=13) (by kernel_rfl) ?_;refine t4 (Φ:=fun _ w'=>St _ _ w' _) rfl (p9 hS a4 (i:=0) rfl rfl rfl rfl rfl (xe8 rfl) (xb8.1 rfl)) ?_;intro _ w' hS';simp only [List.set] at hS';clear hS;have hS:=hS';clear hS';refine ⟨hS.drop,?_⟩
   ((with_reducible apply i3 (nn 14) a4);rfl;kernel_rfl;exact (fun _ _ _ h=>h);exact hS.drop;rfl;rfl)
   refine a0u (by kernel_rfl) ?_
   cases ha:a02 A S.page with
   |true=>
    obtain ⟨hz3,hz4⟩:=hz1 ha
    repeat' (first|(with_reducible apply a5 a4);rfl;rfl;rfl|(with_reducible apply a6);rfl;(apply Ld.sc a4;rfl;exact hS.blkC 0 rfl rfl);rfl|(with_reducible apply o9);rfl;rfl;omega;omega;rfl|refine yDn (by with_reducible constructor) ?_|(with_reducible apply e9);(iterate 4 rfl);assumption|(with_reducible apply a7);rfl;assumption;rfl;rfl|(with_reducible apply f8);rfl;assumption)
    exact a1h (i + 1) (by exact Fr.sub_of rfl) (by omega) (a1u hall hsx ha) (by omega) hS.drop
   |false=>
    rw [show arB A (shs Lp)=false from a8X hsx ha,xg9];rcases hz2 ha with hz|hz
    ·repeat' (first|(with_reducible apply a5 a4);rfl;rfl;rfl|refine yDn (by with_reducible constructor) ?_|(with_reducible apply o4);(iterate 4 rfl);assumption;rfl|(with_reducible apply d9);rfl;assumption;rfl;rfl|(with_reducible apply a9);rfl;rfl)
     (refine d4 rfl ?_)
     exact ⟨rfl,hS.sub (xg7 _)⟩
    ·have hz3:=hz.1;have hz4:=hz.2
     repeat' (first|(with_reducible apply a5 a4);rfl;rfl;rfl|(with_reducible apply a6);rfl;(apply Ld.sc a4;rfl;exact hS.blkC 0 rfl rfl);rfl|refine yDn (by with_reducible constructor) ?_|(with_reducible apply e9);(iterate 4 rfl);assumption|(with_reducible apply a7);rfl;assumption;rfl;rfl|(with_reducible apply a9);rfl;assumption)
     (refine d4 rfl ?_)
     exact ⟨rfl,hS.sub (xg7 _)⟩
  ·refine o7 rfl (t3 hS a4 rfl rfl) rfl ?_;rintro _ w' ⟨g,rfl,hS'⟩;clear hS;have hS:=hS';clear hS';refine ⟨hS.drop,?_⟩;refine s7 (i:=8) (by kernel_rfl) ?_;refine o7 rfl (a0n (first:=[]) (caps:=[]) rfl rfl (hat2 _ (hA.now hS))) rfl ?_;rintro _ w' ⟨rfl,hS'⟩;replace hS:=hS.transA hS';simp only [a1N] at hS;clear hS';refine ⟨hS.drop,?_⟩
   ((with_reducible apply i3 (nn 9) a4);rfl;kernel_rfl;exact (fun _ _ _ h=>h);exact hS.drop;rfl;rfl)
   ((with_reducible apply i3 (nn 10) a4);rfl;kernel_rfl;exact (fun _ _ _ h=>h);exact hS.drop;rfl;rfl)
   ((with_reducible apply i3 (nn 11) a4);rfl;kernel_rfl;exact (fun _ _ _ h=>h);exact hS.drop;rfl;rfl)
   refine s7 (i:=13) (by kernel_rfl) ?_;refine t4 (Φ:=fun _ w'=>St _ _ w' _) rfl (p9 hS a4 (i:=0) rfl rfl rfl rfl rfl (xe8 rfl) (xb8.1 rfl)) ?_;intro _ w' hS';simp only [List.set] at hS';clear hS;have hS:=hS';clear hS';refine ⟨hS.drop,?_⟩
   ((with_reducible apply i3 (nn 14) a4);rfl;kernel_rfl;exact (fun _ _ _ h=>h);exact hS.drop;rfl;rfl)
   refine a0u (by kernel_rfl) ?_
   cases ha:a02 A S.page with
   |true=>
    obtain ⟨hz3,hz4⟩:=hz1 ha
    repeat' (first|(with_reducible apply a5 a4);rfl;rfl;rfl|(with_reducible apply a6);rfl;(apply Ld.sc a4;rfl;exact hS.blkC 0 rfl rfl);rfl|(with_reducible apply o9);rfl;rfl;omega;omega;rfl|refine yDn (by with_reducible constructor) ?_|(with_reducible apply e9);(iterate 4 rfl);assumption|(with_reducible apply a7);rfl;assumption;rfl;rfl|(with_reducible apply f8);rfl;assumption)
    exact a1h (i + 1) (by exact Fr.sub_of rfl) (by omega) (a1u hall hsx ha) (by omega) hS.drop
   |false=>
    rw [show arB A (shs Lp)=false from a8X hsx ha,xg9];rcases hz2 ha with hz|hz
    ·repeat' (first|(with_reducible apply a5 a4);rfl;rfl;rfl|refine yDn (by with_reducible constructor) ?_|(with_reducible apply o4);(iterate 4 rfl);assumption;rfl|(with_reducible apply d9);rfl;assumption;rfl;rfl|(with_reducible apply a9);rfl;rfl)
     (refine d4 rfl ?_)
     exact ⟨rfl,hS.sub (xg7 _)⟩
    ·have hz3:=hz.1;have hz4:=hz.2
     repeat' (first|(with_reducible apply a5 a4);rfl;rfl;rfl|(with_reducible apply a6);rfl;(apply Ld.sc a4;rfl;exact hS.blkC 0 rfl rfl);rfl|refine yDn (by with_reducible constructor) ?_|(with_reducible apply e9);(iterate 4 rfl);assumption|(with_reducible apply a7);rfl;assumption;rfl;rfl|(with_reducible apply a9);rfl;assumption)
     (refine d4 rfl ?_)
     exact ⟨rfl,hS.sub (xg7 _)⟩
 have hal:arB A (shs Lp)=true:=a4g hall (by rw [a0f];omega);rw [hal,xh1];have hate:=fun w h=>hat w (en.tdiv 16) h
 cases hf:k7 A (en.tdiv 16) with
 |none=>
  simp only [hf] at hate;have hE:a0z A en=false:=by unfold a0z;rw [hf];simp
  rw [hE]
  repeat' (first|(with_reducible apply a5 a4);rfl;rfl;rfl|(with_reducible apply a6);rfl;(first|apply Ld.sc a4;rfl;exact hS.blkC 0 rfl rfl|apply Ld.sl a4;rfl;exact hS.blkC 0 rfl rfl);rfl|refine yDn (by with_reducible constructor) ?_|(with_reducible apply o4);(iterate 4 rfl);rfl;rfl|(with_reducible apply d9);rfl;rfl;rfl;rfl|(with_reducible apply a9);rfl;rfl|(with_reducible apply b8 hS a4);rfl;rfl;rfl;clear hS;intro g w' hS|(with_reducible apply b7 hS a4 (i:=0));(iterate 8 rfl);exact (rfl:_=[_,_,_,_]);clear hS;intro w' hS;simp only [List.set] at hS|(with_reducible apply b6);rfl;all_goals (intro hb hp;try (exfalso;omega))|(with_reducible apply a1H);rfl;rfl;omega;omega;omega;rfl|(with_reducible apply b4 hS);rfl;rfl;rfl;refine ⟨_,hate _ (hA.now hS),?_⟩;clear hS;intro w' hS)
  (refine d4 rfl ?_)
  exact ⟨rfl,hS.sub (xg7 _)⟩
 |some a=>
  simp only [hf] at hate;obtain ⟨hok2,hp1⟩:=a3g hc hf;have hen0:0<=en:=by
   by_cases h:0<=en
   ·exact h
   ·exfalso;have e:en.tdiv 16=-((-en).tdiv 16):=by rw [Int.neg_tdiv,Int.neg_neg]
    rw [e,xk0 (by omega)] at hp1;omega
  obtain ⟨pg,n,prot,z⟩:=a;by_cases he:en.tmod 8=0
  ·by_cases h2:2<=prot
   ·have hE:a0z A en=true:=by unfold a0z;rw [hf,xh0 ⟨hen0,he⟩];simp [h2]
    have hpr:decide (prot < 2)=false:=xg8 (by omega);have he8:(!decide (en.tmod 8=0))=false:=by rw [xh0 he];rfl
    rw [hE]
    repeat' (first|(with_reducible apply a5 a4);rfl;rfl;rfl|(with_reducible apply a6);rfl;(first|apply Ld.sc a4;rfl;(first|exact hS.blkC 0 rfl rfl|exact hS.blkC 1 rfl rfl)|apply Ld.sl a4;rfl;exact hS.blkC 0 rfl rfl);rfl|refine yDn (by with_reducible constructor) ?_|((with_reducible apply e9);(iterate 4 rfl);first|rfl|assumption)|(with_reducible apply a7);rfl;(first|rfl|assumption);rfl;rfl|(with_reducible apply f8);rfl;assumption|(with_reducible apply b8 hS a4);rfl;rfl;rfl;clear hS;intro g w' hS|(with_reducible apply b7 hS a4 (i:=0));(iterate 8 rfl);exact (rfl:_=[_,_,_,_]);clear hS;intro w' hS;simp only [List.set] at hS|(with_reducible apply b6);rfl;all_goals (intro hb hp;try (exfalso;omega))|(with_reducible apply a1F);rfl;rfl;omega;rfl|(with_reducible apply a1H);rfl;rfl;omega;omega;omega;rfl|(with_reducible apply b4 hS);rfl;rfl;rfl;refine ⟨_,hate _ (hA.now hS),?_⟩;clear hS;intro w' hS)
    (refine d4 rfl ?_)
    exact ⟨rfl,hS.sub (xg7 _)⟩
   ·have hE:a0z A en=false:=by unfold a0z;rw [hf];simp [h2]
    have hpr:decide (prot < 2)=true:=xh0 (by omega);have he8:(!decide (en.tmod 8=0))=false:=by rw [xh0 he];rfl
    rw [hE]
    repeat' (first|(with_reducible apply a5 a4);rfl;rfl;rfl|(with_reducible apply a6);rfl;(first|apply Ld.sc a4;rfl;(first|exact hS.blkC 0 rfl rfl|exact hS.blkC 1 rfl rfl)|apply Ld.sl a4;rfl;exact hS.blkC 0 rfl rfl);rfl|refine yDn (by with_reducible constructor) ?_|((with_reducible apply e9);(iterate 4 rfl);first|rfl|assumption)|(with_reducible apply a7);rfl;(first|rfl|assumption);rfl;rfl|(with_reducible apply a9);rfl;assumption|(with_reducible apply b8 hS a4);rfl;rfl;rfl;clear hS;intro g w' hS|(with_reducible apply b7 hS a4 (i:=0));(iterate 8 rfl);exact (rfl:_=[_,_,_,_]);clear hS;intro w' hS;simp only [List.set] at hS|(with_reducible apply b6);rfl;all_goals (intro hb hp;try (exfalso;omega))|(with_reducible apply a1F);rfl;rfl;omega;rfl|(with_reducible apply a1H);rfl;rfl;omega;omega;omega;rfl|(with_reducible apply b4 hS);rfl;rfl;rfl;refine ⟨_,hate _ (hA.now hS),?_⟩;clear hS;intro w' hS)
    (refine d4 rfl ?_)
    exact ⟨rfl,hS.sub (xg7 _)⟩
  ·have hE:a0z A en=false:=by unfold a0z;rw [xg8 (fun h=>he h.2)];rfl
   have he8:(!decide (en.tmod 8=0))=true:=by rw [xg8 he];rfl
   rw [hE]
   repeat' (first|(with_reducible apply a5 a4);rfl;rfl;rfl|(with_reducible apply a6);rfl;(first|apply Ld.sc a4;rfl;(first|exact hS.blkC 0 rfl rfl|exact hS.blkC 1 rfl rfl)|apply Ld.sl a4;rfl;exact hS.blkC 0 rfl rfl);rfl|refine yDn (by with_reducible constructor) ?_|(with_reducible apply e9);(iterate 4 rfl);rfl|(with_reducible apply o4);(iterate 4 rfl);assumption;rfl|(with_reducible apply d9);rfl;assumption;rfl;rfl|(with_reducible apply a7);rfl;rfl;rfl;rfl|(with_reducible apply a9);rfl;rfl|(with_reducible apply b8 hS a4);rfl;rfl;rfl;clear hS;intro g w' hS|(with_reducible apply b7 hS a4 (i:=0));(iterate 8 rfl);exact (rfl:_=[_,_,_,_]);clear hS;intro w' hS;simp only [List.set] at hS|(with_reducible apply b6);rfl;all_goals (intro hb hp;try (exfalso;omega))|(with_reducible apply a1F);rfl;rfl;omega;rfl|(with_reducible apply a1H);rfl;rfl;omega;omega;omega;rfl|(with_reducible apply b4 hS);rfl;rfl;rfl;refine ⟨_,hate _ (hA.now hS),?_⟩;clear hS;intro w' hS)
   (refine d4 rfl ?_)
   exact ⟨rfl,hS.sub (xg7 _)⟩
structure Ob where
 im:Im
 vn:Value
 vs:Value
 vy:Value
 vr:Value
 at_:Int
def imC (I:Im) (vn vs vy vr:Value):List Value:=[.string ⟨I.name.toArray⟩,vn,vs,vy,vr,.int .i64 I.entry]
abbrev ObV (w:World) (o:Ob):Prop:=ImV w o.im o.vn o.vs o.vy o.vr
def stK (l:List UInt8):Value:=.string ⟨l.toArray⟩
def PlI (es:Array MapEntry) (os:List Ob):Prop:=∃ L,MapG .string es L/\L.map (·.1)=os.map fun o=>stK o.im.name
theorem PlI.mem {es:Array MapEntry} {os:List Ob} {L:List (Value×Value)} (h:L.map (·.1)=os.map fun o=>stK o.im.name) (nm:List UInt8):(∃ v,(stK nm,v) ∈ L) ↔ ∃ o ∈ os,o.im.name=nm:=by
 constructor
 ·rintro ⟨v,hv⟩;have:stK nm ∈ L.map (·.1):=xh9.2 ⟨_,hv,rfl⟩;rw [h] at this;obtain ⟨o,ho,e⟩:=xh9.1 this;unfold stK at e;exact ⟨o,ho,by simpa using e⟩
 ·rintro ⟨o,ho,rfl⟩;have:stK o.im.name ∈ L.map (·.1):=by rw [h];exact xh9.2 ⟨o,ho,rfl⟩
  obtain ⟨p,hp,e⟩:=xh9.1 this;exact ⟨p.2,by rw [<- e];exact hp⟩
def a4H (os:List Ob) (nm:List UInt8):Bool:=os.any fun o=>decide (o.im.name=nm)
theorem a4P {os:List Ob} {nm:List UInt8}:a4H os nm=true ↔ ∃ o ∈ os,o.im.name=nm:=by unfold a4H;simp
def a0t (I:Im):Int:=match I.segs.getLast? with
 |some s=>s.pg + s.n
 |none=>0
def a9l (os:List Ob) (next:Int) (I:Im) (vn vs vy vr:Value):List Ob:=if a4H os I.name=true then os else os++[⟨I,vn,vs,vy,vr,next * 16⟩]
def a2Y (os:List Ob) (next:Int) (I:Im):Int:=if a4H os I.name=true then next else next + a0t I
structure ImF (F:Nat->Prop) (w:World) (o:Ob):Prop where
 needs:Sl F w 1 o.vn (o.im.needs.map stC)
 segs:Sl F w 5 o.vs (o.im.segs.map sgC)
 syms:Sl F w 2 o.vy (o.im.syms.map syC)
 rels:Sl F w 3 o.vr (o.im.rels.map rlC)
theorem ImF.now {F:Nat->Prop} {w w':World} {Γ:List Asr} {o:Ob} (h:ImF F w o) (hS:St F w w' Γ):ObV w' o:=⟨h.needs.now hS,h.segs.now hS,h.syms.now hS,h.rels.now hS⟩
def b2Q (o:Ob):Value:=.agg (imC o.im o.vn o.vs o.vy o.vr).toArray
def OfB (B:List Ob) (o:Ob):Prop:=∃ a:Int,{ o with at_:=a } ∈ B
structure b3f (I:Im):Prop where
 s1:1<=I.segs.length
 s2:I.segs.all b2p=true
 s3:I.segs.length<=6
def a0I (s:List Ob×Int) (o:Ob):List Ob×Int:=(a9l s.1 s.2 o.im o.vn o.vs o.vy o.vr,a2Y s.1 s.2 o.im)
structure AllI (B:List Ob) (s:List Ob×Int):Prop where
 sub:∀ o ∈ s.1,OfB B o
 nd:(s.1.map fun o=>o.im.name).Nodup
 lo:1<=s.2
 hi:s.2<=1 + 255 * s.1.length
theorem a34 {α:Type} [DecidableEq α]:∀ {l m:List α},l.Nodup->(∀ x ∈ l,x ∈ m)->l.length<=m.length
 |[],_,_,_=>by simp
 |a::l,m,h,hs=>by
  rw [List.nodup_cons] at h;have ha:=hs a (by simp);have:=a34 (l:=l) (m:=m.erase a) h.2 fun x hx=>by
   refine (List.mem_erase_of_ne ?_).2 (hs x (xb6 _ hx));rintro rfl;exact h.1 hx
  rw [List.length_erase_of_mem ha] at this;have hm:0 < m.length:=List.length_pos_of_mem ha;rw [xd7];omega
theorem AllI.len {B:List Ob} {s:List Ob×Int} (h:AllI B s):s.1.length<=B.length:=by
 have:=a34 (m:=B.map fun o=>o.im.name) h.nd fun x hx=>by
  obtain ⟨o,ho,rfl⟩:=xh9.1 hx;obtain ⟨a,ha⟩:=h.sub o ho;exact xh9.2 ⟨_,ha,rfl⟩
 simpa using this
theorem a5A {I:Im} (h:b3f I):0<=a0t I/\a0t I<=255:=by
 unfold a0t
 split
 ·rename_i s hs;have:=xb8.1 h.s2 s (List.mem_of_getLast? hs);unfold b2p at this;have:=xj4 this;omega
 ·omega
theorem AllI.step {B:List Ob} {s:List Ob×Int} {o:Ob} (h:AllI B s) (ho:o ∈ B) (hI:b3f o.im):AllI B (a0I s o):=by
 unfold a0I a9l a2Y;by_cases hp:a4H s.1 o.im.name=true
 ·rw [xd8 hp,xd8 hp];exact h
 ·rw [xd9 hp,xd9 hp];have hl:=a5A hI;refine ⟨fun x hx=>?_,?_,?_,?_⟩
  ·rcases xd2.1 hx with h1|h1
   ·exact h.sub x h1
   ·have:x=⟨o.im,o.vn,o.vs,o.vy,o.vr,s.2 * 16⟩:=by simpa using h1
    exact ⟨o.at_,by rw [this];exact ho⟩
  ·rw [xh5,xk1];refine ⟨h.nd,by simp,fun a ha b hb=>?_⟩;have:b=o.im.name:=by simpa using hb
   subst this;rintro rfl;obtain ⟨x,hx,e⟩:=xh9.1 ha;exact hp (a4P.2 ⟨x,hx,e⟩)
  ·have:=h.lo;show 1<=s.2 + a0t o.im;omega
  ·have:=h.hi;show s.2 + a0t o.im<=1 + 255 * ((s.1++[_]).length:Int);rw [xd6];simp only [xd7,xa2];omega
section
variable {F:Nat->Prop} {w0 w w':World} {Γ Δ:List Asr}
end
structure Bx where
 g:Nat
 pg:Int
 data:List UInt8
 p:Option Addr
 c:Nat
 fx:List Fx
def Bx.v (b:Bx):Value:=.slice b.p b.fx.length b.c
def AOk (A:List Ar):Prop:=∀ a ∈ A,a.z=false/\0<=a.pg/\0<=a.n/\a.pg + a.n<=200000/\0<=a.prot/\a.prot<=3
theorem AOk.step {A:List Ar} {a:Ar} (h:AOk A) (ha:a.z=false/\0<=a.pg/\0<=a.n/\a.pg + a.n<=200000/\0<=a.prot/\a.prot<=3):AOk (a5d A a):=by
 unfold a5d
 split
 ·rename_i b hb;have hbm:=h b (List.mem_of_getLast? hb)
  split
  ·rename_i hal;unfold Ar.alike at hal;intro x hx;rcases xd2.1 hx with h1|h1
   ·exact h x ((List.dropLast_sublist A).subset h1)
   ·obtain rfl:x={ b with n:=b.n + a.n }:=by simpa using h1
    have e1:b.fin=a.pg:=hal.1;unfold Ar.fin at e1;obtain ⟨q1,q2,q3,q4,q5,q6⟩:=hbm;obtain ⟨p1,p2,p3,p4,p5,p6⟩:=ha;refine ⟨q1,q2,?_,?_,q5,q6⟩
    ·show 0<=b.n + a.n;omega
    ·show b.pg + (b.n + a.n)<=200000;omega
  ·intro x hx;rcases xd2.1 hx with h1|h1
   ·exact h x h1
   ·obtain rfl:x=a:=by simpa using h1
    exact ha
 ·intro x hx;rcases xd2.1 hx with h1|h1
  ·exact h x h1
  ·obtain rfl:x=a:=by simpa using h1
   exact ha
def a1s:List Ob->Int
 |[]=>0
 |o::l=>a0t o.im + a1s l
theorem a7n (l m:List Ob):a1s (l++m)=a1s l + a1s m:=by
 induction l with
 |nil=>simp [a1s]
 |cons o l ih=>simp only [List.cons_append,a1s,ih];omega
structure PkI (s:List Ob×Int):Prop where
 nx:s.2=1 + a1s s.1
 at_:∀ (i:Nat) (o:Ob),s.1[i]?=some o->o.at_=(1 + a1s (s.1.take i)) * 16
theorem PkI.start:PkI ([],1):=⟨rfl,fun i o h=>by simp at h⟩
theorem PkI.step {s:List Ob×Int} (o:Ob) (h:PkI s):PkI (a0I s o):=by
 unfold a0I a9l a2Y;by_cases hp:a4H s.1 o.im.name=true
 ·rw [xd8 hp,xd8 hp];exact h
 ·rw [xd9 hp,xd9 hp];refine ⟨?_,fun i x hx=>?_⟩
  ·show s.2 + a0t o.im=1 + a1s (s.1++[_]);rw [a7n,h.nx];simp only [a1s];omega
  ·dsimp only at hx |-;rcases xj5 i s.1.length with hi|hi
   ·rw [xa5 hi] at hx;rw [List.take_append_of_le_length (by omega)];exact h.at_ i x hx
   ·rw [xa4 hi] at hx;obtain ⟨h1,h2⟩:=xa6.1 hx;simp only [xi3] at h1;obtain rfl:i=s.1.length:=by omega
    simp only [Nat.sub_self,xi8] at h2;subst h2;rw [List.take_left];show s.2 * 16=_;rw [h.nx]
theorem a2D {P:Program} {n:Nat} {ds:List Deferred} {E:Fr} {w:World} {Q:Exit->Act->World->Prop} {ops:Array Oper} {d:Nat} {ty:TypeId} {pos:String} {after:Array Edge} {i:Nat} (_C:Nn i) {T:Tab} {S:World->Prop} {fuel:Nat} {li:Array Bool} (hT:TabOk P T) {t s:Nat} {fs:List (Nat×Nat×Bool)} {z L:List Value} {parts:Array (Nat×Operand)} {ps:List (Nat×Value)} (hi:ops[i]?=some ⟨some d,.build t parts,ty,pos,after,none⟩) (hs:Region.noSelect ops=true) (hf:Region.free .any ops li i=true) (hr:(Region.ready .any ops li).contains i=true)
  (hQ:∀ c (a:Act) w v,Q (.panic c) (a.put (some d) v) w->Q (.panic c) a w) (hS:S w) (ht:T.get t=some (.st s fs z)) (hp:evP E parts.toList=some ps) (hL:a0b (fun i=>(fs[i]?).map fun f=>(f.1,f.2.1)) z ps=some L) (hd:Nat.blt d n=true) (k:WA P ops Q S fuel (li.setIfInBounds i true) n ds ((d,.agg L.toArray)::E) w):WA P ops Q S (fuel + 1) li n ds E w :=
 a6y _C hi hs hf hr (fun c a w h=>hQ c a w _ h) hS (fun a ha=>a1O hT ht hp hL _ ha) hd k
end Go.Proofs.YtejnpppejalhfacGreat
namespace Go.Proofs.YtejnpppejalhfacGreat
set_option maxRecDepth 100000
set_option maxHeartbeats 8000000
open Go.RowKit Go.Sort Go.MapKept
structure MapN (es:Array MapEntry) (L:List (List UInt8×Int)):Prop where
 held:es.toList.map (fun e=>(e.key,e.val))=L.map fun p=>(Value.string ⟨p.1.toArray⟩,Value.int .i64 p.2)
 once:(L.map (·.1)).Nodup
theorem MapN.nil:MapN #[] []:=⟨rfl,by simp⟩
theorem b0I {a b:List UInt8} (h:Value.string ⟨a.toArray⟩=Value.string ⟨b.toArray⟩):a=b:=by
 simpa using h
theorem MapN.at_ {w:World} {r c:Nat} {es:Array MapEntry} {L:List (List UInt8×Int)} (h:MapN es L) (hr:w.heap[r]?=some (.map es c)):MapAt .string w r (L.map fun p=>(Value.string ⟨p.1.toArray⟩,Value.int .i64 p.2)):=by
 refine ⟨⟨es,c,hr,h.held⟩,fun p hp=>?_,?_⟩
 ·obtain ⟨q,_,rfl⟩:=xh9.1 hp;trivial
 ·rw [List.map_map];have:(Prod.fst ∘ fun p:List UInt8×Int=>(Value.string ⟨p.1.toArray⟩,Value.int .i64 p.2))=(fun x:List UInt8=>Value.string ⟨x.toArray⟩) ∘ (·.1):=rfl;rw [this,<- List.map_map];exact List.Pairwise.map _ (fun a b hab e=>hab (b0I e)) h.once
section
variable {P:Program} {n:Nat} {ds:List Deferred} {E:Fr} {w:World} {Q:Exit->Act->World->Prop} {ops:Array Oper} {rest:List Oper} {d:Nat} {ty:TypeId} {pos:String} {after:Array Edge} {F:Nat->Prop} {w0:World} {Γ:List Asr} {T:Tab}
end
end Go.Proofs.YtejnpppejalhfacGreat
namespace Go.Proofs.YtejnpppejalhfacGreat
set_option maxRecDepth 100000
set_option maxHeartbeats 8000000
open Go.RowKit Go.Sort
structure PlR (I:Im) (i:Nat):Prop where
 rels:∀ (k:Nat) (r:Rl),k < i->I.rels[k]?=some r->(0<=r.at_/\r.at_<=4080)/\∀ b:Int,0<=b->b < 8->(own I.segs (r.at_ + b)).isSome=true
 step:∀ (k:Nat) (q r:Rl),k + 1 < i->I.rels[k]?=some q->I.rels[k + 1]?=some r->q.at_ + 8<=r.at_
theorem PlR.zero (I:Im):PlR I 0:=⟨by intros;omega,by intros;omega⟩
theorem PlR.succ {I:Im} {i:Nat} {x:Rl} (h:PlR I i) (hx:I.rels[i]?=some x) (h1:0<=x.at_/\x.at_<=4080) (h2:∀ b:Int,0<=b->b < 8->(own I.segs (x.at_ + b)).isSome=true) (h3:∀ q,0 < i->I.rels[i - 1]?=some q->q.at_ + 8<=x.at_):PlR I (i + 1) where
 rels k r hk hr:=by
  by_cases e:k=i
  ·subst e;rw [hx] at hr;cases hr;exact ⟨h1,h2⟩
  ·exact h.rels k r (by omega) hr
 step k q r hk hq hr:=by
  by_cases e:k + 1=i
  ·subst e;rw [hx] at hr;cases hr;exact h3 q (by omega) (by simpa using hq)
  ·exact h.step k q r (by omega) hq hr
def kvI (o:Ob):Value×Value:=(stK o.im.name,b2Q o)
def MapB (B:List Ob) (i:Nat) (L:List (Value×Value)):Prop:=(((B.take i).map fun o=>o.im.name).Nodup->L=(B.take i).map kvI)/\(¬ ((B.take i).map fun o=>o.im.name).Nodup->L.length < i)/\L.length<=i
theorem MapB.start (B:List Ob):MapB B 0 []:=⟨fun _=>rfl,fun h=>absurd (by simp) h,xc5 _⟩
theorem MapB.mem {B:List Ob} {i:Nat} {L:List (Value×Value)} (h:L=(B.take i).map kvI) (nm:List UInt8):(∃ v,(stK nm,v) ∈ L) ↔ nm ∈ (B.take i).map fun o=>o.im.name:=by
 rw [h];constructor
 ·rintro ⟨v,hv⟩;obtain ⟨o,ho,e⟩:=xh9.1 hv;have e1:=congrArg Prod.fst e;unfold kvI stK at e1;exact xh9.2 ⟨o,ho,by simpa using e1⟩
 ·intro hn;obtain ⟨o,ho,rfl⟩:=xh9.1 hn;exact ⟨b2Q o,xh9.2 ⟨o,ho,rfl⟩⟩
theorem a6I {α:Type} {l:List α} {x:α}:(l++[x]).Nodup ↔ l.Nodup/\x ∉ l:=by
 rw [xk1];constructor
 ·rintro ⟨h1,-,h3⟩;exact ⟨h1,fun h=>h3 x h x (by simp) rfl⟩
 ·rintro ⟨h1,h2⟩;refine ⟨h1,by simp,fun a ha b hb=>?_⟩;have:b=x:=by simpa using hb
  subst this;rintro rfl;exact h2 ha
theorem MapB.new {B:List Ob} {i:Nat} {L:List (Value×Value)} {o:Ob} (h:MapB B i L) (ho:B[i]?=some o) (hn:∀ v,(stK o.im.name,v) ∉ L):MapB B (i + 1) (L++[kvI o]):=by
 unfold MapB;rw [xl7,ho];simp only [Option.toList_some,xh5,xb0,List.map_nil,xd6,xd7,xa2];rw [a6I];refine ⟨fun ⟨h1,h2⟩=>by rw [h.1 h1],fun hno=>?_,by have:=h.2.2;omega⟩;by_cases h1:((B.take i).map fun o=>o.im.name).Nodup
 ·exfalso;have hin:o.im.name ∈ (B.take i).map fun o=>o.im.name:=Classical.byContradiction fun hc=>hno ⟨h1,hc⟩;obtain ⟨v,hv⟩:=(MapB.mem (h.1 h1) o.im.name).2 hin;exact hn v hv
 ·have:=h.2.1 h1;omega
theorem MapB.old {B:List Ob} {i j:Nat} {L:List (Value×Value)} {o:Ob} {u:Value} {x:Value×Value} (h:MapB B i L) (ho:B[i]?=some o) (hu:(stK o.im.name,u) ∈ L):MapB B (i + 1) (L.set j x):=by
 unfold MapB;rw [xl7,ho];simp only [Option.toList_some,xh5,xb0,List.map_nil,List.length_set];rw [a6I];refine ⟨fun ⟨h1,h2⟩=>absurd ((MapB.mem (h.1 h1) o.im.name).1 ⟨u,hu⟩) h2,fun hno=>?_,by have:=h.2.2;omega⟩;have:=h.2.2;omega
structure OrdI (B:List Ob) (ord:List Nat) (s:List Ob×Int):Prop where
 len:s.1.length=ord.length
 at_:∀ (i k:Nat),ord[i]?=some k->∃ (o:Ob) (a:Int),B[k]?=some o/\s.1[i]?=some { o with at_:=a }
theorem a9x {B:List Ob} (h:(B.map fun o=>o.im.name).Nodup) {i j:Nat} {a b:Ob} (ha:B[i]?=some a) (hb:B[j]?=some b) (he:a.im.name=b.im.name):i=j:=by
 obtain ⟨h1,rfl⟩:=xa6.1 ha;obtain ⟨h2,rfl⟩:=xa6.1 hb;unfold List.Nodup at h;rw [xc8] at h;rcases Nat.lt_trichotomy i j with hlt|heq|hlt
 ·exact absurd (by rw [xl9,xl9];exact he) (h i j (by simpa using h1) (by simpa using h2) hlt)
 ·exact heq
 ·exact absurd (by rw [xl9,xl9];exact he.symm) (h j i (by simpa using h2) (by simpa using h1) hlt)
theorem OrdI.mem {B:List Ob} {ord:List Nat} {s:List Ob×Int} {k:Nat} {o:Ob} (h:OrdI B ord s) (hn:(B.map fun o=>o.im.name).Nodup) (hk:B[k]?=some o):k ∈ ord ↔ a4H s.1 o.im.name=true:=by
 rw [a4P];constructor
 ·intro hm;obtain ⟨i,hi⟩:=xc9.1 hm;obtain ⟨o',a,h1,h2⟩:=h.at_ i k hi;rw [hk] at h1
  cases h1
  exact ⟨_,xc1 h2,rfl⟩
 ·rintro ⟨x,hx,hxn⟩;obtain ⟨i,hi⟩:=xc9.1 hx;have hil:i < ord.length:=by have:=j7 hi;have:=h.len;omega
  obtain ⟨k',hk'⟩:=l9 (l:=ord) (i:=i) (by omega);obtain ⟨o',a,h1,h2⟩:=h.at_ i k' hk';rw [hi] at h2
  cases h2
  have:=a9x hn hk h1 hxn.symm;subst this;exact xc1 hk'
theorem OrdI.old {B:List Ob} {ord:List Nat} {s:List Ob×Int} {k:Nat} {o:Ob} (h:OrdI B ord s) (hn:(B.map fun o=>o.im.name).Nodup) (hk:B[k]?=some o) (hm:k ∈ ord):OrdI B ord (a0I s o):=by
 have:=(h.mem hn hk).1 hm;unfold a0I a9l a2Y;rw [xd8 this,xd8 this];exact h
theorem OrdI.new {B:List Ob} {ord:List Nat} {s:List Ob×Int} {k:Nat} {o:Ob} (h:OrdI B ord s) (hn:(B.map fun o=>o.im.name).Nodup) (hk:B[k]?=some o) (hm:k ∉ ord):OrdI B (ord++[k]) (a0I s o):=by
 have hp:¬ a4H s.1 o.im.name=true:=fun hc=>hm ((h.mem hn hk).2 hc);unfold a0I a9l a2Y;rw [xd9 hp,xd9 hp];refine ⟨by simp [h.len],fun i j hj=>?_⟩;rcases xj5 i ord.length with hi|hi
 ·rw [xa5 hi] at hj;obtain ⟨o',a,h1,h2⟩:=h.at_ i j hj;exact ⟨o',a,h1,by rw [xa5 (by rw [h.len];exact hi)];exact h2⟩
 ·rw [xa4 hi] at hj;obtain ⟨h1,h2⟩:=xa6.1 hj;simp only [xi3] at h1;obtain rfl:i=ord.length:=by omega
  simp only [Nat.sub_self,xi8] at h2;subst h2;exact ⟨o,s.2 * 16,hk,by rw [<- h.len,xa4 (by omega)];simp⟩
theorem OrdI.start {B:List Ob} {M:Ob} (h:B[0]?=some M):OrdI B [0] (a0I ([],1) M):=by
 refine ⟨rfl,fun i k hk=>?_⟩
 cases i with
 |zero=>
  obtain rfl:0=k:=by simpa using hk
  exact ⟨M,16,h,rfl⟩
 |succ i=>simp at hk
theorem eb (b:Bool) {c:Bool} (h:b=c):Value.bool b=.bool c:=by rw [h]
structure ObsI (w:World) (os:List Ob):Prop where
 v:∀ o ∈ os,ObV w o
 b:∀ o ∈ os,∃ b:Int,o.at_=b * 16/\1<=b/\b<=1800
 y:∀ o ∈ os,∀ s ∈ o.im.syms,-9223372036854775808<=o.at_ + s.at_/\o.at_ + s.at_<=9223372036854775807
 n:os.length<=7
 k:∀ o ∈ os,a9U o.im=0
theorem ObsI.now {w w':World} {os:List Ob} {Γ:List Asr} (h:ObsI w os) (hS:St nF w w' Γ):ObsI w' os:=⟨fun o ho=>(h.v o ho).now hS,h.b,h.y,h.n,h.k⟩
abbrev Bs8:=List UInt8
section
variable {α:Type} {one:Bs8->Option (α×Bs8)}
end
theorem wrap64_in {m:Int} (h1:-9223372036854775808<=m) (h2:m<=9223372036854775807):wrap64 m=m:=by unfold wrap64;omega
section
variable {P:Program} {n:Nat} {ds:List Deferred} {E:Fr} {w:World} {dst:Option Nat} {ty:TypeId} {pos:String} {after:Array Edge} {F:Nat->Prop} {w0:World} {Γ:List Asr} {T:Tab}
end
section
variable {P:Program} {n:Nat} {ds:List Deferred} {E:Fr} {w:World} {Q:Exit->Act->World->Prop} {ops:Array Oper} {S:World->Prop} {q fuel:Nat} {li:Array Bool} {d:Nat} {op:Op} {ty:TypeId} {pos:String} {after:Array Edge} {T:Tab}
theorem a58 {i:Nat} (_C:Nn i) {v:Value} (hi:ops[i]?=some ⟨some d,op,ty,pos,after,none⟩) (hs:Region.noSelect ops=true) (hf:Region.free .any ops li i=true) (hr:(Region.ready .any ops li).contains i=true) (hqi:Nat.beq q i=false)
  (hQ:∀ c (a:Act) w,Q (.panic c) (a.put (some d) v) w->Q (.panic c) a w) (hS:li.getD q false=true\/S w) (h:∀ a,Has n ds a E->x7 P ⟨some d,op,ty,pos,after,none⟩ a v) (hd:Nat.blt d n=true) (k:WT P ops Q S q fuel (li.setIfInBounds i true) n ds ((d,v)::E) w):WT P ops Q S q (fuel + 1) li n ds E w:=fun a ha=>
 a3S hi (Region.noSelect_spec hs) hQ (fun e=>by subst e;rw [xj9] at hqi;cases hqi) fuel li a w (Region.free_spec hi hf) (by simpa using hr) hS (xc7 ⟨rfl,fun w _=>h a ha w⟩) (k _ (ha.put d v hd))
theorem b0J {i:Nat} (_C:Nn i) (hT:TabOk P T) {t s:Nat} {fs:List (Nat×Nat×Bool)} {z L:List Value} {parts:Array (Nat×Operand)} {ps:List (Nat×Value)} (hi:ops[i]?=some ⟨some d,.build t parts,ty,pos,after,none⟩) (hs:Region.noSelect ops=true) (hf:Region.free .any ops li i=true) (hr:(Region.ready .any ops li).contains i=true) (hqi:Nat.beq q i=false)
  (hQ:∀ c (a:Act) w v,Q (.panic c) (a.put (some d) v) w->Q (.panic c) a w) (hS:li.getD q false=true\/S w) (ht:T.get t=some (.st s fs z)) (hp:evP E parts.toList=some ps) (hL:a0b (fun i=>(fs[i]?).map fun f=>(f.1,f.2.1)) z ps=some L) (hd:Nat.blt d n=true) (k:WT P ops Q S q fuel (li.setIfInBounds i true) n ds ((d,.agg L.toArray)::E) w):WT P ops Q S q (fuel + 1) li n ds E w :=
 a58 _C hi hs hf hr hqi (fun c a w=>hQ c a w _) hS (fun a ha=>a1O hT ht hp hL a ha) hd k
end
section
variable {P:Program} {n:Nat} {ds:List Deferred} {E E':Fr} {w:World} {F:Nat->Prop} {w0:World} {Γ:List Asr}
end
theorem a2c:∀ {l:List Sh} {last:Int},a0i last l=true->(∀ s ∈ l,j8 s=true/\last < s.page)/\Rises (l.map fun s=>s.page)
 |[],_,_=>⟨by simp,List.Pairwise.nil⟩
 |s::l,last,h=>by
  replace h:(j8 s && (decide (last < s.page) && a0i s.page l))=true:=h;simp only [xb7,xh4] at h;obtain ⟨h1,h2,h3⟩:=h;obtain ⟨i1,i2⟩:=a2c h3;refine ⟨fun x hx=>?_,List.Pairwise.cons (fun p hp=>?_) i2⟩
  ·rcases xb4.1 hx with rfl|hx
   ·exact ⟨h1,h2⟩
   ·exact ⟨(i1 x hx).1,by have:=(i1 x hx).2;omega⟩
  ·obtain ⟨x,hx,rfl⟩:=xh9.1 hp;exact (i1 x hx).2
theorem ShsV.one {w:World} {l:List (Sh×Value)} {v:Value} (h:ShsV w l v):∀ p ∈ l,p.2.oneCell'=true:=fun p hp=>by
 obtain ⟨a,c,hpc⟩:=(h.fx p hp).len;rw [hpc];rfl
abbrev NL:=List (Value×List Nm)
def Grown (A B:NL) (kind:Int) (ns:List Nm):Prop:=B.length=A.length/\∀ (i:Nat) x,A[i]?=some x->∃ v,B[i]?=some (v,x.2++ns.filter fun (n:Nm)=>decide (n.1.kind=kind/\n.1.at_=((i:Nat):Int)))
theorem Grown.refl (A:NL) (kind:Int):Grown A A kind []:=⟨rfl,fun i x h=>⟨x.1,by simpa using h⟩⟩
theorem Grown.skip {A B:NL} {kind:Int} {ns:List Nm} {n:Nm} (h:Grown A B kind ns) (hn:n.1.kind≠kind):Grown A B kind (ns++[n]):=⟨h.1,fun i x hx=>by
 obtain ⟨v,hv⟩:=h.2 i x hx;refine ⟨v,?_⟩;rw [hv,xm0,List.filter_cons_of_neg (by simp [hn]),List.filter_nil,xi1]⟩
theorem Grown.put {A B:NL} {kind:Int} {ns:List Nm} {n:Nm} {j:Nat} {y:Value×List Nm} {v:Value} (h:Grown A B kind ns) (hn:n.1.kind=kind) (hj:n.1.at_=(j:Nat)) (hy:B[j]?=some y):Grown A (B.set j (v,y.2++[n])) kind (ns++[n]):=⟨by rw [List.length_set];exact h.1,fun i x hx=>by
 obtain ⟨u,hu⟩:=h.2 i x hx;by_cases e:j=i
 ·subst e;rw [hy] at hu
  cases hu
  refine ⟨v,?_⟩;rw [xd0];simp [(xa6.1 hy).1,xm0,hn,hj]
 ·refine ⟨u,?_⟩;rw [List.getElem?_set_ne e,hu,xm0,List.filter_cons_of_neg (by rw [hn,hj];simp;omega),List.filter_nil,xi1]⟩
theorem Grown.trans {A B C:NL} {kind:Int} {ns ms:List Nm} (h:Grown A B kind ns) (h2:Grown B C kind ms):Grown A C kind (ns++ms):=⟨h2.1.trans h.1,fun i x hx=>by
 obtain ⟨v,hv⟩:=h.2 i x hx;obtain ⟨u,hu⟩:=h2.2 i _ hv;exact ⟨u,by rw [hu,xm0,xe7]⟩⟩
structure ShsF (F:Nat->Prop) (w:World) (Lp:List (Sh×Value)) (vs:Value):Prop where
 sl:Sl F w 3 vs (Lp.map fun p=>shC p.1 p.2)
 fx:∀ p ∈ Lp,Sl F w 2 p.2 (p.1.fixes.map fxC)
theorem ShsF.now {F:Nat->Prop} {w w':World} {Γ:List Asr} {l:List (Sh×Value)} {v:Value} (h:ShsF F w l v) (hS:St F w w' Γ):ShsV w' l v:=⟨h.sl.now hS,fun p hp=>(h.fx p hp).now hS⟩
theorem ShsF.of {w:World} {l:List (Sh×Value)} {v:Value} (h:ShsV w l v):ShsF nF w l v:=⟨h.sl,fun p hp=>h.fx p hp⟩
theorem b0p {P:Program} {n:Nat} {ds:List Deferred} {E:Fr} {w:World} {Q:Exit->Act->World->Prop} {F:Nat->Prop} {w0:World} {Γ:List Asr} (k q:Nat) {id:Nat} {l:List Oper} (m:Nat) (hl:l.length=m) (hS:St F w0 w Γ) (hm:P.follows .mixedOrders=true) (h:∀ w1,St F w0 w1 Γ->WT P l.toArray Q (fun w'=>St F w0 w' (Γ.take k)) q m (Array.replicate m false) n ds E w1):WC P (.region id l.toArray true) Q n ds E w:=b10 _ q m hl hS hm h
theorem a9b {α β:Type} (A:List α) (B:List β) (hA:(A.length:Int)<=9223372036854775807) (hB:(B.length:Int)<=9223372036854775807):decide (IntKind.i64.wrap ((A.length:Int) + (B.length:Int))=0)=decide (A=[]/\B=[]):=by
 refine decide_eq_decide.2 ⟨fun h=>?_,fun ⟨h1,h2⟩=>by rw [h1,h2];rfl⟩;have h2:A.length=0/\B.length=0:=by
  simp only [IntKind.wrap,IntKind.signed,IntKind.bits] at h;omega
 exact ⟨xe1 h2.1,xe1 h2.2⟩
theorem a0F {α:Type} {l:List α} {i:Nat} {x:α} (h:l[i]?=some x):l.take (i + 1)=l.take i++[x]:=by
 obtain ⟨h1,rfl⟩:=xa6.1 h;rw [xl7,xd1 h1];rfl
theorem a3M {l:List Wd} {n:Int} {i:Nat} {x:Wd} (h:l[i]?=some x):a0O (l.take (i + 1)) n=(a0O (l.take i) n && (decide (0<=x.proc) && decide (x.proc < n))):=by
 unfold a0O;rw [a0F h,List.all_append,xg4,xg5,xg6]
theorem a2P {l:List Wd} {n:Int} {i:Nat} {x:Wd} (h:l[i]?=some x) (hb:(decide (0<=x.proc) && decide (x.proc < n))=false):a0O l n=false:=by
 unfold a0O;rw [List.all_eq_false];exact ⟨x,xc1 h,by rw [hb];simp⟩
theorem a9K {w:World} {v:Value} {l:List Wd} (hL:Sl nF w 2 v (l.map wdC)) (n:Int):Fn Tryz.prog 79 [v,.int .i64 n] w (RBf (.bool (a0O l n)) w):=by
 have bnd:=hL.bound;obtain ⟨p,c,rfl⟩:=hL.len;refine yEn Tryz.func79 Tryz.ntmps79 (by kernel_rfl) (by kernel_rfl) rfl rfl ?_;have hS:=St.start w
 repeat' (first|(with_reducible apply a5 a4);rfl;rfl;rfl|refine yDn (by with_reducible constructor) ?_)
 refine o6 (F:=nF) (w0:=w) (X:=Nat) (fun x=>[(9,.int .i64 (x:Nat))]) [1,7,8] rfl (fun _=>[]) (fun i=>i<=l.length/\a0O (l.take i) n=true) (fun i=>l.length - i) 0 (by exact Fr.sub_of rfl) ⟨xf0 _,rfl⟩ hS ?_;clear hS;rintro i w1 ⟨hi,ht⟩ hS;dsimp only [List.cons_append,List.nil_append] at hi ht hS |-;by_cases hlt:i < l.length
 ·obtain ⟨x,hx⟩:=l9 (l:=l) (i:=i) (by omega);have hrow:=i7 (f:=wdC) hx;obtain ⟨b,off,rfl,hro⟩:=hL.at_ (i:=i) hlt;unfold wdC at hrow;have hst:=a3M (n:=n) hx;rw [ht,xh1] at hst;by_cases h0:x.proc < 0
  ·have hd0:decide (x.proc < 0)=true:=xh0 h0;have hbad:=a2P (n:=n) hx (by rw [xg8 (show ¬0<=x.proc by omega)];rfl)
   repeat' (first|(with_reducible apply a5 a4);rfl;rfl;rfl|(with_reducible apply a6);rfl;(first|apply Ld.sc a4;rfl;exact hS.blkC 0 rfl rfl|apply Ld.st a4;rfl;exact hS.roR (by assumption) (by assumption);rfl);rfl|(with_reducible apply s9 a4);rfl;rfl;rfl;rfl;omega;rfl|refine yDn (by with_reducible constructor) ?_|(with_reducible apply o4);(iterate 4 rfl);assumption;rfl|(with_reducible apply d9);rfl;assumption;rfl;rfl|(with_reducible apply a9);rfl;rfl|(with_reducible apply b8 hS a4);rfl;rfl;rfl;clear hS;intro g w' hS|(with_reducible apply b7 hS a4 (i:=0));(iterate 8 rfl);exact (rfl:_=[_,_]);clear hS;intro w' hS;simp only [List.set] at hS|(with_reducible apply b6);rfl;all_goals (intro hb hp;try (exfalso;omega)))
   (refine d4 rfl ?_)
   exact ⟨by rw [hbad],hS.sub (xg7 _)⟩
  have hd0:decide (x.proc < 0)=false:=xg8 h0;by_cases h1:n<=x.proc
  ·have hd1:decide (n<=x.proc)=true:=xh0 h1;have hbad:=a2P (n:=n) hx (by rw [xg8 (show ¬x.proc < n by omega),xh2])
   repeat' (first|(with_reducible apply a5 a4);rfl;rfl;rfl|(with_reducible apply a6);rfl;(first|apply Ld.sc a4;rfl;exact hS.blkC 0 rfl rfl|apply Ld.st a4;rfl;exact hS.roR (by assumption) (by assumption);rfl);rfl|(with_reducible apply s9 a4);rfl;rfl;rfl;rfl;omega;rfl|refine yDn (by with_reducible constructor) ?_|(with_reducible apply e9);(iterate 4 rfl);assumption|(with_reducible apply a7);rfl;assumption;rfl;rfl|(with_reducible apply a9);rfl;assumption|(with_reducible apply b8 hS a4);rfl;rfl;rfl;clear hS;intro g w' hS|(with_reducible apply b7 hS a4 (i:=0));(iterate 8 rfl);exact (rfl:_=[_,_]);clear hS;intro w' hS;simp only [List.set] at hS|(with_reducible apply b6);rfl;all_goals (intro hb hp;try (exfalso;omega)))
   (refine d4 rfl ?_)
   exact ⟨by rw [hbad],hS.sub (xg7 _)⟩
  have hd1:decide (n<=x.proc)=false:=xg8 h1;rw [xh0 (show 0<=x.proc by omega),xh0 (show x.proc < n by omega)] at hst
  repeat' (first|(with_reducible apply a5 a4);rfl;rfl;rfl|(with_reducible apply a6);rfl;(first|apply Ld.sc a4;rfl;exact hS.blkC 0 rfl rfl|apply Ld.st a4;rfl;exact hS.roR (by assumption) (by assumption);rfl);rfl|(with_reducible apply s9 a4);rfl;rfl;rfl;rfl;omega;rfl|(with_reducible apply o9);rfl;rfl;omega;omega;rfl|refine yDn (by with_reducible constructor) ?_|(with_reducible apply e9);(iterate 4 rfl);assumption|(with_reducible apply a7);rfl;assumption;rfl;rfl|(with_reducible apply f8);rfl;assumption|(with_reducible apply b8 hS a4);rfl;rfl;rfl;clear hS;intro g w' hS|(with_reducible apply b7 hS a4 (i:=0));(iterate 8 rfl);exact (rfl:_=[_,_]);clear hS;intro w' hS;simp only [List.set] at hS|(with_reducible apply b6);rfl;all_goals (intro hb hp;try (exfalso;omega)))
  exact m8 (i + 1) (by exact Fr.sub_of rfl) ⟨by omega,hst⟩ hS.drop (by omega)
 ·obtain rfl:i=l.length:=by omega
  rw [xf2] at ht
  repeat' (first|(with_reducible apply a5 a4);rfl;rfl;rfl|refine yDn (by with_reducible constructor) ?_|(with_reducible apply b6);rfl;all_goals (intro hb hp;try (exfalso;omega)))
  (refine d4 rfl ?_)
  exact ⟨by rw [ht],hS.sub (xg7 _)⟩
theorem a4o {w:World} {v:Value} {l:List Wd} (hL:Sl nF w 2 v (l.map wdC)) (n:Nat) (hn:(n:Int)<=9223372036854775807):Fn Tryz.prog 82 [v,.int .i64 (n:Nat)] w (RBf (.bool (a0O l (n:Nat))) w):=by
 have bnd:=hL.bound;obtain ⟨p,c,rfl⟩:=hL.len;refine yEn Tryz.func82 Tryz.ntmps82 (by kernel_rfl) (by kernel_rfl) rfl rfl ?_;have hS:=St.start w
 repeat' (first|(with_reducible apply a5 a4);rfl;rfl;rfl|refine yDn (by with_reducible constructor) ?_)
 refine o6 (F:=nF) (w0:=w) (X:=Nat) (fun x=>[(5,.int .i64 (x:Nat))]) [0,1] rfl (fun _=>[]) (fun i=>i<=l.length/\a0O (l.take i) (n:Nat)=true) (fun i=>l.length - i) 0 (by exact Fr.sub_of rfl) ⟨xf0 _,rfl⟩ hS ?_;clear hS;rintro i w1 ⟨hi,ht⟩ hS;dsimp only [List.cons_append,List.nil_append] at hi ht hS |-;by_cases hlt:i < l.length
 ·obtain ⟨x,hx⟩:=l9 (l:=l) (i:=i) (by omega);have hrow:=i7 (f:=wdC) hx;obtain ⟨b,off,rfl,hro⟩:=hL.at_ (i:=i) hlt;unfold wdC at hrow;have hst:=a3M (n:=(n:Nat)) hx;rw [ht,xh1] at hst;by_cases h0:0<=x.proc/\x.proc<=(n:Nat) - 1
  ·have hd0:decide (0<=x.proc/\x.proc<=((n:Nat):Int) - 1)=true:=xh0 h0;rw [xh0 h0.1,xh0 (show x.proc < (n:Nat) by omega)] at hst
   repeat' (first|(with_reducible apply a5 a4);rfl;rfl;rfl|(with_reducible apply a6);rfl;(apply Ld.sc a4;rfl;exact hS.roC0 (by assumption) (by assumption) rfl);rfl|(with_reducible apply s9 a4);rfl;rfl;rfl;rfl;omega;rfl|(with_reducible apply o9);rfl;rfl;omega;omega;rfl|(with_reducible apply a3U);rfl;rfl;omega;omega;rfl|refine yDn (by with_reducible constructor) ?_|(with_reducible apply b6);rfl;all_goals (intro hb hp;try (exfalso;omega))|(with_reducible apply a2r);rfl;all_goals (intro hb hp;try (exfalso;omega))|(with_reducible apply b4 hS);rfl;rfl;rfl;refine ⟨_,d7 _ _ _ _,?_⟩;clear hS;intro w' hS)
   exact m8 (i + 1) (by exact Fr.sub_of rfl) ⟨by omega,hst⟩ hS (by omega)
  ·have hd0:decide (0<=x.proc/\x.proc<=((n:Nat):Int) - 1)=false:=xg8 h0;have hbad:=a2P (n:=(n:Nat)) hx (by
    by_cases h1:0<=x.proc
    ·rw [xg8 (show ¬x.proc < (n:Nat) by omega),xh2]
    ·rw [xg8 h1,xg9])
   repeat' (first|(with_reducible apply a5 a4);rfl;rfl;rfl|(with_reducible apply a6);rfl;(apply Ld.sc a4;rfl;exact hS.roC0 (by assumption) (by assumption) rfl);rfl|(with_reducible apply s9 a4);rfl;rfl;rfl;rfl;omega;rfl|(with_reducible apply a3U);rfl;rfl;omega;omega;rfl|refine yDn (by with_reducible constructor) ?_|(with_reducible apply b6);rfl;all_goals (intro hb hp;try (exfalso;omega))|(with_reducible apply a2r);rfl;all_goals (intro hb hp;try (exfalso;omega))|(with_reducible apply b4 hS);rfl;rfl;rfl;refine ⟨_,d7 _ _ _ _,?_⟩;clear hS;intro w' hS)
   (refine d4 rfl ?_)
   exact ⟨by rw [hbad],hS.sub (xg7 _)⟩
 ·obtain rfl:i=l.length:=by omega
  rw [xf2] at ht
  repeat' (first|(with_reducible apply a5 a4);rfl;rfl;rfl|refine yDn (by with_reducible constructor) ?_|(with_reducible apply b6);rfl;all_goals (intro hb hp;try (exfalso;omega)))
  (refine d4 rfl ?_)
  exact ⟨by rw [ht],hS.sub (xg7 _)⟩
end Go.Proofs.YtejnpppejalhfacGreat
