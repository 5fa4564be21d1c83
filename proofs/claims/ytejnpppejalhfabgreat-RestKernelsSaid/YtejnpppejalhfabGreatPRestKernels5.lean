/- Texts that the proof stands on, one behind the other: Lk2, Lk3, Ke1, PlLnk3, Lk4, Lk5, PlLnk4, Lk6, PlLnk5, PlFix, PlLay, PlLink, Lk8, Lk7, Lk9, Lk10, Lk11, Im2, Im3, Im4, Sc13, Im5, Im6, Im7, Im8, Lk12, Lk14, Lk15, Im9, Im10, Lk16, PlOf, PlRd, Im21, Lk17, Lk18, Ke2, Lk19, Ke3. -/
import Derived.Test.YtejnpppejalhfabGreatPRestKernels4
set_option linter.unusedVariables false
set_option linter.unusedSimpArgs false
namespace Go.Proofs.YtejnpppejalhfabGreat
set_option maxRecDepth 100000
set_option maxHeartbeats 8000000
open Go.RowKit Go.Sort
theorem b0N {A:List Ar} {Lp:List (Sh×Value)} {w:World} {va vs:Value} {en:Int} (hA:Sl nF w 4 va (A.map arC)) (hL:ShsV w Lp vs) (hen:-9223372036854775808<=en) (hen2:en<=9223372036854775807):Fn Tryz.prog 44 [lkA va vs en] w (RBf (.int .i64 (a1n A (shs Lp) en)) w):=by
 have bnd:=hL.sl.bound;have hsl:=hL.sl;obtain ⟨p,c,rfl⟩:=hL.sl.len;unfold lkA;by_cases hc:l5 A=0;rotate_left
 ·have hr:a1n A (shs Lp) en=l5 A:=xf1 hc;have hc':(!decide (l5 A=0))=true:=by rw [xj0 hc];rfl
  rw [hr];refine yEn Tryz.func44 Tryz.ntmps44 (by kernel_rfl) (by kernel_rfl) rfl rfl ?_;have hS:=St.start w
  repeat' (first|(with_reducible apply a8 a7);rfl;rfl;rfl|(with_reducible apply a9);rfl;(apply Ld.sl a7;rfl;exact hS.blkC 0 rfl rfl);rfl|refine yDn (by with_reducible constructor) ?_|(with_reducible apply f6);rfl;assumption|(with_reducible apply l8 hS);rfl;rfl;rfl;clear hS;intro g w' hS|(with_reducible apply d7 hS);rfl;rfl;rfl;refine ⟨_,a6G (hA.now hS),?_⟩;clear hS;intro w' hS)
  (refine k7 rfl ?_)
  exact ⟨rfl,hS.sub (xj1 _)⟩
 have hck:=fun w (h:Sl nF w 4 va (A.map arC))=>a6G h;have htot:=fun w (h:Sl nF w 4 va (A.map arC))=>a6U h;have hfnd:=fun w page (h:Sl nF w 4 va (A.map arC))=>a6f page h;have hfi:∀ page,a5L A page=q8 A page:=fun page=>xf0 hc;simp only [hc,if_true,hfi] at hck htot hfnd;have hr:a1n A (shs Lp) en=if lkB A (shs Lp) en=true then 0 else 1:=xf0 hc;rw [hr];unfold lkB;rw [a0Z];by_cases hn:(Lp.length:Int)=y9 A;rotate_left
 ·have hn':(!decide ((Lp.length:Int)=y9 A))=true:=by rw [xj0 hn];rfl
  rw [xf1 (by rw [xj0 hn];simp)];refine yEn Tryz.func44 Tryz.ntmps44 (by kernel_rfl) (by kernel_rfl) rfl rfl ?_;have hS:=St.start w
  repeat' (first|(with_reducible apply a8 a7);rfl;rfl;rfl|(with_reducible apply a9);rfl;(apply Ld.sl a7;rfl;exact hS.blkC 0 rfl rfl);rfl|refine yDn (by with_reducible constructor) ?_|(with_reducible apply f8);rfl;rfl|(with_reducible apply l8 hS);rfl;rfl;rfl;clear hS;intro g w' hS|(with_reducible apply d7 hS);rfl;rfl;rfl;refine ⟨_,hck _ (hA.now hS),?_⟩;clear hS;intro w' hS)
  (focus ((with_reducible apply d9 _ _ _ (by kernel_rfl) (by kernel_rfl) hS);(repeat' (first|(first|(with_reducible apply i7 a7);rfl;rfl|(with_reducible apply i9);rfl;(intro wd hd;replace hd:St _ _ wd _:=hd;(apply Ld.sl a7;rfl;exact hd.blkC 0 rfl rfl));rfl)|(with_reducible apply y7);rfl;rfl;rfl;refine ⟨_,fun wd hd=>htot _ (hA.now hd),?_⟩));all_goals ((with_reducible apply j7);intro w' hS';clear hS;have hS:=hS';clear hS')))
  repeat' (first|(with_reducible apply a8 a7);rfl;rfl;rfl|refine yDn (by with_reducible constructor) ?_|(with_reducible apply f6);rfl;assumption)
  (refine k7 rfl ?_)
  exact ⟨rfl,hS.sub (xj1 _)⟩
 have hn':(!decide ((Lp.length:Int)=y9 A))=false:=by rw [xj2 hn];rfl
 rw [xj2 hn,xq0];refine yEn Tryz.func44 Tryz.ntmps44 (by kernel_rfl) (by kernel_rfl) rfl rfl ?_;have hS:=St.start w
 repeat' (first|(with_reducible apply a8 a7);rfl;rfl;rfl|(with_reducible apply a9);rfl;(apply Ld.sl a7;rfl;exact hS.blkC 0 rfl rfl);rfl|refine yDn (by with_reducible constructor) ?_|(with_reducible apply f8);rfl;rfl|(with_reducible apply l8 hS);rfl;rfl;rfl;clear hS;intro g w' hS|(with_reducible apply d7 hS);rfl;rfl;rfl;refine ⟨_,hck _ (hA.now hS),?_⟩;clear hS;intro w' hS)
 (focus ((with_reducible apply d9 _ _ _ (by kernel_rfl) (by kernel_rfl) hS);(repeat' (first|(first|(with_reducible apply i7 a7);rfl;rfl|(with_reducible apply i9);rfl;(intro wd hd;replace hd:St _ _ wd _:=hd;(apply Ld.sl a7;rfl;exact hd.blkC 0 rfl rfl));rfl)|(with_reducible apply y7);rfl;rfl;rfl;refine ⟨_,fun wd hd=>htot _ (hA.now hd),?_⟩));all_goals ((with_reducible apply j7);intro w' hS';clear hS;have hS:=hS';clear hS')))
 repeat' (first|(with_reducible apply a8 a7);rfl;rfl;rfl|(with_reducible apply a9);rfl;(apply Ld.sl a7;rfl;exact hS.blkC 0 rfl rfl);rfl|refine yDn (by with_reducible constructor) ?_|(with_reducible apply f8);rfl;assumption)
 refine k9 (X:=Nat×Int) (fun x=>[(27,.int .i64 (x.1:Nat)),(4,.int .i64 x.2)]) [1,25,26] rfl (fun _=>[]) (fun x=>x.1<=Lp.length/\a7v A 0 (shs Lp)=a7v A x.2 ((shs Lp).drop x.1)) (fun x=>Lp.length - x.1) (0,0) (by exact Fr.sub_of rfl) (by simp) hS ?_;clear hS;rintro ⟨i,last⟩ w1 ⟨hi,hok⟩ hS;dsimp only [List.cons_append,List.nil_append] at hi hok hS |-;by_cases hlt:i < Lp.length
 ·obtain ⟨x,hx⟩:=j0 (l:=Lp) (i:=i) (by omega);have hrow:=c9 (f:=fun p=>shC p.1 p.2) hx;obtain ⟨b,off,rfl,hro⟩:=hsl.at_ (i:=i) hlt;have hst:=b2K (A:=A) (last:=last) (a24 hx);have hfx:=hL.fx x (xd0 hx);have hfi2:=fun w h=>hfnd w x.1.page h;obtain ⟨S,u⟩:=x;dsimp only [shC] at hrow hst hfx hfi2;obtain ⟨pu,cu,rfl⟩:=hfx.len;have hrt:=fun w (h:ShV w S (.slice pu S.fixes.length cu))=>a9D h;rw [hst] at hok
  cases hf:q8 A S.page with
  |none=>
   simp only [hf] at hfi2;have ha:a7s A S.page=false:=by unfold a7s;rw [hf]
   rw [ha,xq1] at hok
   repeat' (first|(with_reducible apply a8 a7);rfl;rfl;rfl|(with_reducible apply a9);rfl;(first|apply Ld.sc a7;rfl;exact hS.blkC 0 rfl rfl|apply Ld.sl a7;rfl;exact hS.blkC 1 rfl rfl|apply Ld.st a7;rfl;exact hS.roR (by assumption) (by assumption);rfl);rfl|(with_reducible apply l7 a7);rfl;rfl;rfl;rfl;omega;rfl|refine yDn (by with_reducible constructor) ?_|(with_reducible apply x8);(iterate 4 rfl);rfl;rfl|(with_reducible apply j3);rfl;rfl;rfl;rfl|(with_reducible apply f6);rfl;rfl|(with_reducible apply d8 hS a7);rfl;rfl;rfl;clear hS;intro g w' hS|(with_reducible apply b8 hS a7 (i:=0));(iterate 8 rfl);(first|exact (rfl:_=[_,_,_])|exact (rfl:_=[_,_,_,_]));clear hS;intro w' hS;simp only [List.set] at hS|(with_reducible apply b9);rfl;all_goals (intro hb hp;try (exfalso;omega))|(with_reducible apply d7 hS);rfl;rfl;rfl;refine ⟨_,hfi2 _ (hA.now hS),?_⟩;clear hS;intro w' hS)
   (refine k7 rfl ?_)
   exact ⟨by rw [hok];rfl,hS.sub (xj1 _)⟩
  |some a=>
   simp only [hf] at hfi2;obtain ⟨pg,n,prot,z⟩:=a
   cases z with
   |true=>
    have ha:a7s A S.page=false:=by unfold a7s;rw [hf];rfl
    rw [ha,xq1] at hok
    repeat' (first|(with_reducible apply a8 a7);rfl;rfl;rfl|(with_reducible apply a9);rfl;(first|apply Ld.sc a7;rfl;exact hS.blkC 0 rfl rfl|apply Ld.sl a7;rfl;exact hS.blkC 1 rfl rfl|apply Ld.st a7;rfl;exact hS.roR (by assumption) (by assumption);rfl);rfl|(with_reducible apply l7 a7);rfl;rfl;rfl;rfl;omega;rfl|refine yDn (by with_reducible constructor) ?_|(with_reducible apply k8);(iterate 4 rfl);rfl|(with_reducible apply x8);(iterate 4 rfl);rfl;rfl|(with_reducible apply j3);rfl;rfl;rfl;rfl|(with_reducible apply f5);rfl;rfl;rfl;rfl|(with_reducible apply f6);rfl;rfl|(with_reducible apply d8 hS a7);rfl;rfl;rfl;clear hS;intro g w' hS|(with_reducible apply b8 hS a7 (i:=0));(iterate 8 rfl);(first|exact (rfl:_=[_,_,_])|exact (rfl:_=[_,_,_,_]));clear hS;intro w' hS;simp only [List.set] at hS|(with_reducible apply b9);rfl;all_goals (intro hb hp;try (exfalso;omega))|(with_reducible apply d7 hS);rfl;rfl;rfl;refine ⟨_,hfi2 _ (hA.now hS),?_⟩;clear hS;intro w' hS)
    (refine k7 rfl ?_)
    exact ⟨by rw [hok];rfl,hS.sub (xj1 _)⟩
   |false=>
    have ha:a7s A S.page=true:=by unfold a7s;rw [hf];rfl
    rw [ha,xq0] at hok
    cases hR:t8 S with
    |false=>
     simp only [hR] at hrt;rw [hR,xq1] at hok
     repeat' (first|(with_reducible apply a8 a7);rfl;rfl;rfl|(with_reducible apply a9);rfl;(first|apply Ld.sc a7;rfl;exact hS.blkC 0 rfl rfl|apply Ld.sl a7;rfl;exact hS.blkC 1 rfl rfl|apply Ld.st a7;rfl;(first|exact hS.blkR 1 rfl|exact hS.roR (by assumption) (by assumption));rfl);rfl|(with_reducible apply l7 a7);rfl;rfl;rfl;rfl;omega;rfl|refine yDn (by with_reducible constructor) ?_|(with_reducible apply k8);(iterate 4 rfl);rfl|(with_reducible apply x8);(iterate 4 rfl);rfl;rfl|(with_reducible apply j3);rfl;rfl;rfl;rfl|(with_reducible apply f5);rfl;rfl;rfl;rfl|(with_reducible apply f6);rfl;rfl|(with_reducible apply d8 hS a7);rfl;rfl;rfl;clear hS;intro g w' hS|(with_reducible apply b8 hS a7 (i:=0));(iterate 8 rfl);(first|exact (rfl:_=[_,_,_])|exact (rfl:_=[_,_,_,_]));clear hS;intro w' hS;simp only [List.set] at hS|(with_reducible apply b9);rfl;all_goals (intro hb hp;try (exfalso;omega))|(with_reducible apply d7 hS);rfl;rfl;rfl;refine ⟨_,hfi2 _ (hA.now hS),?_⟩;clear hS;intro w' hS|(with_reducible apply d7 hS);rfl;rfl;rfl;refine ⟨_,hrt _ (hfx.now hS),?_⟩;clear hS;intro w' hS)
     (refine k7 rfl ?_)
     exact ⟨by rw [hok];rfl,hS.sub (xj1 _)⟩
    |true=>
     simp only [hR] at hrt;rw [hR,xq0] at hok;by_cases hlp:last < S.page
     ·rw [xj2 hlp,xq0] at hok
      repeat' (first|(with_reducible apply a8 a7);rfl;rfl;rfl|(with_reducible apply a9);rfl;(first|apply Ld.sc a7;rfl;(first|exact hS.blkC 0 rfl rfl|exact hS.blkC 1 rfl rfl)|apply Ld.sl a7;rfl;exact hS.blkC 1 rfl rfl|apply Ld.st a7;rfl;(first|exact hS.blkR 1 rfl|exact hS.roR (by assumption) (by assumption));rfl);rfl|(with_reducible apply l7 a7);rfl;rfl;rfl;rfl;omega;rfl|(with_reducible apply j4);rfl;rfl;omega;omega;rfl|refine yDn (by with_reducible constructor) ?_|(with_reducible apply k8);(iterate 4 rfl);rfl|(with_reducible apply f5);rfl;rfl;rfl;rfl|(with_reducible apply d8 hS a7);rfl;rfl;rfl;clear hS;intro g w' hS|(with_reducible apply b8 hS a7 (i:=0));(iterate 8 rfl);(first|exact (rfl:_=[_,_,_])|exact (rfl:_=[_,_,_,_]));clear hS;intro w' hS;simp only [List.set] at hS|(with_reducible apply b9);rfl;all_goals (intro hb hp;try (exfalso;omega))|(with_reducible apply d7 hS);rfl;rfl;rfl;refine ⟨_,hfi2 _ (hA.now hS),?_⟩;clear hS;intro w' hS|(with_reducible apply d7 hS);rfl;rfl;rfl;refine ⟨_,hrt _ (hfx.now hS),?_⟩;clear hS;intro w' hS)
      exact e9 (i + 1,S.page) (by exact Fr.sub_of rfl) ⟨by show i + 1<=Lp.length;omega,hok⟩ (hS.reorder [2] (by decide) rfl) (by show Lp.length - (i + 1) < Lp.length - i;omega)
     ·rw [xj0 hlp,xq1] at hok
      repeat' (first|(with_reducible apply a8 a7);rfl;rfl;rfl|(with_reducible apply a9);rfl;(first|apply Ld.sc a7;rfl;(first|exact hS.blkC 0 rfl rfl|exact hS.blkC 1 rfl rfl)|apply Ld.sl a7;rfl;exact hS.blkC 1 rfl rfl|apply Ld.st a7;rfl;(first|exact hS.blkR 1 rfl|exact hS.roR (by assumption) (by assumption));rfl);rfl|(with_reducible apply l7 a7);rfl;rfl;rfl;rfl;omega;rfl|refine yDn (by with_reducible constructor) ?_|(with_reducible apply k8);(iterate 4 rfl);rfl|(with_reducible apply f5);rfl;rfl;rfl;rfl|(with_reducible apply d8 hS a7);rfl;rfl;rfl;clear hS;intro g w' hS|(with_reducible apply b8 hS a7 (i:=0));(iterate 8 rfl);(first|exact (rfl:_=[_,_,_])|exact (rfl:_=[_,_,_,_]));clear hS;intro w' hS;simp only [List.set] at hS|(with_reducible apply b9);rfl;all_goals (intro hb hp;try (exfalso;omega))|(with_reducible apply d7 hS);rfl;rfl;rfl;refine ⟨_,hfi2 _ (hA.now hS),?_⟩;clear hS;intro w' hS|(with_reducible apply d7 hS);rfl;rfl;rfl;refine ⟨_,hrt _ (hfx.now hS),?_⟩;clear hS;intro w' hS)
      (refine k7 rfl ?_)
      exact ⟨by rw [hok];rfl,hS.sub (xj1 _)⟩
 rw [xj7 (by rw [a0Z];omega)] at hok;have hrv:(if (a7v A 0 (shs Lp) && a6J A en)=true then (0:Int) else 1)=if a6J A en=true then 0 else 1:=by
  simp only [hok,a7v,xq0]
 rw [hrv];have hfe:=fun w h=>hfnd w (en.tdiv 16) h;by_cases he:0<=en/\en.tmod 8=0;rotate_left
 ·have hE:a6J A en=false:=by unfold a6J;rw [xj0 he];rfl
  rw [hE];have hrv2:(if false=true then (0:Int) else 1)=1:=rfl
  repeat' (first|(with_reducible apply a8 a7);rfl;rfl;rfl|(with_reducible apply a9);rfl;(apply Ld.sc a7;rfl;exact hS.blkC 0 rfl rfl);rfl|refine yDn (by with_reducible constructor) ?_|(with_reducible apply k8);(iterate 4 rfl);assumption|(with_reducible apply x8);(iterate 4 rfl);assumption;rfl|(with_reducible apply j3);rfl;assumption;rfl;rfl|(with_reducible apply f5);rfl;assumption;rfl;rfl|(with_reducible apply f6);rfl;rfl|(with_reducible apply q7);rfl;rfl;rfl;all_goals (intro hb hp;try (exfalso;omega))|(with_reducible apply b9);rfl;all_goals (intro hb hp;try (exfalso;omega))|(with_reducible apply a08);rfl;all_goals (intro hb hp;try (exfalso;omega))|(with_reducible apply a5m);rfl;rfl;omega;rfl)
  all_goals (refine k7 rfl ?_;exact ⟨rfl,hS.sub (xj1 _)⟩)
 cases hf:q8 A (en.tdiv 16) with
 |none=>
  simp only [hf] at hfe;have hE:a6J A en=false:=by unfold a6J;rw [hf];simp
  rw [hE]
  repeat' (first|(with_reducible apply a8 a7);rfl;rfl;rfl|(with_reducible apply a9);rfl;(first|apply Ld.sc a7;rfl;exact hS.blkC 0 rfl rfl|apply Ld.sl a7;rfl;exact hS.blkC 0 rfl rfl);rfl|refine yDn (by with_reducible constructor) ?_|(with_reducible apply k8);(iterate 4 rfl);assumption|(with_reducible apply x8);(iterate 4 rfl);rfl;rfl|(with_reducible apply j3);rfl;rfl;rfl;rfl|(with_reducible apply f5);rfl;assumption;rfl;rfl|(with_reducible apply f6);rfl;rfl|(with_reducible apply d8 hS a7);rfl;rfl;rfl;clear hS;intro g w' hS|(with_reducible apply b8 hS a7 (i:=0));(iterate 8 rfl);exact (rfl:_=[_,_,_,_]);clear hS;intro w' hS;simp only [List.set] at hS|(with_reducible apply q7);rfl;rfl;rfl;all_goals (intro hb hp;try (exfalso;omega))|(with_reducible apply b9);rfl;all_goals (intro hb hp;try (exfalso;omega))|(with_reducible apply a08);rfl;all_goals (intro hb hp;try (exfalso;omega))|(with_reducible apply a5m);rfl;rfl;omega;rfl|(with_reducible apply a2d);rfl;rfl;omega;omega;omega;rfl|(with_reducible apply d7 hS);rfl;rfl;rfl;refine ⟨_,hfe _ (hA.now hS),?_⟩;clear hS;intro w' hS)
  (refine k7 rfl ?_)
  exact ⟨rfl,hS.sub (xj1 _)⟩
 |some a=>
  simp only [hf] at hfe;have hok2:=(a1i hc hf).1;unfold Ar.ok at hok2;obtain ⟨pg,n,prot,z⟩:=a;dsimp only at hok2;have ha2:=b7I (p:=prot) (by omega) (by omega);by_cases h2:2<=prot
  ·have hE:a6J A en=true:=by unfold a6J;rw [hf,xj2 he];simp [h2]
   rw [hE];rw [xf0 h2] at ha2
   repeat' (first|(with_reducible apply a8 a7);rfl;rfl;rfl|(with_reducible apply a9);rfl;(first|apply Ld.sc a7;rfl;exact hS.blkC 0 rfl rfl|apply Ld.sl a7;rfl;exact hS.blkC 0 rfl rfl);rfl|refine yDn (by with_reducible constructor) ?_|((with_reducible apply k8);(iterate 4 rfl);first|rfl|assumption)|(with_reducible apply f5);rfl;(first|rfl|assumption);rfl;rfl|(with_reducible apply f8);rfl;rfl|(with_reducible apply d8 hS a7);rfl;rfl;rfl;clear hS;intro g w' hS|(with_reducible apply b8 hS a7 (i:=0));(iterate 8 rfl);exact (rfl:_=[_,_,_,_]);clear hS;intro w' hS;simp only [List.set] at hS|(with_reducible apply q7);rfl;rfl;rfl;all_goals (intro hb hp;try (exfalso;omega))|(with_reducible apply b9);rfl;all_goals (intro hb hp;try (exfalso;omega))|(with_reducible apply a08);rfl;all_goals (intro hb hp;try (exfalso;omega))|(with_reducible apply a5m);rfl;rfl;omega;rfl|(with_reducible apply a2d);rfl;rfl;omega;omega;omega;rfl|(with_reducible apply d7 hS);rfl;rfl;rfl;refine ⟨_,hfe _ (hA.now hS),?_⟩;clear hS;intro w' hS|(with_reducible apply a77);rfl;rfl;exact ha2;rfl)
   (refine k7 rfl ?_)
   exact ⟨rfl,hS.sub (xj1 _)⟩
  ·have hE:a6J A en=false:=by unfold a6J;rw [hf];simp [h2]
   rw [hE];rw [xf1 h2] at ha2
   repeat' (first|(with_reducible apply a8 a7);rfl;rfl;rfl|(with_reducible apply a9);rfl;(first|apply Ld.sc a7;rfl;exact hS.blkC 0 rfl rfl|apply Ld.sl a7;rfl;exact hS.blkC 0 rfl rfl);rfl|refine yDn (by with_reducible constructor) ?_|((with_reducible apply k8);(iterate 4 rfl);first|rfl|assumption)|(with_reducible apply f5);rfl;(first|rfl|assumption);rfl;rfl|(with_reducible apply f6);rfl;rfl|(with_reducible apply d8 hS a7);rfl;rfl;rfl;clear hS;intro g w' hS|(with_reducible apply b8 hS a7 (i:=0));(iterate 8 rfl);exact (rfl:_=[_,_,_,_]);clear hS;intro w' hS;simp only [List.set] at hS|(with_reducible apply q7);rfl;rfl;rfl;all_goals (intro hb hp;try (exfalso;omega))|(with_reducible apply b9);rfl;all_goals (intro hb hp;try (exfalso;omega))|(with_reducible apply a08);rfl;all_goals (intro hb hp;try (exfalso;omega))|(with_reducible apply a5m);rfl;rfl;omega;rfl|(with_reducible apply a2d);rfl;rfl;omega;omega;omega;rfl|(with_reducible apply d7 hS);rfl;rfl;rfl;refine ⟨_,hfe _ (hA.now hS),?_⟩;clear hS;intro w' hS|(with_reducible apply a77);rfl;rfl;exact ha2;rfl)
   (refine k7 rfl ?_)
   exact ⟨rfl,hS.sub (xj1 _)⟩
theorem a7a {l:List Sh} {i:Nat} {s:Sh} {last:Int} (h:l[i]?=some s):a0C last (l.drop i)=(t8 s && (decide (last < s.page) && a0C s.page (l.drop (i + 1)))):=by
 rw [a3a h];rfl
theorem a4j {S:Sh} (h:t8 S=true):1<=S.page/\S.page<=255:=by
 unfold t8 at h;simp only [xb2,xb3] at h;exact h.1.1
theorem a7l {Lp:List (Sh×Value)} {w:World} {vs:Value} (hL:ShsV w Lp vs):Fn Tryz.prog 68 [vs] w (RBf (.bool (a0C 0 (shs Lp))) w):=by
 have bnd:=hL.sl.bound;have hsl:=hL.sl;obtain ⟨p,c,rfl⟩:=hL.sl.len;refine yEn Tryz.func68 Tryz.ntmps68 (by kernel_rfl) (by kernel_rfl) rfl rfl ?_;have hS:=St.start w
 repeat' (first|(with_reducible apply a8 a7);rfl;rfl;rfl|refine yDn (by with_reducible constructor) ?_)
 refine k9 (X:=Nat×Int) (fun x=>[(3,.int .i64 (x.1:Nat))]) [0] rfl (fun _=>[]) (fun x=>x.1<=Lp.length/\((x.1=0/\x.2=0)\/(0 < x.1/\∃ y,Lp[x.1 - 1]?=some y/\x.2=y.1.page))/\a0C 0 (shs Lp)=a0C x.2 ((shs Lp).drop x.1)) (fun x=>Lp.length - x.1) (0,0) (by exact Fr.sub_of rfl) (by simp) hS ?_;clear hS;rintro ⟨i,last⟩ w1 ⟨hi,hlast,hok⟩ hS;dsimp only [List.cons_append,List.nil_append] at hi hlast hok hS |-;by_cases hlt:i < Lp.length;rotate_left
 ·rw [xj7 (by rw [a0Z];omega)] at hok
  repeat' (first|(with_reducible apply a8 a7);rfl;rfl;rfl|refine yDn (by with_reducible constructor) ?_|(with_reducible apply b9);rfl;all_goals (intro hb hp;try (exfalso;omega)))
  (refine k7 rfl ?_)
  exact ⟨by rw [hok];rfl,hS.sub (xj1 _)⟩
 obtain ⟨x,hx⟩:=j0 (l:=Lp) (i:=i) (by omega);have hrow:=c9 (f:=fun p=>shC p.1 p.2) hx;obtain ⟨b,off,rfl,hro⟩:=hsl.at_ (i:=i) hlt;have hst:=a7a (last:=last) (a24 hx);have hfx:=hL.fx x (xd0 hx);obtain ⟨S,u⟩:=x;dsimp only [shC] at hrow hst hfx;obtain ⟨pu,cu,rfl⟩:=hfx.len;have hfine:=fun w (h:ShV w S (.slice pu S.fixes.length cu))=>a8w h;rw [hst] at hok
 cases hR:t8 S with
 |false=>
  simp only [hR] at hfine;rw [hR,xq1] at hok
  repeat' (first|(with_reducible apply a8 a7);rfl;rfl;rfl|refine yDn (by with_reducible constructor) ?_|(with_reducible apply b9);rfl;all_goals (intro hb hp;try (exfalso;omega)))
  (focus ((with_reducible apply d9 _ _ _ (by kernel_rfl) (by kernel_rfl) hS);(repeat' (first|(first|(with_reducible apply i7 a7);rfl;rfl|(with_reducible apply i9);rfl;(intro wd hd;replace hd:St _ _ wd _:=hd;(apply Ld.st a7;rfl;exact hd.roR (by assumption) (by assumption);rfl));rfl|(with_reducible apply y8 a7);rfl;rfl;rfl;rfl;omega;rfl|(first|(with_reducible apply a14);(iterate 4 rfl);rfl;rfl|(with_reducible apply a2G);(iterate 5 rfl)|(with_reducible apply t7);rfl;rfl;rfl;rfl))|(with_reducible apply y7);rfl;rfl;rfl;refine ⟨_,fun wd hd=>hfine _ (hfx.now hd),?_⟩));all_goals ((with_reducible apply j7);intro w' hS';clear hS;have hS:=hS';clear hS')))
  all_goals (repeat' (first|(with_reducible apply a8 a7);rfl;rfl;rfl|refine yDn (by with_reducible constructor) ?_|(with_reducible apply f6);rfl;rfl))
  all_goals ((refine k7 rfl ?_))
  all_goals exact ⟨by rw [hok],hS.sub (xj1 _)⟩
 |true=>
  simp only [hR] at hfine;rw [hR,xq0] at hok;have hpg:=a4j hR;rcases hlast with ⟨rfl,rfl⟩|⟨hi0,y,hy,rfl⟩
  ·rw [xj2 (show (0:Int) < S.page by omega),xq0] at hok
   repeat' (first|(with_reducible apply a8 a7);rfl;rfl;rfl|refine yDn (by with_reducible constructor) ?_|(with_reducible apply b9);rfl;all_goals (intro hb hp;try (exfalso;omega)))
   (focus ((with_reducible apply d9 _ _ _ (by kernel_rfl) (by kernel_rfl) hS);(repeat' (first|(first|(with_reducible apply i7 a7);rfl;rfl|(with_reducible apply i9);rfl;(intro wd hd;replace hd:St _ _ wd _:=hd;(apply Ld.st a7;rfl;exact hd.roR (by assumption) (by assumption);rfl));rfl|(with_reducible apply y8 a7);rfl;rfl;rfl;rfl;omega;rfl|(first|(with_reducible apply a0t);(iterate 4 rfl);rfl|(with_reducible apply a14);(iterate 4 rfl);rfl;rfl|(with_reducible apply r7);rfl;rfl;rfl;rfl))|(with_reducible apply y7);rfl;rfl;rfl;refine ⟨_,fun wd hd=>hfine _ (hfx.now hd),?_⟩));all_goals ((with_reducible apply j7);intro w' hS';clear hS;have hS:=hS';clear hS')))
   repeat' (first|(with_reducible apply a8 a7);rfl;rfl;rfl|(with_reducible apply j4);rfl;rfl;omega;omega;rfl|refine yDn (by with_reducible constructor) ?_|(with_reducible apply f8);rfl;rfl)
   exact e9 (1,S.page) (by exact Fr.sub_of rfl) ⟨by show 1<=Lp.length;omega,xd3 ⟨by show 0 < 1;omega,_,hx,rfl⟩,hok⟩ hS (by show Lp.length - 1 < Lp.length - 0;omega)
  ·have e1:((i:Int) - 1).toNat=i - 1:=by omega
   have hrow2:(Lp.map fun p=>shC p.1 p.2)[((i:Int) - 1).toNat]?=some (shC y.1 y.2):=by rw [e1];exact c9 (f:=fun p=>shC p.1 p.2) hy
   obtain ⟨S2,u2⟩:=y;dsimp only [shC] at hrow2 hok;by_cases hlp:S2.page < S.page
   ·rw [xj2 hlp,xq0] at hok;have hd1:decide (S.page<=S2.page)=false:=xj0 (by omega)
    repeat' (first|(with_reducible apply a8 a7);rfl;rfl;rfl|refine yDn (by with_reducible constructor) ?_|(with_reducible apply b9);rfl;all_goals (intro hb hp;try (exfalso;omega)))
    (focus ((with_reducible apply d9 _ _ _ (by kernel_rfl) (by kernel_rfl) hS);(repeat' (first|(first|(with_reducible apply a1C);rfl;rfl;omega;omega;rfl|(with_reducible apply i7 a7);rfl;rfl|(with_reducible apply i9);rfl;(intro wd hd;replace hd:St _ _ wd _:=hd;(first|apply Ld.sc a7;rfl;exact hd.roC0 (by assumption) (by assumption) rfl|apply Ld.st a7;rfl;exact hd.roR (by assumption) (by assumption);rfl));rfl|(with_reducible apply y8 a7);rfl;rfl;rfl;(first|rfl|exact xn8 (by omega));omega;rfl|(first|((with_reducible apply a0t);(iterate 4 rfl);first|rfl|assumption)|(with_reducible apply a0F);rfl;rfl;rfl;all_goals (intro hb hp;try (exfalso;omega))|(with_reducible apply t7);rfl;assumption;rfl;rfl|(with_reducible apply r7);rfl;rfl;rfl;rfl))|(with_reducible apply y7);rfl;rfl;rfl;refine ⟨_,fun wd hd=>hfine _ (hfx.now hd),?_⟩));all_goals ((with_reducible apply j7);intro w' hS';clear hS;have hS:=hS';clear hS')))
    repeat' (first|(with_reducible apply a8 a7);rfl;rfl;rfl|(with_reducible apply j4);rfl;rfl;omega;omega;rfl|refine yDn (by with_reducible constructor) ?_|(with_reducible apply f8);rfl;assumption)
    exact e9 (i + 1,S.page) (by exact Fr.sub_of rfl) ⟨by show i + 1<=Lp.length;omega,xd3 ⟨by show 0 < i + 1;omega,_,hx,rfl⟩,hok⟩ hS (by show Lp.length - (i + 1) < Lp.length - i;omega)
   ·rw [xj0 hlp,xq1] at hok;have hd1:decide (S.page<=S2.page)=true:=xj2 (by omega)
    repeat' (first|(with_reducible apply a8 a7);rfl;rfl;rfl|refine yDn (by with_reducible constructor) ?_|(with_reducible apply b9);rfl;all_goals (intro hb hp;try (exfalso;omega)))
    (focus ((with_reducible apply d9 _ _ _ (by kernel_rfl) (by kernel_rfl) hS);(repeat' (first|(first|(with_reducible apply a1C);rfl;rfl;omega;omega;rfl|(with_reducible apply i7 a7);rfl;rfl|(with_reducible apply i9);rfl;(intro wd hd;replace hd:St _ _ wd _:=hd;(first|apply Ld.sc a7;rfl;exact hd.roC0 (by assumption) (by assumption) rfl|apply Ld.st a7;rfl;exact hd.roR (by assumption) (by assumption);rfl));rfl|(with_reducible apply y8 a7);rfl;rfl;rfl;(first|rfl|exact xn8 (by omega));omega;rfl|(first|((with_reducible apply a0t);(iterate 4 rfl);first|rfl|assumption)|(with_reducible apply a0F);rfl;rfl;rfl;all_goals (intro hb hp;try (exfalso;omega))|(with_reducible apply t7);rfl;assumption;rfl;rfl|(with_reducible apply r7);rfl;rfl;rfl;rfl))|(with_reducible apply y7);rfl;rfl;rfl;refine ⟨_,fun wd hd=>hfine _ (hfx.now hd),?_⟩));all_goals ((with_reducible apply j7);intro w' hS';clear hS;have hS:=hS';clear hS')))
    repeat' (first|(with_reducible apply a8 a7);rfl;rfl;rfl|refine yDn (by with_reducible constructor) ?_|(with_reducible apply f6);rfl;assumption)
    (refine k7 rfl ?_)
    exact ⟨by rw [hok],hS.sub (xj1 _)⟩
theorem b2y (S:Sh) (u:Value) (t:Int) (w:World) (ho:u.oneCell'=true) (h1:-9223372036854775808<=S.page - t) (h2:S.page - t<=9223372036854775807):Fn Tryz.prog 131 [.agg (shC S u).toArray,.int .i64 t] w (RBf (.int .i64 (S.page - t)) w):=by
 unfold shC;refine yEn Tryz.func131 Tryz.ntmps131 (by kernel_rfl) (by kernel_rfl) rfl rfl ?_;have hS:=St.start w
 repeat' (first|(with_reducible apply a8 a7);rfl;rfl;rfl|(with_reducible apply a9);rfl;(apply Ld.sc a7;rfl;exact hS.blkC 0 rfl rfl);rfl|(with_reducible apply a0m);rfl;rfl;omega;omega;rfl|refine yDn (by with_reducible constructor) ?_|(with_reducible apply l8 hS);rfl;rfl;rfl;clear hS;intro g w' hS)
 (refine k7 rfl ?_)
 exact ⟨rfl,hS.sub (xj1 _)⟩
theorem b2h (e:En) (t:Int) (w:World) (h1:-9223372036854775808<=e.page - t) (h2:e.page - t<=9223372036854775807):Fn Tryz.prog 129 [.agg (enC e).toArray,.int .i64 t] w (RBf (.int .i64 (e.page - t)) w):=by
 unfold enC;refine yEn Tryz.func129 Tryz.ntmps129 (by kernel_rfl) (by kernel_rfl) rfl rfl ?_;have hS:=St.start w
 repeat' (first|(with_reducible apply a8 a7);rfl;rfl;rfl|(with_reducible apply a9);rfl;(apply Ld.sc a7;rfl;exact hS.blkC 0 rfl rfl);rfl|(with_reducible apply a0m);rfl;rfl;omega;omega;rfl|refine yDn (by with_reducible constructor) ?_|(with_reducible apply l8 hS);rfl;rfl;rfl;clear hS;intro g w' hS)
 (refine k7 rfl ?_)
 exact ⟨rfl,hS.sub (xj1 _)⟩
def BsV (l:List Int) (t:Int):Value:=.tuple #[.int .i64 (lbd l t:Nat),.bool (decide (t ∈ l))]
theorem b5u {L:List (Sh×Value)} {w:World} {v:Value} {t:Int} (hL:Sl nF w 3 v (L.map fun p=>shC p.1 p.2)) (hr:Rises (L.map fun p=>p.1.page)) (hb:∀ q ∈ L.map fun p=>p.1.page,-9223372036854775808<=q - t/\q - t<=9223372036854775807) (ho:∀ p ∈ L,p.2.oneCell'=true) :
  Fn Tryz.prog 130 [v,.int .i64 t,.func (.func 131) #[] #[]] w (RBf (BsV (L.map fun p=>p.1.page) t) w):=by
 have hc:=fun (x:Sh×Value) (hx:x ∈ L) w=>b2y x.1 x.2 t w (ho x hx);have bnd:=hL.bound;obtain ⟨p,c,rfl⟩:=hL.len;refine yEn Tryz.func130 Tryz.ntmps130 (by kernel_rfl) (by kernel_rfl) rfl rfl ?_;have hS:=St.start w
 repeat' (first|(with_reducible apply a8 a7);rfl;rfl;rfl|refine yDn (by with_reducible constructor) ?_)
 refine k9 (X:=Nat×Nat) (fun x=>[(9,.int .i64 (x.1:Nat)),(10,.int .i64 (x.2:Nat))]) [0,1,2,8] rfl (fun _=>[]) (fun x=>x.1<=x.2/\x.2<=L.length/\(∀ (j:Nat) (q:Int),j < x.1->(L.map (fun p=>p.1.page))[j]?=some q->q < t)/\(∀ (j:Nat) (q:Int),x.2<=j->(L.map (fun p=>p.1.page))[j]?=some q->t<=q)) (fun x=>x.2 - x.1) (0,L.length) (by exact Fr.sub_of rfl) ⟨xg4 _,xd4 _,fun j q h=>by omega,fun j q h hq=>by have:=d6 hq;rw [xi9] at this;omega⟩ hS ?_;clear hS;rintro ⟨i,j⟩ w1 ⟨hij,hj,hlo,hhi⟩ hS;dsimp only [List.cons_append,List.nil_append] at hij hj hlo hhi hS |-;by_cases hlt:i < j
 ·obtain ⟨hm0,hm1⟩:i<=(i + j) / 2/\(i + j) / 2 < j:=by omega
  obtain ⟨h,hh⟩:∃ h,h=(i + j) / 2:=⟨_,rfl⟩;rw [<- hh] at hm0 hm1;have ehi:((i:Int) + (j:Int)) / 2=(h:Nat):=by omega
  obtain ⟨x,hx⟩:=j0 (l:=L) (i:=h) (by omega);have hrow:=c9 (f:=(fun p=>shC p.1 p.2)) hx;have hpx:=c9 (f:=(fun p=>p.1.page)) hx;have hbx:=hb _ (xd0 hpx);obtain ⟨b,off,rfl,hro⟩:=hL.at_ (i:=h) (by omega);have hcmp:=hc x (xd0 hx)
  repeat' (first|(with_reducible apply a8 a7);rfl;rfl;rfl|(with_reducible apply a6h a7);rfl;rfl|refine yDn (by with_reducible constructor) ?_|(with_reducible apply b9);rfl;all_goals (intro hb hp;try (exfalso;omega))|(with_reducible apply b2Z);rfl;rfl;rfl)
  rw [a7W (by omega) (by omega) ehi (by omega)];by_cases hp:x.1.page < t
  ·have hd:decide (x.1.page - t < 0)=true:=xj2 (by omega)
   repeat' (first|(with_reducible apply a8 a7);rfl;rfl;rfl|(with_reducible apply a9);rfl;(apply Ld.st a7;rfl;exact hS.roR (by assumption) (by assumption);rfl);rfl|(with_reducible apply l7 a7);rfl;rfl;rfl;rfl;omega;rfl|(with_reducible apply j4);rfl;rfl;omega;omega;rfl|refine yDn (by with_reducible constructor) ?_|(with_reducible apply f6);rfl;assumption|(with_reducible apply d7 hS);rfl;rfl;rfl;refine ⟨_,hcmp _ (by omega) (by omega),?_⟩;clear hS;intro w' hS)
   refine e9 (h + 1,j) (by exact Fr.sub_of rfl) ⟨by show h + 1<=j;omega,hj,fun k q hk hq=>?_,hhi⟩ hS (by show j - (h + 1) < j - i;omega);rcases xo8 k h with h1|h1
   ·exact Int.lt_trans (hr.at_ h1 hq hpx) hp
   ·obtain rfl:k=h:=by have:k < h + 1:=hk;omega
    rw [hpx] at hq
    cases hq
    exact hp
  ·have hd:decide (x.1.page - t < 0)=false:=xj0 (by omega)
   repeat' (first|(with_reducible apply a8 a7);rfl;rfl;rfl|(with_reducible apply a9);rfl;(apply Ld.st a7;rfl;exact hS.roR (by assumption) (by assumption);rfl);rfl|(with_reducible apply l7 a7);rfl;rfl;rfl;rfl;omega;rfl|refine yDn (by with_reducible constructor) ?_|(with_reducible apply f8);rfl;assumption|(with_reducible apply d7 hS);rfl;rfl;rfl;refine ⟨_,hcmp _ (by omega) (by omega),?_⟩;clear hS;intro w' hS)
   refine e9 (i,h) (by exact Fr.sub_of rfl) ⟨by show i<=h;omega,by show h<=_;omega,hlo,fun k q hk hq=>?_⟩ hS (by show h - i < j - i;omega);rcases xo8 h k with h1|h1
   ·have:=hr.at_ h1 hpx hq;have hp':¬ x.1.page < t:=hp;omega
   ·obtain rfl:k=h:=by have:h<=k:=hk;omega
    rw [hpx] at hq
    cases hq
    have hp':¬ x.1.page < t:=hp;omega
 ·obtain rfl:i=j:=by omega
  have hlb:lbd (L.map (fun p=>p.1.page)) t=i:=a8R (by rw [xi9];omega) hlo (fun q hq=>hhi i q (xd4 _) hq);unfold BsV;rw [hlb];by_cases hil:i < L.length
  ·obtain ⟨x,hx⟩:=j0 (l:=L) (i:=i) (by omega);have hrow:=c9 (f:=(fun p=>shC p.1 p.2)) hx;have hpx:=c9 (f:=(fun p=>p.1.page)) hx;have hbx:=hb _ (xd0 hpx);obtain ⟨b,off,rfl,hro⟩:=hL.at_ (i:=i) (by omega);have hcmp:=hc x (xd0 hx);have hiff:=a1l hr t;rw [hlb,hpx] at hiff;have hdm:decide (t ∈ L.map (fun p=>p.1.page))=decide (x.1.page - t=0):=by
    rw [xo2,<- hiff];constructor
    ·intro h;have h2:x.1.page=t:=Option.some.inj h;omega
    ·intro h;have h2:x.1.page=t:=by omega
     rw [h2]
   rw [hdm]
   repeat' (first|(with_reducible apply a8 a7);rfl;rfl;rfl|(with_reducible apply a9);rfl;(apply Ld.st a7;rfl;exact hS.roR (by assumption) (by assumption);rfl);rfl|(with_reducible apply l7 a7);rfl;rfl;rfl;rfl;omega;rfl|refine yDn (by with_reducible constructor) ?_|(with_reducible apply k8);(iterate 4 rfl);assumption|(with_reducible apply j3);rfl;assumption;rfl;rfl|(with_reducible apply q7);rfl;rfl;rfl;all_goals (intro hb hp;try (exfalso;omega))|(with_reducible apply b9);rfl;all_goals (intro hb hp;try (exfalso;omega))|(with_reducible apply d7 hS);rfl;rfl;rfl;refine ⟨_,hcmp _ (by omega) (by omega),?_⟩;clear hS;intro w' hS)
   trace_state
   (refine a4H rfl ?_)
   exact ⟨rfl,hS.sub (xj1 _)⟩
  ·have hdm:decide (t ∈ L.map (fun p=>p.1.page))=false:=by
    rw [xq2,<- a1l hr t,hlb,xh8 (by rw [xi9];omega)];simp
   rw [hdm]
   repeat' (first|(with_reducible apply a8 a7);rfl;rfl;rfl|refine yDn (by with_reducible constructor) ?_|(with_reducible apply x8);(iterate 4 rfl);assumption;rfl|(with_reducible apply f5);rfl;assumption;rfl;rfl|(with_reducible apply q7);rfl;rfl;rfl;all_goals (intro hb hp;try (exfalso;omega))|(with_reducible apply b9);rfl;all_goals (intro hb hp;try (exfalso;omega)))
   (refine a4H rfl ?_)
   exact ⟨rfl,hS.sub (xj1 _)⟩
theorem b1g {L:List En} {w:World} {v:Value} {t:Int} (hL:Sl nF w 3 v (L.map enC)) (hr:Rises (L.map fun e=>e.page)) (hb:∀ q ∈ L.map fun e=>e.page,-9223372036854775808<=q - t/\q - t<=9223372036854775807) :
  Fn Tryz.prog 128 [v,.int .i64 t,.func (.func 129) #[] #[]] w (RBf (BsV (L.map fun e=>e.page) t) w):=by
 have hc:=fun (x:En) (_:x ∈ L) w=>b2h x t w;have bnd:=hL.bound;obtain ⟨p,c,rfl⟩:=hL.len;refine yEn Tryz.func128 Tryz.ntmps128 (by kernel_rfl) (by kernel_rfl) rfl rfl ?_;have hS:=St.start w
 repeat' (first|(with_reducible apply a8 a7);rfl;rfl;rfl|refine yDn (by with_reducible constructor) ?_)
 refine k9 (X:=Nat×Nat) (fun x=>[(9,.int .i64 (x.1:Nat)),(10,.int .i64 (x.2:Nat))]) [0,1,2,8] rfl (fun _=>[]) (fun x=>x.1<=x.2/\x.2<=L.length/\(∀ (j:Nat) (q:Int),j < x.1->(L.map (fun e=>e.page))[j]?=some q->q < t)/\(∀ (j:Nat) (q:Int),x.2<=j->(L.map (fun e=>e.page))[j]?=some q->t<=q)) (fun x=>x.2 - x.1) (0,L.length) (by exact Fr.sub_of rfl) ⟨xg4 _,xd4 _,fun j q h=>by omega,fun j q h hq=>by have:=d6 hq;rw [xi9] at this;omega⟩ hS ?_;clear hS;rintro ⟨i,j⟩ w1 ⟨hij,hj,hlo,hhi⟩ hS;dsimp only [List.cons_append,List.nil_append] at hij hj hlo hhi hS |-;by_cases hlt:i < j
 ·obtain ⟨hm0,hm1⟩:i<=(i + j) / 2/\(i + j) / 2 < j:=by omega
  obtain ⟨h,hh⟩:∃ h,h=(i + j) / 2:=⟨_,rfl⟩;rw [<- hh] at hm0 hm1;have ehi:((i:Int) + (j:Int)) / 2=(h:Nat):=by omega
  obtain ⟨x,hx⟩:=j0 (l:=L) (i:=h) (by omega);have hrow:=c9 (f:=enC) hx;have hpx:=c9 (f:=(fun e=>e.page)) hx;have hbx:=hb _ (xd0 hpx);obtain ⟨b,off,rfl,hro⟩:=hL.at_ (i:=h) (by omega);have hcmp:=hc x (xd0 hx)
  repeat' (first|(with_reducible apply a8 a7);rfl;rfl;rfl|(with_reducible apply a6h a7);rfl;rfl|refine yDn (by with_reducible constructor) ?_|(with_reducible apply b9);rfl;all_goals (intro hb hp;try (exfalso;omega))|(with_reducible apply b2Z);rfl;rfl;rfl)
  rw [a7W (by omega) (by omega) ehi (by omega)];by_cases hp:x.page < t
  ·have hd:decide (x.page - t < 0)=true:=xj2 (by omega)
   repeat' (first|(with_reducible apply a8 a7);rfl;rfl;rfl|(with_reducible apply a9);rfl;(apply Ld.st a7;rfl;exact hS.roR (by assumption) (by assumption);rfl);rfl|(with_reducible apply l7 a7);rfl;rfl;rfl;rfl;omega;rfl|(with_reducible apply j4);rfl;rfl;omega;omega;rfl|refine yDn (by with_reducible constructor) ?_|(with_reducible apply f6);rfl;assumption|(with_reducible apply d7 hS);rfl;rfl;rfl;refine ⟨_,hcmp _ (by omega) (by omega),?_⟩;clear hS;intro w' hS)
   refine e9 (h + 1,j) (by exact Fr.sub_of rfl) ⟨by show h + 1<=j;omega,hj,fun k q hk hq=>?_,hhi⟩ hS (by show j - (h + 1) < j - i;omega);rcases xo8 k h with h1|h1
   ·exact Int.lt_trans (hr.at_ h1 hq hpx) hp
   ·obtain rfl:k=h:=by have:k < h + 1:=hk;omega
    rw [hpx] at hq
    cases hq
    exact hp
  ·have hd:decide (x.page - t < 0)=false:=xj0 (by omega)
   repeat' (first|(with_reducible apply a8 a7);rfl;rfl;rfl|(with_reducible apply a9);rfl;(apply Ld.st a7;rfl;exact hS.roR (by assumption) (by assumption);rfl);rfl|(with_reducible apply l7 a7);rfl;rfl;rfl;rfl;omega;rfl|refine yDn (by with_reducible constructor) ?_|(with_reducible apply f8);rfl;assumption|(with_reducible apply d7 hS);rfl;rfl;rfl;refine ⟨_,hcmp _ (by omega) (by omega),?_⟩;clear hS;intro w' hS)
   refine e9 (i,h) (by exact Fr.sub_of rfl) ⟨by show i<=h;omega,by show h<=_;omega,hlo,fun k q hk hq=>?_⟩ hS (by show h - i < j - i;omega);rcases xo8 h k with h1|h1
   ·have:=hr.at_ h1 hpx hq;have hp':¬ x.page < t:=hp;omega
   ·obtain rfl:k=h:=by have:h<=k:=hk;omega
    rw [hpx] at hq
    cases hq
    have hp':¬ x.page < t:=hp;omega
 ·obtain rfl:i=j:=by omega
  have hlb:lbd (L.map (fun e=>e.page)) t=i:=a8R (by rw [xi9];omega) hlo (fun q hq=>hhi i q (xd4 _) hq);unfold BsV;rw [hlb];by_cases hil:i < L.length
  ·obtain ⟨x,hx⟩:=j0 (l:=L) (i:=i) (by omega);have hrow:=c9 (f:=enC) hx;have hpx:=c9 (f:=(fun e=>e.page)) hx;have hbx:=hb _ (xd0 hpx);obtain ⟨b,off,rfl,hro⟩:=hL.at_ (i:=i) (by omega);have hcmp:=hc x (xd0 hx);have hiff:=a1l hr t;rw [hlb,hpx] at hiff;have hdm:decide (t ∈ L.map (fun e=>e.page))=decide (x.page - t=0):=by
    rw [xo2,<- hiff];constructor
    ·intro h;have h2:x.page=t:=Option.some.inj h;omega
    ·intro h;have h2:x.page=t:=by omega
     rw [h2]
   rw [hdm]
   repeat' (first|(with_reducible apply a8 a7);rfl;rfl;rfl|(with_reducible apply a9);rfl;(apply Ld.st a7;rfl;exact hS.roR (by assumption) (by assumption);rfl);rfl|(with_reducible apply l7 a7);rfl;rfl;rfl;rfl;omega;rfl|refine yDn (by with_reducible constructor) ?_|(with_reducible apply k8);(iterate 4 rfl);assumption|(with_reducible apply j3);rfl;assumption;rfl;rfl|(with_reducible apply q7);rfl;rfl;rfl;all_goals (intro hb hp;try (exfalso;omega))|(with_reducible apply b9);rfl;all_goals (intro hb hp;try (exfalso;omega))|(with_reducible apply d7 hS);rfl;rfl;rfl;refine ⟨_,hcmp _ (by omega) (by omega),?_⟩;clear hS;intro w' hS)
   trace_state
   (refine a4H rfl ?_)
   exact ⟨rfl,hS.sub (xj1 _)⟩
  ·have hdm:decide (t ∈ L.map (fun e=>e.page))=false:=by
    rw [xq2,<- a1l hr t,hlb,xh8 (by rw [xi9];omega)];simp
   rw [hdm]
   repeat' (first|(with_reducible apply a8 a7);rfl;rfl;rfl|refine yDn (by with_reducible constructor) ?_|(with_reducible apply x8);(iterate 4 rfl);assumption;rfl|(with_reducible apply f5);rfl;assumption;rfl;rfl|(with_reducible apply q7);rfl;rfl;rfl;all_goals (intro hb hp;try (exfalso;omega))|(with_reducible apply b9);rfl;all_goals (intro hb hp;try (exfalso;omega)))
   (refine a4H rfl ?_)
   exact ⟨rfl,hS.sub (xj1 _)⟩
structure Ob where
 im:Im
 vn:Value
 vs:Value
 vy:Value
 vr:Value
 at_:Int
def imC (I:Im) (vn vs vy vr:Value):List Value:=[.string ⟨I.name.toArray⟩,vn,vs,vy,vr,.int .i64 I.entry]
abbrev ObV (w:World) (o:Ob):Prop:=ImV w o.im o.vn o.vs o.vy o.vr
def stK (l:List UInt8):Value:=.string ⟨l.toArray⟩
def PlI (es:Array MapEntry) (os:List Ob):Prop:=∃ L,MapG .string es L/\L.map (·.1)=os.map fun o=>stK o.im.name
theorem PlI.mem {es:Array MapEntry} {os:List Ob} {L:List (Value×Value)} (h:L.map (·.1)=os.map fun o=>stK o.im.name) (nm:List UInt8):(∃ v,(stK nm,v) ∈ L) ↔ ∃ o ∈ os,o.im.name=nm:=by
 constructor
 ·rintro ⟨v,hv⟩;have:stK nm ∈ L.map (·.1):=xm5.2 ⟨_,hv,rfl⟩;rw [h] at this;obtain ⟨o,ho,e⟩:=xm5.1 this;unfold stK at e;exact ⟨o,ho,by simpa using e⟩
 ·rintro ⟨o,ho,rfl⟩;have:stK o.im.name ∈ L.map (·.1):=by rw [h];exact xm5.2 ⟨o,ho,rfl⟩
  obtain ⟨p,hp,e⟩:=xm5.1 this;exact ⟨p.2,by rw [<- e];exact hp⟩
theorem Sl.atF {F:Nat->Prop} {w:World} {sz:Nat} {α:Type} {f:α->List Value} {l:List α} {p:Option Addr} {n c i:Nat} (h:Sl F w sz (.slice p n c) (l.map f)) (hi:i < l.length):∃ b off,p=some ⟨b,off,none⟩/\RoAt F w b off sz (l.map f):=by
 rcases h.parts.2 with h2|⟨b,off,rfl,_,_,hro⟩
 ·have:=congrArg List.length h2;rw [xi9,xa2] at this;omega
 ·exact ⟨b,off,rfl,hro⟩
def a84 (os:List Ob) (nm:List UInt8):Bool:=os.any fun o=>decide (o.im.name=nm)
theorem a92 {os:List Ob} {nm:List UInt8}:a84 os nm=true ↔ ∃ o ∈ os,o.im.name=nm:=by unfold a84;simp
def a2A (I:Im):Int:=match I.segs.getLast? with
 |some s=>s.pg + s.n
 |none=>0
def b38 (os:List Ob) (next:Int) (I:Im) (vn vs vy vr:Value):List Ob:=if a84 os I.name=true then os else os++[⟨I,vn,vs,vy,vr,next * 16⟩]
def a66 (os:List Ob) (next:Int) (I:Im):Int:=if a84 os I.name=true then next else next + a2A I
structure ImF (F:Nat->Prop) (w:World) (o:Ob):Prop where
 needs:Sl F w 1 o.vn (o.im.needs.map stC)
 segs:Sl F w 5 o.vs (o.im.segs.map sgC)
 syms:Sl F w 2 o.vy (o.im.syms.map syC)
 rels:Sl F w 3 o.vr (o.im.rels.map rlC)
theorem ImF.now {F:Nat->Prop} {w w':World} {Γ:List Asr} {o:Ob} (h:ImF F w o) (hS:St F w w' Γ):ObV w' o:=⟨h.needs.now hS,h.segs.now hS,h.syms.now hS,h.rels.now hS⟩
def b7w (o:Ob):Value:=.agg (imC o.im o.vn o.vs o.vy o.vr).toArray
def OfB (B:List Ob) (o:Ob):Prop:=∃ a:Int,{ o with at_:=a } ∈ B
structure b7A (I:Im):Prop where
 s1:1<=I.segs.length
 s2:I.segs.all b7c=true
 s3:I.segs.length<=6
def a22 (s:List Ob×Int) (o:Ob):List Ob×Int:=(b38 s.1 s.2 o.im o.vn o.vs o.vy o.vr,a66 s.1 s.2 o.im)
structure AllI (B:List Ob) (s:List Ob×Int):Prop where
 sub:∀ o ∈ s.1,OfB B o
 nd:(s.1.map fun o=>o.im.name).Nodup
 lo:1<=s.2
 hi:s.2<=1 + 255 * s.1.length
theorem a5a {α:Type} [DecidableEq α]:∀ {l m:List α},l.Nodup->(∀ x ∈ l,x ∈ m)->l.length<=m.length
 |[],_,_,_=>by simp
 |a::l,m,h,hs=>by
  rw [List.nodup_cons] at h;have ha:=hs a (by simp);have:=a5a (l:=l) (m:=m.erase a) h.2 fun x hx=>by
   refine (List.mem_erase_of_ne ?_).2 (hs x (xc6 _ hx));rintro rfl;exact h.1 hx
  rw [List.length_erase_of_mem ha] at this;have hm:0 < m.length:=List.length_pos_of_mem ha;rw [xb1];omega
theorem AllI.len {B:List Ob} {s:List Ob×Int} (h:AllI B s):s.1.length<=B.length:=by
 have:=a5a (m:=B.map fun o=>o.im.name) h.nd fun x hx=>by
  obtain ⟨o,ho,rfl⟩:=xm5.1 hx;obtain ⟨a,ha⟩:=h.sub o ho;exact xm5.2 ⟨_,ha,rfl⟩
 simpa using this
theorem b0x {I:Im} (h:b7A I):0<=a2A I/\a2A I<=255:=by
 unfold a2A
 split
 ·rename_i s hs;have:=xc7.1 h.s2 s (List.mem_of_getLast? hs);unfold b7c at this;have:=xn9 this;omega
 ·omega
theorem AllI.step {B:List Ob} {s:List Ob×Int} {o:Ob} (h:AllI B s) (ho:o ∈ B) (hI:b7A o.im):AllI B (a22 s o):=by
 unfold a22 b38 a66;by_cases hp:a84 s.1 o.im.name=true
 ·rw [xf0 hp,xf0 hp];exact h
 ·rw [xf1 hp,xf1 hp];have hl:=b0x hI;refine ⟨fun x hx=>?_,?_,?_,?_⟩
  ·rcases xe3.1 hx with h1|h1
   ·exact h.sub x h1
   ·have:x=⟨o.im,o.vn,o.vs,o.vy,o.vr,s.2 * 16⟩:=by simpa using h1
    exact ⟨o.at_,by rw [this];exact ho⟩
  ·rw [xl5,List.nodup_append];refine ⟨h.nd,by simp,fun a ha b hb=>?_⟩;have:b=o.im.name:=by simpa using hb
   subst this;rintro rfl;obtain ⟨x,hx,e⟩:=xm5.1 ha;exact hp (a92.2 ⟨x,hx,e⟩)
  ·have:=h.lo;show 1<=s.2 + a2A o.im;omega
  ·have:=h.hi;show s.2 + a2A o.im<=1 + 255 * ((s.1++[_]).length:Int);rw [xe9];simp only [xb1,xa2];omega
section
variable {F:Nat->Prop} {w0 w w':World} {Γ Δ:List Asr}
theorem St.reorderT (m:Nat) (is:List Nat) (h:St F w0 w Γ) (hn:is.Nodup/\∀ i ∈ is,i < m) (hp:a9M Γ is=some Δ):St F w0 w (v6 Δ (Γ.drop m)):=by
 rw [a55];have h1:=h.reorder is hn.1 hp;have h2:=h.sub (List.drop_sublist m Γ);refine ⟨h.os,h.tape,h.output,h.size,h.base,fun A hA=>?_,fun A hA=>?_,?_⟩
 ·rcases xe3.1 hA with hA|hA
  ·exact h1.holds A hA
  ·exact h2.holds A hA
 ·rcases xe3.1 hA with hA|hA
  ·exact h1.own A hA
  ·exact h2.own A hA
 ·rw [xe4];refine ⟨h1.apart,h2.apart,fun a ha b hb=>?_⟩;obtain ⟨j,hj⟩:=xd9.1 ha;obtain ⟨k,hk⟩:=xd9.1 hb;obtain ⟨i,hi,hi2⟩:=a4V hp j a hj;rw [xb6] at hk;have:=hn.2 i (xd0 hi);exact a3t h.apart hi2 hk (by omega)
end
structure Bx where
 g:Nat
 pg:Int
 data:List UInt8
 p:Option Addr
 c:Nat
 fx:List Fx
def Bx.v (b:Bx):Value:=.slice b.p b.fx.length b.c
theorem a1X {α:Type}:∀ {l:List α} {k:Nat} {b:α},l[k]?=some b->l.Perm (b::l.eraseIdx k):=by
 intro l
 induction l with
 |nil=>intro k b h;simp at h
 |cons a l ih=>
  intro k b h
  cases k with
  |zero=>simp at h;subst h;simp
  |succ k=>
   simp only [List.getElem?_cons_succ] at h;rw [List.eraseIdx_cons_succ];exact ((ih h).cons a).trans (List.Perm.swap b a _)
theorem a1z {α:Type}:∀ {l:List α} {k:Nat} {b:α},(l.set k b).eraseIdx k=l.eraseIdx k:=by
 intro l
 induction l with
 |nil=>intro k b;simp
 |cons a l ih=>
  intro k b
  cases k with
  |zero=>simp
  |succ k=>simp only [List.set_cons_succ,List.eraseIdx_cons_succ,ih]
def b7Y (at_:Int) (s:List UInt8) (pg:Int):List Fx :=
 let fr:=at_ - 16 * pg;let a:=max fr 0;let e:=min (fr + s.length) 16
 if a < e then [⟨a,(s.drop (a - fr).toNat).take (e - a).toNat⟩] else []
def AOk (A:List Ar):Prop:=∀ a ∈ A,a.z=false/\0<=a.pg/\0<=a.n/\a.pg + a.n<=200000/\0<=a.prot/\a.prot<=3
theorem AOk.step {A:List Ar} {a:Ar} (h:AOk A) (ha:a.z=false/\0<=a.pg/\0<=a.n/\a.pg + a.n<=200000/\0<=a.prot/\a.prot<=3):AOk (a9R A a):=by
 unfold a9R
 split
 ·rename_i b hb;have hbm:=h b (List.mem_of_getLast? hb)
  split
  ·rename_i hal;unfold Ar.alike at hal;intro x hx;rcases xe3.1 hx with h1|h1
   ·exact h x ((List.dropLast_sublist A).subset h1)
   ·obtain rfl:x={ b with n:=b.n + a.n }:=by simpa using h1
    have e1:b.fin=a.pg:=hal.1;unfold Ar.fin at e1;obtain ⟨q1,q2,q3,q4,q5,q6⟩:=hbm;obtain ⟨p1,p2,p3,p4,p5,p6⟩:=ha;refine ⟨q1,q2,?_,?_,q5,q6⟩
    ·show 0<=b.n + a.n;omega
    ·show b.pg + (b.n + a.n)<=200000;omega
  ·intro x hx;rcases xe3.1 hx with h1|h1
   ·exact h x h1
   ·obtain rfl:x=a:=by simpa using h1
    exact ha
 ·intro x hx;rcases xe3.1 hx with h1|h1
  ·exact h x h1
  ·obtain rfl:x=a:=by simpa using h1
   exact ha
def a4d:List Ob->Int
 |[]=>0
 |o::l=>a2A o.im + a4d l
theorem b1L (l m:List Ob):a4d (l++m)=a4d l + a4d m:=by
 induction l with
 |nil=>simp [a4d]
 |cons o l ih=>simp only [List.cons_append,a4d,ih];omega
structure PkI (s:List Ob×Int):Prop where
 nx:s.2=1 + a4d s.1
 at_:∀ (i:Nat) (o:Ob),s.1[i]?=some o->o.at_=(1 + a4d (s.1.take i)) * 16
theorem PkI.start:PkI ([],1):=⟨rfl,fun i o h=>by simp at h⟩
theorem PkI.step {s:List Ob×Int} (o:Ob) (h:PkI s):PkI (a22 s o):=by
 unfold a22 b38 a66;by_cases hp:a84 s.1 o.im.name=true
 ·rw [xf0 hp,xf0 hp];exact h
 ·rw [xf1 hp,xf1 hp];refine ⟨?_,fun i x hx=>?_⟩
  ·show s.2 + a2A o.im=1 + a4d (s.1++[_]);rw [b1L,h.nx];simp only [a4d];omega
  ·dsimp only at hx |-;rcases xo8 i s.1.length with hi|hi
   ·rw [xa6 hi] at hx;rw [List.take_append_of_le_length (by omega)];exact h.at_ i x hx
   ·rw [xa5 hi] at hx;obtain ⟨h1,h2⟩:=xa7.1 hx;simp only [xi6] at h1;obtain rfl:i=s.1.length:=by omega
    simp only [xf7,xp3] at h2;subst h2;rw [List.take_left];show s.2 * 16=_;rw [h.nx]
def gF (at_:Int) (s:List UInt8) (b:Bx):Nat×Int×List UInt8×List Fx:=(b.g,b.pg,b.data,b.fx++b7Y at_ s b.pg)
theorem y6 {P:Program} {n:Nat} {ds:List Deferred} {E:Fr} {w:World} {Q:Exit->Act->World->Prop} {ops:Array Oper} {d:Nat} {ty:TypeId} {pos:String} {after:Array Edge} {i:Nat} (_C:Nn i) {T:Tab} {S:World->Prop} {fuel:Nat} {li:Array Bool} (hT:TabOk P T) {t s:Nat} {fs:List (Nat×Nat×Bool)} {z L:List Value} {parts:Array (Nat×Operand)} {ps:List (Nat×Value)} (hi:ops[i]?=some ⟨some d,.build t parts,ty,pos,after,none⟩) (hs:Region.noSelect ops=true) (hf:Region.free .any ops li i=true) (hr:(Region.ready .any ops li).contains i=true)
  (hQ:∀ c (a:Act) w v,Q (.panic c) (a.put (some d) v) w->Q (.panic c) a w) (hS:S w) (ht:T.get t=some (.st s fs z)) (hp:evP E parts.toList=some ps) (hL:a2b (fun i=>(fs[i]?).map fun f=>(f.1,f.2.1)) z ps=some L) (hd:Nat.blt d n=true) (k:WA P ops Q S fuel (li.setIfInBounds i true) n ds ((d,.agg L.toArray)::E) w):WA P ops Q S (fuel + 1) li n ds E w :=
 a1D _C hi hs hf hr (fun c a w h=>hQ c a w _ h) hS (fun a ha=>a3O hT ht hp hL _ ha) hd k
end Go.Proofs.YtejnpppejalhfabGreat
namespace Go.Proofs.YtejnpppejalhfabGreat
set_option maxRecDepth 100000
set_option maxHeartbeats 8000000
open Go.RowKit Go.Sort Go.MapKept
structure MapN (es:Array MapEntry) (L:List (List UInt8×Int)):Prop where
 held:es.toList.map (fun e=>(e.key,e.val))=L.map fun p=>(Value.string ⟨p.1.toArray⟩,Value.int .i64 p.2)
 once:(L.map (·.1)).Nodup
theorem MapN.nil:MapN #[] []:=⟨rfl,by simp⟩
theorem b5C {a b:List UInt8} (h:Value.string ⟨a.toArray⟩=Value.string ⟨b.toArray⟩):a=b:=by
 simpa using h
theorem MapN.at_ {w:World} {r c:Nat} {es:Array MapEntry} {L:List (List UInt8×Int)} (h:MapN es L) (hr:w.heap[r]?=some (.map es c)):MapAt .string w r (L.map fun p=>(Value.string ⟨p.1.toArray⟩,Value.int .i64 p.2)):=by
 refine ⟨⟨es,c,hr,h.held⟩,fun p hp=>?_,?_⟩
 ·obtain ⟨q,_,rfl⟩:=xm5.1 hp;trivial
 ·rw [xn6];have:(Prod.fst ∘ fun p:List UInt8×Int=>(Value.string ⟨p.1.toArray⟩,Value.int .i64 p.2))=(fun x:List UInt8=>Value.string ⟨x.toArray⟩) ∘ (·.1):=rfl;rw [this,<- xn6];exact List.Pairwise.map _ (fun a b hab e=>hab (b5C e)) h.once
section
variable {P:Program} {n:Nat} {ds:List Deferred} {E:Fr} {w:World} {Q:Exit->Act->World->Prop} {ops:Array Oper} {rest:List Oper} {d:Nat} {ty:TypeId} {pos:String} {after:Array Edge} {F:Nat->Prop} {w0:World} {Γ:List Asr} {T:Tab}
end
end Go.Proofs.YtejnpppejalhfabGreat
namespace Go.Proofs.YtejnpppejalhfabGreat
set_option maxRecDepth 100000
set_option maxHeartbeats 8000000
open Go.RowKit Go.Sort
structure PlR (I:Im) (i:Nat):Prop where
 rels:∀ (k:Nat) (r:Rl),k < i->I.rels[k]?=some r->(0<=r.at_/\r.at_<=4080)/\∀ b:Int,0<=b->b < 8->(own I.segs (r.at_ + b)).isSome=true
 step:∀ (k:Nat) (q r:Rl),k + 1 < i->I.rels[k]?=some q->I.rels[k + 1]?=some r->q.at_ + 8<=r.at_
theorem PlR.zero (I:Im):PlR I 0:=⟨by intros;omega,by intros;omega⟩
theorem PlR.succ {I:Im} {i:Nat} {x:Rl} (h:PlR I i) (hx:I.rels[i]?=some x) (h1:0<=x.at_/\x.at_<=4080) (h2:∀ b:Int,0<=b->b < 8->(own I.segs (x.at_ + b)).isSome=true) (h3:∀ q,0 < i->I.rels[i - 1]?=some q->q.at_ + 8<=x.at_):PlR I (i + 1) where
 rels k r hk hr:=by
  by_cases e:k=i
  ·subst e;rw [hx] at hr;cases hr;exact ⟨h1,h2⟩
  ·exact h.rels k r (by omega) hr
 step k q r hk hq hr:=by
  by_cases e:k + 1=i
  ·subst e;rw [hx] at hr;cases hr;exact h3 q (by omega) (by simpa using hq)
  ·exact h.step k q r (by omega) hq hr
def kvI (o:Ob):Value×Value:=(stK o.im.name,b7w o)
def MapB (B:List Ob) (i:Nat) (L:List (Value×Value)):Prop:=(((B.take i).map fun o=>o.im.name).Nodup->L=(B.take i).map kvI)/\(¬ ((B.take i).map fun o=>o.im.name).Nodup->L.length < i)/\L.length<=i
theorem MapB.start (B:List Ob):MapB B 0 []:=⟨fun _=>rfl,fun h=>absurd (by simp) h,xd4 _⟩
theorem MapB.mem {B:List Ob} {i:Nat} {L:List (Value×Value)} (h:L=(B.take i).map kvI) (nm:List UInt8):(∃ v,(stK nm,v) ∈ L) ↔ nm ∈ (B.take i).map fun o=>o.im.name:=by
 rw [h];constructor
 ·rintro ⟨v,hv⟩;obtain ⟨o,ho,e⟩:=xm5.1 hv;have e1:=congrArg Prod.fst e;unfold kvI stK at e1;exact xm5.2 ⟨o,ho,by simpa using e1⟩
 ·intro hn;obtain ⟨o,ho,rfl⟩:=xm5.1 hn;exact ⟨b7w o,xm5.2 ⟨o,ho,rfl⟩⟩
theorem b08 {α:Type} {l:List α} {x:α}:(l++[x]).Nodup ↔ l.Nodup/\x ∉ l:=by
 rw [List.nodup_append];constructor
 ·rintro ⟨h1,-,h3⟩;exact ⟨h1,fun h=>h3 x h x (by simp) rfl⟩
 ·rintro ⟨h1,h2⟩;refine ⟨h1,by simp,fun a ha b hb=>?_⟩;have:b=x:=by simpa using hb
  subst this;rintro rfl;exact h2 ha
theorem MapB.new {B:List Ob} {i:Nat} {L:List (Value×Value)} {o:Ob} (h:MapB B i L) (ho:B[i]?=some o) (hn:∀ v,(stK o.im.name,v) ∉ L):MapB B (i + 1) (L++[kvI o]):=by
 unfold MapB;rw [xp6,ho];simp only [xp7,xl5,xc0,xq3,xe9,xb1,xa2];rw [b08];refine ⟨fun ⟨h1,h2⟩=>by rw [h.1 h1],fun hno=>?_,by have:=h.2.2;omega⟩;by_cases h1:((B.take i).map fun o=>o.im.name).Nodup
 ·exfalso;have hin:o.im.name ∈ (B.take i).map fun o=>o.im.name:=Classical.byContradiction fun hc=>hno ⟨h1,hc⟩;obtain ⟨v,hv⟩:=(MapB.mem (h.1 h1) o.im.name).2 hin;exact hn v hv
 ·have:=h.2.1 h1;omega
theorem MapB.old {B:List Ob} {i j:Nat} {L:List (Value×Value)} {o:Ob} {u:Value} {x:Value×Value} (h:MapB B i L) (ho:B[i]?=some o) (hu:(stK o.im.name,u) ∈ L):MapB B (i + 1) (L.set j x):=by
 unfold MapB;rw [xp6,ho];simp only [xp7,xl5,xc0,xq3,xa8];rw [b08];refine ⟨fun ⟨h1,h2⟩=>absurd ((MapB.mem (h.1 h1) o.im.name).1 ⟨u,hu⟩) h2,fun hno=>?_,by have:=h.2.2;omega⟩;have:=h.2.2;omega
structure OrdI (B:List Ob) (ord:List Nat) (s:List Ob×Int):Prop where
 len:s.1.length=ord.length
 at_:∀ (i k:Nat),ord[i]?=some k->∃ (o:Ob) (a:Int),B[k]?=some o/\s.1[i]?=some { o with at_:=a }
theorem b3V {B:List Ob} (h:(B.map fun o=>o.im.name).Nodup) {i j:Nat} {a b:Ob} (ha:B[i]?=some a) (hb:B[j]?=some b) (he:a.im.name=b.im.name):i=j:=by
 obtain ⟨h1,rfl⟩:=xa7.1 ha;obtain ⟨h2,rfl⟩:=xa7.1 hb;unfold List.Nodup at h;rw [xd8] at h;rcases Nat.lt_trichotomy i j with hlt|heq|hlt
 ·exact absurd (by rw [xq4,xq4];exact he) (h i j (by simpa using h1) (by simpa using h2) hlt)
 ·exact heq
 ·exact absurd (by rw [xq4,xq4];exact he.symm) (h j i (by simpa using h2) (by simpa using h1) hlt)
theorem OrdI.mem {B:List Ob} {ord:List Nat} {s:List Ob×Int} {k:Nat} {o:Ob} (h:OrdI B ord s) (hn:(B.map fun o=>o.im.name).Nodup) (hk:B[k]?=some o):k ∈ ord ↔ a84 s.1 o.im.name=true:=by
 rw [a92];constructor
 ·intro hm;obtain ⟨i,hi⟩:=xd9.1 hm;obtain ⟨o',a,h1,h2⟩:=h.at_ i k hi;rw [hk] at h1
  cases h1
  exact ⟨_,xd0 h2,rfl⟩
 ·rintro ⟨x,hx,hxn⟩;obtain ⟨i,hi⟩:=xd9.1 hx;have hil:i < ord.length:=by have:=d6 hi;have:=h.len;omega
  obtain ⟨k',hk'⟩:=j0 (l:=ord) (i:=i) (by omega);obtain ⟨o',a,h1,h2⟩:=h.at_ i k' hk';rw [hi] at h2
  cases h2
  have:=b3V hn hk h1 hxn.symm;subst this;exact xd0 hk'
theorem OrdI.old {B:List Ob} {ord:List Nat} {s:List Ob×Int} {k:Nat} {o:Ob} (h:OrdI B ord s) (hn:(B.map fun o=>o.im.name).Nodup) (hk:B[k]?=some o) (hm:k ∈ ord):OrdI B ord (a22 s o):=by
 have:=(h.mem hn hk).1 hm;unfold a22 b38 a66;rw [xf0 this,xf0 this];exact h
theorem OrdI.new {B:List Ob} {ord:List Nat} {s:List Ob×Int} {k:Nat} {o:Ob} (h:OrdI B ord s) (hn:(B.map fun o=>o.im.name).Nodup) (hk:B[k]?=some o) (hm:k ∉ ord):OrdI B (ord++[k]) (a22 s o):=by
 have hp:¬ a84 s.1 o.im.name=true:=fun hc=>hm ((h.mem hn hk).2 hc);unfold a22 b38 a66;rw [xf1 hp,xf1 hp];refine ⟨by simp [h.len],fun i j hj=>?_⟩;rcases xo8 i ord.length with hi|hi
 ·rw [xa6 hi] at hj;obtain ⟨o',a,h1,h2⟩:=h.at_ i j hj;exact ⟨o',a,h1,by rw [xa6 (by rw [h.len];exact hi)];exact h2⟩
 ·rw [xa5 hi] at hj;obtain ⟨h1,h2⟩:=xa7.1 hj;simp only [xi6] at h1;obtain rfl:i=ord.length:=by omega
  simp only [xf7,xp3] at h2;subst h2;exact ⟨o,s.2 * 16,hk,by rw [<- h.len,xa5 (by omega)];simp⟩
theorem OrdI.start {B:List Ob} {M:Ob} (h:B[0]?=some M):OrdI B [0] (a22 ([],1) M):=by
 refine ⟨rfl,fun i k hk=>?_⟩
 cases i with
 |zero=>
  obtain rfl:0=k:=by simpa using hk
  exact ⟨M,16,h,rfl⟩
 |succ i=>simp at hk
theorem eb (b:Bool) {c:Bool} (h:b=c):Value.bool b=.bool c:=by rw [h]
structure ObsI (w:World) (os:List Ob):Prop where
 v:∀ o ∈ os,ObV w o
 b:∀ o ∈ os,∃ b:Int,o.at_=b * 16/\1<=b/\b<=1800
 y:∀ o ∈ os,∀ s ∈ o.im.syms,-9223372036854775808<=o.at_ + s.at_/\o.at_ + s.at_<=9223372036854775807
 n:os.length<=7
 k:∀ o ∈ os,b5G o.im=0
theorem ObsI.now {w w':World} {os:List Ob} {Γ:List Asr} (h:ObsI w os) (hS:St nF w w' Γ):ObsI w' os:=⟨fun o ho=>(h.v o ho).now hS,h.b,h.y,h.n,h.k⟩
abbrev Bs8:=List UInt8
section
variable {α:Type} {one:Bs8->Option (α×Bs8)}
end
theorem wrap64_in {m:Int} (h1:-9223372036854775808<=m) (h2:m<=9223372036854775807):wrap64 m=m:=by unfold wrap64;omega
section
variable {P:Program} {n:Nat} {ds:List Deferred} {E:Fr} {w:World} {dst:Option Nat} {ty:TypeId} {pos:String} {after:Array Edge} {F:Nat->Prop} {w0:World} {Γ:List Asr} {T:Tab}
theorem b06 (hS:St F w0 w Γ) (hT:TabOk P T) {t u e i sz2 g m cap:Nat} {z2:Value} {x:Operand} {l:List UInt8} (ht:T.get t=some (.sl e 1 1 false [.int .u8 0])) (he:T.get e=some (.sc (.int .u8) 1 (.int .u8 0))) (hu2:T.get u=some (.sc .string sz2 z2)) (hx:E.ev x=some (.slice (some ⟨g,0,none⟩) m cap)) (hm:m=l.length) (hi:Γ[i]?=some (.row e 1 (.slice (some ⟨g,0,none⟩) m cap) (bR l))) :
  Gets P ⟨dst,.convert t u x,ty,pos,after,none⟩ n ds E w (fun v' w'=>v'=.string ⟨l.toArray⟩/\w'=w):=by
 refine Gets.of_at fun a ha=>?_;obtain ⟨ji,zv,hu,hinfo,_⟩:=hT.sl ht;obtain ⟨_,hus,_⟩:=hT.sc hu2;obtain ⟨_,hue,_⟩:=hT.sc he;subst hm;have hrun:=run_convert_bytes_back (P:=P) w t u e ⟨g,0,none⟩ cap l hu hue hus (fun j hj=>by
   rw [a5N];have:=hS.rowC i hi (k:=j) (j:=0) (r:=[.int .u8 l[j].toNat]) (u:=.int .u8 l[j].toNat) (by unfold bR;simp [hj]) rfl
   simpa using this)
 simp only [execOp,ha.ev hx,Sem.run_bind,hrun,Result.andThen_ok,Sem.run_pure]
end
section
variable {P:Program} {n:Nat} {ds:List Deferred} {E:Fr} {w:World} {Q:Exit->Act->World->Prop} {ops:Array Oper} {S:World->Prop} {q fuel:Nat} {li:Array Bool} {d:Nat} {op:Op} {ty:TypeId} {pos:String} {after:Array Edge} {T:Tab}
theorem a2M {i:Nat} (_C:Nn i) {v:Value} (hi:ops[i]?=some ⟨some d,op,ty,pos,after,none⟩) (hs:Region.noSelect ops=true) (hf:Region.free .any ops li i=true) (hr:(Region.ready .any ops li).contains i=true) (hqi:Nat.beq q i=false)
  (hQ:∀ c (a:Act) w,Q (.panic c) (a.put (some d) v) w->Q (.panic c) a w) (hS:li.getD q false=true\/S w) (h:∀ a,Has n ds a E->a05 P ⟨some d,op,ty,pos,after,none⟩ a v) (hd:Nat.blt d n=true) (k:WT P ops Q S q fuel (li.setIfInBounds i true) n ds ((d,v)::E) w):WT P ops Q S q (fuel + 1) li n ds E w:=fun a ha=>
 a7B hi (Region.noSelect_spec hs) hQ (fun e=>by subst e;rw [xo5] at hqi;cases hqi) fuel li a w (Region.free_spec hi hf) (by simpa using hr) hS (xd6 ⟨rfl,fun w _=>h a ha w⟩) (k _ (ha.put d v hd))
theorem a3Q {i:Nat} (_C:Nn i) (hT:TabOk P T) {t s:Nat} {fs:List (Nat×Nat×Bool)} {z L:List Value} {parts:Array (Nat×Operand)} {ps:List (Nat×Value)} (hi:ops[i]?=some ⟨some d,.build t parts,ty,pos,after,none⟩) (hs:Region.noSelect ops=true) (hf:Region.free .any ops li i=true) (hr:(Region.ready .any ops li).contains i=true) (hqi:Nat.beq q i=false)
  (hQ:∀ c (a:Act) w v,Q (.panic c) (a.put (some d) v) w->Q (.panic c) a w) (hS:li.getD q false=true\/S w) (ht:T.get t=some (.st s fs z)) (hp:evP E parts.toList=some ps) (hL:a2b (fun i=>(fs[i]?).map fun f=>(f.1,f.2.1)) z ps=some L) (hd:Nat.blt d n=true) (k:WT P ops Q S q fuel (li.setIfInBounds i true) n ds ((d,.agg L.toArray)::E) w):WT P ops Q S q (fuel + 1) li n ds E w :=
 a2M _C hi hs hf hr hqi (fun c a w=>hQ c a w _) hS (fun a ha=>a3O hT ht hp hL a ha) hd k
end
section
variable {P:Program} {n:Nat} {ds:List Deferred} {E E':Fr} {w:World} {F:Nat->Prop} {w0:World} {Γ:List Asr}
end
def a95 (o:Option (List UInt8)):Value:=.tuple #[.string ⟨(o.getD []).toArray⟩,.bool o.isSome]
theorem a2l:∀ {l:List Sh} {last:Int},a0C last l=true->(∀ s ∈ l,t8 s=true/\last < s.page)/\Rises (l.map fun s=>s.page)
 |[],_,_=>⟨by simp,List.Pairwise.nil⟩
 |s::l,last,h=>by
  replace h:(t8 s && (decide (last < s.page) && a0C s.page l))=true:=h;simp only [xb2,xb3] at h;obtain ⟨h1,h2,h3⟩:=h;obtain ⟨i1,i2⟩:=a2l h3;refine ⟨fun x hx=>?_,List.Pairwise.cons (fun p hp=>?_) i2⟩
  ·rcases xc4.1 hx with rfl|hx
   ·exact ⟨h1,h2⟩
   ·exact ⟨(i1 x hx).1,by have:=(i1 x hx).2;omega⟩
  ·obtain ⟨x,hx,rfl⟩:=xm5.1 hp;exact (i1 x hx).2
theorem a3P (l:List (Sh×Value)):(l.map fun p=>p.1.page)=(shs l).map fun s=>s.page:=by unfold shs;rw [xn6];rfl
theorem b1K {l:List Sh} {p:Int} (h:p ∉ l.map fun s=>s.page):a7t l p=none:=by
 unfold a7t;rw [xn4];intro x hx hp;exact h (xm5.2 ⟨x,hx,by simpa using hp⟩)
theorem b1X {l:List Sh} {p:Int} {i:Nat} {s:Sh} (hr:Rises (l.map fun s=>s.page)) (hi:l[i]?=some s) (hp:s.page=p):a7t l p=some s:=by
 unfold a7t;rw [xn5];obtain ⟨h1,rfl⟩:=xa7.1 hi;refine ⟨by simpa using hp,i,h1,rfl,fun j hj=>?_⟩;have hjl:j < l.length:=by omega
 have:=hr.at_ hj (c9 (f:=fun s:Sh=>s.page) (xe1 hjl)) (c9 (f:=fun s:Sh=>s.page) hi);simp;omega
theorem ShsV.one {w:World} {l:List (Sh×Value)} {v:Value} (h:ShsV w l v):∀ p ∈ l,p.2.oneCell'=true:=fun p hp=>by
 obtain ⟨a,c,hpc⟩:=(h.fx p hp).len;rw [hpc];rfl
theorem a4i {F:Nat->Prop} {w:World} {l:List (Sh×Value)} {g o:Nat} {vsh:Value} {a:Ar} {p:Int} (hc:Bs nF w ⟨g,o,none⟩ vsh) (hL:ShsV w l vsh) (hr:a0C 0 (shs l)=true) (hp:-1000000<=p/\p<=1000000):Fn Tryz.prog 84 [.pointer (some ⟨g,o,none⟩),.agg (arC a).toArray,.int .i64 p] w (RBf (a95 (a0I (shs l) a.z p)) w):=by
 obtain ⟨r1,r2⟩:=a2l hr;have hone:=hL.one;have bnd:=hL.sl.bound;obtain ⟨pv,cv,rfl⟩:=hL.sl.len;have hbs:=fun w (h:Sl nF w 3 (.slice pv l.length cv) (l.map fun p=>shC p.1 p.2))=>b5u (t:=p) h (by rw [a3P];exact r2) (fun q hq=>by
  rw [a3P] at hq;obtain ⟨s,hs,rfl⟩:=xm5.1 hq;have:=a4j (r1 s hs).1;omega) hone
 unfold arC;by_cases hz:a.z=true
 ·unfold a0I;rw [xf0 hz,hz];refine yEn Tryz.func84 Tryz.ntmps84 (by kernel_rfl) (by kernel_rfl) rfl rfl ?_;have hS:=St.start w
  repeat' (first|(with_reducible apply a8 a7);rfl;rfl;rfl|(with_reducible apply a9);rfl;(apply Ld.sc a7;rfl;exact hS.blkC 0 rfl rfl);rfl|refine yDn (by with_reducible constructor) ?_|(with_reducible apply f6);rfl;rfl|(with_reducible apply l8 hS);rfl;rfl;rfl;clear hS;intro g w' hS|(with_reducible apply b4w hS a7 (m:=16));(iterate 5 rfl);omega;omega;rfl;rfl;intro gz w' hS';clear hS;have hS:=hS';clear hS')
  ((with_reducible apply a09);rfl;exact b06 hS a7 (i:=0) (l:=List.replicate 16 0) rfl rfl rfl rfl (by rw [xi0]) (by unfold bR;rw [xn7];rfl);rintro _ _ ⟨rfl,rfl⟩)
  repeat' (first|(with_reducible apply a8 a7);rfl;rfl;rfl|refine yDn (by with_reducible constructor) ?_)
  (refine a4H rfl ?_)
  exact ⟨rfl,hS.sub (xj1 _)⟩
 have hzf:a.z=false:=by simpa using hz
 unfold a0I;rw [xf1 hz,hzf];unfold BsV at hbs;by_cases hm:p ∈ l.map fun x=>x.1.page
 ·have hdm:decide (p ∈ l.map fun x=>x.1.page)=true:=xj2 hm;have hlb:=(a1l (by rw [a3P];exact r2) p).2 hm;rw [hdm] at hbs;generalize lbd (l.map fun x=>x.1.page) p=i at hbs hlb;rw [xh6] at hlb;obtain ⟨x,hx,hxp⟩:∃ x,l[i]?=some x/\x.1.page=p:=by
   cases hq:l[i]? with
   |none=>rw [hq] at hlb;cases hlb
   |some x=>rw [hq] at hlb;exact ⟨x,rfl,Option.some.inj hlb⟩
  have hil:=d6 hx;have hrow:=c9 (f:=fun p:Sh×Value=>shC p.1 p.2) hx;have hfx:=hL.fx x (xd0 hx);have hsa:=b1X r2 (a24 hx) hxp;have hrt:=(r1 x.1 (xd0 (a24 hx))).1;rw [hsa];obtain ⟨S,u⟩:=x;dsimp only [shC] at hrow hfx hrt;obtain ⟨pu,cu,rfl⟩:=hfx.len;have hfi:∀ w1,ShV w1 S (.slice pu S.fixes.length cu)->Fn Tryz.prog 46 [.agg [.int .i64 S.page,.string ⟨S.data.toArray⟩,.slice pu S.fixes.length cu].toArray] w1 (RBf (.tuple #[.string ⟨(a5A S).toArray⟩,.int .i64 0]) w1):=fun w1 h=>by
   have h3:=b1G h;rw [xf0 hrt,xf0 hrt] at h3;exact h3
  have hsl:=hL.sl;refine yEn Tryz.func84 Tryz.ntmps84 (by kernel_rfl) (by kernel_rfl) rfl rfl ?_;have hS:=St.start w
  repeat' (first|(with_reducible apply a8 a7);rfl;rfl;rfl|(with_reducible apply a9);rfl;(first|apply Ld.sc a7;rfl;exact hS.blkC 0 rfl rfl|apply Ld.sl a7;rfl;exact hS.bs (by assumption));rfl|refine yDn (by with_reducible constructor) ?_|(with_reducible apply f8);rfl;rfl|(with_reducible apply l8 hS);rfl;rfl;rfl;clear hS;intro g w' hS|(with_reducible apply d7 hS);rfl;rfl;rfl;refine ⟨_,hbs _ (hsl.now hS),?_⟩;clear hS;intro w' hS)
  obtain ⟨b,off,hpe,hro⟩:=hsl.at_ (i:=i) hil;subst hpe
  repeat' (first|(with_reducible apply a8 a7);rfl;rfl;rfl|(with_reducible apply a9);rfl;(apply Ld.st a7;rfl;exact hS.roR (by assumption) (by assumption);rfl);rfl|(with_reducible apply l7 a7);rfl;rfl;rfl;rfl;omega;rfl|refine yDn (by with_reducible constructor) ?_|(with_reducible apply d7 hS);rfl;rfl;rfl;refine ⟨_,hfi _ (hfx.now hS),?_⟩;clear hS;intro w' hS)
  (refine a4H rfl ?_)
  exact ⟨rfl,hS.sub (xj1 _)⟩
 ·have hdm:decide (p ∈ l.map fun x=>x.1.page)=false:=xj0 hm;rw [hdm] at hbs;rw [b1K (by rw [<- a3P];exact hm)];have hsl:=hL.sl;refine yEn Tryz.func84 Tryz.ntmps84 (by kernel_rfl) (by kernel_rfl) rfl rfl ?_;have hS:=St.start w
  repeat' (first|(with_reducible apply a8 a7);rfl;rfl;rfl|(with_reducible apply a9);rfl;(first|apply Ld.sc a7;rfl;exact hS.blkC 0 rfl rfl|apply Ld.sl a7;rfl;exact hS.bs (by assumption));rfl|refine yDn (by with_reducible constructor) ?_|(with_reducible apply f6);rfl;rfl|(with_reducible apply f8);rfl;rfl|(with_reducible apply l8 hS);rfl;rfl;rfl;clear hS;intro g w' hS|(with_reducible apply d7 hS);rfl;rfl;rfl;refine ⟨_,hbs _ (hsl.now hS),?_⟩;clear hS;intro w' hS)
  (refine a4H rfl ?_)
  exact ⟨rfl,hS.sub (xj1 _)⟩
theorem b74 (a b:Fx):a7n Tryz.prog 96 (fxC a) (fxC b) (decide (a=b)):=by
 refine ⟨fun w=>?_,by kernel_rfl⟩
 cases a
 cases b
 unfold fxC;simp [go_sem]
 repeat' split
 all_goals simp_all
theorem neS {α:Type} [DecidableEq α] (x:α):(!decide (x=x))=false:=by simp
theorem a7k {A B:List (Sh×Value)} {w:World} {va vb:Value} (hA:ShsV w A va) (hB:ShsV w B vb) (he:shs A=shs B):Fn Tryz.prog 60 [va,vb] w (RBf (.bool true) w):=by
 have hsa:=hA.sl;have hsb:=hB.sl;have bnd:=hA.sl.bound;have hlen:A.length=B.length:=by have:=congrArg List.length he;rwa [a0Z,a0Z] at this
 obtain ⟨pa,ca,rfl⟩:=hA.sl.len;obtain ⟨pb,cb,rfl⟩:=hB.sl.len;rw [<- hlen] at hsb |-;refine yEn Tryz.func60 Tryz.ntmps60 (by kernel_rfl) (by kernel_rfl) rfl rfl ?_;have hS:=St.start w;have hnl:=neS (A.length:Int)
 repeat' (first|(with_reducible apply a8 a7);rfl;rfl;rfl|refine yDn (by with_reducible constructor) ?_|(with_reducible apply f8);rfl;assumption)
 refine k9 (X:=Nat) (fun x=>[(5,.int .i64 (x:Nat))]) [0,1] rfl (fun _=>[]) (fun x=>x<=A.length) (fun x=>A.length - x) 0 (by exact Fr.sub_of rfl) (xg4 _) hS ?_;clear hS;intro i w1 hi hS;dsimp only [List.cons_append,List.nil_append] at hi hS |-;by_cases hlt:i < A.length;rotate_left
 ·repeat' (first|(with_reducible apply a8 a7);rfl;rfl;rfl|refine yDn (by with_reducible constructor) ?_|(with_reducible apply b9);rfl;all_goals (intro hb hp;try (exfalso;omega)))
  (refine k7 rfl ?_)
  exact ⟨rfl,hS⟩
 obtain ⟨x,hx⟩:=j0 (l:=A) (i:=i) (by omega);obtain ⟨y,hy⟩:=j0 (l:=B) (i:=i) (by omega);have hxy:x.1=y.1:=by
  have h1:=a24 hx;have h2:=a24 hy;rw [he,h2] at h1;exact (Option.some.inj h1).symm
 have hrow:=c9 (f:=fun p=>shC p.1 p.2) hx;have hrow2:=c9 (f:=fun p=>shC p.1 p.2) hy;have hfx:=hA.fx x (xd0 hx);have hfy:=hB.fx y (xd0 hy);obtain ⟨b,off,hpe,hro⟩:=hsa.parts.2.resolve_left (fun h=>by have:=congrArg List.length h;simp at this;rw [this] at hlt;simp at hlt);obtain ⟨b2,off2,hpe2,hro2⟩:=hsb.parts.2.resolve_left (fun h=>by have:=congrArg List.length h;simp at this;rw [this] at hlen;simp at hlen;rw [hlen] at hlt;simp at hlt);subst hpe hpe2;replace hro:=hro.2.2;replace hro2:=hro2.2.2;obtain ⟨S,u⟩:=x;obtain ⟨S2,u2⟩:=y;dsimp only at hxy;subst hxy;dsimp only [shC] at hrow hrow2 hfx hfy;have bf:=hfx.bound;obtain ⟨pu,cu,rfl⟩:=hfx.len;obtain ⟨pu2,cu2,rfl⟩:=hfy.len;have q1:=neS S.page;have q2:=neS S.data;have q3:=neS (S.fixes.length:Int)
 repeat' (first|(with_reducible apply a8 a7);rfl;rfl;rfl|refine yDn (by with_reducible constructor) ?_|(with_reducible apply b9);rfl;all_goals (intro hb hp;try (exfalso;omega)))
 (focus ((with_reducible apply d9 _ _ _ (by kernel_rfl) (by kernel_rfl) hS);(repeat' ((first|(with_reducible apply i7 a7);rfl;rfl|(with_reducible apply i9);rfl;(intro wd hd;replace hd:St _ _ wd _:=hd;(first|apply Ld.sc a7;rfl;(first|exact hd.roC0 (by assumption) (by assumption) rfl|exact hd.roC (by assumption) (by assumption) rfl)|apply Ld.sl a7;rfl;exact hd.roC (by assumption) (by assumption) rfl));rfl|(with_reducible apply y8 a7);rfl;rfl;rfl;rfl;omega;rfl|(first|(with_reducible apply a0t);(iterate 4 rfl);assumption|(with_reducible apply r7);rfl;assumption;rfl;rfl))));all_goals ((with_reducible apply j7);intro w' hS';clear hS;have hS:=hS';clear hS')))
 repeat' (first|(with_reducible apply a8 a7);rfl;rfl;rfl|refine yDn (by with_reducible constructor) ?_|(with_reducible apply f8);rfl;assumption)
 refine k9 (X:=Nat) (fun x=>[(6,.int .i64 (x:Nat))]) [0,1,5] rfl (fun _=>[]) (fun x=>x<=S.fixes.length) (fun x=>S.fixes.length - x) 0 (by exact Fr.sub_of rfl) (xg4 _) hS ?_;clear hS;intro k w2 hk hS;dsimp only [List.cons_append,List.nil_append] at hk hS |-;by_cases hkt:k < S.fixes.length
 ·obtain ⟨f,hf⟩:=j0 (l:=S.fixes) (i:=k) (by omega);have hrow3:=c9 (f:=fxC) hf;obtain ⟨b3,off3,hpe3,hro3⟩:=hfx.at_ (i:=k) hkt;obtain ⟨b4,off4,hpe4,hro4⟩:=hfy.at_ (i:=k) hkt;subst hpe3 hpe4;have hd:(!decide (f=f))=false:=by simp
  repeat' (first|(with_reducible apply a8 a7);rfl;rfl;rfl|(with_reducible apply a9);rfl;(apply Ld.sl a7;rfl;exact hS.roC (by assumption) (by assumption) rfl);rfl|(with_reducible apply l7 a7);rfl;rfl;rfl;rfl;omega;rfl|refine yDn (by with_reducible constructor) ?_|(with_reducible apply b9);rfl;all_goals (intro hb hp;try (exfalso;omega)))
  (focus ((with_reducible apply d9 _ _ _ (by kernel_rfl) (by kernel_rfl) hS);(repeat' (first|(first|(with_reducible apply i7 a7);rfl;rfl|(with_reducible apply i9);rfl;(intro wd hd;replace hd:St _ _ wd _:=hd;(first|apply Ld.sl a7;rfl;exact hd.roC (by assumption) (by assumption) rfl|apply Ld.st a7;rfl;exact hd.roR (by assumption) (by assumption);rfl));rfl|(with_reducible apply y8 a7);rfl;rfl;rfl;rfl;omega;rfl)|(with_reducible apply a6k);rfl;rfl;exact b74 f f;rfl));all_goals ((with_reducible apply j7);intro w' hS';clear hS;have hS:=hS';clear hS')))
  repeat' (first|(with_reducible apply a8 a7);rfl;rfl;rfl|(with_reducible apply j4);rfl;rfl;omega;omega;rfl|refine yDn (by with_reducible constructor) ?_|(with_reducible apply f8);rfl;assumption)
  exact e9 (k + 1) (by exact Fr.sub_of rfl) (by show k + 1<=_;omega) hS (by show _ - (k + 1) < _ - k;omega)
 ·repeat' (first|(with_reducible apply a8 a7);rfl;rfl;rfl|(with_reducible apply a9);rfl;(apply Ld.sl a7;rfl;exact hS.roC (by assumption) (by assumption) rfl);rfl|(with_reducible apply l7 a7);rfl;rfl;rfl;rfl;omega;rfl|(with_reducible apply j4);rfl;rfl;omega;omega;rfl|refine yDn (by with_reducible constructor) ?_|(with_reducible apply b9);rfl;all_goals (intro hb hp;try (exfalso;omega)))
  exact e9 (i + 1) (by exact Fr.sub_of rfl) (by show i + 1<=_;omega) hS (by show _ - (i + 1) < _ - i;omega)
theorem b0l {Lp:List (Sh×Value)} {w:World} {vs:Value} (hL:ShsV w Lp vs):Fn Tryz.prog 62 [vs] w (RBf (.bool (a0C 0 (shs Lp))) w):=by
 have bnd:=hL.sl.bound;have hsl:=hL.sl;obtain ⟨p,c,rfl⟩:=hL.sl.len;refine yEn Tryz.func62 Tryz.ntmps62 (by kernel_rfl) (by kernel_rfl) rfl rfl ?_;have hS:=St.start w
 repeat' (first|(with_reducible apply a8 a7);rfl;rfl;rfl|refine yDn (by with_reducible constructor) ?_)
 refine k9 (X:=Nat×Int) (fun x=>[(9,.int .i64 (x.1:Nat))]) [0,7,8] rfl (fun _=>[]) (fun x=>x.1<=Lp.length/\((x.1=0/\x.2=0)\/(0 < x.1/\∃ y,Lp[x.1 - 1]?=some y/\x.2=y.1.page))/\a0C 0 (shs Lp)=a0C x.2 ((shs Lp).drop x.1)) (fun x=>Lp.length - x.1) (0,0) (by exact Fr.sub_of rfl) (by simp) hS ?_;clear hS;rintro ⟨i,last⟩ w1 ⟨hi,hlast,hok⟩ hS;dsimp only [List.cons_append,List.nil_append] at hi hlast hok hS |-;by_cases hlt:i < Lp.length;rotate_left
 ·rw [xj7 (by rw [a0Z];omega)] at hok
  repeat' (first|(with_reducible apply a8 a7);rfl;rfl;rfl|refine yDn (by with_reducible constructor) ?_|(with_reducible apply b9);rfl;all_goals (intro hb hp;try (exfalso;omega)))
  (refine k7 rfl ?_)
  exact ⟨by rw [hok];rfl,hS.sub (xj1 _)⟩
 obtain ⟨x,hx⟩:=j0 (l:=Lp) (i:=i) (by omega);have hrow:=c9 (f:=fun p=>shC p.1 p.2) hx;obtain ⟨b,off,rfl,hro⟩:=hsl.at_ (i:=i) hlt;have hst:=a7a (last:=last) (a24 hx);have hfx:=hL.fx x (xd0 hx);obtain ⟨S,u⟩:=x;dsimp only [shC] at hrow hst hfx;obtain ⟨pu,cu,rfl⟩:=hfx.len;have hfi:=fun w (h:ShV w S (.slice pu S.fixes.length cu))=>b1G h;rw [hst] at hok
 cases hR:t8 S with
 |false=>
  simp only [hR,xp0,if_false] at hfi;rw [hR,xq1] at hok
  repeat' (first|(with_reducible apply a8 a7);rfl;rfl;rfl|(with_reducible apply a9);rfl;(apply Ld.st a7;rfl;(first|exact hS.blkR 0 rfl|exact hS.roR (by assumption) (by assumption));rfl);rfl|(with_reducible apply l7 a7);rfl;rfl;rfl;rfl;omega;rfl|refine yDn (by with_reducible constructor) ?_|(with_reducible apply d8 hS a7);rfl;rfl;rfl;clear hS;intro g w' hS|(with_reducible apply b8 hS a7 (i:=0));(iterate 8 rfl);exact (rfl:_=[_,_,_]);clear hS;intro w' hS;simp only [List.set] at hS|(with_reducible apply b9);rfl;all_goals (intro hb hp;try (exfalso;omega))|(with_reducible apply d7 hS);rfl;rfl;rfl;refine ⟨_,hfi _ (hfx.now hS),?_⟩;clear hS;intro w' hS)
  (focus ((with_reducible apply d9 _ _ _ (by kernel_rfl) (by kernel_rfl) hS);(repeat' ((first|(with_reducible apply i7 a7);rfl;rfl|(first|(with_reducible apply a14);(iterate 4 rfl);rfl;rfl|(with_reducible apply a2G);(iterate 5 rfl)|(with_reducible apply t7);rfl;rfl;rfl;rfl))));all_goals ((with_reducible apply j7);intro w' hS';clear hS;have hS:=hS';clear hS')))
  repeat' (first|(with_reducible apply a8 a7);rfl;rfl;rfl|refine yDn (by with_reducible constructor) ?_|(with_reducible apply f6);rfl;rfl)
  (refine k7 rfl ?_)
  exact ⟨by rw [hok],hS.sub (xj1 _)⟩
 |true=>
  simp only [hR,if_true] at hfi;rw [hR,xq0] at hok;have hpg:=a4j hR;rcases hlast with ⟨rfl,rfl⟩|⟨hi0,y,hy,rfl⟩
  ·rw [xj2 (show (0:Int) < S.page by omega),xq0] at hok
   repeat' (first|(with_reducible apply a8 a7);rfl;rfl;rfl|(with_reducible apply a9);rfl;(apply Ld.st a7;rfl;(first|exact hS.blkR 0 rfl|exact hS.roR (by assumption) (by assumption));rfl);rfl|(with_reducible apply l7 a7);rfl;rfl;rfl;rfl;omega;rfl|refine yDn (by with_reducible constructor) ?_|(with_reducible apply d8 hS a7);rfl;rfl;rfl;clear hS;intro g w' hS|(with_reducible apply b8 hS a7 (i:=0));(iterate 8 rfl);exact (rfl:_=[_,_,_]);clear hS;intro w' hS;simp only [List.set] at hS|(with_reducible apply b9);rfl;all_goals (intro hb hp;try (exfalso;omega))|(with_reducible apply d7 hS);rfl;rfl;rfl;refine ⟨_,hfi _ (hfx.now hS),?_⟩;clear hS;intro w' hS)
   (focus ((with_reducible apply d9 _ _ _ (by kernel_rfl) (by kernel_rfl) hS);(repeat' ((first|(with_reducible apply i7 a7);rfl;rfl|(first|(with_reducible apply a0t);(iterate 4 rfl);rfl|(with_reducible apply a14);(iterate 4 rfl);rfl;rfl|(with_reducible apply r7);rfl;rfl;rfl;rfl))));all_goals ((with_reducible apply j7);intro w' hS';clear hS;have hS:=hS';clear hS')))
   repeat' (first|(with_reducible apply a8 a7);rfl;rfl;rfl|(with_reducible apply j4);rfl;rfl;omega;omega;rfl|refine yDn (by with_reducible constructor) ?_|(with_reducible apply f8);rfl;rfl)
   exact e9 (1,S.page) (by exact Fr.sub_of rfl) ⟨by show 1<=Lp.length;omega,xd3 ⟨by show 0 < 1;omega,_,hx,rfl⟩,hok⟩ hS.drop (by show Lp.length - 1 < Lp.length - 0;omega)
  ·have e1:((i:Int) - 1).toNat=i - 1:=by omega
   have hrow2:(Lp.map fun p=>shC p.1 p.2)[((i:Int) - 1).toNat]?=some (shC y.1 y.2):=by rw [e1];exact c9 (f:=fun p=>shC p.1 p.2) hy
   obtain ⟨S2,u2⟩:=y;dsimp only [shC] at hrow2 hok;by_cases hlp:S2.page < S.page
   ·rw [xj2 hlp,xq0] at hok;have hd1:decide (S.page<=S2.page)=false:=xj0 (by omega)
    repeat' (first|(with_reducible apply a8 a7);rfl;rfl;rfl|(with_reducible apply a9);rfl;(apply Ld.st a7;rfl;(first|exact hS.blkR 0 rfl|exact hS.roR (by assumption) (by assumption));rfl);rfl|(with_reducible apply l7 a7);rfl;rfl;rfl;rfl;omega;rfl|refine yDn (by with_reducible constructor) ?_|(with_reducible apply d8 hS a7);rfl;rfl;rfl;clear hS;intro g w' hS|(with_reducible apply b8 hS a7 (i:=0));(iterate 8 rfl);exact (rfl:_=[_,_,_]);clear hS;intro w' hS;simp only [List.set] at hS|(with_reducible apply b9);rfl;all_goals (intro hb hp;try (exfalso;omega))|(with_reducible apply d7 hS);rfl;rfl;rfl;refine ⟨_,hfi _ (hfx.now hS),?_⟩;clear hS;intro w' hS)
    (focus ((with_reducible apply d9 _ _ _ (by kernel_rfl) (by kernel_rfl) hS);(repeat' ((first|(with_reducible apply a1C);rfl;rfl;omega;omega;rfl|(with_reducible apply i7 a7);rfl;rfl|(with_reducible apply i9);rfl;(intro wd hd;replace hd:St _ _ wd _:=hd;(apply Ld.sc a7;rfl;(first|exact hd.blkC 0 rfl rfl|exact hd.roC0 (by assumption) (by assumption) rfl)));rfl|(with_reducible apply y8 a7);rfl;rfl;rfl;exact xn8 (by omega);omega;rfl|(first|((with_reducible apply a0t);(iterate 4 rfl);first|rfl|assumption)|(with_reducible apply a0F);rfl;rfl;rfl;all_goals (intro hb hp;try (exfalso;omega))|(with_reducible apply t7);rfl;assumption;rfl;rfl|(with_reducible apply r7);rfl;rfl;rfl;rfl))));all_goals ((with_reducible apply j7);intro w' hS';clear hS;have hS:=hS';clear hS')))
    repeat' (first|(with_reducible apply a8 a7);rfl;rfl;rfl|(with_reducible apply j4);rfl;rfl;omega;omega;rfl|refine yDn (by with_reducible constructor) ?_|(with_reducible apply f8);rfl;assumption)
    exact e9 (i + 1,S.page) (by exact Fr.sub_of rfl) ⟨by show i + 1<=Lp.length;omega,xd3 ⟨by show 0 < i + 1;omega,_,hx,rfl⟩,hok⟩ hS.drop (by show Lp.length - (i + 1) < Lp.length - i;omega)
   ·rw [xj0 hlp,xq1] at hok;have hd1:decide (S.page<=S2.page)=true:=xj2 (by omega)
    repeat' (first|(with_reducible apply a8 a7);rfl;rfl;rfl|(with_reducible apply a9);rfl;(apply Ld.st a7;rfl;(first|exact hS.blkR 0 rfl|exact hS.roR (by assumption) (by assumption));rfl);rfl|(with_reducible apply l7 a7);rfl;rfl;rfl;rfl;omega;rfl|refine yDn (by with_reducible constructor) ?_|(with_reducible apply d8 hS a7);rfl;rfl;rfl;clear hS;intro g w' hS|(with_reducible apply b8 hS a7 (i:=0));(iterate 8 rfl);exact (rfl:_=[_,_,_]);clear hS;intro w' hS;simp only [List.set] at hS|(with_reducible apply b9);rfl;all_goals (intro hb hp;try (exfalso;omega))|(with_reducible apply d7 hS);rfl;rfl;rfl;refine ⟨_,hfi _ (hfx.now hS),?_⟩;clear hS;intro w' hS)
    (focus ((with_reducible apply d9 _ _ _ (by kernel_rfl) (by kernel_rfl) hS);(repeat' ((first|(with_reducible apply a1C);rfl;rfl;omega;omega;rfl|(with_reducible apply i7 a7);rfl;rfl|(with_reducible apply i9);rfl;(intro wd hd;replace hd:St _ _ wd _:=hd;(apply Ld.sc a7;rfl;(first|exact hd.blkC 0 rfl rfl|exact hd.roC0 (by assumption) (by assumption) rfl)));rfl|(with_reducible apply y8 a7);rfl;rfl;rfl;exact xn8 (by omega);omega;rfl|(first|((with_reducible apply a0t);(iterate 4 rfl);first|rfl|assumption)|(with_reducible apply a0F);rfl;rfl;rfl;all_goals (intro hb hp;try (exfalso;omega))|(with_reducible apply t7);rfl;assumption;rfl;rfl|(with_reducible apply r7);rfl;rfl;rfl;rfl))));all_goals ((with_reducible apply j7);intro w' hS';clear hS;have hS:=hS';clear hS')))
    repeat' (first|(with_reducible apply a8 a7);rfl;rfl;rfl|refine yDn (by with_reducible constructor) ?_|(with_reducible apply f6);rfl;assumption)
    (refine k7 rfl ?_)
    exact ⟨by rw [hok],hS.sub (xj1 _)⟩
theorem b5p (a b:Fm):a7n Tryz.prog 89 (fmC a) (fmC b) (decide (a=b)):=by
 refine ⟨fun w=>?_,by kernel_rfl⟩
 cases a
 cases b
 unfold fmC;simp [go_sem]
 repeat' split
 all_goals simp_all
theorem b22 (a b:Sw):a7n Tryz.prog 143 (swC a) (swC b) (decide (a=b)):=by
 refine ⟨fun w=>?_,by kernel_rfl⟩
 cases a
 cases b
 unfold swC;simp [go_sem]
 repeat' split
 all_goals simp_all
theorem b7F (a b:En):a7n Tryz.prog 91 (enC a) (enC b) (decide (a=b)):=by
 refine ⟨fun w=>?_,by kernel_rfl⟩
 cases a
 cases b
 unfold enC;simp [go_sem]
 repeat' split
 all_goals simp_all
end Go.Proofs.YtejnpppejalhfabGreat
