/- Texts that the proof stands on, one behind the other: Fl3, Fl4, Fl5, Fl6, Fl7, Ke7, Ke8, Ke9, Ke10, Fl8, PlFl2. -/
import Derived.Lib.QuietBelow
import Derived.Test.YtejnpppejalhfacGreatPFlatStarts9
set_option linter.unusedVariables false
set_option linter.unusedSimpArgs false
namespace Go.Proofs.YtejnpppejalhfacGreat
set_option maxRecDepth 100000
set_option maxHeartbeats 8000000
open Go.RowKit Go.Sort
theorem a12 {A:List Ar} {l:List Fp} {n:Nat}:y7 A l (n + 1)=(y7 A l n && r8 A l n):=by
 unfold y7;rw [List.range_succ,List.all_append,xg4,xg5,xg6]
theorem s5 {A:List Ar} {l:List Fp} {n i:Nat} (hi:i < n) (h:r8 A l i=false):y7 A l n=false:=by
 unfold y7;rw [List.all_eq_false];exact ⟨i,List.mem_range.2 hi,by rw [h];simp⟩
theorem a7v {w:World} {x:Fs} {va vp:Value} (har:Sl nF w 4 va (x.areas.map arC)) (hpg:Sl nF w 2 vp (x.pages.map fpC)):Fn Tryz.prog 95 [.agg #[.bool x.live,va,vp]] w (RBf (.bool (fsB x)) w):=by
 have b1:=har.bound;have b2:=hpg.bound;have hck:=fun w1 (h:Sl nF w1 4 va (x.areas.map arC))=>a24 h;have hto:=fun w1 (h:Sl nF w1 4 va (x.areas.map arC))=>a4L h;have hfi0:=fun w1 (h:Sl nF w1 4 va (x.areas.map arC)) (p:Int)=>a6E p h;obtain ⟨live,ars,pgs⟩:=x;dsimp only at har hpg b1 b2 hck hto hfi0 |-;obtain ⟨pa,ca,rfl⟩:=har.len;obtain ⟨pp,cp,rfl⟩:=hpg.len
 cases live with
 |false=>
  have hs:=a9b ars pgs b1 b2;refine yEn Tryz.func95 Tryz.ntmps95 (by kernel_rfl) (by kernel_rfl) rfl rfl ?_;have hS:=St.start w
  repeat' (first|(with_reducible apply a5 a4);rfl;rfl;rfl|(with_reducible apply a6);rfl;(first|apply Ld.sc a4;rfl;exact hS.blkC 0 rfl rfl|apply Ld.sl a4;rfl;exact hS.blkC 0 rfl rfl);rfl|(with_reducible apply a8e a4);rfl;rfl|refine yDn (by with_reducible constructor) ?_|(with_reducible apply a9);rfl;rfl|(with_reducible apply d8 hS);rfl;rfl;rfl;clear hS;intro g w' hS)
  (refine d4 rfl ?_)
  exact ⟨by unfold fsB;rw [xd9 (by simp)];simp [hs],hS.sub (xg7 _)⟩
 |true=>
  by_cases hc:b5 ars=0;rotate_left
  ·have hd:(!decide (b5 ars=0))=true:=by rw [xg8 hc];rfl
   refine yEn Tryz.func95 Tryz.ntmps95 (by kernel_rfl) (by kernel_rfl) rfl rfl ?_;have hS:=St.start w
   repeat' (first|(with_reducible apply a5 a4);rfl;rfl;rfl|(with_reducible apply a6);rfl;(apply Ld.sc a4;rfl;exact hS.blkC 0 rfl rfl);rfl|refine yDn (by with_reducible constructor) ?_|(with_reducible apply f8);rfl;rfl|(with_reducible apply d8 hS);rfl;rfl;rfl;clear hS;intro g w' hS)
   (focus ((with_reducible apply a8 _ _ _ (by kernel_rfl) (by kernel_rfl) hS);(repeat' (first|(first|(with_reducible apply i4 a4);rfl;rfl|(with_reducible apply i6);rfl;(intro wd hd;replace hd:St _ _ wd _:=hd;(apply Ld.sl a4;rfl;exact hd.blkC 0 rfl rfl));rfl|(first|(with_reducible apply a0U);(iterate 4 rfl);assumption;rfl|(with_reducible apply l8);rfl;assumption;rfl;rfl))|(with_reducible apply b9);rfl;rfl;rfl;refine ⟨_,fun wd hd=>hck _ (har.now hd),?_⟩));all_goals ((with_reducible apply l3);intro w' hS';clear hS;have hS:=hS';clear hS')))
   repeat' (first|(with_reducible apply a5 a4);rfl;rfl;rfl|refine yDn (by with_reducible constructor) ?_|(with_reducible apply a9);rfl;rfl)
   (refine d4 rfl ?_)
   exact ⟨by unfold fsB;rw [xd8 rfl,xg8 hc,xg9],hS.sub (xg7 _)⟩
  have hdc:(!decide (b5 ars=0))=false:=by rw [xh0 hc];rfl
  simp only [xd8 hc] at hto;by_cases hn:(pgs.length:Int)=l6 ars;rotate_left
  ·have hdn:(!decide ((pgs.length:Int)=l6 ars))=true:=by rw [xg8 hn];rfl
   refine yEn Tryz.func95 Tryz.ntmps95 (by kernel_rfl) (by kernel_rfl) rfl rfl ?_;have hS:=St.start w
   repeat' (first|(with_reducible apply a5 a4);rfl;rfl;rfl|(with_reducible apply a6);rfl;(apply Ld.sc a4;rfl;exact hS.blkC 0 rfl rfl);rfl|refine yDn (by with_reducible constructor) ?_|(with_reducible apply f8);rfl;rfl|(with_reducible apply d8 hS);rfl;rfl;rfl;clear hS;intro g w' hS)
   (focus ((with_reducible apply a8 _ _ _ (by kernel_rfl) (by kernel_rfl) hS);(repeat' (first|(first|(with_reducible apply i4 a4);rfl;rfl|(with_reducible apply i6);rfl;(intro wd hd;replace hd:St _ _ wd _:=hd;(apply Ld.sl a4;rfl;exact hd.blkC 0 rfl rfl));rfl|(first|(with_reducible apply p7);(iterate 4 rfl);assumption|(with_reducible apply l2);rfl;assumption;rfl;rfl))|(with_reducible apply b9);rfl;rfl;rfl;refine ⟨_,fun wd hd=>hck _ (har.now hd),?_⟩|(with_reducible apply b9);rfl;rfl;rfl;refine ⟨_,fun wd hd=>hto _ (har.now hd),?_⟩));all_goals ((with_reducible apply l3);intro w' hS';clear hS;have hS:=hS';clear hS')))
   repeat' (first|(with_reducible apply a5 a4);rfl;rfl;rfl|refine yDn (by with_reducible constructor) ?_|(with_reducible apply a9);rfl;assumption)
   (refine d4 rfl ?_)
   exact ⟨by unfold fsB;rw [xd8 rfl];simp [hn],hS.sub (xg7 _)⟩
  have hdn:(!decide ((pgs.length:Int)=l6 ars))=false:=by rw [xh0 hn];rfl
  have hfsB:fsB ⟨true,ars,pgs⟩=y7 ars pgs pgs.length:=by unfold fsB;rw [xd8 rfl];simp [hc,hn]
  rw [hfsB];refine yEn Tryz.func95 Tryz.ntmps95 (by kernel_rfl) (by kernel_rfl) rfl rfl ?_;have hS:=St.start w
  (repeat ((refine yDn (by with_reducible constructor) ?_)))
  (((with_reducible apply d8 hS);rfl;rfl;rfl);clear hS;intro g1 w' hS)
  repeat' (first|(with_reducible apply a5 a4);rfl;rfl;rfl|(with_reducible apply a6);rfl;(apply Ld.sc a4;rfl;exact hS.blkC 0 rfl rfl);rfl|refine yDn (by with_reducible constructor) ?_|(with_reducible apply f8);rfl;rfl)
  (focus ((with_reducible apply a8 _ _ _ (by kernel_rfl) (by kernel_rfl) hS);(repeat' (first|(first|(with_reducible apply i4 a4);rfl;rfl|(with_reducible apply i6);rfl;(intro wd hd;replace hd:St _ _ wd _:=hd;(apply Ld.sl a4;rfl;exact hd.blkC 0 rfl rfl));rfl|(first|(with_reducible apply p7);(iterate 4 rfl);assumption|(with_reducible apply l2);rfl;assumption;rfl;rfl))|(with_reducible apply b9);rfl;rfl;rfl;refine ⟨_,fun wd hd=>hck _ (har.now hd),?_⟩|(with_reducible apply b9);rfl;rfl;rfl;refine ⟨_,fun wd hd=>hto _ (har.now hd),?_⟩));all_goals ((with_reducible apply l3);intro w' hS';clear hS;have hS:=hS';clear hS')))
  repeat' (first|(with_reducible apply a5 a4);rfl;rfl;rfl|(with_reducible apply a6);rfl;(apply Ld.sl a4;rfl;exact hS.blkC 0 rfl rfl);rfl|refine yDn (by with_reducible constructor) ?_|(with_reducible apply f8);rfl;assumption)
  refine o6 (F:=nF) (w0:=w) (X:=Nat) (fun i=>[(34,.int .i64 (i:Nat))]) [1,32,33] rfl (fun _=>[]) (fun i=>i<=pgs.length/\y7 ars pgs i=true) (fun i=>pgs.length - i) 0 (by exact Fr.sub_of rfl) ⟨xf0 _,rfl⟩ hS ?_;clear hS;rintro i w1 ⟨hi,hpb⟩ hS;dsimp only [List.cons_append,List.nil_append] at hi hpb hS |-;by_cases hlt:i < pgs.length;rotate_left
  ·obtain rfl:i=pgs.length:=by omega
   repeat' (first|(with_reducible apply a5 a4);rfl;rfl;rfl|refine yDn (by with_reducible constructor) ?_|(with_reducible apply b6);rfl;all_goals (intro hb hp;try (exfalso;omega)))
   (refine d4 rfl ?_)
   exact ⟨by rw [hpb],hS.sub (xg7 _)⟩
  obtain ⟨x,hx⟩:=l9 (l:=pgs) (i:=i) (by omega);have hrow:=i7 (f:=fpC) hx;obtain ⟨b,off,rfl,hro⟩:=hpg.at_ (i:=i) hlt;unfold fpC at hrow;have hfi:=fun w1 (h:Sl nF w1 4 (.slice pa ars.length ca) (ars.map arC))=>hfi0 w1 h x.page;rw [a6q hc] at hfi;have hst:=a12 (A:=ars) (l:=pgs) (n:=i);rw [hpb,xh1] at hst;have bx:(x.data.length:Int)=16 ↔ x.data.length=16:=by omega
  cases hfa:k7 ars x.page with
  |none=>
   rw [hfa] at hfi;unfold a2M arC at hfi;dsimp only [Option.getD,Option.isSome] at hfi;have hbad:=s5 (A:=ars) (n:=pgs.length) hlt (by unfold r8;rw [hx];dsimp only;rw [hfa];rfl)
   repeat' (first|(with_reducible apply a5 a4);rfl;rfl;rfl|(with_reducible apply a6);rfl;(first|apply Ld.sc a4;rfl;exact hS.blkC 0 rfl rfl|apply Ld.sl a4;rfl;exact hS.blkC 1 rfl rfl|apply Ld.st a4;rfl;exact hS.roR (by assumption) (by assumption);rfl);rfl|(with_reducible apply s9 a4);rfl;rfl;rfl;rfl;omega;rfl|refine yDn (by with_reducible constructor) ?_|(with_reducible apply b8 hS a4);rfl;rfl;rfl;clear hS;intro g w' hS|(with_reducible apply b7 hS a4 (i:=0));(iterate 8 rfl);(first|exact (rfl:_=[_,_])|exact (rfl:_=[_,_,_,_]));clear hS;intro w' hS;simp only [List.set] at hS|(with_reducible apply b6);rfl;all_goals (intro hb hp;try (exfalso;omega))|(with_reducible apply b4 hS);rfl;rfl;rfl;refine ⟨_,hfi _ (har.now hS),?_⟩;clear hS;intro w' hS)
   (focus ((with_reducible apply a8 _ _ _ (by kernel_rfl) (by kernel_rfl) hS);(repeat' ((first|(with_reducible apply i4 a4);rfl;rfl|(first|(with_reducible apply a0U);(iterate 4 rfl);rfl;rfl|(with_reducible apply a0r);(iterate 5 rfl)|(with_reducible apply l8);rfl;rfl;rfl;rfl))));all_goals ((with_reducible apply l3);intro w' hS';clear hS;have hS:=hS';clear hS')))
   repeat' (first|(with_reducible apply a5 a4);rfl;rfl;rfl|refine yDn (by with_reducible constructor) ?_|(with_reducible apply a9);rfl;rfl)
   (refine d4 rfl ?_)
   exact ⟨by rw [hbad],hS.sub (xg7 _)⟩
  |some a=>
   rw [hfa] at hfi;unfold a2M arC at hfi;dsimp only [Option.getD,Option.isSome] at hfi;by_cases hl:x.data.length=16;rotate_left
   ·have hdl:(!decide ((x.data.length:Int)=16))=true:=by rw [xg8 (fun h=>hl (bx.1 h))];rfl
    have hbad:=s5 (A:=ars) (n:=pgs.length) hlt (by unfold r8;rw [hx];dsimp only;rw [xg8 hl,xg9,xh2])
    repeat' (first|(with_reducible apply a5 a4);rfl;rfl;rfl|(with_reducible apply a6);rfl;(first|apply Ld.sc a4;rfl;exact hS.blkC 0 rfl rfl|apply Ld.sl a4;rfl;exact hS.blkC 1 rfl rfl|apply Ld.st a4;rfl;exact hS.roR (by assumption) (by assumption);rfl);rfl|(with_reducible apply s9 a4);rfl;rfl;rfl;rfl;omega;rfl|refine yDn (by with_reducible constructor) ?_|(with_reducible apply b8 hS a4);rfl;rfl;rfl;clear hS;intro g w' hS|(with_reducible apply b7 hS a4 (i:=0));(iterate 8 rfl);(first|exact (rfl:_=[_,_])|exact (rfl:_=[_,_,_,_]));clear hS;intro w' hS;simp only [List.set] at hS|(with_reducible apply b6);rfl;all_goals (intro hb hp;try (exfalso;omega))|(with_reducible apply b4 hS);rfl;rfl;rfl;refine ⟨_,hfi _ (har.now hS),?_⟩;clear hS;intro w' hS)
    (focus ((with_reducible apply a8 _ _ _ (by kernel_rfl) (by kernel_rfl) hS);(repeat' ((first|(with_reducible apply i4 a4);rfl;rfl|(with_reducible apply i6);rfl;(intro wd hd;replace hd:St _ _ wd _:=hd;(apply Ld.sc a4;rfl;exact hd.blkC 1 rfl rfl));rfl|(first|(with_reducible apply p7);(iterate 4 rfl);rfl|(with_reducible apply a0U);(iterate 4 rfl);assumption;rfl|(with_reducible apply a0r);(iterate 5 rfl)|(with_reducible apply l8);rfl;assumption;rfl;rfl|(with_reducible apply l2);rfl;rfl;rfl;rfl))));all_goals ((with_reducible apply l3);intro w' hS';clear hS;have hS:=hS';clear hS')))
    repeat' (first|(with_reducible apply a5 a4);rfl;rfl;rfl|refine yDn (by with_reducible constructor) ?_|(with_reducible apply a9);rfl;rfl)
    (refine d4 rfl ?_)
    exact ⟨by rw [hbad],hS.sub (xg7 _)⟩
   have hdl:(!decide ((x.data.length:Int)=16))=false:=by rw [xh0 (bx.2 hl)];rfl
   cases i with
   |zero=>
    have hd0:decide ((0:Int) < ((0:Nat):Int))=false:=rfl;have hok:r8 ars pgs 0=true:=by
     unfold r8;rw [hx];dsimp only;rw [hfa,xh0 hl];rfl
    rw [hok] at hst
    repeat' (first|(with_reducible apply a5 a4);rfl;rfl;rfl|(with_reducible apply a6);rfl;(first|apply Ld.sc a4;rfl;exact hS.blkC 0 rfl rfl|apply Ld.sl a4;rfl;exact hS.blkC 1 rfl rfl|apply Ld.st a4;rfl;exact hS.roR (by assumption) (by assumption);rfl);rfl|(with_reducible apply s9 a4);rfl;rfl;rfl;rfl;omega;rfl|refine yDn (by with_reducible constructor) ?_|(with_reducible apply b8 hS a4);rfl;rfl;rfl;clear hS;intro g w' hS|(with_reducible apply b7 hS a4 (i:=0));(iterate 8 rfl);(first|exact (rfl:_=[_,_])|exact (rfl:_=[_,_,_,_]));clear hS;intro w' hS;simp only [List.set] at hS|(with_reducible apply b6);rfl;all_goals (intro hb hp;try (exfalso;omega))|(with_reducible apply b4 hS);rfl;rfl;rfl;refine ⟨_,hfi _ (har.now hS),?_⟩;clear hS;intro w' hS)
    (focus ((with_reducible apply a8 _ _ _ (by kernel_rfl) (by kernel_rfl) hS);(repeat' ((first|(with_reducible apply i4 a4);rfl;rfl|(with_reducible apply i6);rfl;(intro wd hd;replace hd:St _ _ wd _:=hd;(apply Ld.sc a4;rfl;exact hd.blkC 1 rfl rfl));rfl|(first|((with_reducible apply p7);(iterate 4 rfl);first|rfl|assumption)|(with_reducible apply a0U);(iterate 4 rfl);rfl;rfl|(with_reducible apply l2);rfl;(first|rfl|assumption);rfl;rfl))));all_goals ((with_reducible apply l3);intro w' hS';clear hS;have hS:=hS';clear hS')))
    repeat' (first|(with_reducible apply a5 a4);rfl;rfl;rfl|(with_reducible apply o9);rfl;rfl;omega;omega;rfl|refine yDn (by with_reducible constructor) ?_|(with_reducible apply f8);rfl;rfl)
    exact m8 1 (by exact Fr.sub_of rfl) ⟨by omega,hst⟩ hS.drop.drop (by omega)
   |succ j=>
    have hd0:decide ((0:Int) < ((j + 1:Nat):Int))=true:=xh0 (by omega);obtain ⟨q,hq⟩:=l9 (l:=pgs) (i:=j) (by omega);have hjj:(((j + 1:Nat):Int) - 1).toNat=j:=by omega
    have hrowq:(pgs.map fpC)[(((j + 1:Nat):Int) - 1).toNat]?=some [.int .i64 q.page,.string ⟨q.data.toArray⟩]:=by rw [hjj];exact i7 (f:=fpC) hq
    by_cases hr:x.page<=q.page
    ·have hdr:decide (x.page<=q.page)=true:=xh0 hr;have hbad:=s5 (A:=ars) (n:=pgs.length) hlt (by unfold r8;rw [hx];dsimp only;rw [hq];dsimp only;rw [xg8 (show ¬q.page < x.page by omega),xh2,xh2])
     repeat' (first|(with_reducible apply a5 a4);rfl;rfl;rfl|(with_reducible apply a6);rfl;(first|apply Ld.sc a4;rfl;exact hS.blkC 0 rfl rfl|apply Ld.sl a4;rfl;exact hS.blkC 1 rfl rfl|apply Ld.st a4;rfl;exact hS.roR (by assumption) (by assumption);rfl);rfl|(with_reducible apply s9 a4);rfl;rfl;rfl;rfl;omega;rfl|refine yDn (by with_reducible constructor) ?_|(with_reducible apply b8 hS a4);rfl;rfl;rfl;clear hS;intro g w' hS|(with_reducible apply b7 hS a4 (i:=0));(iterate 8 rfl);(first|exact (rfl:_=[_,_])|exact (rfl:_=[_,_,_,_]));clear hS;intro w' hS;simp only [List.set] at hS|(with_reducible apply b6);rfl;all_goals (intro hb hp;try (exfalso;omega))|(with_reducible apply b4 hS);rfl;rfl;rfl;refine ⟨_,hfi _ (har.now hS),?_⟩;clear hS;intro w' hS)
     (focus ((with_reducible apply a8 _ _ _ (by kernel_rfl) (by kernel_rfl) hS);(repeat' ((first|(with_reducible apply a3j);rfl;rfl;omega;omega;rfl|(with_reducible apply i4 a4);rfl;rfl|(with_reducible apply i6);rfl;(intro wd hd;replace hd:St _ _ wd _:=hd;(first|apply Ld.sc a4;rfl;(first|exact hd.blkC 1 rfl rfl|exact hd.roC0 (by assumption) (by assumption) rfl)|apply Ld.sl a4;rfl;exact hd.blkC 2 rfl rfl));rfl|(with_reducible apply a0a a4);rfl;rfl;rfl;exact xh3 (by omega);omega;rfl|(first|((with_reducible apply p7);(iterate 4 rfl);first|rfl|assumption)|(with_reducible apply l8);rfl;assumption;rfl;rfl|(with_reducible apply l2);rfl;(first|rfl|assumption);rfl;rfl))));all_goals ((with_reducible apply l3);intro w' hS';clear hS;have hS:=hS';clear hS')))
     repeat' (first|(with_reducible apply a5 a4);rfl;rfl;rfl|refine yDn (by with_reducible constructor) ?_|(with_reducible apply a9);rfl;assumption)
     (refine d4 rfl ?_)
     exact ⟨by rw [hbad],hS.sub (xg7 _)⟩
    ·have hdr:decide (x.page<=q.page)=false:=xg8 hr;have hok:r8 ars pgs (j + 1)=true:=by
      unfold r8;rw [hx];dsimp only;rw [hq];dsimp only;rw [hfa,xh0 hl,xh0 (show q.page < x.page by omega)];rfl
     rw [hok] at hst
     repeat' (first|(with_reducible apply a5 a4);rfl;rfl;rfl|(with_reducible apply a6);rfl;(first|apply Ld.sc a4;rfl;exact hS.blkC 0 rfl rfl|apply Ld.sl a4;rfl;exact hS.blkC 1 rfl rfl|apply Ld.st a4;rfl;exact hS.roR (by assumption) (by assumption);rfl);rfl|(with_reducible apply s9 a4);rfl;rfl;rfl;rfl;omega;rfl|refine yDn (by with_reducible constructor) ?_|(with_reducible apply b8 hS a4);rfl;rfl;rfl;clear hS;intro g w' hS|(with_reducible apply b7 hS a4 (i:=0));(iterate 8 rfl);(first|exact (rfl:_=[_,_])|exact (rfl:_=[_,_,_,_]));clear hS;intro w' hS;simp only [List.set] at hS|(with_reducible apply b6);rfl;all_goals (intro hb hp;try (exfalso;omega))|(with_reducible apply b4 hS);rfl;rfl;rfl;refine ⟨_,hfi _ (har.now hS),?_⟩;clear hS;intro w' hS)
     (focus ((with_reducible apply a8 _ _ _ (by kernel_rfl) (by kernel_rfl) hS);(repeat' ((first|(with_reducible apply a3j);rfl;rfl;omega;omega;rfl|(with_reducible apply i4 a4);rfl;rfl|(with_reducible apply i6);rfl;(intro wd hd;replace hd:St _ _ wd _:=hd;(first|apply Ld.sc a4;rfl;(first|exact hd.blkC 1 rfl rfl|exact hd.roC0 (by assumption) (by assumption) rfl)|apply Ld.sl a4;rfl;exact hd.blkC 2 rfl rfl));rfl|(with_reducible apply a0a a4);rfl;rfl;rfl;exact xh3 (by omega);omega;rfl|(first|((with_reducible apply p7);(iterate 4 rfl);first|rfl|assumption)|(with_reducible apply l8);rfl;assumption;rfl;rfl|(with_reducible apply l2);rfl;(first|rfl|assumption);rfl;rfl))));all_goals ((with_reducible apply l3);intro w' hS';clear hS;have hS:=hS';clear hS')))
     repeat' (first|(with_reducible apply a5 a4);rfl;rfl;rfl|(with_reducible apply o9);rfl;rfl;omega;omega;rfl|refine yDn (by with_reducible constructor) ?_|(with_reducible apply f8);rfl;assumption)
     exact m8 (j + 1 + 1) (by exact Fr.sub_of rfl) ⟨by omega,hst⟩ hS.drop.drop (by omega)
structure FlOk (w:World) (f:FlV):Prop where
 sp:Sl nF w 3 f.vsp (f.sp.map fsC)
 ar:∀ x ∈ f.sp,Sl nF w 4 x.2.1 (x.1.areas.map arC)
 pg:∀ x ∈ f.sp,Sl nF w 2 x.2.2 (x.1.pages.map fpC)
 pr:Sl nF w 13 f.vpr (f.pr.map prC)
 out:Sl nF w 2 f.vout (f.out.map wdC)
theorem FlOk.now {w w':World} {Γ:List Asr} {f:FlV} (h:FlOk w f) (hS:St nF w w' Γ):FlOk w' f:=⟨h.sp.now hS,fun x hx=>(h.ar x hx).now hS,fun x hx=>(h.pg x hx).now hS,h.pr.now hS,h.out.now hS⟩
theorem b0P {x:Fs} (h:fsB x=true):x.pages.length<=65025:=by
 unfold fsB at h
 split at h
 ·simp only [xb7,xh4] at h;obtain ⟨h1,h2,-⟩:=h;obtain ⟨h3,h4⟩:=o3.1 h1;have:=a6S (w5 h4) x.areas.length;rw [xf2] at this;omega
 ·simp only [xb7,xh4] at h;rw [h.2];exact xf0 _
theorem a3A {l:List (Fs×Value×Value)} {i:Nat} {x:Fs×Value×Value} (h:l[i]?=some x):a0w (l.take (i + 1))=a0w (l.take i) + x.1.pages.length:=by
 unfold a0w;rw [a0F h,xh5,List.sum_append];simp
theorem a4Z {g:Nat->Bool} {i:Nat}:(List.range (i + 1)).all g=((List.range i).all g && g i):=by
 rw [List.range_succ,List.all_append,xg4,xg5,xg6]
theorem x6 {g:Nat->Bool} {n i:Nat} (hi:i < n) (h:g i=false):(List.range n).all g=false:=by
 rw [List.all_eq_false];exact ⟨i,List.mem_range.2 hi,by rw [h];simp⟩
theorem a4t {w:World} {f:FlV} (hK:FlOk w f):Fn Tryz.prog 39 [.agg (flC f).toArray] w (RBf (.int .i64 (p8 f)) w):=by
 obtain ⟨m1,m2,m3,m4,m5⟩:=hK;have b1:=m1.bound;have b2:=m4.bound;have b3:=m5.bound;obtain ⟨slots,sp,pr,out,vsp,vpr,vout⟩:=f;dsimp only at m1 m2 m3 m4 m5 b1 b2 b3 |-;obtain ⟨p1,c1,rfl⟩:=m1.len;obtain ⟨p2,c2,rfl⟩:=m4.len;obtain ⟨p3,c3,rfl⟩:=m5.len;unfold flC;dsimp only;by_cases h1:sp.length < 1
 ·have hd1:decide ((sp.length:Int) < 1)=true:=xh0 (by omega);refine yEn Tryz.func39 Tryz.ntmps39 (by kernel_rfl) (by kernel_rfl) rfl rfl ?_;have hS:=St.start w
  repeat' (first|(with_reducible apply a5 a4);rfl;rfl;rfl|(with_reducible apply a6);rfl;(apply Ld.sl a4;rfl;exact hS.blkC 0 rfl rfl);rfl|refine yDn (by with_reducible constructor) ?_|(with_reducible apply o4);(iterate 4 rfl);(first|rfl|assumption);rfl|(with_reducible apply d9);rfl;(first|rfl|assumption);rfl;rfl|(with_reducible apply a9);rfl;rfl|(with_reducible apply d8 hS);rfl;rfl;rfl;clear hS;intro g w' hS)
  (refine d4 rfl ?_)
  exact ⟨by unfold p8;rw [xd8 (by unfold y9;dsimp only;omega)],hS.sub (xg7 _)⟩
 have hd1:decide ((sp.length:Int) < 1)=false:=xg8 (by omega);by_cases h2:4 < sp.length
 ·have hd2:decide ((4:Int) < (sp.length:Int))=true:=xh0 (by omega);refine yEn Tryz.func39 Tryz.ntmps39 (by kernel_rfl) (by kernel_rfl) rfl rfl ?_;have hS:=St.start w
  repeat' (first|(with_reducible apply a5 a4);rfl;rfl;rfl|(with_reducible apply a6);rfl;(apply Ld.sl a4;rfl;exact hS.blkC 0 rfl rfl);rfl|refine yDn (by with_reducible constructor) ?_|(with_reducible apply e9);(iterate 4 rfl);assumption|(with_reducible apply o4);(iterate 4 rfl);(first|rfl|assumption);rfl|(with_reducible apply d9);rfl;(first|rfl|assumption);rfl;rfl|(with_reducible apply a7);rfl;assumption;rfl;rfl|(with_reducible apply a9);rfl;rfl|(with_reducible apply d8 hS);rfl;rfl;rfl;clear hS;intro g w' hS)
  (refine d4 rfl ?_)
  exact ⟨by unfold p8;rw [xd8 (by unfold y9;dsimp only;omega)],hS.sub (xg7 _)⟩
 have hd2:decide ((4:Int) < (sp.length:Int))=false:=xg8 (by omega);by_cases h3:pr.length=sp.length;rotate_left
 ·have hd3:(!decide ((pr.length:Int)=(sp.length:Int)))=true:=by rw [xg8 (by omega)];rfl
  refine yEn Tryz.func39 Tryz.ntmps39 (by kernel_rfl) (by kernel_rfl) rfl rfl ?_;have hS:=St.start w
  repeat' (first|(with_reducible apply a5 a4);rfl;rfl;rfl|(with_reducible apply a6);rfl;(apply Ld.sl a4;rfl;exact hS.blkC 0 rfl rfl);rfl|refine yDn (by with_reducible constructor) ?_|(with_reducible apply e9);(iterate 4 rfl);assumption|(with_reducible apply o4);(iterate 4 rfl);(first|rfl|assumption);rfl|(with_reducible apply d9);rfl;(first|rfl|assumption);rfl;rfl|(with_reducible apply a7);rfl;assumption;rfl;rfl|(with_reducible apply a9);rfl;rfl|(with_reducible apply d8 hS);rfl;rfl;rfl;clear hS;intro g w' hS)
  (refine d4 rfl ?_)
  exact ⟨by unfold p8;rw [xd8 (by unfold y9;dsimp only;omega)],hS.sub (xg7 _)⟩
 have hd3:(!decide ((pr.length:Int)=(sp.length:Int)))=false:=by rw [xh0 (by omega)];rfl
 by_cases h4:slots < 0
 ·have hd4:decide (slots < 0)=true:=xh0 h4;refine yEn Tryz.func39 Tryz.ntmps39 (by kernel_rfl) (by kernel_rfl) rfl rfl ?_;have hS:=St.start w
  repeat' (first|(with_reducible apply a5 a4);rfl;rfl;rfl|(with_reducible apply a6);rfl;(first|apply Ld.sc a4;rfl;exact hS.blkC 0 rfl rfl|apply Ld.sl a4;rfl;exact hS.blkC 0 rfl rfl);rfl|refine yDn (by with_reducible constructor) ?_|(with_reducible apply e9);(iterate 4 rfl);assumption|(with_reducible apply o4);(iterate 4 rfl);(first|rfl|assumption);rfl|(with_reducible apply d9);rfl;(first|rfl|assumption);rfl;rfl|(with_reducible apply a7);rfl;assumption;rfl;rfl|(with_reducible apply a9);rfl;rfl|(with_reducible apply d8 hS);rfl;rfl;rfl;clear hS;intro g w' hS)
  (refine d4 rfl ?_)
  exact ⟨by unfold p8;rw [xd8 (by unfold y9;dsimp only;omega)],hS.sub (xg7 _)⟩
 have hd4:decide (slots < 0)=false:=xg8 h4;by_cases h5:512 < slots
 ·have hd5:decide (512 < slots)=true:=xh0 h5;refine yEn Tryz.func39 Tryz.ntmps39 (by kernel_rfl) (by kernel_rfl) rfl rfl ?_;have hS:=St.start w
  repeat' (first|(with_reducible apply a5 a4);rfl;rfl;rfl|(with_reducible apply a6);rfl;(first|apply Ld.sc a4;rfl;exact hS.blkC 0 rfl rfl|apply Ld.sl a4;rfl;exact hS.blkC 0 rfl rfl);rfl|refine yDn (by with_reducible constructor) ?_|(with_reducible apply e9);(iterate 4 rfl);assumption|(with_reducible apply o4);(iterate 4 rfl);assumption;rfl|(with_reducible apply d9);rfl;assumption;rfl;rfl|(with_reducible apply a7);rfl;assumption;rfl;rfl|(with_reducible apply a9);rfl;rfl|(with_reducible apply d8 hS);rfl;rfl;rfl;clear hS;intro g w' hS)
  (refine d4 rfl ?_)
  exact ⟨by unfold p8;rw [xd8 (by unfold y9;dsimp only;omega)],hS.sub (xg7 _)⟩
 have hd5:decide (512 < slots)=false:=xg8 h5;by_cases h6:2000 < out.length
 ·have hd6:decide ((2000:Int) < (out.length:Int))=true:=xh0 (by omega);refine yEn Tryz.func39 Tryz.ntmps39 (by kernel_rfl) (by kernel_rfl) rfl rfl ?_;have hS:=St.start w
  repeat' (first|(with_reducible apply a5 a4);rfl;rfl;rfl|(with_reducible apply a6);rfl;(first|apply Ld.sc a4;rfl;exact hS.blkC 0 rfl rfl|apply Ld.sl a4;rfl;exact hS.blkC 0 rfl rfl);rfl|refine yDn (by with_reducible constructor) ?_|(with_reducible apply e9);(iterate 4 rfl);assumption|(with_reducible apply a7);rfl;assumption;rfl;rfl|(with_reducible apply a9);rfl;assumption|(with_reducible apply d8 hS);rfl;rfl;rfl;clear hS;intro g w' hS)
  (refine d4 rfl ?_)
  exact ⟨by unfold p8;rw [xd8 (by unfold y9;dsimp only;omega)],hS.sub (xg7 _)⟩
 have hd6:decide ((2000:Int) < (out.length:Int))=false:=xg8 (by omega);have hfl:¬y9 ⟨slots,sp,pr,out,.slice p1 sp.length c1,.slice p2 pr.length c2,.slice p3 out.length c3⟩:=by unfold y9;dsimp only;omega
 unfold p8;rw [xd9 hfl];dsimp only;refine yEn Tryz.func39 Tryz.ntmps39 (by kernel_rfl) (by kernel_rfl) rfl rfl ?_;have hS:=St.start w
 (repeat ((refine yDn (by with_reducible constructor) ?_)))
 (((with_reducible apply d8 hS);rfl;rfl;rfl);clear hS;intro g1 w' hS)
 repeat' (first|(with_reducible apply a5 a4);rfl;rfl;rfl|(with_reducible apply a6);rfl;(first|apply Ld.sc a4;rfl;exact hS.blkC 0 rfl rfl|apply Ld.sl a4;rfl;exact hS.blkC 0 rfl rfl);rfl|refine yDn (by with_reducible constructor) ?_|(with_reducible apply e9);(iterate 4 rfl);assumption|(with_reducible apply a7);rfl;assumption;rfl;rfl|(with_reducible apply f8);rfl;assumption)
 obtain ⟨g0,hf0⟩:∃ g0:Nat->Bool,g0=a7Z ⟨slots,sp,pr,out,.slice p1 sp.length c1,.slice p2 pr.length c2,.slice p3 out.length c3⟩:=⟨_,rfl⟩;have hspk:∀ (i:Nat) x p,sp[i]?=some x->pr[i]?=some p->g0 i=(fsB x.1 && o5 p x.1.live):=fun i x p h1 h2=>by
  rw [hf0];unfold a7Z;dsimp only;rw [h1,h2]
 rw [<- hf0];clear hf0 hfl;refine o6 (F:=nF) (w0:=w) (X:=Nat) (fun i=>[(44,.int .i64 (i:Nat)),(3,.int .i64 (a0w (sp.take i):Nat))]) [1,42,43] rfl (fun _=>[]) (fun i=>i<=sp.length/\(List.range i).all g0=true/\a0w (sp.take i)<=65025 * i) (fun i=>sp.length - i) 0 (by exact Fr.sub_of rfl) ⟨xf0 _,rfl,xf0 _⟩ hS ?_;clear hS;rintro i w1 ⟨hi,hal,hsm⟩ hS;dsimp only [List.cons_append,List.nil_append] at hi hal hsm hS |-;by_cases hlt:i < sp.length;rotate_left
 ·obtain rfl:i=sp.length:=by omega
  rw [xf2] at hsm |-;have hto:=fun w1 (h:Sl nF w1 2 (.slice p3 out.length c3) (out.map wdC))=>a9K h (pr.length:Nat);rw [hal,xh1];by_cases hg:slots < (a0w sp:Nat)
  ·have hdg:decide (slots < ((a0w sp:Nat):Int))=true:=xh0 hg
   repeat' (first|(with_reducible apply a5 a4);rfl;rfl;rfl|(with_reducible apply a6);rfl;(apply Ld.sc a4;rfl;exact hS.blkC 0 rfl rfl);rfl|refine yDn (by with_reducible constructor) ?_|(with_reducible apply o4);(iterate 4 rfl);assumption;rfl|(with_reducible apply d9);rfl;assumption;rfl;rfl|(with_reducible apply a9);rfl;rfl|(with_reducible apply b6);rfl;all_goals (intro hb hp;try (exfalso;omega)))
   (refine d4 rfl ?_)
   exact ⟨by rw [xg8 (show ¬((a0w sp:Nat):Int)<=slots by omega),xg9];rfl,hS.sub (xg7 _)⟩
  have hdg:decide (slots < ((a0w sp:Nat):Int))=false:=xg8 hg;rw [xh0 (show ((a0w sp:Nat):Int)<=slots by omega),xh1]
  cases ht:a0O out (pr.length:Nat) with
  |true=>
   simp only [ht] at hto
   repeat' (first|(with_reducible apply a5 a4);rfl;rfl;rfl|(with_reducible apply a6);rfl;(first|apply Ld.sc a4;rfl;exact hS.blkC 0 rfl rfl|apply Ld.sl a4;rfl;exact hS.blkC 0 rfl rfl);rfl|refine yDn (by with_reducible constructor) ?_|(with_reducible apply e9);(iterate 4 rfl);assumption|(with_reducible apply a7);rfl;assumption;rfl;rfl|(with_reducible apply f8);rfl;rfl|(with_reducible apply b6);rfl;all_goals (intro hb hp;try (exfalso;omega))|(with_reducible apply b4 hS);rfl;rfl;rfl;refine ⟨_,hto _ (m5.now hS),?_⟩;clear hS;intro w' hS)
   (refine d4 rfl ?_)
   exact ⟨rfl,hS.sub (xg7 _)⟩
  |false=>
   simp only [ht] at hto
   repeat' (first|(with_reducible apply a5 a4);rfl;rfl;rfl|(with_reducible apply a6);rfl;(first|apply Ld.sc a4;rfl;exact hS.blkC 0 rfl rfl|apply Ld.sl a4;rfl;exact hS.blkC 0 rfl rfl);rfl|refine yDn (by with_reducible constructor) ?_|(with_reducible apply e9);(iterate 4 rfl);assumption|(with_reducible apply a7);rfl;assumption;rfl;rfl|(with_reducible apply a9);rfl;rfl|(with_reducible apply b6);rfl;all_goals (intro hb hp;try (exfalso;omega))|(with_reducible apply b4 hS);rfl;rfl;rfl;refine ⟨_,hto _ (m5.now hS),?_⟩;clear hS;intro w' hS)
   (refine d4 rfl ?_)
   exact ⟨rfl,hS.sub (xg7 _)⟩
 obtain ⟨x,hx⟩:=l9 (l:=sp) (i:=i) (by omega);obtain ⟨p,hp⟩:=l9 (l:=pr) (i:=i) (by omega);have hxm:=xc1 hx;have hrow:=i7 (f:=fsC) hx;have hrow2:=i7 (f:=prC) hp;obtain ⟨b,off,rfl,hro⟩:=m1.at_ (i:=i) hlt;obtain ⟨b',off',rfl,hro2⟩:=m4.at_ (i:=i) (by omega);unfold fsC at hrow;have hsp:=fun w1 (h1:Sl nF w1 4 x.2.1 (x.1.areas.map arC)) (h2:Sl nF w1 2 x.2.2 (x.1.pages.map fpC))=>a7v h1 h2;have hfn:=fun w1=>b0n p x.1.live w1;have hk:=hspk i x p hx hp;have hst:=a4Z (g:=g0) (i:=i);rw [hal,xh1] at hst;have hss:=a3A hx;have har:=m2 x hxm;have hpg:=m3 x hxm;unfold prC at hfn hrow2;obtain ⟨⟨live,ars,pgs⟩,va,vp⟩:=x;dsimp only at hrow hsp hfn hk hss har hpg;obtain ⟨pa,ca,rfl⟩:=har.len;obtain ⟨pp,cp,rfl⟩:=hpg.len
 cases hsb:fsB ⟨live,ars,pgs⟩ with
 |false=>
  rw [hsb,xg9] at hk;have hbad:=x6 hlt hk;simp only [hsb] at hsp
  repeat' (first|(with_reducible apply a5 a4);rfl;rfl;rfl|(with_reducible apply a6);rfl;(apply Ld.st a4;rfl;exact hS.roR (by assumption) (by assumption);rfl);rfl|(with_reducible apply s9 a4);rfl;rfl;rfl;rfl;omega;rfl|refine yDn (by with_reducible constructor) ?_|(with_reducible apply b8 hS a4);rfl;rfl;rfl;clear hS;intro g w' hS|(with_reducible apply b7 hS a4 (i:=0));(iterate 8 rfl);exact (rfl:_=[_,_,_]);clear hS;intro w' hS;simp only [List.set] at hS|(with_reducible apply b6);rfl;all_goals (intro hb hp;try (exfalso;omega)))
  (focus ((with_reducible apply a8 _ _ _ (by kernel_rfl) (by kernel_rfl) hS);(repeat' (first|(first|(with_reducible apply i4 a4);rfl;rfl|(with_reducible apply i6);rfl;(intro wd hd;replace hd:St _ _ wd _:=hd;(apply Ld.st a4;rfl;exact hd.blkR 0 rfl;rfl));rfl|(first|(with_reducible apply a0U);(iterate 4 rfl);rfl;rfl|(with_reducible apply l8);rfl;rfl;rfl;rfl))|(with_reducible apply b9);rfl;rfl;rfl;refine ⟨_,fun wd hd=>hsp _ (har.now hd) (hpg.now hd),?_⟩));all_goals ((with_reducible apply l3);intro w' hS';clear hS;have hS:=hS';clear hS')))
  repeat' (first|(with_reducible apply a5 a4);rfl;rfl;rfl|refine yDn (by with_reducible constructor) ?_|(with_reducible apply a9);rfl;rfl)
  (refine d4 rfl ?_)
  exact ⟨by rw [hbad];rfl,hS.sub (xg7 _)⟩
 |true=>
  have hpl:=b0P hsb;dsimp only at hpl;simp only [hsb] at hsp
  cases hfb:o5 p live with
  |false=>
   rw [hsb,hfb] at hk;have hbad:=x6 hlt hk;simp only [hfb] at hfn
   repeat' (first|(with_reducible apply a5 a4);rfl;rfl;rfl|(with_reducible apply a6);rfl;(apply Ld.st a4;rfl;exact hS.roR (by assumption) (by assumption);rfl);rfl|(with_reducible apply s9 a4);rfl;rfl;rfl;rfl;omega;rfl|refine yDn (by with_reducible constructor) ?_|(with_reducible apply b8 hS a4);rfl;rfl;rfl;clear hS;intro g w' hS|(with_reducible apply b7 hS a4 (i:=0));(iterate 8 rfl);exact (rfl:_=[_,_,_]);clear hS;intro w' hS;simp only [List.set] at hS|(with_reducible apply b6);rfl;all_goals (intro hb hp;try (exfalso;omega)))
   (focus ((with_reducible apply a8 _ _ _ (by kernel_rfl) (by kernel_rfl) hS);(repeat' (first|(first|(with_reducible apply i4 a4);rfl;rfl|(with_reducible apply i6);rfl;(intro wd hd;replace hd:St _ _ wd _:=hd;(first|apply Ld.sc a4;rfl;exact hd.blkC 0 rfl rfl|apply Ld.sl a4;rfl;exact hd.blkC 1 rfl rfl|apply Ld.st a4;rfl;(first|exact hd.blkR 0 rfl|exact hd.roR (by assumption) (by assumption));rfl));rfl|(with_reducible apply a0a a4);rfl;rfl;rfl;rfl;omega;rfl|(first|(with_reducible apply p7);(iterate 4 rfl);rfl|(with_reducible apply l2);rfl;rfl;rfl;rfl))|(with_reducible apply b9);rfl;rfl;rfl;refine ⟨_,fun wd hd=>hsp _ (har.now hd) (hpg.now hd),?_⟩|(with_reducible apply b9);rfl;rfl;rfl;refine ⟨_,fun wd hd=>hfn _,?_⟩));all_goals ((with_reducible apply l3);intro w' hS';clear hS;have hS:=hS';clear hS')))
   repeat' (first|(with_reducible apply a5 a4);rfl;rfl;rfl|refine yDn (by with_reducible constructor) ?_|(with_reducible apply a9);rfl;rfl)
   (refine d4 rfl ?_)
   exact ⟨by rw [hbad];rfl,hS.sub (xg7 _)⟩
  |true=>
   rw [hsb,hfb] at hk;rw [hk] at hst;simp only [hfb] at hfn
   repeat' (first|(with_reducible apply a5 a4);rfl;rfl;rfl|(with_reducible apply a6);rfl;(apply Ld.st a4;rfl;exact hS.roR (by assumption) (by assumption);rfl);rfl|(with_reducible apply s9 a4);rfl;rfl;rfl;rfl;omega;rfl|refine yDn (by with_reducible constructor) ?_|(with_reducible apply b8 hS a4);rfl;rfl;rfl;clear hS;intro g w' hS|(with_reducible apply b7 hS a4 (i:=0));(iterate 8 rfl);exact (rfl:_=[_,_,_]);clear hS;intro w' hS;simp only [List.set] at hS|(with_reducible apply b6);rfl;all_goals (intro hb hp;try (exfalso;omega)))
   (focus ((with_reducible apply a8 _ _ _ (by kernel_rfl) (by kernel_rfl) hS);(repeat' (first|(first|(with_reducible apply i4 a4);rfl;rfl|(with_reducible apply i6);rfl;(intro wd hd;replace hd:St _ _ wd _:=hd;(first|apply Ld.sc a4;rfl;exact hd.blkC 0 rfl rfl|apply Ld.sl a4;rfl;exact hd.blkC 1 rfl rfl|apply Ld.st a4;rfl;(first|exact hd.blkR 0 rfl|exact hd.roR (by assumption) (by assumption));rfl));rfl|(with_reducible apply a0a a4);rfl;rfl;rfl;rfl;omega;rfl|(first|(with_reducible apply p7);(iterate 4 rfl);rfl|(with_reducible apply l2);rfl;rfl;rfl;rfl))|(with_reducible apply b9);rfl;rfl;rfl;refine ⟨_,fun wd hd=>hsp _ (har.now hd) (hpg.now hd),?_⟩|(with_reducible apply b9);rfl;rfl;rfl;refine ⟨_,fun wd hd=>hfn _,?_⟩));all_goals ((with_reducible apply l3);intro w' hS';clear hS;have hS:=hS';clear hS')))
   repeat' (first|(with_reducible apply a5 a4);rfl;rfl;rfl|(with_reducible apply a6);rfl;(apply Ld.sl a4;rfl;exact hS.blkC 0 rfl rfl);rfl|(with_reducible apply o9);rfl;rfl;omega;omega;rfl|refine yDn (by with_reducible constructor) ?_|(with_reducible apply f8);rfl;rfl)
   refine m8 (i + 1) (by rw [hss];exact Fr.sub_of rfl) ⟨by omega,hst,by rw [hss];omega⟩ hS.drop (by omega)
def pr1 (entry:Int):Pc:=⟨0,0,0,0,0,0,0,0,entry,1,0,0,0⟩
theorem a5e (entry:Int) (w:World):Fn Tryz.prog 72 [.int .i64 entry] w (fun v w'=>∃ g,v=.slice (some ⟨g,0,none⟩) 1 1/\St nF w w' [.row 123 13 (.slice (some ⟨g,0,none⟩) 1 1) ([pr1 entry].map prC)]):=by
 refine yEn Tryz.func72 Tryz.ntmps72 (by kernel_rfl) (by kernel_rfl) rfl rfl ?_;have hS:=St.start w
 repeat' (first|(with_reducible apply a5 a4);rfl;rfl;rfl|(with_reducible apply s6 a4);rfl;rfl;rfl;rfl|refine yDn (by with_reducible constructor) ?_|(with_reducible apply a07 hS a4);(iterate 7 rfl);clear hS;intro g w' hS)
 (refine d4 rfl ?_)
 exact ⟨_,rfl,hS⟩
theorem a3Y (va vs:Value) (entry:Int) (w:World):Fn Tryz.prog 75 [.agg #[va,vs,.int .i64 entry]] w (fun v w'=>∃ g,v=.slice (some ⟨g,0,none⟩) 1 1/\St nF w w' [.row 123 13 (.slice (some ⟨g,0,none⟩) 1 1) ([pr1 entry].map prC)]):=by
 refine yEn Tryz.func75 Tryz.ntmps75 (by kernel_rfl) (by kernel_rfl) rfl rfl ?_;have hS:=St.start w
 repeat' (first|(with_reducible apply a5 a4);rfl;rfl;rfl|(with_reducible apply a6);rfl;(apply Ld.sc a4;rfl;exact hS.blkC 0 rfl rfl);rfl|(with_reducible apply s6 a4);rfl;rfl;rfl;rfl|refine yDn (by with_reducible constructor) ?_|(with_reducible apply d8 hS);rfl;rfl;rfl;clear hS;intro g w' hS|(with_reducible apply a07 hS a4);(iterate 7 rfl);clear hS;intro g w' hS)
 (refine d4 rfl ?_)
 exact ⟨_,rfl,hS.sub (.cons_cons _ (xg7 _))⟩
theorem a9z (z0 z1 z2 z3 z4 z5 z6 z7:Int) (w:World):(Op.equalIn 9999 121 (.agg #[.int .i64 z0,.int .i64 z1,.int .i64 z2,.int .i64 z3,.int .i64 z4,.int .i64 z5,.int .i64 z6,.int .i64 z7]) (.agg #[.int .i64 z0,.int .i64 z1,.int .i64 z2,.int .i64 z3,.int .i64 z4,.int .i64 z5,.int .i64 z6,.int .i64 z7])).run Tryz.prog w=.ok true w:=by
 have u3:=Tryz.underlying3;have a3:=Tryz.isAgg3;have z3:=Tryz.sizeOf3;rw [show (9999:Nat)=9998 + 1 from rfl,Op.equalIn];simp only [Sem.run_bind,run_underlying Tryz.underlying121,Result.andThen_ok];simp only [Std.Legacy.Range.forIn_eq_forIn_range',Std.Legacy.Range.size,Nat.sub_zero,Nat.add_sub_cancel,Nat.div_one,List.range'_succ,List.range'_zero,List.forIn_cons,List.forIn_nil]
 go_simp
theorem b3p (a:Pc):a3o Tryz.prog 123 (prC a) (prC a) true:=by
 refine ⟨fun w=>?_,by kernel_rfl⟩;have heq:=a9z
 cases a
 unfold prC;simp [go_sem,heq]
theorem b3r (a b:Wd):a3o Tryz.prog 120 (wdC a) (wdC b) (decide (a=b)):=by
 refine ⟨fun w=>?_,by kernel_rfl⟩
 cases a
 cases b
 unfold wdC;simp [go_sem]
 repeat' split
 all_goals simp_all
theorem b28 (a:Wd):a3o Tryz.prog 120 (wdC a) (wdC a) true:=by
 have h:=b3r a a;rw [xh0 rfl] at h;exact h
theorem a4e {w:World} {v v':Value} {l:List Pc} (hL:Sl nF w 13 v (l.map prC)) (hM:Sl nF w 13 v' (l.map prC)):Fn Tryz.prog 31 [v,v'] w (RBf (.bool true) w):=by
 have b1:=hL.bound;obtain ⟨p,c,rfl⟩:=hL.len;obtain ⟨p',c',rfl⟩:=hM.len;have hdl:(!decide ((l.length:Int)=(l.length:Int)))=false:=by rw [xh0 rfl];rfl
 refine yEn Tryz.func31 Tryz.ntmps31 (by kernel_rfl) (by kernel_rfl) rfl rfl ?_;have hS:=St.start w
 repeat' (first|(with_reducible apply a5 a4);rfl;rfl;rfl|refine yDn (by with_reducible constructor) ?_|(with_reducible apply f8);rfl;assumption)
 refine o6 (F:=nF) (w0:=w) (X:=Nat) (fun i=>[(5,.int .i64 (i:Nat))]) [0,1] rfl (fun _=>[]) (fun i=>i<=l.length) (fun i=>l.length - i) 0 (by exact Fr.sub_of rfl) (xf0 _) hS ?_;clear hS;rintro i w1 hi hS;dsimp only [List.cons_append,List.nil_append] at hi hS |-;by_cases hlt:i < l.length;rotate_left
 ·obtain rfl:i=l.length:=by omega
  repeat' (first|(with_reducible apply a5 a4);rfl;rfl;rfl|refine yDn (by with_reducible constructor) ?_|(with_reducible apply b6);rfl;all_goals (intro hb hp;try (exfalso;omega)))
  (refine d4 rfl ?_)
  exact ⟨rfl,hS.sub (xg7 _)⟩
 obtain ⟨x,hx⟩:=l9 (l:=l) (i:=i) (by omega);have hrow:=i7 (f:=prC) hx;obtain ⟨b,off,rfl,hro⟩:=hL.at_ (i:=i) hlt;obtain ⟨b',off',rfl,hro2⟩:=hM.at_ (i:=i) hlt;have heq:=b3p x;unfold prC at hrow heq
 repeat' (first|(with_reducible apply a5 a4);rfl;rfl;rfl|refine yDn (by with_reducible constructor) ?_|(with_reducible apply b6);rfl;all_goals (intro hb hp;try (exfalso;omega)))
 (focus ((with_reducible apply a8 _ _ _ (by kernel_rfl) (by kernel_rfl) hS);(repeat' (first|(first|(with_reducible apply i4 a4);rfl;rfl|(with_reducible apply i6);rfl;(intro wd hd;replace hd:St _ _ wd _:=hd;(apply Ld.st a4;rfl;exact hd.roR (by assumption) (by assumption);rfl));rfl|(with_reducible apply a0a a4);rfl;rfl;rfl;rfl;omega;rfl)|(with_reducible apply a6U);rfl;rfl;exact heq;rfl));all_goals ((with_reducible apply l3);intro w' hS';clear hS;have hS:=hS';clear hS')))
 repeat' (first|(with_reducible apply a5 a4);rfl;rfl;rfl|(with_reducible apply o9);rfl;rfl;omega;omega;rfl|refine yDn (by with_reducible constructor) ?_|(with_reducible apply f8);rfl;rfl)
 exact m8 (i + 1) (by exact Fr.sub_of rfl) (by omega) hS (by omega)
theorem a4j {w:World} {v v':Value} {l:List Wd} (hL:Sl nF w 2 v (l.map wdC)) (hM:Sl nF w 2 v' (l.map wdC)):Fn Tryz.prog 32 [v,v'] w (RBf (.bool true) w):=by
 have b1:=hL.bound;obtain ⟨p,c,rfl⟩:=hL.len;obtain ⟨p',c',rfl⟩:=hM.len;have hdl:(!decide ((l.length:Int)=(l.length:Int)))=false:=by rw [xh0 rfl];rfl
 refine yEn Tryz.func32 Tryz.ntmps32 (by kernel_rfl) (by kernel_rfl) rfl rfl ?_;have hS:=St.start w
 repeat' (first|(with_reducible apply a5 a4);rfl;rfl;rfl|refine yDn (by with_reducible constructor) ?_|(with_reducible apply f8);rfl;assumption)
 refine o6 (F:=nF) (w0:=w) (X:=Nat) (fun i=>[(5,.int .i64 (i:Nat))]) [0,1] rfl (fun _=>[]) (fun i=>i<=l.length) (fun i=>l.length - i) 0 (by exact Fr.sub_of rfl) (xf0 _) hS ?_;clear hS;rintro i w1 hi hS;dsimp only [List.cons_append,List.nil_append] at hi hS |-;by_cases hlt:i < l.length;rotate_left
 ·obtain rfl:i=l.length:=by omega
  repeat' (first|(with_reducible apply a5 a4);rfl;rfl;rfl|refine yDn (by with_reducible constructor) ?_|(with_reducible apply b6);rfl;all_goals (intro hb hp;try (exfalso;omega)))
  (refine d4 rfl ?_)
  exact ⟨rfl,hS.sub (xg7 _)⟩
 obtain ⟨x,hx⟩:=l9 (l:=l) (i:=i) (by omega);have hrow:=i7 (f:=wdC) hx;obtain ⟨b,off,rfl,hro⟩:=hL.at_ (i:=i) hlt;obtain ⟨b',off',rfl,hro2⟩:=hM.at_ (i:=i) hlt;have heq:=b28 x;unfold wdC at hrow heq
 repeat' (first|(with_reducible apply a5 a4);rfl;rfl;rfl|refine yDn (by with_reducible constructor) ?_|(with_reducible apply b6);rfl;all_goals (intro hb hp;try (exfalso;omega)))
 (focus ((with_reducible apply a8 _ _ _ (by kernel_rfl) (by kernel_rfl) hS);(repeat' (first|(first|(with_reducible apply i4 a4);rfl;rfl|(with_reducible apply i6);rfl;(intro wd hd;replace hd:St _ _ wd _:=hd;(apply Ld.st a4;rfl;exact hd.roR (by assumption) (by assumption);rfl));rfl|(with_reducible apply a0a a4);rfl;rfl;rfl;rfl;omega;rfl)|(with_reducible apply a6U);rfl;rfl;exact heq;rfl));all_goals ((with_reducible apply l3);intro w' hS';clear hS;have hS:=hS';clear hS')))
 repeat' (first|(with_reducible apply a5 a4);rfl;rfl;rfl|(with_reducible apply o9);rfl;rfl;omega;omega;rfl|refine yDn (by with_reducible constructor) ?_|(with_reducible apply f8);rfl;rfl)
 exact m8 (i + 1) (by exact Fr.sub_of rfl) (by omega) hS (by omega)
def a1L (A:List Ar) (L:List Sh) (en slots:Int):Int:=if l7 A L en=0 then (if slots < 0\/512 < slots then 3 else if slots < l6 A then 8 else 0) else l7 A L en
theorem b3g {A:List Ar} {L:List Sh} {en:Int} (h:l7 A L en=0):b5 A=0:=by
 unfold l7 at h;by_cases h1:b5 A=0
 ·exact h1
 ·rw [xd9 h1] at h;exact absurd h h1
theorem a4x {w:World} {A:List Ar} {Lp:List (Sh×Value)} {va vs:Value} {en:Int} (hA:Sl nF w 4 va (A.map arC)) (hL:ShsV w Lp vs) (hen:-9223372036854775808<=en) (hen2:en<=9223372036854775807) (slots:Int):Fn Tryz.prog 35 [lkA va vs en,.int .i64 slots] w (RBf (.int .i64 (a1L A (shs Lp) en slots)) w):=by
 have hchk:=fun w1 Γ1 (h:St nF w w1 Γ1)=>a3b (hA.now h) (hL.now h) hen hen2;have hpg:=fun w1 Γ1 (h:St nF w w1 Γ1) hc=>a27 (hA.now h) hc;obtain ⟨pa,ca,rfl⟩:=hA.len;obtain ⟨ph,ch,rfl⟩:=hL.sl.len;unfold a1L;unfold lkA at hchk |-;have hlk:=fun h=>b3g (A:=A) (L:=shs Lp) (en:=en) h;generalize l7 A (shs Lp) en=c at hchk hlk |-;by_cases h0:c=0;rotate_left
 ·rw [xd9 h0];have hd:(!decide (c=0))=true:=by rw [xg8 h0];rfl
  refine yEn Tryz.func35 Tryz.ntmps35 (by kernel_rfl) (by kernel_rfl) rfl rfl ?_;have hS:=St.start w
  repeat' (first|(with_reducible apply a5 a4);rfl;rfl;rfl|(with_reducible apply a6);rfl;(apply Ld.st a4;rfl;exact hS.blkR 0 rfl;rfl);rfl|refine yDn (by with_reducible constructor) ?_|(with_reducible apply a9);rfl;assumption|(with_reducible apply d8 hS);rfl;rfl;rfl;clear hS;intro g w' hS|(with_reducible apply b4 hS);rfl;rfl;rfl;refine ⟨_,hchk _ _ hS,?_⟩;clear hS;intro w' hS)
  (refine d4 rfl ?_)
  exact ⟨rfl,hS.sub (xg7 _)⟩
 rw [xd8 h0];have hpg:=fun w1 Γ1 (h:St nF w w1 Γ1)=>hpg w1 Γ1 h (hlk h0);have hd:(!decide (c=0))=false:=by rw [xh0 h0];rfl
 by_cases h2:0<=slots/\slots<=512;rotate_left
 ·rw [xd8 (by omega)];have hd2:(!decide (0<=slots/\slots<=512))=true:=by rw [xg8 h2];rfl
  refine yEn Tryz.func35 Tryz.ntmps35 (by kernel_rfl) (by kernel_rfl) rfl rfl ?_;have hS:=St.start w
  repeat' (first|(with_reducible apply a5 a4);rfl;rfl;rfl|(with_reducible apply a6);rfl;(apply Ld.st a4;rfl;exact hS.blkR 0 rfl;rfl);rfl|refine yDn (by with_reducible constructor) ?_|(with_reducible apply a9);rfl;assumption|(with_reducible apply f8);rfl;assumption|(with_reducible apply d8 hS);rfl;rfl;rfl;clear hS;intro g w' hS|(with_reducible apply b4 hS);rfl;rfl;rfl;refine ⟨_,hchk _ _ hS,?_⟩;clear hS;intro w' hS|(with_reducible apply b4 hS);rfl;rfl;rfl;refine ⟨_,d7 _ _ _ _,?_⟩;clear hS;intro w' hS)
  (refine d4 rfl ?_)
  exact ⟨rfl,hS.sub (xg7 _)⟩
 rw [xd9 (by omega)];have hd2:(!decide (0<=slots/\slots<=512))=false:=by rw [xh0 h2];rfl
 by_cases h3:slots < l6 A
 ·rw [xd8 h3];have hd3:decide (slots < l6 A)=true:=xh0 h3;refine yEn Tryz.func35 Tryz.ntmps35 (by kernel_rfl) (by kernel_rfl) rfl rfl ?_;have hS:=St.start w
  repeat' (first|(with_reducible apply a5 a4);rfl;rfl;rfl|(with_reducible apply a6);rfl;(first|apply Ld.sl a4;rfl;exact hS.blkC 0 rfl rfl|apply Ld.st a4;rfl;exact hS.blkR 0 rfl;rfl);rfl|refine yDn (by with_reducible constructor) ?_|(with_reducible apply a9);rfl;assumption|(with_reducible apply f8);rfl;assumption|(with_reducible apply d8 hS);rfl;rfl;rfl;clear hS;intro g w' hS|(with_reducible apply b4 hS);rfl;rfl;rfl;refine ⟨_,hchk _ _ hS,?_⟩;clear hS;intro w' hS|(with_reducible apply b4 hS);rfl;rfl;rfl;refine ⟨_,d7 _ _ _ _,?_⟩;clear hS;intro w' hS|(with_reducible apply b4 hS);rfl;rfl;rfl;refine ⟨_,hpg _ _ hS,?_⟩;clear hS;intro w' hS)
  (refine d4 rfl ?_)
  exact ⟨rfl,hS.sub (xg7 _)⟩
 ·rw [xd9 h3];have hd3:decide (slots < l6 A)=false:=xg8 h3;refine yEn Tryz.func35 Tryz.ntmps35 (by kernel_rfl) (by kernel_rfl) rfl rfl ?_;have hS:=St.start w
  repeat' (first|(with_reducible apply a5 a4);rfl;rfl;rfl|(with_reducible apply a6);rfl;(first|apply Ld.sl a4;rfl;exact hS.blkC 0 rfl rfl|apply Ld.st a4;rfl;exact hS.blkR 0 rfl;rfl);rfl|refine yDn (by with_reducible constructor) ?_|(with_reducible apply f8);rfl;assumption|(with_reducible apply d8 hS);rfl;rfl;rfl;clear hS;intro g w' hS|(with_reducible apply b4 hS);rfl;rfl;rfl;refine ⟨_,hchk _ _ hS,?_⟩;clear hS;intro w' hS|(with_reducible apply b4 hS);rfl;rfl;rfl;refine ⟨_,d7 _ _ _ _,?_⟩;clear hS;intro w' hS|(with_reducible apply b4 hS);rfl;rfl;rfl;refine ⟨_,hpg _ _ hS,?_⟩;clear hS;intro w' hS)
  (refine d4 rfl ?_)
  exact ⟨rfl,hS.sub (xg7 _)⟩
theorem a4a {w:World} {f:FlV} (hK:FlOk w f):Fn Tryz.prog 40 [.agg (flC f).toArray] w (RBf (.int .i64 (p8 f)) w):=by
 obtain ⟨m1,m2,m3,m4,m5⟩:=hK;have b1:=m1.bound;have b2:=m4.bound;have b3:=m5.bound;obtain ⟨slots,sp,pr,out,vsp,vpr,vout⟩:=f;dsimp only at m1 m2 m3 m4 m5 b1 b2 b3 |-;obtain ⟨p1,c1,rfl⟩:=m1.len;obtain ⟨p2,c2,rfl⟩:=m4.len;obtain ⟨p3,c3,rfl⟩:=m5.len;unfold flC;dsimp only;by_cases h1:1<=sp.length/\sp.length<=4;rotate_left
 ·have hd1:(!decide ((1:Int)<=(sp.length:Int)/\(sp.length:Int)<=4))=true:=by rw [xg8 (by omega)];rfl
  refine yEn Tryz.func40 Tryz.ntmps40 (by kernel_rfl) (by kernel_rfl) rfl rfl ?_;have hS:=St.start w
  repeat' (first|(with_reducible apply a5 a4);rfl;rfl;rfl|(with_reducible apply a6);rfl;(apply Ld.sl a4;rfl;exact hS.blkC 0 rfl rfl);rfl|refine yDn (by with_reducible constructor) ?_|(with_reducible apply o4);(iterate 4 rfl);(first|rfl|assumption);rfl|(with_reducible apply d9);rfl;(first|rfl|assumption);rfl;rfl|(with_reducible apply a9);rfl;rfl|(with_reducible apply d8 hS);rfl;rfl;rfl;clear hS;intro g w' hS|(with_reducible apply b4 hS);rfl;rfl;rfl;refine ⟨_,d7 _ _ _ _,?_⟩;clear hS;intro w' hS)
  (refine d4 rfl ?_)
  exact ⟨by unfold p8;rw [xd8 (by unfold y9;dsimp only;omega)],hS.sub (xg7 _)⟩
 have hd1:(!decide ((1:Int)<=(sp.length:Int)/\(sp.length:Int)<=4))=false:=by rw [xh0 (by omega)];rfl
 by_cases h3:pr.length=sp.length;rotate_left
 ·have hd3:(!decide ((pr.length:Int)=(sp.length:Int)))=true:=by rw [xg8 (by omega)];rfl
  refine yEn Tryz.func40 Tryz.ntmps40 (by kernel_rfl) (by kernel_rfl) rfl rfl ?_;have hS:=St.start w
  repeat' (first|(with_reducible apply a5 a4);rfl;rfl;rfl|(with_reducible apply a6);rfl;(apply Ld.sl a4;rfl;exact hS.blkC 0 rfl rfl);rfl|refine yDn (by with_reducible constructor) ?_|(with_reducible apply e9);(iterate 4 rfl);assumption|(with_reducible apply o4);(iterate 4 rfl);(first|rfl|assumption);rfl|(with_reducible apply d9);rfl;(first|rfl|assumption);rfl;rfl|(with_reducible apply a7);rfl;assumption;rfl;rfl|(with_reducible apply a9);rfl;rfl|(with_reducible apply d8 hS);rfl;rfl;rfl;clear hS;intro g w' hS|(with_reducible apply b4 hS);rfl;rfl;rfl;refine ⟨_,d7 _ _ _ _,?_⟩;clear hS;intro w' hS)
  (refine d4 rfl ?_)
  exact ⟨by unfold p8;rw [xd8 (by unfold y9;dsimp only;omega)],hS.sub (xg7 _)⟩
 have hd3:(!decide ((pr.length:Int)=(sp.length:Int)))=false:=by rw [xh0 (by omega)];rfl
 by_cases h4:0<=slots/\slots<=512;rotate_left
 ·have hd4:(!decide (0<=slots/\slots<=512))=true:=by rw [xg8 h4];rfl
  refine yEn Tryz.func40 Tryz.ntmps40 (by kernel_rfl) (by kernel_rfl) rfl rfl ?_;have hS:=St.start w
  repeat' (first|(with_reducible apply a5 a4);rfl;rfl;rfl|(with_reducible apply a6);rfl;(first|apply Ld.sc a4;rfl;exact hS.blkC 0 rfl rfl|apply Ld.sl a4;rfl;exact hS.blkC 0 rfl rfl);rfl|refine yDn (by with_reducible constructor) ?_|(with_reducible apply e9);(iterate 4 rfl);assumption|(with_reducible apply o4);(iterate 4 rfl);assumption;rfl|(with_reducible apply d9);rfl;assumption;rfl;rfl|(with_reducible apply a7);rfl;assumption;rfl;rfl|(with_reducible apply a9);rfl;rfl|(with_reducible apply d8 hS);rfl;rfl;rfl;clear hS;intro g w' hS|(with_reducible apply b4 hS);rfl;rfl;rfl;refine ⟨_,d7 _ _ _ _,?_⟩;clear hS;intro w' hS)
  (refine d4 rfl ?_)
  exact ⟨by unfold p8;rw [xd8 (by unfold y9;dsimp only;omega)],hS.sub (xg7 _)⟩
 have hd4:(!decide (0<=slots/\slots<=512))=false:=by rw [xh0 h4];rfl
 by_cases h6:2000 < out.length
 ·have hd6:decide ((2000:Int) < (out.length:Int))=true:=xh0 (by omega);refine yEn Tryz.func40 Tryz.ntmps40 (by kernel_rfl) (by kernel_rfl) rfl rfl ?_;have hS:=St.start w
  repeat' (first|(with_reducible apply a5 a4);rfl;rfl;rfl|(with_reducible apply a6);rfl;(first|apply Ld.sc a4;rfl;exact hS.blkC 0 rfl rfl|apply Ld.sl a4;rfl;exact hS.blkC 0 rfl rfl);rfl|refine yDn (by with_reducible constructor) ?_|(with_reducible apply e9);(iterate 4 rfl);assumption|(with_reducible apply a7);rfl;assumption;rfl;rfl|(with_reducible apply a9);rfl;assumption|(with_reducible apply d8 hS);rfl;rfl;rfl;clear hS;intro g w' hS|(with_reducible apply b4 hS);rfl;rfl;rfl;refine ⟨_,d7 _ _ _ _,?_⟩;clear hS;intro w' hS)
  (refine d4 rfl ?_)
  exact ⟨by unfold p8;rw [xd8 (by unfold y9;dsimp only;omega)],hS.sub (xg7 _)⟩
 have hd6:decide ((2000:Int) < (out.length:Int))=false:=xg8 (by omega);have hfl:¬y9 ⟨slots,sp,pr,out,.slice p1 sp.length c1,.slice p2 pr.length c2,.slice p3 out.length c3⟩:=by unfold y9;dsimp only;omega
 unfold p8;rw [xd9 hfl];dsimp only;refine yEn Tryz.func40 Tryz.ntmps40 (by kernel_rfl) (by kernel_rfl) rfl rfl ?_;have hS:=St.start w
 (repeat ((refine yDn (by with_reducible constructor) ?_)))
 (((with_reducible apply d8 hS);rfl;rfl;rfl);clear hS;intro g1 w' hS)
 repeat' (first|(with_reducible apply a5 a4);rfl;rfl;rfl|(with_reducible apply a6);rfl;(first|apply Ld.sc a4;rfl;exact hS.blkC 0 rfl rfl|apply Ld.sl a4;rfl;exact hS.blkC 0 rfl rfl);rfl|refine yDn (by with_reducible constructor) ?_|(with_reducible apply e9);(iterate 4 rfl);assumption|(with_reducible apply a7);rfl;assumption;rfl;rfl|(with_reducible apply f8);rfl;assumption|(with_reducible apply b4 hS);rfl;rfl;rfl;refine ⟨_,d7 _ _ _ _,?_⟩;clear hS;intro w' hS)
 obtain ⟨g0,hf0⟩:∃ g0:Nat->Bool,g0=a7Z ⟨slots,sp,pr,out,.slice p1 sp.length c1,.slice p2 pr.length c2,.slice p3 out.length c3⟩:=⟨_,rfl⟩;have hspk:∀ (i:Nat) x p,sp[i]?=some x->pr[i]?=some p->g0 i=(fsB x.1 && o5 p x.1.live):=fun i x p h1 h2=>by
  rw [hf0];unfold a7Z;dsimp only;rw [h1,h2]
 rw [<- hf0];clear hf0 hfl;refine o6 (F:=nF) (w0:=w) (X:=Nat) (fun i=>[(4,.int .i64 (i:Nat)),(3,.int .i64 (a0w (sp.take i):Nat))]) [1] rfl (fun _=>[]) (fun i=>i<=sp.length/\(List.range i).all g0=true/\a0w (sp.take i)<=65025 * i) (fun i=>sp.length - i) 0 (by exact Fr.sub_of rfl) ⟨xf0 _,rfl,xf0 _⟩ hS ?_;clear hS;rintro i w1 ⟨hi,hal,hsm⟩ hS;dsimp only [List.cons_append,List.nil_append] at hi hal hsm hS |-;by_cases hlt:i < sp.length;rotate_left
 ·obtain rfl:i=sp.length:=by omega
  rw [xf2] at hsm |-;have hto:=fun w1 (h:Sl nF w1 2 (.slice p3 out.length c3) (out.map wdC))=>a4o h pr.length b2;rw [hal,xh1];by_cases hg:slots < (a0w sp:Nat)
  ·have hdg:decide (slots < ((a0w sp:Nat):Int))=true:=xh0 hg
   repeat' (first|(with_reducible apply a5 a4);rfl;rfl;rfl|(with_reducible apply a6);rfl;(first|apply Ld.sc a4;rfl;exact hS.blkC 0 rfl rfl|apply Ld.sl a4;rfl;exact hS.blkC 0 rfl rfl);rfl|refine yDn (by with_reducible constructor) ?_|(with_reducible apply o4);(iterate 4 rfl);assumption;rfl|(with_reducible apply d9);rfl;assumption;rfl;rfl|(with_reducible apply a9);rfl;rfl|(with_reducible apply b6);rfl;all_goals (intro hb hp;try (exfalso;omega)))
   (refine d4 rfl ?_)
   exact ⟨by rw [xg8 (show ¬((a0w sp:Nat):Int)<=slots by omega),xg9];rfl,hS.sub (xg7 _)⟩
  have hdg:decide (slots < ((a0w sp:Nat):Int))=false:=xg8 hg;rw [xh0 (show ((a0w sp:Nat):Int)<=slots by omega),xh1]
  cases ht:a0O out (pr.length:Nat) with
  |true=>
   simp only [ht] at hto
   repeat' (first|(with_reducible apply a5 a4);rfl;rfl;rfl|(with_reducible apply a6);rfl;(first|apply Ld.sc a4;rfl;exact hS.blkC 0 rfl rfl|apply Ld.sl a4;rfl;exact hS.blkC 0 rfl rfl);rfl|refine yDn (by with_reducible constructor) ?_|(with_reducible apply e9);(iterate 4 rfl);assumption|(with_reducible apply a7);rfl;assumption;rfl;rfl|(with_reducible apply f8);rfl;rfl|(with_reducible apply b6);rfl;all_goals (intro hb hp;try (exfalso;omega))|(with_reducible apply b4 hS);rfl;rfl;rfl;refine ⟨_,hto _ (m5.now hS),?_⟩;clear hS;intro w' hS)
   (refine d4 rfl ?_)
   exact ⟨rfl,hS.sub (xg7 _)⟩
  |false=>
   simp only [ht] at hto
   repeat' (first|(with_reducible apply a5 a4);rfl;rfl;rfl|(with_reducible apply a6);rfl;(first|apply Ld.sc a4;rfl;exact hS.blkC 0 rfl rfl|apply Ld.sl a4;rfl;exact hS.blkC 0 rfl rfl);rfl|refine yDn (by with_reducible constructor) ?_|(with_reducible apply e9);(iterate 4 rfl);assumption|(with_reducible apply a7);rfl;assumption;rfl;rfl|(with_reducible apply a9);rfl;rfl|(with_reducible apply b6);rfl;all_goals (intro hb hp;try (exfalso;omega))|(with_reducible apply b4 hS);rfl;rfl;rfl;refine ⟨_,hto _ (m5.now hS),?_⟩;clear hS;intro w' hS)
   (refine d4 rfl ?_)
   exact ⟨rfl,hS.sub (xg7 _)⟩
 obtain ⟨x,hx⟩:=l9 (l:=sp) (i:=i) (by omega);obtain ⟨p,hp⟩:=l9 (l:=pr) (i:=i) (by omega);have hxm:=xc1 hx;have hrow:=i7 (f:=fsC) hx;have hrow2:=i7 (f:=prC) hp;obtain ⟨b,off,rfl,hro⟩:=m1.at_ (i:=i) hlt;obtain ⟨b',off',rfl,hro2⟩:=m4.at_ (i:=i) (by omega);unfold fsC at hrow;have hfn:=fun w1=>a5b p x.1.live w1;have hck:=fun w1 (h:Sl nF w1 4 x.2.1 (x.1.areas.map arC))=>a1t h;have hpa0:=fun w1 (h:Sl nF w1 4 x.2.1 (x.1.areas.map arC)) hc=>a27 h hc;have hk:=hspk i x p hx hp;have hst:=a4Z (g:=g0) (i:=i);rw [hal,xh1] at hst;have hss:=a3A hx;have har:=m2 x hxm;have hpg:=m3 x hxm;unfold prC at hfn hrow2;obtain ⟨⟨live,ars,pgs⟩,va,vp⟩:=x;dsimp only at hrow hfn hck hpa0 hk hss har hpg;obtain ⟨pa,ca,rfl⟩:=har.len;obtain ⟨pp,cp,rfl⟩:=hpg.len;have hpa:=hpa0;have ba:=har.bound;have bp:=hpg.bound
 cases hfb:o5 p live with
 |false=>
  simp only [hfb] at hfn;rw [hfb,xh2] at hk
  repeat' (first|(with_reducible apply a5 a4);rfl;rfl;rfl|(with_reducible apply a6);rfl;(first|apply Ld.sl a4;rfl;exact hS.blkC 0 rfl rfl|apply Ld.st a4;rfl;exact hS.roR (by assumption) (by assumption);rfl);rfl|(with_reducible apply s9 a4);rfl;rfl;rfl;rfl;omega;rfl|refine yDn (by with_reducible constructor) ?_|(with_reducible apply b8 hS a4);rfl;rfl;rfl;clear hS;intro g w' hS|(with_reducible apply b7 hS a4 (i:=0));(iterate 8 rfl);exact (rfl:_=[_,_,_]);clear hS;intro w' hS;simp only [List.set] at hS|(with_reducible apply b6);rfl;all_goals (intro hb hp;try (exfalso;omega)))
  (focus ((with_reducible apply a8 _ _ _ (by kernel_rfl) (by kernel_rfl) hS);(repeat' (first|(first|(with_reducible apply i4 a4);rfl;rfl|(with_reducible apply i6);rfl;(intro wd hd;replace hd:St _ _ wd _:=hd;(first|apply Ld.sc a4;rfl;exact hd.blkC 0 rfl rfl|apply Ld.sl a4;rfl;exact hd.blkC 1 rfl rfl|apply Ld.st a4;rfl;exact hd.roR (by assumption) (by assumption);rfl));rfl|(with_reducible apply a0a a4);rfl;rfl;rfl;rfl;omega;rfl|(first|(with_reducible apply a0U);(iterate 4 rfl);rfl;rfl|(with_reducible apply a0r);(iterate 5 rfl)|(with_reducible apply l8);rfl;rfl;rfl;rfl))|(with_reducible apply b9);rfl;rfl;rfl;refine ⟨_,fun wd hd=>hfn _,?_⟩));all_goals ((with_reducible apply l3);intro w' hS';clear hS;have hS:=hS';clear hS')))
  repeat' (first|(with_reducible apply a5 a4);rfl;rfl;rfl|refine yDn (by with_reducible constructor) ?_|(with_reducible apply a9);rfl;rfl)
  (refine d4 rfl ?_)
  exact ⟨by rw [x6 hlt (by rw [hk])];rfl,hS.sub (xg7 _)⟩
 |true=>
 simp only [hfb] at hfn;rw [hfb,xg6] at hk;by_cases hle:live=false/\¬(ars=[]/\pgs=[])
 ·obtain ⟨rfl,hne⟩:=hle;have hkb:fsB ⟨false,ars,pgs⟩=false:=by
   unfold fsB;rw [xd9 (by simp)]
   cases ars with
   |nil=>cases pgs with
    |nil=>exact absurd ⟨rfl,rfl⟩ hne
    |cons=>rfl
   |cons=>rfl
  rw [hkb] at hk;by_cases ha:ars=[]
  ·have hpn:¬pgs.length=0:=fun h=>hne ⟨ha,List.length_eq_zero_iff.1 h⟩;have hda:decide ((0:Int) < (ars.length:Int))=false:=by rw [ha];rfl
   have hdp:decide ((0:Int) < (pgs.length:Int))=true:=xh0 (by omega)
   repeat' (first|(with_reducible apply a5 a4);rfl;rfl;rfl|(with_reducible apply a6);rfl;(first|apply Ld.sl a4;rfl;exact hS.blkC 0 rfl rfl|apply Ld.st a4;rfl;exact hS.roR (by assumption) (by assumption);rfl);rfl|(with_reducible apply s9 a4);rfl;rfl;rfl;rfl;omega;rfl|refine yDn (by with_reducible constructor) ?_|(with_reducible apply b8 hS a4);rfl;rfl;rfl;clear hS;intro g w' hS|(with_reducible apply b7 hS a4 (i:=0));(iterate 8 rfl);exact (rfl:_=[_,_,_]);clear hS;intro w' hS;simp only [List.set] at hS|(with_reducible apply b6);rfl;all_goals (intro hb hp;try (exfalso;omega)))
   (focus ((with_reducible apply a8 _ _ _ (by kernel_rfl) (by kernel_rfl) hS);(repeat' (first|(first|(with_reducible apply i4 a4);rfl;rfl|(with_reducible apply i6);rfl;(intro wd hd;replace hd:St _ _ wd _:=hd;(first|apply Ld.sc a4;rfl;exact hd.blkC 0 rfl rfl|apply Ld.sl a4;rfl;(first|exact hd.blkC 0 rfl rfl|exact hd.blkC 1 rfl rfl)|apply Ld.st a4;rfl;exact hd.roR (by assumption) (by assumption);rfl));rfl|(with_reducible apply a0a a4);rfl;rfl;rfl;rfl;omega;rfl|(first|((with_reducible apply p7);(iterate 4 rfl);first|rfl|assumption)|(with_reducible apply a0U);(iterate 4 rfl);(first|rfl|assumption);rfl|(with_reducible apply l8);rfl;(first|rfl|assumption);rfl;rfl|(with_reducible apply l2);rfl;(first|rfl|assumption);rfl;rfl))|(with_reducible apply b9);rfl;rfl;rfl;refine ⟨_,fun wd hd=>hfn _,?_⟩));all_goals ((with_reducible apply l3);intro w' hS';clear hS;have hS:=hS';clear hS')))
   repeat' (first|(with_reducible apply a5 a4);rfl;rfl;rfl|refine yDn (by with_reducible constructor) ?_|(with_reducible apply a9);rfl;rfl)
   (refine d4 rfl ?_)
   exact ⟨by rw [x6 hlt (by rw [hk])];rfl,hS.sub (xg7 _)⟩
  ·have han:¬ars.length=0:=fun h=>ha (List.length_eq_zero_iff.1 h);have hda:decide ((0:Int) < (ars.length:Int))=true:=xh0 (by omega)
   repeat' (first|(with_reducible apply a5 a4);rfl;rfl;rfl|(with_reducible apply a6);rfl;(first|apply Ld.sl a4;rfl;exact hS.blkC 0 rfl rfl|apply Ld.st a4;rfl;exact hS.roR (by assumption) (by assumption);rfl);rfl|(with_reducible apply s9 a4);rfl;rfl;rfl;rfl;omega;rfl|refine yDn (by with_reducible constructor) ?_|(with_reducible apply b8 hS a4);rfl;rfl;rfl;clear hS;intro g w' hS|(with_reducible apply b7 hS a4 (i:=0));(iterate 8 rfl);exact (rfl:_=[_,_,_]);clear hS;intro w' hS;simp only [List.set] at hS|(with_reducible apply b6);rfl;all_goals (intro hb hp;try (exfalso;omega)))
   (focus ((with_reducible apply a8 _ _ _ (by kernel_rfl) (by kernel_rfl) hS);(repeat' (first|(first|(with_reducible apply i4 a4);rfl;rfl|(with_reducible apply i6);rfl;(intro wd hd;replace hd:St _ _ wd _:=hd;(first|apply Ld.sc a4;rfl;exact hd.blkC 0 rfl rfl|apply Ld.sl a4;rfl;(first|exact hd.blkC 0 rfl rfl|exact hd.blkC 1 rfl rfl)|apply Ld.st a4;rfl;exact hd.roR (by assumption) (by assumption);rfl));rfl|(with_reducible apply a0a a4);rfl;rfl;rfl;rfl;omega;rfl|(first|(with_reducible apply p7);(iterate 4 rfl);rfl|(with_reducible apply a0U);(iterate 4 rfl);(first|rfl|assumption);rfl|(with_reducible apply l8);rfl;(first|rfl|assumption);rfl;rfl|(with_reducible apply l2);rfl;rfl;rfl;rfl))|(with_reducible apply b9);rfl;rfl;rfl;refine ⟨_,fun wd hd=>hfn _,?_⟩));all_goals ((with_reducible apply l3);intro w' hS';clear hS;have hS:=hS';clear hS')))
   repeat' (first|(with_reducible apply a5 a4);rfl;rfl;rfl|refine yDn (by with_reducible constructor) ?_|(with_reducible apply a9);rfl;rfl)
   (refine d4 rfl ?_)
   exact ⟨by rw [x6 hlt (by rw [hk])];rfl,hS.sub (xg7 _)⟩
 by_cases hc:b5 ars=0;rotate_left
 ·have hd:(!decide (b5 ars=0))=true:=by rw [xg8 hc];rfl
  have hlv:live=true:=by
   cases live with
   |true=>rfl
   |false=>
    obtain ⟨h1,h2⟩:ars=[]/\pgs=[]:=by
     by_cases h:ars=[]/\pgs=[]
     ·exact h
     ·exact absurd ⟨rfl,h⟩ hle
    rw [h1] at hc;exact absurd rfl hc
  subst hlv;have hkb:fsB ⟨true,ars,pgs⟩=false:=by unfold fsB;rw [xd8 rfl,xg8 hc,xg9]
  rw [hkb] at hk
  repeat' (first|(with_reducible apply a5 a4);rfl;rfl;rfl|(with_reducible apply a6);rfl;(first|apply Ld.sl a4;rfl;exact hS.blkC 0 rfl rfl|apply Ld.st a4;rfl;exact hS.roR (by assumption) (by assumption);rfl);rfl|(with_reducible apply s9 a4);rfl;rfl;rfl;rfl;omega;rfl|refine yDn (by with_reducible constructor) ?_|(with_reducible apply b8 hS a4);rfl;rfl;rfl;clear hS;intro g w' hS|(with_reducible apply b7 hS a4 (i:=0));(iterate 8 rfl);exact (rfl:_=[_,_,_]);clear hS;intro w' hS;simp only [List.set] at hS|(with_reducible apply b6);rfl;all_goals (intro hb hp;try (exfalso;omega)))
  (focus ((with_reducible apply a8 _ _ _ (by kernel_rfl) (by kernel_rfl) hS);(repeat' (first|(first|(with_reducible apply i4 a4);rfl;rfl|(with_reducible apply i6);rfl;(intro wd hd;replace hd:St _ _ wd _:=hd;(first|apply Ld.sc a4;rfl;exact hd.blkC 0 rfl rfl|apply Ld.sl a4;rfl;(first|exact hd.blkC 0 rfl rfl|exact hd.blkC 1 rfl rfl)|apply Ld.st a4;rfl;exact hd.roR (by assumption) (by assumption);rfl));rfl|(with_reducible apply a0a a4);rfl;rfl;rfl;rfl;omega;rfl|(first|(with_reducible apply p7);(iterate 4 rfl);rfl|(with_reducible apply a0U);(iterate 4 rfl);(first|rfl|assumption);rfl|(with_reducible apply a0r);(iterate 5 rfl)|(with_reducible apply l8);rfl;assumption;rfl;rfl|(with_reducible apply l2);rfl;rfl;rfl;rfl))|(with_reducible apply b9);rfl;rfl;rfl;refine ⟨_,fun wd hd=>hfn _,?_⟩|(with_reducible apply b9);rfl;rfl;rfl;refine ⟨_,fun wd hd=>hck _ (har.now hd),?_⟩));all_goals ((with_reducible apply l3);intro w' hS';clear hS;have hS:=hS';clear hS')))
  repeat' (first|(with_reducible apply a5 a4);rfl;rfl;rfl|refine yDn (by with_reducible constructor) ?_|(with_reducible apply a9);rfl;rfl)
  (refine d4 rfl ?_)
  exact ⟨by rw [x6 hlt (by rw [hk])];rfl,hS.sub (xg7 _)⟩
 have hdc:(!decide (b5 ars=0))=false:=by rw [xh0 hc];rfl
 have hpa:=fun w1 h=>hpa0 w1 h hc;have hok:=w5 (o3.1 hc).2;by_cases hn:(pgs.length:Int)=l6 ars;rotate_left
 ·have hdn:(!decide ((pgs.length:Int)=l6 ars))=true:=by rw [xg8 hn];rfl
  have hlv:live=true:=by
   cases live with
   |true=>rfl
   |false=>
    obtain ⟨h1,h2⟩:ars=[]/\pgs=[]:=by
     by_cases h:ars=[]/\pgs=[]
     ·exact h
     ·exact absurd ⟨rfl,h⟩ hle
    rw [h1,h2] at hn;exact absurd rfl hn
  subst hlv;have hkb:fsB ⟨true,ars,pgs⟩=false:=by unfold fsB;rw [xd8 rfl];simp [hn]
  rw [hkb] at hk
  repeat' (first|(with_reducible apply a5 a4);rfl;rfl;rfl|(with_reducible apply a6);rfl;(first|apply Ld.sl a4;rfl;exact hS.blkC 0 rfl rfl|apply Ld.st a4;rfl;exact hS.roR (by assumption) (by assumption);rfl);rfl|(with_reducible apply s9 a4);rfl;rfl;rfl;rfl;omega;rfl|refine yDn (by with_reducible constructor) ?_|(with_reducible apply b8 hS a4);rfl;rfl;rfl;clear hS;intro g w' hS|(with_reducible apply b7 hS a4 (i:=0));(iterate 8 rfl);exact (rfl:_=[_,_,_]);clear hS;intro w' hS;simp only [List.set] at hS|(with_reducible apply b6);rfl;all_goals (intro hb hp;try (exfalso;omega)))
  (focus ((with_reducible apply a8 _ _ _ (by kernel_rfl) (by kernel_rfl) hS);(repeat' (first|(first|(with_reducible apply i4 a4);rfl;rfl|(with_reducible apply i6);rfl;(intro wd hd;replace hd:St _ _ wd _:=hd;(first|apply Ld.sc a4;rfl;exact hd.blkC 0 rfl rfl|apply Ld.sl a4;rfl;(first|exact hd.blkC 0 rfl rfl|exact hd.blkC 1 rfl rfl)|apply Ld.st a4;rfl;exact hd.roR (by assumption) (by assumption);rfl));rfl|(with_reducible apply a0a a4);rfl;rfl;rfl;rfl;omega;rfl|(first|((with_reducible apply p7);(iterate 4 rfl);first|rfl|assumption)|(with_reducible apply a0U);(iterate 4 rfl);rfl;rfl|(with_reducible apply a0r);(iterate 5 rfl)|(with_reducible apply l2);rfl;(first|rfl|assumption);rfl;rfl))|(with_reducible apply b9);rfl;rfl;rfl;refine ⟨_,fun wd hd=>hfn _,?_⟩|(with_reducible apply b9);rfl;rfl;rfl;refine ⟨_,fun wd hd=>hck _ (har.now hd),?_⟩|(with_reducible apply b9);rfl;rfl;rfl;refine ⟨_,fun wd hd=>hpa _ (har.now hd),?_⟩));all_goals ((with_reducible apply l3);intro w' hS';clear hS;have hS:=hS';clear hS')))
  repeat' (first|(with_reducible apply a5 a4);rfl;rfl;rfl|refine yDn (by with_reducible constructor) ?_|(with_reducible apply a9);rfl;assumption)
  (refine d4 rfl ?_)
  exact ⟨by rw [x6 hlt (by rw [hk])];rfl,hS.sub (xg7 _)⟩
 have hdn:(!decide ((pgs.length:Int)=l6 ars))=false:=by rw [xh0 hn];rfl
 have hfs:fsB ⟨live,ars,pgs⟩=y7 ars pgs pgs.length:=by
  unfold fsB
  cases live with
  |true=>rw [xd8 rfl];simp [hc,hn]
  |false=>
   obtain ⟨h1,h2⟩:ars=[]/\pgs=[]:=by
    by_cases h:ars=[]/\pgs=[]
    ·exact h
    ·exact absurd ⟨rfl,h⟩ hle
   rw [xd9 (by simp)];dsimp only;rw [h1,h2];rfl
 have hpl:pgs.length<=65025:=by
  have:=a6S hok ars.length;rw [xf2] at this;have:=(o3.1 hc).1;omega
 have hgo:∀ {w1:World} {Γ1:List Asr},True:=fun {_ _}=>trivial;clear hgo;have hlive:(live=true)\/(live=false/\ars=[]/\pgs=[]):=by
  cases live with
  |true=>exact xc7 rfl
  |false=>
   refine xc4 ⟨rfl,?_⟩;by_cases h:ars=[]/\pgs=[]
   ·exact h
   ·exact absurd ⟨rfl,h⟩ hle
 repeat' (first|(with_reducible apply a5 a4);rfl;rfl;rfl|(with_reducible apply a6);rfl;(first|apply Ld.sl a4;rfl;exact hS.blkC 0 rfl rfl|apply Ld.st a4;rfl;exact hS.roR (by assumption) (by assumption);rfl);rfl|(with_reducible apply s9 a4);rfl;rfl;rfl;rfl;omega;rfl|refine yDn (by with_reducible constructor) ?_|(with_reducible apply b8 hS a4);rfl;rfl;rfl;clear hS;intro g w' hS|(with_reducible apply b7 hS a4 (i:=0));(iterate 8 rfl);exact (rfl:_=[_,_,_]);clear hS;intro w' hS;simp only [List.set] at hS|(with_reducible apply b6);rfl;all_goals (intro hb hp;try (exfalso;omega)))
 rename Nat=>g5
 replace hS:St nF w w' (.blk g5 [.bool live,.slice pa ars.length ca,.slice pp pgs.length cp]::_):=hS;refine a8N (F:=nF) (w0:=w) (X:=Unit) (fun _=>[(1,.pointer (some ⟨g1,0,none⟩)),(3,.int .i64 (a0w (sp.take i):Nat)),(4,.int .i64 (i:Nat)),(5,.pointer (some ⟨g5,0,none⟩)),(87,.bool (!decide ((pgs.length:Int)=l6 ars)))]) (fun _=>[.blk g5 [.bool live,.slice pa ars.length ca,.slice pp pgs.length cp],.blk g1 [.int .i64 slots,.slice (some ⟨b,off,none⟩) sp.length c1,.slice (some ⟨b',off',none⟩) pr.length c2,.slice p3 out.length c3]]) (fun _=>True) ?_ ?_
 ·rcases hlive with rfl|⟨rfl,rfl,rfl⟩
  ·repeat' (fail)
   (focus ((with_reducible apply a8 _ _ _ (by kernel_rfl) (by kernel_rfl) hS);(repeat' (first|(first|(with_reducible apply i4 a4);rfl;rfl|(with_reducible apply i6);rfl;(intro wd hd;replace hd:St _ _ wd _:=hd;(first|apply Ld.sc a4;rfl;exact hd.blkC 0 rfl rfl|apply Ld.sl a4;rfl;(first|exact hd.blkC 0 rfl rfl|exact hd.blkC 1 rfl rfl)|apply Ld.st a4;rfl;exact hd.roR (by assumption) (by assumption);rfl));rfl|(with_reducible apply a0a a4);rfl;rfl;rfl;rfl;omega;rfl|(first|((with_reducible apply p7);(iterate 4 rfl);first|rfl|assumption)|(with_reducible apply a0U);(iterate 4 rfl);rfl;rfl|(with_reducible apply a0r);(iterate 5 rfl)|(with_reducible apply l2);rfl;(first|rfl|assumption);rfl;rfl))|(with_reducible apply b9);rfl;rfl;rfl;refine ⟨_,fun wd hd=>hfn _,?_⟩|(with_reducible apply b9);rfl;rfl;rfl;refine ⟨_,fun wd hd=>hck _ (har.now hd),?_⟩|(with_reducible apply b9);rfl;rfl;rfl;refine ⟨_,fun wd hd=>hpa _ (har.now hd),?_⟩));all_goals ((with_reducible apply l3);intro w' hS';clear hS;have hS:=hS';clear hS')))
   repeat' ((refine yDn (by with_reducible constructor) ?_))
   exact a4i () (by exact Fr.sub_of rfl) trivial hS
  ·repeat' (fail)
   (focus ((with_reducible apply a8 _ _ _ (by kernel_rfl) (by kernel_rfl) hS);(repeat' (first|(first|(with_reducible apply i4 a4);rfl;rfl|(with_reducible apply i6);rfl;(intro wd hd;replace hd:St _ _ wd _:=hd;(first|apply Ld.sc a4;rfl;exact hd.blkC 0 rfl rfl|apply Ld.sl a4;rfl;(first|exact hd.blkC 0 rfl rfl|exact hd.blkC 1 rfl rfl)|apply Ld.st a4;rfl;exact hd.roR (by assumption) (by assumption);rfl));rfl|(with_reducible apply a0a a4);rfl;rfl;rfl;rfl;omega;rfl|(first|(with_reducible apply p7);(iterate 4 rfl);rfl|(with_reducible apply l8);rfl;rfl;rfl;rfl|(with_reducible apply l2);rfl;rfl;rfl;rfl))|(with_reducible apply b9);rfl;rfl;rfl;refine ⟨_,fun wd hd=>hfn _,?_⟩|(with_reducible apply b9);rfl;rfl;rfl;refine ⟨_,fun wd hd=>hck _ (har.now hd),?_⟩|(with_reducible apply b9);rfl;rfl;rfl;refine ⟨_,fun wd hd=>hpa _ (har.now hd),?_⟩));all_goals ((with_reducible apply l3);intro w' hS';clear hS;have hS:=hS';clear hS')))
   repeat' ((refine yDn (by with_reducible constructor) ?_))
   exact a4i () (by exact Fr.sub_of rfl) trivial hS
 clear hS;rintro - w2 - hS
 repeat' (first|(with_reducible apply a5 a4);rfl;rfl;rfl|(with_reducible apply a6);rfl;(apply Ld.sl a4;rfl;exact hS.blkC 0 rfl rfl);rfl|(with_reducible apply o9);rfl;rfl;omega;omega;rfl|refine yDn (by with_reducible constructor) ?_|(with_reducible apply f8);rfl;assumption)
 refine o6 (F:=nF) (w0:=w) (X:=Nat) (fun j=>[(6,.int .i64 (j:Nat))]) [1,3,4,5] rfl (fun _=>[]) (fun j=>j<=pgs.length/\y7 ars pgs j=true) (fun j=>pgs.length - j) 0 (by exact Fr.sub_of rfl) ⟨xf0 _,rfl⟩ hS ?_;clear hS;rintro j w3 ⟨hj,hpb⟩ hS;dsimp only [List.cons_append,List.nil_append] at hj hpb hS |-;by_cases hjl:j < pgs.length;rotate_left
 ·obtain rfl:j=pgs.length:=by omega
  repeat' (first|(with_reducible apply a5 a4);rfl;rfl;rfl|(with_reducible apply a6);rfl;(apply Ld.sl a4;rfl;exact hS.blkC 0 rfl rfl);rfl|(with_reducible apply o9);rfl;rfl;omega;omega;rfl|refine yDn (by with_reducible constructor) ?_|(with_reducible apply b6);rfl;all_goals (intro hb hp;try (exfalso;omega)))
  refine m8 (i + 1) (by rw [hss];exact Fr.sub_of rfl) ⟨by omega,by rw [hst,hk,hfs,hpb],by rw [hss];omega⟩ hS.drop (by omega)
 obtain ⟨y,hy⟩:=l9 (l:=pgs) (i:=j) (by omega);have hrow3:=i7 (f:=fpC) hy;obtain ⟨b3,off3,rfl,hro3⟩:=hpg.at_ (i:=j) hjl;unfold fpC at hrow3;have haa:=fun w1 (h:Sl nF w1 4 (.slice pa ars.length ca) (ars.map arC))=>a3V y.page h hok;unfold a2M at haa;obtain ⟨a,hag⟩:∃ a,(k7 ars y.page).getD a18=a:=⟨_,rfl⟩;obtain ⟨is,his⟩:∃ is,(k7 ars y.page).isSome=is:=⟨_,rfl⟩;rw [hag,his] at haa;unfold arC at haa;have hpst:=a12 (A:=ars) (l:=pgs) (n:=j);rw [hpb,xh1] at hpst;have bx:(y.data.length:Int)=16 ↔ y.data.length=16:=by omega
 repeat' (first|(with_reducible apply a5 a4);rfl;rfl;rfl|(with_reducible apply a6);rfl;(apply Ld.sl a4;rfl;exact hS.blkC 0 rfl rfl);rfl|refine yDn (by with_reducible constructor) ?_|(with_reducible apply b6);rfl;all_goals (intro hb hp;try (exfalso;omega)))
 refine a8N (F:=nF) (w0:=w) (X:=Unit) (fun _=>[(1,.pointer (some ⟨g1,0,none⟩)),(3,.int .i64 ((a0w (sp.take i):Nat) + (pgs.length:Nat))),(4,.int .i64 (i:Nat)),(5,.pointer (some ⟨g5,0,none⟩)),(6,.int .i64 (j:Nat)),(8,.bool is)]) (fun _=>[.blk g5 [.bool live,.slice pa ars.length ca,.slice (some ⟨b3,off3,none⟩) pgs.length cp],.blk g1 [.int .i64 slots,.slice (some ⟨b,off,none⟩) sp.length c1,.slice (some ⟨b',off',none⟩) pr.length c2,.slice p3 out.length c3]]) (fun _=>True) ?_ ?_
 ·refine a4n 15 rfl hS (by kernel_rfl) ?_;intro wh hh;clear hS;have hS:=hh;clear hh
  ((with_reducible apply i3 (nn 0) a4);rfl;kernel_rfl;exact (fun _ _ _ h=>h);exact hS;rfl;rfl)
  ((with_reducible apply n9 (nn 1));rfl;kernel_rfl;exact (fun _ _ _ h=>h);exact hS;rfl;(intro wd hd;replace hd:St _ _ wd _:=hd;(apply Ld.sl a4;rfl;exact hd.blkC 0 rfl rfl));rfl)
  ((with_reducible apply i3 (nn 2) a4);rfl;kernel_rfl;exact (fun _ _ _ h=>h);exact hS;rfl;rfl)
  ((with_reducible apply n9 (nn 3));rfl;kernel_rfl;exact (fun _ _ _ h=>h);exact hS;rfl;(intro wd hd;replace hd:St _ _ wd _:=hd;(apply Ld.sl a4;rfl;exact hd.blkC 0 rfl rfl));rfl)
  ((with_reducible apply i3 (nn 4) a4);rfl;kernel_rfl;exact (fun _ _ _ h=>h);exact hS;rfl;rfl)
  ((with_reducible apply a9D (nn 5) a4);rfl;kernel_rfl;kernel_rfl;kernel_rfl;exact (fun _ _ _ _ h=>h);exact hS;rfl;rfl;rfl;rfl;omega;rfl)
  ((with_reducible apply i3 (nn 6) a4);rfl;kernel_rfl;exact (fun _ _ _ h=>h);exact hS;rfl;rfl)
  ((with_reducible apply n9 (nn 7));rfl;kernel_rfl;exact (fun _ _ _ h=>h);exact hS;rfl;(intro wd hd;replace hd:St _ _ wd _:=hd;(apply Ld.sc a4;rfl;exact hd.roC0 (by assumption) (by assumption) rfl));rfl)
  refine a4G (i:=8) (j:=12) (by kernel_rfl) ?_ ?_
  ·refine o7 rfl (a0n (first:=[]) (caps:=[]) rfl rfl (haa _ (har.now hS))) rfl ?_;rintro _ w' ⟨rfl,hS'⟩;replace hS:=hS.transA hS';simp only [a1N] at hS;clear hS';refine ⟨hS,?_⟩
   ((with_reducible apply i3 (nn 9) a4);rfl;kernel_rfl;exact (fun _ _ _ h=>h);exact hS;rfl;rfl)
   ((with_reducible apply i3 (nn 10) a4);rfl;kernel_rfl;exact (fun _ _ _ h=>h);exact hS;rfl;rfl)
   ((with_reducible apply i3 (nn 11) a4);rfl;kernel_rfl;exact (fun _ _ _ h=>h);exact hS;rfl;rfl)
   refine s7 (i:=12) (by kernel_rfl) ?_;refine o7 rfl (t3 hS a4 rfl rfl) rfl ?_;rintro _ w' ⟨g,rfl,hS'⟩;clear hS;have hS:=hS';clear hS';refine ⟨hS.drop,?_⟩;refine s7 (i:=13) (by kernel_rfl) ?_;refine t4 (Φ:=fun _ w'=>St _ _ w' _) rfl (p9 hS a4 (i:=0) rfl rfl rfl rfl rfl (xe8 rfl) (xb8.1 rfl)) ?_;intro _ w' hS';simp only [List.set] at hS';clear hS;have hS:=hS';clear hS';refine ⟨hS.drop,?_⟩
   ((with_reducible apply i3 (nn 14) a4);rfl;kernel_rfl;exact (fun _ _ _ h=>h);exact hS.drop;rfl;rfl)
   refine a0u (by kernel_rfl) ?_;refine a4i () (by exact Fr.sub_of rfl) trivial hS.drop
  ·refine o7 rfl (t3 hS a4 rfl rfl) rfl ?_;rintro _ w' ⟨g,rfl,hS'⟩;clear hS;have hS:=hS';clear hS';refine ⟨hS.drop,?_⟩;refine s7 (i:=8) (by kernel_rfl) ?_;refine o7 rfl (a0n (first:=[]) (caps:=[]) rfl rfl (haa _ (har.now hS))) rfl ?_;rintro _ w' ⟨rfl,hS'⟩;replace hS:=hS.transA hS';simp only [a1N] at hS;clear hS';refine ⟨hS.drop,?_⟩
   ((with_reducible apply i3 (nn 9) a4);rfl;kernel_rfl;exact (fun _ _ _ h=>h);exact hS.drop;rfl;rfl)
   ((with_reducible apply i3 (nn 10) a4);rfl;kernel_rfl;exact (fun _ _ _ h=>h);exact hS.drop;rfl;rfl)
   ((with_reducible apply i3 (nn 11) a4);rfl;kernel_rfl;exact (fun _ _ _ h=>h);exact hS.drop;rfl;rfl)
   refine s7 (i:=13) (by kernel_rfl) ?_;refine t4 (Φ:=fun _ w'=>St _ _ w' _) rfl (p9 hS a4 (i:=0) rfl rfl rfl rfl rfl (xe8 rfl) (xb8.1 rfl)) ?_;intro _ w' hS';simp only [List.set] at hS';clear hS;have hS:=hS';clear hS';refine ⟨hS.drop,?_⟩
   ((with_reducible apply i3 (nn 14) a4);rfl;kernel_rfl;exact (fun _ _ _ h=>h);exact hS.drop;rfl;rfl)
   refine a0u (by kernel_rfl) ?_;refine a4i () (by exact Fr.sub_of rfl) trivial hS.drop
 clear hS;rintro - w4 - hS
 cases is with
 |false=>
  have hbp:=s5 (A:=ars) (n:=pgs.length) hjl (by unfold r8;rw [hy];dsimp only;rw [his];rfl);have hbad:=x6 (g:=g0) hlt (by rw [hk,hfs,hbp])
  repeat' ((refine yDn (by with_reducible constructor) ?_))
  (focus ((with_reducible apply a8 _ _ _ (by kernel_rfl) (by kernel_rfl) hS);(repeat' ((first|(with_reducible apply i4 a4);rfl;rfl|(first|(with_reducible apply a0U);(iterate 4 rfl);rfl;rfl|(with_reducible apply a0r);(iterate 5 rfl)|(with_reducible apply l8);rfl;rfl;rfl;rfl))));all_goals ((with_reducible apply l3);intro w' hS';clear hS;have hS:=hS';clear hS')))
  repeat' (first|(with_reducible apply a5 a4);rfl;rfl;rfl|refine yDn (by with_reducible constructor) ?_|(with_reducible apply a9);rfl;rfl)
  (refine d4 rfl ?_)
  exact ⟨by rw [hbad];rfl,hS.sub (xg7 _)⟩
 |true=>
 cases j with
 |zero=>
  have hd0:decide ((0:Int) < ((0:Nat):Int))=false:=rfl;by_cases hl:y.data.length=16;rotate_left
  ·have hdl:(!decide ((y.data.length:Int)=16))=true:=by rw [xg8 (fun h=>hl (bx.1 h))];rfl
   have hbp:=s5 (A:=ars) (n:=pgs.length) hjl (by unfold r8;rw [hy];dsimp only;rw [xg8 hl,xg9,xh2]);have hbad:=x6 (g:=g0) hlt (by rw [hk,hfs,hbp])
   repeat' ((refine yDn (by with_reducible constructor) ?_))
   (focus ((with_reducible apply a8 _ _ _ (by kernel_rfl) (by kernel_rfl) hS);(repeat' ((first|(with_reducible apply i4 a4);rfl;rfl|(with_reducible apply i6);rfl;(intro wd hd;replace hd:St _ _ wd _:=hd;(first|apply Ld.sc a4;rfl;exact hd.roC (by assumption) (by assumption) rfl|apply Ld.sl a4;rfl;exact hd.blkC 0 rfl rfl));rfl|(with_reducible apply a0a a4);rfl;rfl;rfl;rfl;omega;rfl|(first|(with_reducible apply p7);(iterate 4 rfl);rfl|(with_reducible apply a0U);(iterate 4 rfl);rfl;rfl|(with_reducible apply l2);rfl;rfl;rfl;rfl))));all_goals ((with_reducible apply l3);intro w' hS';clear hS;have hS:=hS';clear hS')))
   repeat' (first|(with_reducible apply a5 a4);rfl;rfl;rfl|refine yDn (by with_reducible constructor) ?_|(with_reducible apply a9);rfl;assumption)
   (refine d4 rfl ?_)
   exact ⟨by rw [hbad];rfl,hS.sub (xg7 _)⟩
  have hdl:(!decide ((y.data.length:Int)=16))=false:=by rw [xh0 (bx.2 hl)];rfl
  have hok2:r8 ars pgs 0=true:=by
   unfold r8;rw [hy];dsimp only;rw [his,xh0 hl];rfl
  rw [hok2] at hpst
  repeat' ((refine yDn (by with_reducible constructor) ?_))
  (focus ((with_reducible apply a8 _ _ _ (by kernel_rfl) (by kernel_rfl) hS);(repeat' ((first|(with_reducible apply i4 a4);rfl;rfl|(with_reducible apply i6);rfl;(intro wd hd;replace hd:St _ _ wd _:=hd;(first|apply Ld.sc a4;rfl;exact hd.roC (by assumption) (by assumption) rfl|apply Ld.sl a4;rfl;exact hd.blkC 0 rfl rfl));rfl|(with_reducible apply a0a a4);rfl;rfl;rfl;rfl;omega;rfl|(first|(with_reducible apply p7);(iterate 4 rfl);rfl|(with_reducible apply a0U);(iterate 4 rfl);rfl;rfl|(with_reducible apply l2);rfl;rfl;rfl;rfl))));all_goals ((with_reducible apply l3);intro w' hS';clear hS;have hS:=hS';clear hS')))
  repeat' (first|(with_reducible apply a5 a4);rfl;rfl;rfl|(with_reducible apply o9);rfl;rfl;omega;omega;rfl|refine yDn (by with_reducible constructor) ?_|(with_reducible apply f8);rfl;assumption)
  exact m8 1 (by exact Fr.sub_of rfl) ⟨by omega,hpst⟩ hS (by omega)
 |succ j=>
  have hd0:decide ((0:Int) < ((j + 1:Nat):Int))=true:=xh0 (by omega);obtain ⟨q,hq⟩:=l9 (l:=pgs) (i:=j) (by omega);have hjj:(((j + 1:Nat):Int) - 1).toNat=j:=by omega
  have hrowq:(pgs.map fpC)[(((j + 1:Nat):Int) - 1).toNat]?=some [.int .i64 q.page,.string ⟨q.data.toArray⟩]:=by rw [hjj];exact i7 (f:=fpC) hq
  by_cases hr:y.page<=q.page
  ·have hdr:decide (y.page<=q.page)=true:=xh0 hr;have hbp:=s5 (A:=ars) (n:=pgs.length) hjl (by unfold r8;rw [hy];dsimp only;rw [hq];dsimp only;rw [xg8 (show ¬q.page < y.page by omega),xh2,xh2]);have hbad:=x6 (g:=g0) hlt (by rw [hk,hfs,hbp])
   repeat' ((refine yDn (by with_reducible constructor) ?_))
   (focus ((with_reducible apply a8 _ _ _ (by kernel_rfl) (by kernel_rfl) hS);(repeat' ((first|(with_reducible apply a3j);rfl;rfl;omega;omega;rfl|(with_reducible apply i4 a4);rfl;rfl|(with_reducible apply i6);rfl;(intro wd hd;replace hd:St _ _ wd _:=hd;(first|apply Ld.sc a4;rfl;exact hd.roC0 (by assumption) (by assumption) rfl|apply Ld.sl a4;rfl;exact hd.blkC 0 rfl rfl));rfl|(with_reducible apply a0a a4);rfl;rfl;rfl;(first|rfl|exact xh3 (by omega));omega;rfl|(first|((with_reducible apply p7);(iterate 4 rfl);first|rfl|assumption)|(with_reducible apply a0U);(iterate 4 rfl);assumption;rfl|(with_reducible apply l8);rfl;assumption;rfl;rfl|(with_reducible apply l2);rfl;rfl;rfl;rfl))));all_goals ((with_reducible apply l3);intro w' hS';clear hS;have hS:=hS';clear hS')))
   repeat' (first|(with_reducible apply a5 a4);rfl;rfl;rfl|refine yDn (by with_reducible constructor) ?_|(with_reducible apply a9);rfl;rfl)
   (refine d4 rfl ?_)
   exact ⟨by rw [hbad];rfl,hS.sub (xg7 _)⟩
  ·have hdr:decide (y.page<=q.page)=false:=xg8 hr;by_cases hl:y.data.length=16;rotate_left
   ·have hdl:(!decide ((y.data.length:Int)=16))=true:=by rw [xg8 (fun h=>hl (bx.1 h))];rfl
    have hbp:=s5 (A:=ars) (n:=pgs.length) hjl (by unfold r8;rw [hy];dsimp only;rw [xg8 hl,xg9,xh2]);have hbad:=x6 (g:=g0) hlt (by rw [hk,hfs,hbp])
    repeat' ((refine yDn (by with_reducible constructor) ?_))
    (focus ((with_reducible apply a8 _ _ _ (by kernel_rfl) (by kernel_rfl) hS);(repeat' ((first|(with_reducible apply a3j);rfl;rfl;omega;omega;rfl|(with_reducible apply i4 a4);rfl;rfl|(with_reducible apply i6);rfl;(intro wd hd;replace hd:St _ _ wd _:=hd;(first|apply Ld.sc a4;rfl;(first|exact hd.roC0 (by assumption) (by assumption) rfl|exact hd.roC (by assumption) (by assumption) rfl)|apply Ld.sl a4;rfl;exact hd.blkC 0 rfl rfl));rfl|(with_reducible apply a0a a4);rfl;rfl;rfl;(first|rfl|exact xh3 (by omega));omega;rfl|(first|((with_reducible apply p7);(iterate 4 rfl);first|rfl|assumption)|(with_reducible apply l8);rfl;assumption;rfl;rfl|(with_reducible apply l2);rfl;(first|rfl|assumption);rfl;rfl))));all_goals ((with_reducible apply l3);intro w' hS';clear hS;have hS:=hS';clear hS')))
    repeat' (first|(with_reducible apply a5 a4);rfl;rfl;rfl|refine yDn (by with_reducible constructor) ?_|(with_reducible apply a9);rfl;assumption)
    (refine d4 rfl ?_)
    exact ⟨by rw [hbad];rfl,hS.sub (xg7 _)⟩
   have hdl:(!decide ((y.data.length:Int)=16))=false:=by rw [xh0 (bx.2 hl)];rfl
   have hok2:r8 ars pgs (j + 1)=true:=by
    unfold r8;rw [hy];dsimp only;rw [hq];dsimp only;rw [his,xh0 hl,xh0 (show q.page < y.page by omega)];rfl
   rw [hok2] at hpst
   repeat' ((refine yDn (by with_reducible constructor) ?_))
   (focus ((with_reducible apply a8 _ _ _ (by kernel_rfl) (by kernel_rfl) hS);(repeat' ((first|(with_reducible apply a3j);rfl;rfl;omega;omega;rfl|(with_reducible apply i4 a4);rfl;rfl|(with_reducible apply i6);rfl;(intro wd hd;replace hd:St _ _ wd _:=hd;(first|apply Ld.sc a4;rfl;(first|exact hd.roC0 (by assumption) (by assumption) rfl|exact hd.roC (by assumption) (by assumption) rfl)|apply Ld.sl a4;rfl;exact hd.blkC 0 rfl rfl));rfl|(with_reducible apply a0a a4);rfl;rfl;rfl;(first|rfl|exact xh3 (by omega));omega;rfl|(first|((with_reducible apply p7);(iterate 4 rfl);first|rfl|assumption)|(with_reducible apply l8);rfl;assumption;rfl;rfl|(with_reducible apply l2);rfl;(first|rfl|assumption);rfl;rfl))));all_goals ((with_reducible apply l3);intro w' hS';clear hS;have hS:=hS';clear hS')))
   repeat' (first|(with_reducible apply a5 a4);rfl;rfl;rfl|(with_reducible apply o9);rfl;rfl;omega;omega;rfl|refine yDn (by with_reducible constructor) ?_|(with_reducible apply f8);rfl;assumption)
   exact m8 (j + 1 + 1) (by exact Fr.sub_of rfl) ⟨by omega,hpst⟩ hS (by omega)
structure Flt where
 slots:Int
 sp:List Fs
 pr:List Pc
 out:List Wd
def FlV.F (f:FlV):Flt:=⟨f.slots,f.sp.map (·.1),f.pr,f.out⟩
def faA (x:Fs×Value×Value):Asr:=.row 136 4 x.2.1 (x.1.areas.map arC)
def fpA (x:Fs×Value×Value):Asr:=.row 145 2 x.2.2 (x.1.pages.map fpC)
def fsA (l:List (Fs×Value×Value)):List Asr:=l.flatMap fun x=>[faA x,fpA x]
def fA (f:FlV):List Asr:=.row 139 3 f.vsp (f.sp.map fsC)::.row 123 13 f.vpr (f.pr.map prC)::.row 120 2 f.vout (f.out.map wdC)::fsA f.sp
theorem FlOk.mem {F:Nat->Prop} {w0 w:World} {Γ:List Asr} {f:FlV} (hS:St F w0 w Γ) (hm:∀ A ∈ fA f,A ∈ Γ):FlOk w f:=by
 have hr:∀ {x A},x ∈ f.sp->A ∈ [faA x,fpA x]->A ∈ Γ:=fun {x A} hx hA=>hm _ (xb6 _ (xb6 _ (xb6 _ (List.mem_flatMap.2 ⟨x,hx,hA⟩))));refine ⟨hS.slMem (e:=139) (hm _ xb5),fun x hx=>?_,fun x hx=>?_,hS.slMem (e:=123) (hm _ (xb6 _ xb5)),hS.slMem (e:=120) (hm _ (xb6 _ (xb6 _ xb5)))⟩
 ·exact hS.slMem (e:=136) (hr hx xb5)
 ·exact hS.slMem (e:=145) (hr hx (xb6 _ xb5))
theorem a6v {w w':World} {f:FlV} (h:St nF w w' (fA f)):∃ Δ,St nF w w' Δ/\∀ {F:Nat->Prop} {w0 w2:World} {Γ:List Asr},St F w0 w2 Γ->(∀ A ∈ Δ,A ∈ Γ)->FlOk w2 f:=⟨fA f,h,fun hS hm=>FlOk.mem hS hm⟩
def fl0:FlV:=⟨0,[],[],[],.slice none 0 0,.slice none 0 0,.slice none 0 0⟩
theorem b21 {w w':World} {Γ:List Asr} (h:St nF w w' Γ):St nF w w' (fA fl0):=(((h.sub (xg7 _)).addNil _ _).addNil _ _).addNil _ _
theorem b1L (w:World):FlOk w fl0:=⟨Sl.nil0 w 3,(fun _ h=>by cases h),(fun _ h=>by cases h),Sl.nil0 w 13,Sl.nil0 w 2⟩
def b23:Flt:=⟨0,[],[],[]⟩
end Go.Proofs.YtejnpppejalhfacGreat
