/- Texts that the proof stands on, one behind the other: Fl2, Fl3, Fl4, Fl5, Fl6, Fl7, Ke7, Ke8, Ke9, Ke10, Fl8, PlFl2. -/
import Derived.Lib.QuietBelow
import Derived.Test.YtejnpppejalhfadGreatPFlatPeeks8
set_option linter.unusedVariables false
set_option linter.unusedSimpArgs false
namespace Go.Proofs.YtejnpppejalhfadGreat
set_option maxRecDepth 100000
set_option maxHeartbeats 8000000
open Go.RowKit Go.Sort
theorem a2L {l:List Wd} {n:Int} {i:Nat} {x:Wd} (h:l[i]?=some x):a0n (l.take (i + 1)) n=(a0n (l.take i) n && (decide (0<=x.proc) && decide (x.proc < n))):=by
 unfold a0n;rw [a0Y h,List.all_append,xi4,List.all_nil,xi5]
theorem a2m {l:List Wd} {n:Int} {i:Nat} {x:Wd} (h:l[i]?=some x) (hb:(decide (0<=x.proc) && decide (x.proc < n))=false):a0n l n=false:=by
 unfold a0n;rw [List.all_eq_false];exact ⟨x,xc0 h,by rw [hb];simp⟩
theorem a8e {w:World} {v:Value} {l:List Wd} (hL:Sl nF w 2 v (l.map wdC)) (n:Int):Fn Tryz.prog 108 [v,.int .i64 n] w (RBf (.bool (a0n l n)) w):=by
 have bnd:=hL.bound;obtain ⟨p,c,rfl⟩:=hL.len;refine yEn Tryz.func108 Tryz.ntmps108 (by kernel_rfl) (by kernel_rfl) rfl rfl ?_;have hS:=St.start w
 repeat' (first|(with_reducible apply a4 a0);rfl;rfl;rfl|refine yDn (by with_reducible constructor) ?_)
 refine y8 (F:=nF) (w0:=w) (X:=Nat) (fun x=>[(9,.int .i64 (x:Nat))]) [1,7,8] rfl (fun _=>[]) (fun i=>i<=l.length/\a0n (l.take i) n=true) (fun i=>l.length - i) 0 (by exact Fr.sub_of rfl) ⟨xe7 _,rfl⟩ hS ?_;clear hS;rintro i w1 ⟨hi,ht⟩ hS;dsimp only [List.cons_append,List.nil_append] at hi ht hS |-;by_cases hlt:i < l.length
 ·obtain ⟨x,hx⟩:=n8 (l:=l) (i:=i) (by omega);have hrow:=j3 (f:=wdC) hx;obtain ⟨b,off,rfl,hro⟩:=hL.at_ (i:=i) hlt;unfold wdC at hrow;have hst:=a2L (n:=n) hx;rw [ht,xk8] at hst;by_cases h0:x.proc < 0
  ·have hd0:decide (x.proc < 0)=true:=xg6 h0;have hbad:=a2m (n:=n) hx (by rw [xg8 (show ¬0<=x.proc by omega)];rfl)
   repeat' (first|(with_reducible apply a4 a0);rfl;rfl;rfl|(with_reducible apply a5);rfl;(first|apply Ld.sc a0;rfl;exact hS.blkC 0 rfl rfl|apply Ld.st a0;rfl;exact hS.roR (by assumption) (by assumption);rfl);rfl|(with_reducible apply p8 a0);rfl;rfl;rfl;rfl;omega;rfl|refine yDn (by with_reducible constructor) ?_|(with_reducible apply q7);(iterate 4 rfl);assumption;rfl|(with_reducible apply d7);rfl;assumption;rfl;rfl|(with_reducible apply b7);rfl;rfl|(with_reducible apply l8 hS a0);rfl;rfl;rfl;clear hS;intro g w' hS|(with_reducible apply l9 hS a0 (i:=0));(iterate 8 rfl);exact (rfl:_=[_,_]);clear hS;intro w' hS;simp only [List.set] at hS|(with_reducible apply i5);rfl;all_goals (intro hb hp;try (exfalso;omega)))
   (refine i2 rfl ?_)
   exact ⟨by rw [hbad],hS.sub (xg4 _)⟩
  have hd0:decide (x.proc < 0)=false:=xg8 h0;by_cases h1:n<=x.proc
  ·have hd1:decide (n<=x.proc)=true:=xg6 h1;have hbad:=a2m (n:=n) hx (by rw [xg8 (show ¬x.proc < n by omega),xk9])
   repeat' (first|(with_reducible apply a4 a0);rfl;rfl;rfl|(with_reducible apply a5);rfl;(first|apply Ld.sc a0;rfl;exact hS.blkC 0 rfl rfl|apply Ld.st a0;rfl;exact hS.roR (by assumption) (by assumption);rfl);rfl|(with_reducible apply p8 a0);rfl;rfl;rfl;rfl;omega;rfl|refine yDn (by with_reducible constructor) ?_|(with_reducible apply i6);(iterate 4 rfl);assumption|(with_reducible apply a9);rfl;assumption;rfl;rfl|(with_reducible apply b7);rfl;assumption|(with_reducible apply l8 hS a0);rfl;rfl;rfl;clear hS;intro g w' hS|(with_reducible apply l9 hS a0 (i:=0));(iterate 8 rfl);exact (rfl:_=[_,_]);clear hS;intro w' hS;simp only [List.set] at hS|(with_reducible apply i5);rfl;all_goals (intro hb hp;try (exfalso;omega)))
   (refine i2 rfl ?_)
   exact ⟨by rw [hbad],hS.sub (xg4 _)⟩
  have hd1:decide (n<=x.proc)=false:=xg8 h1;rw [xg6 (show 0<=x.proc by omega),xg6 (show x.proc < n by omega)] at hst
  repeat' (first|(with_reducible apply a4 a0);rfl;rfl;rfl|(with_reducible apply a5);rfl;(first|apply Ld.sc a0;rfl;exact hS.blkC 0 rfl rfl|apply Ld.st a0;rfl;exact hS.roR (by assumption) (by assumption);rfl);rfl|(with_reducible apply p8 a0);rfl;rfl;rfl;rfl;omega;rfl|(with_reducible apply a0q);rfl;rfl;omega;omega;rfl|refine yDn (by with_reducible constructor) ?_|(with_reducible apply i6);(iterate 4 rfl);assumption|(with_reducible apply a9);rfl;assumption;rfl;rfl|(with_reducible apply j5);rfl;assumption|(with_reducible apply l8 hS a0);rfl;rfl;rfl;clear hS;intro g w' hS|(with_reducible apply l9 hS a0 (i:=0));(iterate 8 rfl);exact (rfl:_=[_,_]);clear hS;intro w' hS;simp only [List.set] at hS|(with_reducible apply i5);rfl;all_goals (intro hb hp;try (exfalso;omega)))
  exact o9 (i + 1) (by exact Fr.sub_of rfl) ⟨by omega,hst⟩ hS.drop (by omega)
 ·obtain rfl:i=l.length:=by omega
  rw [xe9] at ht
  repeat' (first|(with_reducible apply a4 a0);rfl;rfl;rfl|refine yDn (by with_reducible constructor) ?_|(with_reducible apply i5);rfl;all_goals (intro hb hp;try (exfalso;omega)))
  (refine i2 rfl ?_)
  exact ⟨by rw [ht],hS.sub (xg4 _)⟩
theorem a3m {w:World} {v:Value} {l:List Wd} (hL:Sl nF w 2 v (l.map wdC)) (n:Nat) (hn:(n:Int)<=9223372036854775807):Fn Tryz.prog 36 [v,.int .i64 (n:Nat)] w (RBf (.bool (a0n l (n:Nat))) w):=by
 have bnd:=hL.bound;obtain ⟨p,c,rfl⟩:=hL.len;refine yEn Tryz.func36 Tryz.ntmps36 (by kernel_rfl) (by kernel_rfl) rfl rfl ?_;have hS:=St.start w
 repeat' (first|(with_reducible apply a4 a0);rfl;rfl;rfl|refine yDn (by with_reducible constructor) ?_)
 refine y8 (F:=nF) (w0:=w) (X:=Nat) (fun x=>[(5,.int .i64 (x:Nat))]) [0,1] rfl (fun _=>[]) (fun i=>i<=l.length/\a0n (l.take i) (n:Nat)=true) (fun i=>l.length - i) 0 (by exact Fr.sub_of rfl) ⟨xe7 _,rfl⟩ hS ?_;clear hS;rintro i w1 ⟨hi,ht⟩ hS;dsimp only [List.cons_append,List.nil_append] at hi ht hS |-;by_cases hlt:i < l.length
 ·obtain ⟨x,hx⟩:=n8 (l:=l) (i:=i) (by omega);have hrow:=j3 (f:=wdC) hx;obtain ⟨b,off,rfl,hro⟩:=hL.at_ (i:=i) hlt;unfold wdC at hrow;have hst:=a2L (n:=(n:Nat)) hx;rw [ht,xk8] at hst;by_cases h0:0<=x.proc/\x.proc<=(n:Nat) - 1
  ·have hd0:decide (0<=x.proc/\x.proc<=((n:Nat):Int) - 1)=true:=xg6 h0;rw [xg6 h0.1,xg6 (show x.proc < (n:Nat) by omega)] at hst
   repeat' (first|(with_reducible apply a4 a0);rfl;rfl;rfl|(with_reducible apply a5);rfl;(apply Ld.sc a0;rfl;exact hS.roC0 (by assumption) (by assumption) rfl);rfl|(with_reducible apply p8 a0);rfl;rfl;rfl;rfl;omega;rfl|(with_reducible apply a0q);rfl;rfl;omega;omega;rfl|(with_reducible apply a9I);rfl;rfl;omega;omega;rfl|refine yDn (by with_reducible constructor) ?_|(with_reducible apply i5);rfl;all_goals (intro hb hp;try (exfalso;omega))|(with_reducible apply a9D);rfl;all_goals (intro hb hp;try (exfalso;omega))|(with_reducible apply d5 hS);rfl;rfl;rfl;refine ⟨_,i3 _ _ _ _,?_⟩;clear hS;intro w' hS)
   exact o9 (i + 1) (by exact Fr.sub_of rfl) ⟨by omega,hst⟩ hS (by omega)
  ·have hd0:decide (0<=x.proc/\x.proc<=((n:Nat):Int) - 1)=false:=xg8 h0;have hbad:=a2m (n:=(n:Nat)) hx (by
    by_cases h1:0<=x.proc
    ·rw [xg8 (show ¬x.proc < (n:Nat) by omega),xk9]
    ·rw [xg8 h1,xl0])
   repeat' (first|(with_reducible apply a4 a0);rfl;rfl;rfl|(with_reducible apply a5);rfl;(apply Ld.sc a0;rfl;exact hS.roC0 (by assumption) (by assumption) rfl);rfl|(with_reducible apply p8 a0);rfl;rfl;rfl;rfl;omega;rfl|(with_reducible apply a9I);rfl;rfl;omega;omega;rfl|refine yDn (by with_reducible constructor) ?_|(with_reducible apply i5);rfl;all_goals (intro hb hp;try (exfalso;omega))|(with_reducible apply a9D);rfl;all_goals (intro hb hp;try (exfalso;omega))|(with_reducible apply d5 hS);rfl;rfl;rfl;refine ⟨_,i3 _ _ _ _,?_⟩;clear hS;intro w' hS)
   (refine i2 rfl ?_)
   exact ⟨by rw [hbad],hS.sub (xg4 _)⟩
 ·obtain rfl:i=l.length:=by omega
  rw [xe9] at ht
  repeat' (first|(with_reducible apply a4 a0);rfl;rfl;rfl|refine yDn (by with_reducible constructor) ?_|(with_reducible apply i5);rfl;all_goals (intro hb hp;try (exfalso;omega)))
  (refine i2 rfl ?_)
  exact ⟨by rw [ht],hS.sub (xg4 _)⟩
theorem a1g {A:List Ar} {l:List Fp} {n:Nat}:q9 A l (n + 1)=(q9 A l n && l6 A l n):=by
 unfold q9;rw [List.range_succ,List.all_append,xi4,List.all_nil,xi5]
theorem o5 {A:List Ar} {l:List Fp} {n i:Nat} (hi:i < n) (h:l6 A l i=false):q9 A l n=false:=by
 unfold q9;rw [List.all_eq_false];exact ⟨i,xh3.2 hi,by rw [h];simp⟩
theorem a5Z {w:World} {x:Fs} {va vp:Value} (har:Sl nF w 4 va (x.areas.map arC)) (hpg:Sl nF w 2 vp (x.pages.map fpC)):Fn Tryz.prog 106 [.agg #[.bool x.live,va,vp]] w (RBf (.bool (fsB x)) w):=by
 have b1:=har.bound;have b2:=hpg.bound;have hck:=fun w1 (h:Sl nF w1 4 va (x.areas.map arC))=>a6U h;have hto:=fun w1 (h:Sl nF w1 4 va (x.areas.map arC))=>a6v h;have hfi0:=fun w1 (h:Sl nF w1 4 va (x.areas.map arC)) (p:Int)=>a8k p h;obtain ⟨live,ars,pgs⟩:=x;dsimp only at har hpg b1 b2 hck hto hfi0 |-;obtain ⟨pa,ca,rfl⟩:=har.len;obtain ⟨pp,cp,rfl⟩:=hpg.len
 cases live with
 |false=>
  have hs:=a6r ars pgs b1 b2;refine yEn Tryz.func106 Tryz.ntmps106 (by kernel_rfl) (by kernel_rfl) rfl rfl ?_;have hS:=St.start w
  repeat' (first|(with_reducible apply a4 a0);rfl;rfl;rfl|(with_reducible apply a5);rfl;(first|apply Ld.sc a0;rfl;exact hS.blkC 0 rfl rfl|apply Ld.sl a0;rfl;exact hS.blkC 0 rfl rfl);rfl|(with_reducible apply a2u a0);rfl;rfl|refine yDn (by with_reducible constructor) ?_|(with_reducible apply b7);rfl;rfl|(with_reducible apply f8 hS);rfl;rfl;rfl;clear hS;intro g w' hS)
  (refine i2 rfl ?_)
  exact ⟨by unfold fsB;rw [xd7 (by simp)];simp [hs],hS.sub (xg4 _)⟩
 |true=>
  by_cases hc:b4 ars=0;rotate_left
  ·have hd:(!decide (b4 ars=0))=true:=by rw [xg8 hc];rfl
   refine yEn Tryz.func106 Tryz.ntmps106 (by kernel_rfl) (by kernel_rfl) rfl rfl ?_;have hS:=St.start w
   repeat' (first|(with_reducible apply a4 a0);rfl;rfl;rfl|(with_reducible apply a5);rfl;(apply Ld.sc a0;rfl;exact hS.blkC 0 rfl rfl);rfl|refine yDn (by with_reducible constructor) ?_|(with_reducible apply j5);rfl;rfl|(with_reducible apply f8 hS);rfl;rfl;rfl;clear hS;intro g w' hS)
   (focus ((with_reducible apply b9 _ _ _ (by kernel_rfl) (by kernel_rfl) hS);(repeat' (first|(first|(with_reducible apply j8 a0);rfl;rfl|(with_reducible apply l5);rfl;(intro wd hd;replace hd:St _ _ wd _:=hd;(apply Ld.sl a0;rfl;exact hd.blkC 0 rfl rfl));rfl|(first|(with_reducible apply a0Z);(iterate 4 rfl);assumption;rfl|(with_reducible apply n5);rfl;assumption;rfl;rfl))|(with_reducible apply i7);rfl;rfl;rfl;refine ⟨_,fun wd hd=>hck _ (har.now hd),?_⟩));all_goals ((with_reducible apply o3);intro w' hS';clear hS;have hS:=hS';clear hS')))
   repeat' (first|(with_reducible apply a4 a0);rfl;rfl;rfl|refine yDn (by with_reducible constructor) ?_|(with_reducible apply b7);rfl;rfl)
   (refine i2 rfl ?_)
   exact ⟨by unfold fsB;rw [xd6 rfl,xg8 hc,xl0],hS.sub (xg4 _)⟩
  have hdc:(!decide (b4 ars=0))=false:=by rw [xg6 hc];rfl
  simp only [xd6 hc] at hto;by_cases hn:(pgs.length:Int)=o4 ars;rotate_left
  ·have hdn:(!decide ((pgs.length:Int)=o4 ars))=true:=by rw [xg8 hn];rfl
   refine yEn Tryz.func106 Tryz.ntmps106 (by kernel_rfl) (by kernel_rfl) rfl rfl ?_;have hS:=St.start w
   repeat' (first|(with_reducible apply a4 a0);rfl;rfl;rfl|(with_reducible apply a5);rfl;(apply Ld.sc a0;rfl;exact hS.blkC 0 rfl rfl);rfl|refine yDn (by with_reducible constructor) ?_|(with_reducible apply j5);rfl;rfl|(with_reducible apply f8 hS);rfl;rfl;rfl;clear hS;intro g w' hS)
   (focus ((with_reducible apply b9 _ _ _ (by kernel_rfl) (by kernel_rfl) hS);(repeat' (first|(first|(with_reducible apply j8 a0);rfl;rfl|(with_reducible apply l5);rfl;(intro wd hd;replace hd:St _ _ wd _:=hd;(apply Ld.sl a0;rfl;exact hd.blkC 0 rfl rfl));rfl|(first|(with_reducible apply r9);(iterate 4 rfl);assumption|(with_reducible apply k7);rfl;assumption;rfl;rfl))|(with_reducible apply i7);rfl;rfl;rfl;refine ⟨_,fun wd hd=>hck _ (har.now hd),?_⟩|(with_reducible apply i7);rfl;rfl;rfl;refine ⟨_,fun wd hd=>hto _ (har.now hd),?_⟩));all_goals ((with_reducible apply o3);intro w' hS';clear hS;have hS:=hS';clear hS')))
   repeat' (first|(with_reducible apply a4 a0);rfl;rfl;rfl|refine yDn (by with_reducible constructor) ?_|(with_reducible apply b7);rfl;assumption)
   (refine i2 rfl ?_)
   exact ⟨by unfold fsB;rw [xd6 rfl];simp [hn],hS.sub (xg4 _)⟩
  have hdn:(!decide ((pgs.length:Int)=o4 ars))=false:=by rw [xg6 hn];rfl
  have hfsB:fsB ⟨true,ars,pgs⟩=q9 ars pgs pgs.length:=by unfold fsB;rw [xd6 rfl];simp [hc,hn]
  rw [hfsB];refine yEn Tryz.func106 Tryz.ntmps106 (by kernel_rfl) (by kernel_rfl) rfl rfl ?_;have hS:=St.start w
  (repeat ((refine yDn (by with_reducible constructor) ?_)))
  (((with_reducible apply f8 hS);rfl;rfl;rfl);clear hS;intro g1 w' hS)
  repeat' (first|(with_reducible apply a4 a0);rfl;rfl;rfl|(with_reducible apply a5);rfl;(apply Ld.sc a0;rfl;exact hS.blkC 0 rfl rfl);rfl|refine yDn (by with_reducible constructor) ?_|(with_reducible apply j5);rfl;rfl)
  (focus ((with_reducible apply b9 _ _ _ (by kernel_rfl) (by kernel_rfl) hS);(repeat' (first|(first|(with_reducible apply j8 a0);rfl;rfl|(with_reducible apply l5);rfl;(intro wd hd;replace hd:St _ _ wd _:=hd;(apply Ld.sl a0;rfl;exact hd.blkC 0 rfl rfl));rfl|(first|(with_reducible apply r9);(iterate 4 rfl);assumption|(with_reducible apply k7);rfl;assumption;rfl;rfl))|(with_reducible apply i7);rfl;rfl;rfl;refine ⟨_,fun wd hd=>hck _ (har.now hd),?_⟩|(with_reducible apply i7);rfl;rfl;rfl;refine ⟨_,fun wd hd=>hto _ (har.now hd),?_⟩));all_goals ((with_reducible apply o3);intro w' hS';clear hS;have hS:=hS';clear hS')))
  repeat' (first|(with_reducible apply a4 a0);rfl;rfl;rfl|(with_reducible apply a5);rfl;(apply Ld.sl a0;rfl;exact hS.blkC 0 rfl rfl);rfl|refine yDn (by with_reducible constructor) ?_|(with_reducible apply j5);rfl;assumption)
  refine y8 (F:=nF) (w0:=w) (X:=Nat) (fun i=>[(34,.int .i64 (i:Nat))]) [1,32,33] rfl (fun _=>[]) (fun i=>i<=pgs.length/\q9 ars pgs i=true) (fun i=>pgs.length - i) 0 (by exact Fr.sub_of rfl) ⟨xe7 _,rfl⟩ hS ?_;clear hS;rintro i w1 ⟨hi,hpb⟩ hS;dsimp only [List.cons_append,List.nil_append] at hi hpb hS |-;by_cases hlt:i < pgs.length;rotate_left
  ·obtain rfl:i=pgs.length:=by omega
   repeat' (first|(with_reducible apply a4 a0);rfl;rfl;rfl|refine yDn (by with_reducible constructor) ?_|(with_reducible apply i5);rfl;all_goals (intro hb hp;try (exfalso;omega)))
   (refine i2 rfl ?_)
   exact ⟨by rw [hpb],hS.sub (xg4 _)⟩
  obtain ⟨x,hx⟩:=n8 (l:=pgs) (i:=i) (by omega);have hrow:=j3 (f:=fpC) hx;obtain ⟨b,off,rfl,hro⟩:=hpg.at_ (i:=i) hlt;unfold fpC at hrow;have hfi:=fun w1 (h:Sl nF w1 4 (.slice pa ars.length ca) (ars.map arC))=>hfi0 w1 h x.page;rw [a4A hc] at hfi;have hst:=a1g (A:=ars) (l:=pgs) (n:=i);rw [hpb,xk8] at hst;have bx:(x.data.length:Int)=16 ↔ x.data.length=16:=by omega
  cases hfa:l3 ars x.page with
  |none=>
   rw [hfa] at hfi;unfold a1W arC at hfi;dsimp only [Option.getD,Option.isSome] at hfi;have hbad:=o5 (A:=ars) (n:=pgs.length) hlt (by unfold l6;rw [hx];dsimp only;rw [hfa];rfl)
   repeat' (first|(with_reducible apply a4 a0);rfl;rfl;rfl|(with_reducible apply a5);rfl;(first|apply Ld.sc a0;rfl;exact hS.blkC 0 rfl rfl|apply Ld.sl a0;rfl;exact hS.blkC 1 rfl rfl|apply Ld.st a0;rfl;exact hS.roR (by assumption) (by assumption);rfl);rfl|(with_reducible apply p8 a0);rfl;rfl;rfl;rfl;omega;rfl|refine yDn (by with_reducible constructor) ?_|(with_reducible apply l8 hS a0);rfl;rfl;rfl;clear hS;intro g w' hS|(with_reducible apply l9 hS a0 (i:=0));(iterate 8 rfl);(first|exact (rfl:_=[_,_])|exact (rfl:_=[_,_,_,_]));clear hS;intro w' hS;simp only [List.set] at hS|(with_reducible apply i5);rfl;all_goals (intro hb hp;try (exfalso;omega))|(with_reducible apply d5 hS);rfl;rfl;rfl;refine ⟨_,hfi _ (har.now hS),?_⟩;clear hS;intro w' hS)
   (focus ((with_reducible apply b9 _ _ _ (by kernel_rfl) (by kernel_rfl) hS);(repeat' ((first|(with_reducible apply j8 a0);rfl;rfl|(first|(with_reducible apply a0Z);(iterate 4 rfl);rfl;rfl|(with_reducible apply a0c);(iterate 5 rfl)|(with_reducible apply n5);rfl;rfl;rfl;rfl))));all_goals ((with_reducible apply o3);intro w' hS';clear hS;have hS:=hS';clear hS')))
   repeat' (first|(with_reducible apply a4 a0);rfl;rfl;rfl|refine yDn (by with_reducible constructor) ?_|(with_reducible apply b7);rfl;rfl)
   (refine i2 rfl ?_)
   exact ⟨by rw [hbad],hS.sub (xg4 _)⟩
  |some a=>
   rw [hfa] at hfi;unfold a1W arC at hfi;dsimp only [Option.getD,Option.isSome] at hfi;by_cases hl:x.data.length=16;rotate_left
   ·have hdl:(!decide ((x.data.length:Int)=16))=true:=by rw [xg8 (fun h=>hl (bx.1 h))];rfl
    have hbad:=o5 (A:=ars) (n:=pgs.length) hlt (by unfold l6;rw [hx];dsimp only;rw [xg8 hl,xl0,xk9])
    repeat' (first|(with_reducible apply a4 a0);rfl;rfl;rfl|(with_reducible apply a5);rfl;(first|apply Ld.sc a0;rfl;exact hS.blkC 0 rfl rfl|apply Ld.sl a0;rfl;exact hS.blkC 1 rfl rfl|apply Ld.st a0;rfl;exact hS.roR (by assumption) (by assumption);rfl);rfl|(with_reducible apply p8 a0);rfl;rfl;rfl;rfl;omega;rfl|refine yDn (by with_reducible constructor) ?_|(with_reducible apply l8 hS a0);rfl;rfl;rfl;clear hS;intro g w' hS|(with_reducible apply l9 hS a0 (i:=0));(iterate 8 rfl);(first|exact (rfl:_=[_,_])|exact (rfl:_=[_,_,_,_]));clear hS;intro w' hS;simp only [List.set] at hS|(with_reducible apply i5);rfl;all_goals (intro hb hp;try (exfalso;omega))|(with_reducible apply d5 hS);rfl;rfl;rfl;refine ⟨_,hfi _ (har.now hS),?_⟩;clear hS;intro w' hS)
    (focus ((with_reducible apply b9 _ _ _ (by kernel_rfl) (by kernel_rfl) hS);(repeat' ((first|(with_reducible apply j8 a0);rfl;rfl|(with_reducible apply l5);rfl;(intro wd hd;replace hd:St _ _ wd _:=hd;(apply Ld.sc a0;rfl;exact hd.blkC 1 rfl rfl));rfl|(first|(with_reducible apply r9);(iterate 4 rfl);rfl|(with_reducible apply a0Z);(iterate 4 rfl);assumption;rfl|(with_reducible apply a0c);(iterate 5 rfl)|(with_reducible apply n5);rfl;assumption;rfl;rfl|(with_reducible apply k7);rfl;rfl;rfl;rfl))));all_goals ((with_reducible apply o3);intro w' hS';clear hS;have hS:=hS';clear hS')))
    repeat' (first|(with_reducible apply a4 a0);rfl;rfl;rfl|refine yDn (by with_reducible constructor) ?_|(with_reducible apply b7);rfl;rfl)
    (refine i2 rfl ?_)
    exact ⟨by rw [hbad],hS.sub (xg4 _)⟩
   have hdl:(!decide ((x.data.length:Int)=16))=false:=by rw [xg6 (bx.2 hl)];rfl
   cases i with
   |zero=>
    have hd0:decide ((0:Int) < ((0:Nat):Int))=false:=rfl;have hok:l6 ars pgs 0=true:=by
     unfold l6;rw [hx];dsimp only;rw [hfa,xg6 hl];rfl
    rw [hok] at hst
    repeat' (first|(with_reducible apply a4 a0);rfl;rfl;rfl|(with_reducible apply a5);rfl;(first|apply Ld.sc a0;rfl;exact hS.blkC 0 rfl rfl|apply Ld.sl a0;rfl;exact hS.blkC 1 rfl rfl|apply Ld.st a0;rfl;exact hS.roR (by assumption) (by assumption);rfl);rfl|(with_reducible apply p8 a0);rfl;rfl;rfl;rfl;omega;rfl|refine yDn (by with_reducible constructor) ?_|(with_reducible apply l8 hS a0);rfl;rfl;rfl;clear hS;intro g w' hS|(with_reducible apply l9 hS a0 (i:=0));(iterate 8 rfl);(first|exact (rfl:_=[_,_])|exact (rfl:_=[_,_,_,_]));clear hS;intro w' hS;simp only [List.set] at hS|(with_reducible apply i5);rfl;all_goals (intro hb hp;try (exfalso;omega))|(with_reducible apply d5 hS);rfl;rfl;rfl;refine ⟨_,hfi _ (har.now hS),?_⟩;clear hS;intro w' hS)
    (focus ((with_reducible apply b9 _ _ _ (by kernel_rfl) (by kernel_rfl) hS);(repeat' ((first|(with_reducible apply j8 a0);rfl;rfl|(with_reducible apply l5);rfl;(intro wd hd;replace hd:St _ _ wd _:=hd;(apply Ld.sc a0;rfl;exact hd.blkC 1 rfl rfl));rfl|(first|((with_reducible apply r9);(iterate 4 rfl);first|rfl|assumption)|(with_reducible apply a0Z);(iterate 4 rfl);rfl;rfl|(with_reducible apply k7);rfl;(first|rfl|assumption);rfl;rfl))));all_goals ((with_reducible apply o3);intro w' hS';clear hS;have hS:=hS';clear hS')))
    repeat' (first|(with_reducible apply a4 a0);rfl;rfl;rfl|(with_reducible apply a0q);rfl;rfl;omega;omega;rfl|refine yDn (by with_reducible constructor) ?_|(with_reducible apply j5);rfl;rfl)
    exact o9 1 (by exact Fr.sub_of rfl) ⟨by omega,hst⟩ hS.drop.drop (by omega)
   |succ j=>
    have hd0:decide ((0:Int) < ((j + 1:Nat):Int))=true:=xg6 (by omega);obtain ⟨q,hq⟩:=n8 (l:=pgs) (i:=j) (by omega);have hjj:(((j + 1:Nat):Int) - 1).toNat=j:=by omega
    have hrowq:(pgs.map fpC)[(((j + 1:Nat):Int) - 1).toNat]?=some [.int .i64 q.page,.string ⟨q.data.toArray⟩]:=by rw [hjj];exact j3 (f:=fpC) hq
    by_cases hr:x.page<=q.page
    ·have hdr:decide (x.page<=q.page)=true:=xg6 hr;have hbad:=o5 (A:=ars) (n:=pgs.length) hlt (by unfold l6;rw [hx];dsimp only;rw [hq];dsimp only;rw [xg8 (show ¬q.page < x.page by omega),xk9,xk9])
     repeat' (first|(with_reducible apply a4 a0);rfl;rfl;rfl|(with_reducible apply a5);rfl;(first|apply Ld.sc a0;rfl;exact hS.blkC 0 rfl rfl|apply Ld.sl a0;rfl;exact hS.blkC 1 rfl rfl|apply Ld.st a0;rfl;exact hS.roR (by assumption) (by assumption);rfl);rfl|(with_reducible apply p8 a0);rfl;rfl;rfl;rfl;omega;rfl|refine yDn (by with_reducible constructor) ?_|(with_reducible apply l8 hS a0);rfl;rfl;rfl;clear hS;intro g w' hS|(with_reducible apply l9 hS a0 (i:=0));(iterate 8 rfl);(first|exact (rfl:_=[_,_])|exact (rfl:_=[_,_,_,_]));clear hS;intro w' hS;simp only [List.set] at hS|(with_reducible apply i5);rfl;all_goals (intro hb hp;try (exfalso;omega))|(with_reducible apply d5 hS);rfl;rfl;rfl;refine ⟨_,hfi _ (har.now hS),?_⟩;clear hS;intro w' hS)
     (focus ((with_reducible apply b9 _ _ _ (by kernel_rfl) (by kernel_rfl) hS);(repeat' ((first|(with_reducible apply a3B);rfl;rfl;omega;omega;rfl|(with_reducible apply j8 a0);rfl;rfl|(with_reducible apply l5);rfl;(intro wd hd;replace hd:St _ _ wd _:=hd;(first|apply Ld.sc a0;rfl;(first|exact hd.blkC 1 rfl rfl|exact hd.roC0 (by assumption) (by assumption) rfl)|apply Ld.sl a0;rfl;exact hd.blkC 2 rfl rfl));rfl|(with_reducible apply a0N a0);rfl;rfl;rfl;exact xk1 (by omega);omega;rfl|(first|((with_reducible apply r9);(iterate 4 rfl);first|rfl|assumption)|(with_reducible apply n5);rfl;assumption;rfl;rfl|(with_reducible apply k7);rfl;(first|rfl|assumption);rfl;rfl))));all_goals ((with_reducible apply o3);intro w' hS';clear hS;have hS:=hS';clear hS')))
     repeat' (first|(with_reducible apply a4 a0);rfl;rfl;rfl|refine yDn (by with_reducible constructor) ?_|(with_reducible apply b7);rfl;assumption)
     (refine i2 rfl ?_)
     exact ⟨by rw [hbad],hS.sub (xg4 _)⟩
    ·have hdr:decide (x.page<=q.page)=false:=xg8 hr;have hok:l6 ars pgs (j + 1)=true:=by
      unfold l6;rw [hx];dsimp only;rw [hq];dsimp only;rw [hfa,xg6 hl,xg6 (show q.page < x.page by omega)];rfl
     rw [hok] at hst
     repeat' (first|(with_reducible apply a4 a0);rfl;rfl;rfl|(with_reducible apply a5);rfl;(first|apply Ld.sc a0;rfl;exact hS.blkC 0 rfl rfl|apply Ld.sl a0;rfl;exact hS.blkC 1 rfl rfl|apply Ld.st a0;rfl;exact hS.roR (by assumption) (by assumption);rfl);rfl|(with_reducible apply p8 a0);rfl;rfl;rfl;rfl;omega;rfl|refine yDn (by with_reducible constructor) ?_|(with_reducible apply l8 hS a0);rfl;rfl;rfl;clear hS;intro g w' hS|(with_reducible apply l9 hS a0 (i:=0));(iterate 8 rfl);(first|exact (rfl:_=[_,_])|exact (rfl:_=[_,_,_,_]));clear hS;intro w' hS;simp only [List.set] at hS|(with_reducible apply i5);rfl;all_goals (intro hb hp;try (exfalso;omega))|(with_reducible apply d5 hS);rfl;rfl;rfl;refine ⟨_,hfi _ (har.now hS),?_⟩;clear hS;intro w' hS)
     (focus ((with_reducible apply b9 _ _ _ (by kernel_rfl) (by kernel_rfl) hS);(repeat' ((first|(with_reducible apply a3B);rfl;rfl;omega;omega;rfl|(with_reducible apply j8 a0);rfl;rfl|(with_reducible apply l5);rfl;(intro wd hd;replace hd:St _ _ wd _:=hd;(first|apply Ld.sc a0;rfl;(first|exact hd.blkC 1 rfl rfl|exact hd.roC0 (by assumption) (by assumption) rfl)|apply Ld.sl a0;rfl;exact hd.blkC 2 rfl rfl));rfl|(with_reducible apply a0N a0);rfl;rfl;rfl;exact xk1 (by omega);omega;rfl|(first|((with_reducible apply r9);(iterate 4 rfl);first|rfl|assumption)|(with_reducible apply n5);rfl;assumption;rfl;rfl|(with_reducible apply k7);rfl;(first|rfl|assumption);rfl;rfl))));all_goals ((with_reducible apply o3);intro w' hS';clear hS;have hS:=hS';clear hS')))
     repeat' (first|(with_reducible apply a4 a0);rfl;rfl;rfl|(with_reducible apply a0q);rfl;rfl;omega;omega;rfl|refine yDn (by with_reducible constructor) ?_|(with_reducible apply j5);rfl;assumption)
     exact o9 (j + 1 + 1) (by exact Fr.sub_of rfl) ⟨by omega,hst⟩ hS.drop.drop (by omega)
structure FlOk (w:World) (f:FlV):Prop where
 sp:Sl nF w 3 f.vsp (f.sp.map fsC)
 ar:∀ x ∈ f.sp,Sl nF w 4 x.2.1 (x.1.areas.map arC)
 pg:∀ x ∈ f.sp,Sl nF w 2 x.2.2 (x.1.pages.map fpC)
 pr:Sl nF w 13 f.vpr (f.pr.map prC)
 out:Sl nF w 2 f.vout (f.out.map wdC)
theorem FlOk.now {w w':World} {Γ:List Asr} {f:FlV} (h:FlOk w f) (hS:St nF w w' Γ):FlOk w' f:=⟨h.sp.now hS,fun x hx=>(h.ar x hx).now hS,fun x hx=>(h.pg x hx).now hS,h.pr.now hS,h.out.now hS⟩
theorem a80 {x:Fs} (h:fsB x=true):x.pages.length<=65025:=by
 unfold fsB at h
 split at h
 ·simp only [xb6,xh1] at h;obtain ⟨h1,h2,-⟩:=h;obtain ⟨h3,h4⟩:=m9.1 h1;have:=a5i (t3 h4) x.areas.length;rw [xe9] at this;omega
 ·simp only [xb6,xh1] at h;rw [h.2];exact xe7 _
theorem a2U {l:List (Fs×Value×Value)} {i:Nat} {x:Fs×Value×Value} (h:l[i]?=some x):z8 (l.take (i + 1))=z8 (l.take i) + x.1.pages.length:=by
 unfold z8;rw [a0Y h,xj0,List.sum_append];simp
theorem a4g {g:Nat->Bool} {i:Nat}:(List.range (i + 1)).all g=((List.range i).all g && g i):=by
 rw [List.range_succ,List.all_append,xi4,List.all_nil,xi5]
theorem s6 {g:Nat->Bool} {n i:Nat} (hi:i < n) (h:g i=false):(List.range n).all g=false:=by
 rw [List.all_eq_false];exact ⟨i,xh3.2 hi,by rw [h];simp⟩
theorem a3t {w:World} {f:FlV} (hK:FlOk w f):Fn Tryz.prog 62 [.agg (flC f).toArray] w (RBf (.int .i64 (j6 f)) w):=by
 obtain ⟨m1,m2,m3,m4,m5⟩:=hK;have b1:=m1.bound;have b2:=m4.bound;have b3:=m5.bound;obtain ⟨slots,sp,pr,out,vsp,vpr,vout⟩:=f;dsimp only at m1 m2 m3 m4 m5 b1 b2 b3 |-;obtain ⟨p1,c1,rfl⟩:=m1.len;obtain ⟨p2,c2,rfl⟩:=m4.len;obtain ⟨p3,c3,rfl⟩:=m5.len;unfold flC;dsimp only;by_cases h1:sp.length < 1
 ·have hd1:decide ((sp.length:Int) < 1)=true:=xg6 (by omega);refine yEn Tryz.func62 Tryz.ntmps62 (by kernel_rfl) (by kernel_rfl) rfl rfl ?_;have hS:=St.start w
  repeat' (first|(with_reducible apply a4 a0);rfl;rfl;rfl|(with_reducible apply a5);rfl;(apply Ld.sl a0;rfl;exact hS.blkC 0 rfl rfl);rfl|refine yDn (by with_reducible constructor) ?_|(with_reducible apply q7);(iterate 4 rfl);(first|rfl|assumption);rfl|(with_reducible apply d7);rfl;(first|rfl|assumption);rfl;rfl|(with_reducible apply b7);rfl;rfl|(with_reducible apply f8 hS);rfl;rfl;rfl;clear hS;intro g w' hS)
  (refine i2 rfl ?_)
  exact ⟨by unfold j6;rw [xd6 (by unfold t6;dsimp only;omega)],hS.sub (xg4 _)⟩
 have hd1:decide ((sp.length:Int) < 1)=false:=xg8 (by omega);by_cases h2:4 < sp.length
 ·have hd2:decide ((4:Int) < (sp.length:Int))=true:=xg6 (by omega);refine yEn Tryz.func62 Tryz.ntmps62 (by kernel_rfl) (by kernel_rfl) rfl rfl ?_;have hS:=St.start w
  repeat' (first|(with_reducible apply a4 a0);rfl;rfl;rfl|(with_reducible apply a5);rfl;(apply Ld.sl a0;rfl;exact hS.blkC 0 rfl rfl);rfl|refine yDn (by with_reducible constructor) ?_|(with_reducible apply i6);(iterate 4 rfl);assumption|(with_reducible apply q7);(iterate 4 rfl);(first|rfl|assumption);rfl|(with_reducible apply d7);rfl;(first|rfl|assumption);rfl;rfl|(with_reducible apply a9);rfl;assumption;rfl;rfl|(with_reducible apply b7);rfl;rfl|(with_reducible apply f8 hS);rfl;rfl;rfl;clear hS;intro g w' hS)
  (refine i2 rfl ?_)
  exact ⟨by unfold j6;rw [xd6 (by unfold t6;dsimp only;omega)],hS.sub (xg4 _)⟩
 have hd2:decide ((4:Int) < (sp.length:Int))=false:=xg8 (by omega);by_cases h3:pr.length=sp.length;rotate_left
 ·have hd3:(!decide ((pr.length:Int)=(sp.length:Int)))=true:=by rw [xg8 (by omega)];rfl
  refine yEn Tryz.func62 Tryz.ntmps62 (by kernel_rfl) (by kernel_rfl) rfl rfl ?_;have hS:=St.start w
  repeat' (first|(with_reducible apply a4 a0);rfl;rfl;rfl|(with_reducible apply a5);rfl;(apply Ld.sl a0;rfl;exact hS.blkC 0 rfl rfl);rfl|refine yDn (by with_reducible constructor) ?_|(with_reducible apply i6);(iterate 4 rfl);assumption|(with_reducible apply q7);(iterate 4 rfl);(first|rfl|assumption);rfl|(with_reducible apply d7);rfl;(first|rfl|assumption);rfl;rfl|(with_reducible apply a9);rfl;assumption;rfl;rfl|(with_reducible apply b7);rfl;rfl|(with_reducible apply f8 hS);rfl;rfl;rfl;clear hS;intro g w' hS)
  (refine i2 rfl ?_)
  exact ⟨by unfold j6;rw [xd6 (by unfold t6;dsimp only;omega)],hS.sub (xg4 _)⟩
 have hd3:(!decide ((pr.length:Int)=(sp.length:Int)))=false:=by rw [xg6 (by omega)];rfl
 by_cases h4:slots < 0
 ·have hd4:decide (slots < 0)=true:=xg6 h4;refine yEn Tryz.func62 Tryz.ntmps62 (by kernel_rfl) (by kernel_rfl) rfl rfl ?_;have hS:=St.start w
  repeat' (first|(with_reducible apply a4 a0);rfl;rfl;rfl|(with_reducible apply a5);rfl;(first|apply Ld.sc a0;rfl;exact hS.blkC 0 rfl rfl|apply Ld.sl a0;rfl;exact hS.blkC 0 rfl rfl);rfl|refine yDn (by with_reducible constructor) ?_|(with_reducible apply i6);(iterate 4 rfl);assumption|(with_reducible apply q7);(iterate 4 rfl);(first|rfl|assumption);rfl|(with_reducible apply d7);rfl;(first|rfl|assumption);rfl;rfl|(with_reducible apply a9);rfl;assumption;rfl;rfl|(with_reducible apply b7);rfl;rfl|(with_reducible apply f8 hS);rfl;rfl;rfl;clear hS;intro g w' hS)
  (refine i2 rfl ?_)
  exact ⟨by unfold j6;rw [xd6 (by unfold t6;dsimp only;omega)],hS.sub (xg4 _)⟩
 have hd4:decide (slots < 0)=false:=xg8 h4;by_cases h5:512 < slots
 ·have hd5:decide (512 < slots)=true:=xg6 h5;refine yEn Tryz.func62 Tryz.ntmps62 (by kernel_rfl) (by kernel_rfl) rfl rfl ?_;have hS:=St.start w
  repeat' (first|(with_reducible apply a4 a0);rfl;rfl;rfl|(with_reducible apply a5);rfl;(first|apply Ld.sc a0;rfl;exact hS.blkC 0 rfl rfl|apply Ld.sl a0;rfl;exact hS.blkC 0 rfl rfl);rfl|refine yDn (by with_reducible constructor) ?_|(with_reducible apply i6);(iterate 4 rfl);assumption|(with_reducible apply q7);(iterate 4 rfl);assumption;rfl|(with_reducible apply d7);rfl;assumption;rfl;rfl|(with_reducible apply a9);rfl;assumption;rfl;rfl|(with_reducible apply b7);rfl;rfl|(with_reducible apply f8 hS);rfl;rfl;rfl;clear hS;intro g w' hS)
  (refine i2 rfl ?_)
  exact ⟨by unfold j6;rw [xd6 (by unfold t6;dsimp only;omega)],hS.sub (xg4 _)⟩
 have hd5:decide (512 < slots)=false:=xg8 h5;by_cases h6:2000 < out.length
 ·have hd6:decide ((2000:Int) < (out.length:Int))=true:=xg6 (by omega);refine yEn Tryz.func62 Tryz.ntmps62 (by kernel_rfl) (by kernel_rfl) rfl rfl ?_;have hS:=St.start w
  repeat' (first|(with_reducible apply a4 a0);rfl;rfl;rfl|(with_reducible apply a5);rfl;(first|apply Ld.sc a0;rfl;exact hS.blkC 0 rfl rfl|apply Ld.sl a0;rfl;exact hS.blkC 0 rfl rfl);rfl|refine yDn (by with_reducible constructor) ?_|(with_reducible apply i6);(iterate 4 rfl);assumption|(with_reducible apply a9);rfl;assumption;rfl;rfl|(with_reducible apply b7);rfl;assumption|(with_reducible apply f8 hS);rfl;rfl;rfl;clear hS;intro g w' hS)
  (refine i2 rfl ?_)
  exact ⟨by unfold j6;rw [xd6 (by unfold t6;dsimp only;omega)],hS.sub (xg4 _)⟩
 have hd6:decide ((2000:Int) < (out.length:Int))=false:=xg8 (by omega);have hfl:¬t6 ⟨slots,sp,pr,out,.slice p1 sp.length c1,.slice p2 pr.length c2,.slice p3 out.length c3⟩:=by unfold t6;dsimp only;omega
 unfold j6;rw [xd7 hfl];dsimp only;refine yEn Tryz.func62 Tryz.ntmps62 (by kernel_rfl) (by kernel_rfl) rfl rfl ?_;have hS:=St.start w
 (repeat ((refine yDn (by with_reducible constructor) ?_)))
 (((with_reducible apply f8 hS);rfl;rfl;rfl);clear hS;intro g1 w' hS)
 repeat' (first|(with_reducible apply a4 a0);rfl;rfl;rfl|(with_reducible apply a5);rfl;(first|apply Ld.sc a0;rfl;exact hS.blkC 0 rfl rfl|apply Ld.sl a0;rfl;exact hS.blkC 0 rfl rfl);rfl|refine yDn (by with_reducible constructor) ?_|(with_reducible apply i6);(iterate 4 rfl);assumption|(with_reducible apply a9);rfl;assumption;rfl;rfl|(with_reducible apply j5);rfl;assumption)
 obtain ⟨g0,hf0⟩:∃ g0:Nat->Bool,g0=a5A ⟨slots,sp,pr,out,.slice p1 sp.length c1,.slice p2 pr.length c2,.slice p3 out.length c3⟩:=⟨_,rfl⟩;have hspk:∀ (i:Nat) x p,sp[i]?=some x->pr[i]?=some p->g0 i=(fsB x.1 && m7 p x.1.live):=fun i x p h1 h2=>by
  rw [hf0];unfold a5A;dsimp only;rw [h1,h2]
 rw [<- hf0];clear hf0 hfl;refine y8 (F:=nF) (w0:=w) (X:=Nat) (fun i=>[(44,.int .i64 (i:Nat)),(3,.int .i64 (z8 (sp.take i):Nat))]) [1,42,43] rfl (fun _=>[]) (fun i=>i<=sp.length/\(List.range i).all g0=true/\z8 (sp.take i)<=65025 * i) (fun i=>sp.length - i) 0 (by exact Fr.sub_of rfl) ⟨xe7 _,rfl,xe7 _⟩ hS ?_;clear hS;rintro i w1 ⟨hi,hal,hsm⟩ hS;dsimp only [List.cons_append,List.nil_append] at hi hal hsm hS |-;by_cases hlt:i < sp.length;rotate_left
 ·obtain rfl:i=sp.length:=by omega
  rw [xe9] at hsm |-;have hto:=fun w1 (h:Sl nF w1 2 (.slice p3 out.length c3) (out.map wdC))=>a8e h (pr.length:Nat);rw [hal,xk8];by_cases hg:slots < (z8 sp:Nat)
  ·have hdg:decide (slots < ((z8 sp:Nat):Int))=true:=xg6 hg
   repeat' (first|(with_reducible apply a4 a0);rfl;rfl;rfl|(with_reducible apply a5);rfl;(apply Ld.sc a0;rfl;exact hS.blkC 0 rfl rfl);rfl|refine yDn (by with_reducible constructor) ?_|(with_reducible apply q7);(iterate 4 rfl);assumption;rfl|(with_reducible apply d7);rfl;assumption;rfl;rfl|(with_reducible apply b7);rfl;rfl|(with_reducible apply i5);rfl;all_goals (intro hb hp;try (exfalso;omega)))
   (refine i2 rfl ?_)
   exact ⟨by rw [xg8 (show ¬((z8 sp:Nat):Int)<=slots by omega),xl0];rfl,hS.sub (xg4 _)⟩
  have hdg:decide (slots < ((z8 sp:Nat):Int))=false:=xg8 hg;rw [xg6 (show ((z8 sp:Nat):Int)<=slots by omega),xk8]
  cases ht:a0n out (pr.length:Nat) with
  |true=>
   simp only [ht] at hto
   repeat' (first|(with_reducible apply a4 a0);rfl;rfl;rfl|(with_reducible apply a5);rfl;(first|apply Ld.sc a0;rfl;exact hS.blkC 0 rfl rfl|apply Ld.sl a0;rfl;exact hS.blkC 0 rfl rfl);rfl|refine yDn (by with_reducible constructor) ?_|(with_reducible apply i6);(iterate 4 rfl);assumption|(with_reducible apply a9);rfl;assumption;rfl;rfl|(with_reducible apply j5);rfl;rfl|(with_reducible apply i5);rfl;all_goals (intro hb hp;try (exfalso;omega))|(with_reducible apply d5 hS);rfl;rfl;rfl;refine ⟨_,hto _ (m5.now hS),?_⟩;clear hS;intro w' hS)
   (refine i2 rfl ?_)
   exact ⟨rfl,hS.sub (xg4 _)⟩
  |false=>
   simp only [ht] at hto
   repeat' (first|(with_reducible apply a4 a0);rfl;rfl;rfl|(with_reducible apply a5);rfl;(first|apply Ld.sc a0;rfl;exact hS.blkC 0 rfl rfl|apply Ld.sl a0;rfl;exact hS.blkC 0 rfl rfl);rfl|refine yDn (by with_reducible constructor) ?_|(with_reducible apply i6);(iterate 4 rfl);assumption|(with_reducible apply a9);rfl;assumption;rfl;rfl|(with_reducible apply b7);rfl;rfl|(with_reducible apply i5);rfl;all_goals (intro hb hp;try (exfalso;omega))|(with_reducible apply d5 hS);rfl;rfl;rfl;refine ⟨_,hto _ (m5.now hS),?_⟩;clear hS;intro w' hS)
   (refine i2 rfl ?_)
   exact ⟨rfl,hS.sub (xg4 _)⟩
 obtain ⟨x,hx⟩:=n8 (l:=sp) (i:=i) (by omega);obtain ⟨p,hp⟩:=n8 (l:=pr) (i:=i) (by omega);have hxm:=xc0 hx;have hrow:=j3 (f:=fsC) hx;have hrow2:=j3 (f:=prC) hp;obtain ⟨b,off,rfl,hro⟩:=m1.at_ (i:=i) hlt;obtain ⟨b',off',rfl,hro2⟩:=m4.at_ (i:=i) (by omega);unfold fsC at hrow;have hsp:=fun w1 (h1:Sl nF w1 4 x.2.1 (x.1.areas.map arC)) (h2:Sl nF w1 2 x.2.2 (x.1.pages.map fpC))=>a5Z h1 h2;have hfn:=fun w1=>a78 p x.1.live w1;have hk:=hspk i x p hx hp;have hst:=a4g (g:=g0) (i:=i);rw [hal,xk8] at hst;have hss:=a2U hx;have har:=m2 x hxm;have hpg:=m3 x hxm;unfold prC at hfn hrow2;obtain ⟨⟨live,ars,pgs⟩,va,vp⟩:=x;dsimp only at hrow hsp hfn hk hss har hpg;obtain ⟨pa,ca,rfl⟩:=har.len;obtain ⟨pp,cp,rfl⟩:=hpg.len
 cases hsb:fsB ⟨live,ars,pgs⟩ with
 |false=>
  rw [hsb,xl0] at hk;have hbad:=s6 hlt hk;simp only [hsb] at hsp
  repeat' (first|(with_reducible apply a4 a0);rfl;rfl;rfl|(with_reducible apply a5);rfl;(apply Ld.st a0;rfl;exact hS.roR (by assumption) (by assumption);rfl);rfl|(with_reducible apply p8 a0);rfl;rfl;rfl;rfl;omega;rfl|refine yDn (by with_reducible constructor) ?_|(with_reducible apply l8 hS a0);rfl;rfl;rfl;clear hS;intro g w' hS|(with_reducible apply l9 hS a0 (i:=0));(iterate 8 rfl);exact (rfl:_=[_,_,_]);clear hS;intro w' hS;simp only [List.set] at hS|(with_reducible apply i5);rfl;all_goals (intro hb hp;try (exfalso;omega)))
  (focus ((with_reducible apply b9 _ _ _ (by kernel_rfl) (by kernel_rfl) hS);(repeat' (first|(first|(with_reducible apply j8 a0);rfl;rfl|(with_reducible apply l5);rfl;(intro wd hd;replace hd:St _ _ wd _:=hd;(apply Ld.st a0;rfl;exact hd.blkR 0 rfl;rfl));rfl|(first|(with_reducible apply a0Z);(iterate 4 rfl);rfl;rfl|(with_reducible apply n5);rfl;rfl;rfl;rfl))|(with_reducible apply i7);rfl;rfl;rfl;refine ⟨_,fun wd hd=>hsp _ (har.now hd) (hpg.now hd),?_⟩));all_goals ((with_reducible apply o3);intro w' hS';clear hS;have hS:=hS';clear hS')))
  repeat' (first|(with_reducible apply a4 a0);rfl;rfl;rfl|refine yDn (by with_reducible constructor) ?_|(with_reducible apply b7);rfl;rfl)
  (refine i2 rfl ?_)
  exact ⟨by rw [hbad];rfl,hS.sub (xg4 _)⟩
 |true=>
  have hpl:=a80 hsb;dsimp only at hpl;simp only [hsb] at hsp
  cases hfb:m7 p live with
  |false=>
   rw [hsb,hfb] at hk;have hbad:=s6 hlt hk;simp only [hfb] at hfn
   repeat' (first|(with_reducible apply a4 a0);rfl;rfl;rfl|(with_reducible apply a5);rfl;(apply Ld.st a0;rfl;exact hS.roR (by assumption) (by assumption);rfl);rfl|(with_reducible apply p8 a0);rfl;rfl;rfl;rfl;omega;rfl|refine yDn (by with_reducible constructor) ?_|(with_reducible apply l8 hS a0);rfl;rfl;rfl;clear hS;intro g w' hS|(with_reducible apply l9 hS a0 (i:=0));(iterate 8 rfl);exact (rfl:_=[_,_,_]);clear hS;intro w' hS;simp only [List.set] at hS|(with_reducible apply i5);rfl;all_goals (intro hb hp;try (exfalso;omega)))
   (focus ((with_reducible apply b9 _ _ _ (by kernel_rfl) (by kernel_rfl) hS);(repeat' (first|(first|(with_reducible apply j8 a0);rfl;rfl|(with_reducible apply l5);rfl;(intro wd hd;replace hd:St _ _ wd _:=hd;(first|apply Ld.sc a0;rfl;exact hd.blkC 0 rfl rfl|apply Ld.sl a0;rfl;exact hd.blkC 1 rfl rfl|apply Ld.st a0;rfl;(first|exact hd.blkR 0 rfl|exact hd.roR (by assumption) (by assumption));rfl));rfl|(with_reducible apply a0N a0);rfl;rfl;rfl;rfl;omega;rfl|(first|(with_reducible apply r9);(iterate 4 rfl);rfl|(with_reducible apply k7);rfl;rfl;rfl;rfl))|(with_reducible apply i7);rfl;rfl;rfl;refine ⟨_,fun wd hd=>hsp _ (har.now hd) (hpg.now hd),?_⟩|(with_reducible apply i7);rfl;rfl;rfl;refine ⟨_,fun wd hd=>hfn _,?_⟩));all_goals ((with_reducible apply o3);intro w' hS';clear hS;have hS:=hS';clear hS')))
   repeat' (first|(with_reducible apply a4 a0);rfl;rfl;rfl|refine yDn (by with_reducible constructor) ?_|(with_reducible apply b7);rfl;rfl)
   (refine i2 rfl ?_)
   exact ⟨by rw [hbad];rfl,hS.sub (xg4 _)⟩
  |true=>
   rw [hsb,hfb] at hk;rw [hk] at hst;simp only [hfb] at hfn
   repeat' (first|(with_reducible apply a4 a0);rfl;rfl;rfl|(with_reducible apply a5);rfl;(apply Ld.st a0;rfl;exact hS.roR (by assumption) (by assumption);rfl);rfl|(with_reducible apply p8 a0);rfl;rfl;rfl;rfl;omega;rfl|refine yDn (by with_reducible constructor) ?_|(with_reducible apply l8 hS a0);rfl;rfl;rfl;clear hS;intro g w' hS|(with_reducible apply l9 hS a0 (i:=0));(iterate 8 rfl);exact (rfl:_=[_,_,_]);clear hS;intro w' hS;simp only [List.set] at hS|(with_reducible apply i5);rfl;all_goals (intro hb hp;try (exfalso;omega)))
   (focus ((with_reducible apply b9 _ _ _ (by kernel_rfl) (by kernel_rfl) hS);(repeat' (first|(first|(with_reducible apply j8 a0);rfl;rfl|(with_reducible apply l5);rfl;(intro wd hd;replace hd:St _ _ wd _:=hd;(first|apply Ld.sc a0;rfl;exact hd.blkC 0 rfl rfl|apply Ld.sl a0;rfl;exact hd.blkC 1 rfl rfl|apply Ld.st a0;rfl;(first|exact hd.blkR 0 rfl|exact hd.roR (by assumption) (by assumption));rfl));rfl|(with_reducible apply a0N a0);rfl;rfl;rfl;rfl;omega;rfl|(first|(with_reducible apply r9);(iterate 4 rfl);rfl|(with_reducible apply k7);rfl;rfl;rfl;rfl))|(with_reducible apply i7);rfl;rfl;rfl;refine ⟨_,fun wd hd=>hsp _ (har.now hd) (hpg.now hd),?_⟩|(with_reducible apply i7);rfl;rfl;rfl;refine ⟨_,fun wd hd=>hfn _,?_⟩));all_goals ((with_reducible apply o3);intro w' hS';clear hS;have hS:=hS';clear hS')))
   repeat' (first|(with_reducible apply a4 a0);rfl;rfl;rfl|(with_reducible apply a5);rfl;(apply Ld.sl a0;rfl;exact hS.blkC 0 rfl rfl);rfl|(with_reducible apply a0q);rfl;rfl;omega;omega;rfl|refine yDn (by with_reducible constructor) ?_|(with_reducible apply j5);rfl;rfl)
   refine o9 (i + 1) (by rw [hss];exact Fr.sub_of rfl) ⟨by omega,hst,by rw [hss];omega⟩ hS.drop (by omega)
theorem a3w {w:World} {f:FlV} (hK:FlOk w f):Fn Tryz.prog 18 [.agg (flC f).toArray] w (RBf (.int .i64 (j6 f)) w):=by
 obtain ⟨m1,m2,m3,m4,m5⟩:=hK;have b1:=m1.bound;have b2:=m4.bound;have b3:=m5.bound;obtain ⟨slots,sp,pr,out,vsp,vpr,vout⟩:=f;dsimp only at m1 m2 m3 m4 m5 b1 b2 b3 |-;obtain ⟨p1,c1,rfl⟩:=m1.len;obtain ⟨p2,c2,rfl⟩:=m4.len;obtain ⟨p3,c3,rfl⟩:=m5.len;unfold flC;dsimp only;by_cases h1:1<=sp.length/\sp.length<=4;rotate_left
 ·have hd1:(!decide ((1:Int)<=(sp.length:Int)/\(sp.length:Int)<=4))=true:=by rw [xg8 (by omega)];rfl
  refine yEn Tryz.func18 Tryz.ntmps18 (by kernel_rfl) (by kernel_rfl) rfl rfl ?_;have hS:=St.start w
  repeat' (first|(with_reducible apply a4 a0);rfl;rfl;rfl|(with_reducible apply a5);rfl;(apply Ld.sl a0;rfl;exact hS.blkC 0 rfl rfl);rfl|refine yDn (by with_reducible constructor) ?_|(with_reducible apply q7);(iterate 4 rfl);(first|rfl|assumption);rfl|(with_reducible apply d7);rfl;(first|rfl|assumption);rfl;rfl|(with_reducible apply b7);rfl;rfl|(with_reducible apply f8 hS);rfl;rfl;rfl;clear hS;intro g w' hS|(with_reducible apply d5 hS);rfl;rfl;rfl;refine ⟨_,i3 _ _ _ _,?_⟩;clear hS;intro w' hS)
  (refine i2 rfl ?_)
  exact ⟨by unfold j6;rw [xd6 (by unfold t6;dsimp only;omega)],hS.sub (xg4 _)⟩
 have hd1:(!decide ((1:Int)<=(sp.length:Int)/\(sp.length:Int)<=4))=false:=by rw [xg6 (by omega)];rfl
 by_cases h3:pr.length=sp.length;rotate_left
 ·have hd3:(!decide ((pr.length:Int)=(sp.length:Int)))=true:=by rw [xg8 (by omega)];rfl
  refine yEn Tryz.func18 Tryz.ntmps18 (by kernel_rfl) (by kernel_rfl) rfl rfl ?_;have hS:=St.start w
  repeat' (first|(with_reducible apply a4 a0);rfl;rfl;rfl|(with_reducible apply a5);rfl;(apply Ld.sl a0;rfl;exact hS.blkC 0 rfl rfl);rfl|refine yDn (by with_reducible constructor) ?_|(with_reducible apply i6);(iterate 4 rfl);assumption|(with_reducible apply q7);(iterate 4 rfl);(first|rfl|assumption);rfl|(with_reducible apply d7);rfl;(first|rfl|assumption);rfl;rfl|(with_reducible apply a9);rfl;assumption;rfl;rfl|(with_reducible apply b7);rfl;rfl|(with_reducible apply f8 hS);rfl;rfl;rfl;clear hS;intro g w' hS|(with_reducible apply d5 hS);rfl;rfl;rfl;refine ⟨_,i3 _ _ _ _,?_⟩;clear hS;intro w' hS)
  (refine i2 rfl ?_)
  exact ⟨by unfold j6;rw [xd6 (by unfold t6;dsimp only;omega)],hS.sub (xg4 _)⟩
 have hd3:(!decide ((pr.length:Int)=(sp.length:Int)))=false:=by rw [xg6 (by omega)];rfl
 by_cases h4:0<=slots/\slots<=512;rotate_left
 ·have hd4:(!decide (0<=slots/\slots<=512))=true:=by rw [xg8 h4];rfl
  refine yEn Tryz.func18 Tryz.ntmps18 (by kernel_rfl) (by kernel_rfl) rfl rfl ?_;have hS:=St.start w
  repeat' (first|(with_reducible apply a4 a0);rfl;rfl;rfl|(with_reducible apply a5);rfl;(first|apply Ld.sc a0;rfl;exact hS.blkC 0 rfl rfl|apply Ld.sl a0;rfl;exact hS.blkC 0 rfl rfl);rfl|refine yDn (by with_reducible constructor) ?_|(with_reducible apply i6);(iterate 4 rfl);assumption|(with_reducible apply q7);(iterate 4 rfl);assumption;rfl|(with_reducible apply d7);rfl;assumption;rfl;rfl|(with_reducible apply a9);rfl;assumption;rfl;rfl|(with_reducible apply b7);rfl;rfl|(with_reducible apply f8 hS);rfl;rfl;rfl;clear hS;intro g w' hS|(with_reducible apply d5 hS);rfl;rfl;rfl;refine ⟨_,i3 _ _ _ _,?_⟩;clear hS;intro w' hS)
  (refine i2 rfl ?_)
  exact ⟨by unfold j6;rw [xd6 (by unfold t6;dsimp only;omega)],hS.sub (xg4 _)⟩
 have hd4:(!decide (0<=slots/\slots<=512))=false:=by rw [xg6 h4];rfl
 by_cases h6:2000 < out.length
 ·have hd6:decide ((2000:Int) < (out.length:Int))=true:=xg6 (by omega);refine yEn Tryz.func18 Tryz.ntmps18 (by kernel_rfl) (by kernel_rfl) rfl rfl ?_;have hS:=St.start w
  repeat' (first|(with_reducible apply a4 a0);rfl;rfl;rfl|(with_reducible apply a5);rfl;(first|apply Ld.sc a0;rfl;exact hS.blkC 0 rfl rfl|apply Ld.sl a0;rfl;exact hS.blkC 0 rfl rfl);rfl|refine yDn (by with_reducible constructor) ?_|(with_reducible apply i6);(iterate 4 rfl);assumption|(with_reducible apply a9);rfl;assumption;rfl;rfl|(with_reducible apply b7);rfl;assumption|(with_reducible apply f8 hS);rfl;rfl;rfl;clear hS;intro g w' hS|(with_reducible apply d5 hS);rfl;rfl;rfl;refine ⟨_,i3 _ _ _ _,?_⟩;clear hS;intro w' hS)
  (refine i2 rfl ?_)
  exact ⟨by unfold j6;rw [xd6 (by unfold t6;dsimp only;omega)],hS.sub (xg4 _)⟩
 have hd6:decide ((2000:Int) < (out.length:Int))=false:=xg8 (by omega);have hfl:¬t6 ⟨slots,sp,pr,out,.slice p1 sp.length c1,.slice p2 pr.length c2,.slice p3 out.length c3⟩:=by unfold t6;dsimp only;omega
 unfold j6;rw [xd7 hfl];dsimp only;refine yEn Tryz.func18 Tryz.ntmps18 (by kernel_rfl) (by kernel_rfl) rfl rfl ?_;have hS:=St.start w
 (repeat ((refine yDn (by with_reducible constructor) ?_)))
 (((with_reducible apply f8 hS);rfl;rfl;rfl);clear hS;intro g1 w' hS)
 repeat' (first|(with_reducible apply a4 a0);rfl;rfl;rfl|(with_reducible apply a5);rfl;(first|apply Ld.sc a0;rfl;exact hS.blkC 0 rfl rfl|apply Ld.sl a0;rfl;exact hS.blkC 0 rfl rfl);rfl|refine yDn (by with_reducible constructor) ?_|(with_reducible apply i6);(iterate 4 rfl);assumption|(with_reducible apply a9);rfl;assumption;rfl;rfl|(with_reducible apply j5);rfl;assumption|(with_reducible apply d5 hS);rfl;rfl;rfl;refine ⟨_,i3 _ _ _ _,?_⟩;clear hS;intro w' hS)
 obtain ⟨g0,hf0⟩:∃ g0:Nat->Bool,g0=a5A ⟨slots,sp,pr,out,.slice p1 sp.length c1,.slice p2 pr.length c2,.slice p3 out.length c3⟩:=⟨_,rfl⟩;have hspk:∀ (i:Nat) x p,sp[i]?=some x->pr[i]?=some p->g0 i=(fsB x.1 && m7 p x.1.live):=fun i x p h1 h2=>by
  rw [hf0];unfold a5A;dsimp only;rw [h1,h2]
 rw [<- hf0];clear hf0 hfl;refine y8 (F:=nF) (w0:=w) (X:=Nat) (fun i=>[(4,.int .i64 (i:Nat)),(3,.int .i64 (z8 (sp.take i):Nat))]) [1] rfl (fun _=>[]) (fun i=>i<=sp.length/\(List.range i).all g0=true/\z8 (sp.take i)<=65025 * i) (fun i=>sp.length - i) 0 (by exact Fr.sub_of rfl) ⟨xe7 _,rfl,xe7 _⟩ hS ?_;clear hS;rintro i w1 ⟨hi,hal,hsm⟩ hS;dsimp only [List.cons_append,List.nil_append] at hi hal hsm hS |-;by_cases hlt:i < sp.length;rotate_left
 ·obtain rfl:i=sp.length:=by omega
  rw [xe9] at hsm |-;have hto:=fun w1 (h:Sl nF w1 2 (.slice p3 out.length c3) (out.map wdC))=>a3m h pr.length b2;rw [hal,xk8];by_cases hg:slots < (z8 sp:Nat)
  ·have hdg:decide (slots < ((z8 sp:Nat):Int))=true:=xg6 hg
   repeat' (first|(with_reducible apply a4 a0);rfl;rfl;rfl|(with_reducible apply a5);rfl;(first|apply Ld.sc a0;rfl;exact hS.blkC 0 rfl rfl|apply Ld.sl a0;rfl;exact hS.blkC 0 rfl rfl);rfl|refine yDn (by with_reducible constructor) ?_|(with_reducible apply q7);(iterate 4 rfl);assumption;rfl|(with_reducible apply d7);rfl;assumption;rfl;rfl|(with_reducible apply b7);rfl;rfl|(with_reducible apply i5);rfl;all_goals (intro hb hp;try (exfalso;omega)))
   (refine i2 rfl ?_)
   exact ⟨by rw [xg8 (show ¬((z8 sp:Nat):Int)<=slots by omega),xl0];rfl,hS.sub (xg4 _)⟩
  have hdg:decide (slots < ((z8 sp:Nat):Int))=false:=xg8 hg;rw [xg6 (show ((z8 sp:Nat):Int)<=slots by omega),xk8]
  cases ht:a0n out (pr.length:Nat) with
  |true=>
   simp only [ht] at hto
   repeat' (first|(with_reducible apply a4 a0);rfl;rfl;rfl|(with_reducible apply a5);rfl;(first|apply Ld.sc a0;rfl;exact hS.blkC 0 rfl rfl|apply Ld.sl a0;rfl;exact hS.blkC 0 rfl rfl);rfl|refine yDn (by with_reducible constructor) ?_|(with_reducible apply i6);(iterate 4 rfl);assumption|(with_reducible apply a9);rfl;assumption;rfl;rfl|(with_reducible apply j5);rfl;rfl|(with_reducible apply i5);rfl;all_goals (intro hb hp;try (exfalso;omega))|(with_reducible apply d5 hS);rfl;rfl;rfl;refine ⟨_,hto _ (m5.now hS),?_⟩;clear hS;intro w' hS)
   (refine i2 rfl ?_)
   exact ⟨rfl,hS.sub (xg4 _)⟩
  |false=>
   simp only [ht] at hto
   repeat' (first|(with_reducible apply a4 a0);rfl;rfl;rfl|(with_reducible apply a5);rfl;(first|apply Ld.sc a0;rfl;exact hS.blkC 0 rfl rfl|apply Ld.sl a0;rfl;exact hS.blkC 0 rfl rfl);rfl|refine yDn (by with_reducible constructor) ?_|(with_reducible apply i6);(iterate 4 rfl);assumption|(with_reducible apply a9);rfl;assumption;rfl;rfl|(with_reducible apply b7);rfl;rfl|(with_reducible apply i5);rfl;all_goals (intro hb hp;try (exfalso;omega))|(with_reducible apply d5 hS);rfl;rfl;rfl;refine ⟨_,hto _ (m5.now hS),?_⟩;clear hS;intro w' hS)
   (refine i2 rfl ?_)
   exact ⟨rfl,hS.sub (xg4 _)⟩
 obtain ⟨x,hx⟩:=n8 (l:=sp) (i:=i) (by omega);obtain ⟨p,hp⟩:=n8 (l:=pr) (i:=i) (by omega);have hxm:=xc0 hx;have hrow:=j3 (f:=fsC) hx;have hrow2:=j3 (f:=prC) hp;obtain ⟨b,off,rfl,hro⟩:=m1.at_ (i:=i) hlt;obtain ⟨b',off',rfl,hro2⟩:=m4.at_ (i:=i) (by omega);unfold fsC at hrow;have hfn:=fun w1=>a4e p x.1.live w1;have hck:=fun w1 (h:Sl nF w1 4 x.2.1 (x.1.areas.map arC))=>a2x h;have hpa0:=fun w1 (h:Sl nF w1 4 x.2.1 (x.1.areas.map arC)) hc=>a6q h hc;have hk:=hspk i x p hx hp;have hst:=a4g (g:=g0) (i:=i);rw [hal,xk8] at hst;have hss:=a2U hx;have har:=m2 x hxm;have hpg:=m3 x hxm;unfold prC at hfn hrow2;obtain ⟨⟨live,ars,pgs⟩,va,vp⟩:=x;dsimp only at hrow hfn hck hpa0 hk hss har hpg;obtain ⟨pa,ca,rfl⟩:=har.len;obtain ⟨pp,cp,rfl⟩:=hpg.len;have hpa:=hpa0;have ba:=har.bound;have bp:=hpg.bound
 cases hfb:m7 p live with
 |false=>
  simp only [hfb] at hfn;rw [hfb,xk9] at hk
  repeat' (first|(with_reducible apply a4 a0);rfl;rfl;rfl|(with_reducible apply a5);rfl;(first|apply Ld.sl a0;rfl;exact hS.blkC 0 rfl rfl|apply Ld.st a0;rfl;exact hS.roR (by assumption) (by assumption);rfl);rfl|(with_reducible apply p8 a0);rfl;rfl;rfl;rfl;omega;rfl|refine yDn (by with_reducible constructor) ?_|(with_reducible apply l8 hS a0);rfl;rfl;rfl;clear hS;intro g w' hS|(with_reducible apply l9 hS a0 (i:=0));(iterate 8 rfl);exact (rfl:_=[_,_,_]);clear hS;intro w' hS;simp only [List.set] at hS|(with_reducible apply i5);rfl;all_goals (intro hb hp;try (exfalso;omega)))
  (focus ((with_reducible apply b9 _ _ _ (by kernel_rfl) (by kernel_rfl) hS);(repeat' (first|(first|(with_reducible apply j8 a0);rfl;rfl|(with_reducible apply l5);rfl;(intro wd hd;replace hd:St _ _ wd _:=hd;(first|apply Ld.sc a0;rfl;exact hd.blkC 0 rfl rfl|apply Ld.sl a0;rfl;exact hd.blkC 1 rfl rfl|apply Ld.st a0;rfl;exact hd.roR (by assumption) (by assumption);rfl));rfl|(with_reducible apply a0N a0);rfl;rfl;rfl;rfl;omega;rfl|(first|(with_reducible apply a0Z);(iterate 4 rfl);rfl;rfl|(with_reducible apply a0c);(iterate 5 rfl)|(with_reducible apply n5);rfl;rfl;rfl;rfl))|(with_reducible apply i7);rfl;rfl;rfl;refine ⟨_,fun wd hd=>hfn _,?_⟩));all_goals ((with_reducible apply o3);intro w' hS';clear hS;have hS:=hS';clear hS')))
  repeat' (first|(with_reducible apply a4 a0);rfl;rfl;rfl|refine yDn (by with_reducible constructor) ?_|(with_reducible apply b7);rfl;rfl)
  (refine i2 rfl ?_)
  exact ⟨by rw [s6 hlt (by rw [hk])];rfl,hS.sub (xg4 _)⟩
 |true=>
 simp only [hfb] at hfn;rw [hfb,xi5] at hk;by_cases hle:live=false/\¬(ars=[]/\pgs=[])
 ·obtain ⟨rfl,hne⟩:=hle;have hkb:fsB ⟨false,ars,pgs⟩=false:=by
   unfold fsB;rw [xd7 (by simp)]
   cases ars with
   |nil=>cases pgs with
    |nil=>exact absurd ⟨rfl,rfl⟩ hne
    |cons=>rfl
   |cons=>rfl
  rw [hkb] at hk;by_cases ha:ars=[]
  ·have hpn:¬pgs.length=0:=fun h=>hne ⟨ha,List.length_eq_zero_iff.1 h⟩;have hda:decide ((0:Int) < (ars.length:Int))=false:=by rw [ha];rfl
   have hdp:decide ((0:Int) < (pgs.length:Int))=true:=xg6 (by omega)
   repeat' (first|(with_reducible apply a4 a0);rfl;rfl;rfl|(with_reducible apply a5);rfl;(first|apply Ld.sl a0;rfl;exact hS.blkC 0 rfl rfl|apply Ld.st a0;rfl;exact hS.roR (by assumption) (by assumption);rfl);rfl|(with_reducible apply p8 a0);rfl;rfl;rfl;rfl;omega;rfl|refine yDn (by with_reducible constructor) ?_|(with_reducible apply l8 hS a0);rfl;rfl;rfl;clear hS;intro g w' hS|(with_reducible apply l9 hS a0 (i:=0));(iterate 8 rfl);exact (rfl:_=[_,_,_]);clear hS;intro w' hS;simp only [List.set] at hS|(with_reducible apply i5);rfl;all_goals (intro hb hp;try (exfalso;omega)))
   (focus ((with_reducible apply b9 _ _ _ (by kernel_rfl) (by kernel_rfl) hS);(repeat' (first|(first|(with_reducible apply j8 a0);rfl;rfl|(with_reducible apply l5);rfl;(intro wd hd;replace hd:St _ _ wd _:=hd;(first|apply Ld.sc a0;rfl;exact hd.blkC 0 rfl rfl|apply Ld.sl a0;rfl;(first|exact hd.blkC 0 rfl rfl|exact hd.blkC 1 rfl rfl)|apply Ld.st a0;rfl;exact hd.roR (by assumption) (by assumption);rfl));rfl|(with_reducible apply a0N a0);rfl;rfl;rfl;rfl;omega;rfl|(first|((with_reducible apply r9);(iterate 4 rfl);first|rfl|assumption)|(with_reducible apply a0Z);(iterate 4 rfl);(first|rfl|assumption);rfl|(with_reducible apply n5);rfl;(first|rfl|assumption);rfl;rfl|(with_reducible apply k7);rfl;(first|rfl|assumption);rfl;rfl))|(with_reducible apply i7);rfl;rfl;rfl;refine ⟨_,fun wd hd=>hfn _,?_⟩));all_goals ((with_reducible apply o3);intro w' hS';clear hS;have hS:=hS';clear hS')))
   repeat' (first|(with_reducible apply a4 a0);rfl;rfl;rfl|refine yDn (by with_reducible constructor) ?_|(with_reducible apply b7);rfl;rfl)
   (refine i2 rfl ?_)
   exact ⟨by rw [s6 hlt (by rw [hk])];rfl,hS.sub (xg4 _)⟩
  ·have han:¬ars.length=0:=fun h=>ha (List.length_eq_zero_iff.1 h);have hda:decide ((0:Int) < (ars.length:Int))=true:=xg6 (by omega)
   repeat' (first|(with_reducible apply a4 a0);rfl;rfl;rfl|(with_reducible apply a5);rfl;(first|apply Ld.sl a0;rfl;exact hS.blkC 0 rfl rfl|apply Ld.st a0;rfl;exact hS.roR (by assumption) (by assumption);rfl);rfl|(with_reducible apply p8 a0);rfl;rfl;rfl;rfl;omega;rfl|refine yDn (by with_reducible constructor) ?_|(with_reducible apply l8 hS a0);rfl;rfl;rfl;clear hS;intro g w' hS|(with_reducible apply l9 hS a0 (i:=0));(iterate 8 rfl);exact (rfl:_=[_,_,_]);clear hS;intro w' hS;simp only [List.set] at hS|(with_reducible apply i5);rfl;all_goals (intro hb hp;try (exfalso;omega)))
   (focus ((with_reducible apply b9 _ _ _ (by kernel_rfl) (by kernel_rfl) hS);(repeat' (first|(first|(with_reducible apply j8 a0);rfl;rfl|(with_reducible apply l5);rfl;(intro wd hd;replace hd:St _ _ wd _:=hd;(first|apply Ld.sc a0;rfl;exact hd.blkC 0 rfl rfl|apply Ld.sl a0;rfl;(first|exact hd.blkC 0 rfl rfl|exact hd.blkC 1 rfl rfl)|apply Ld.st a0;rfl;exact hd.roR (by assumption) (by assumption);rfl));rfl|(with_reducible apply a0N a0);rfl;rfl;rfl;rfl;omega;rfl|(first|(with_reducible apply r9);(iterate 4 rfl);rfl|(with_reducible apply a0Z);(iterate 4 rfl);(first|rfl|assumption);rfl|(with_reducible apply n5);rfl;(first|rfl|assumption);rfl;rfl|(with_reducible apply k7);rfl;rfl;rfl;rfl))|(with_reducible apply i7);rfl;rfl;rfl;refine ⟨_,fun wd hd=>hfn _,?_⟩));all_goals ((with_reducible apply o3);intro w' hS';clear hS;have hS:=hS';clear hS')))
   repeat' (first|(with_reducible apply a4 a0);rfl;rfl;rfl|refine yDn (by with_reducible constructor) ?_|(with_reducible apply b7);rfl;rfl)
   (refine i2 rfl ?_)
   exact ⟨by rw [s6 hlt (by rw [hk])];rfl,hS.sub (xg4 _)⟩
 by_cases hc:b4 ars=0;rotate_left
 ·have hd:(!decide (b4 ars=0))=true:=by rw [xg8 hc];rfl
  have hlv:live=true:=by
   cases live with
   |true=>rfl
   |false=>
    obtain ⟨h1,h2⟩:ars=[]/\pgs=[]:=by
     by_cases h:ars=[]/\pgs=[]
     ·exact h
     ·exact absurd ⟨rfl,h⟩ hle
    rw [h1] at hc;exact absurd rfl hc
  subst hlv;have hkb:fsB ⟨true,ars,pgs⟩=false:=by unfold fsB;rw [xd6 rfl,xg8 hc,xl0]
  rw [hkb] at hk
  repeat' (first|(with_reducible apply a4 a0);rfl;rfl;rfl|(with_reducible apply a5);rfl;(first|apply Ld.sl a0;rfl;exact hS.blkC 0 rfl rfl|apply Ld.st a0;rfl;exact hS.roR (by assumption) (by assumption);rfl);rfl|(with_reducible apply p8 a0);rfl;rfl;rfl;rfl;omega;rfl|refine yDn (by with_reducible constructor) ?_|(with_reducible apply l8 hS a0);rfl;rfl;rfl;clear hS;intro g w' hS|(with_reducible apply l9 hS a0 (i:=0));(iterate 8 rfl);exact (rfl:_=[_,_,_]);clear hS;intro w' hS;simp only [List.set] at hS|(with_reducible apply i5);rfl;all_goals (intro hb hp;try (exfalso;omega)))
  (focus ((with_reducible apply b9 _ _ _ (by kernel_rfl) (by kernel_rfl) hS);(repeat' (first|(first|(with_reducible apply j8 a0);rfl;rfl|(with_reducible apply l5);rfl;(intro wd hd;replace hd:St _ _ wd _:=hd;(first|apply Ld.sc a0;rfl;exact hd.blkC 0 rfl rfl|apply Ld.sl a0;rfl;(first|exact hd.blkC 0 rfl rfl|exact hd.blkC 1 rfl rfl)|apply Ld.st a0;rfl;exact hd.roR (by assumption) (by assumption);rfl));rfl|(with_reducible apply a0N a0);rfl;rfl;rfl;rfl;omega;rfl|(first|(with_reducible apply r9);(iterate 4 rfl);rfl|(with_reducible apply a0Z);(iterate 4 rfl);(first|rfl|assumption);rfl|(with_reducible apply a0c);(iterate 5 rfl)|(with_reducible apply n5);rfl;assumption;rfl;rfl|(with_reducible apply k7);rfl;rfl;rfl;rfl))|(with_reducible apply i7);rfl;rfl;rfl;refine ⟨_,fun wd hd=>hfn _,?_⟩|(with_reducible apply i7);rfl;rfl;rfl;refine ⟨_,fun wd hd=>hck _ (har.now hd),?_⟩));all_goals ((with_reducible apply o3);intro w' hS';clear hS;have hS:=hS';clear hS')))
  repeat' (first|(with_reducible apply a4 a0);rfl;rfl;rfl|refine yDn (by with_reducible constructor) ?_|(with_reducible apply b7);rfl;rfl)
  (refine i2 rfl ?_)
  exact ⟨by rw [s6 hlt (by rw [hk])];rfl,hS.sub (xg4 _)⟩
 have hdc:(!decide (b4 ars=0))=false:=by rw [xg6 hc];rfl
 have hpa:=fun w1 h=>hpa0 w1 h hc;have hok:=t3 (m9.1 hc).2;by_cases hn:(pgs.length:Int)=o4 ars;rotate_left
 ·have hdn:(!decide ((pgs.length:Int)=o4 ars))=true:=by rw [xg8 hn];rfl
  have hlv:live=true:=by
   cases live with
   |true=>rfl
   |false=>
    obtain ⟨h1,h2⟩:ars=[]/\pgs=[]:=by
     by_cases h:ars=[]/\pgs=[]
     ·exact h
     ·exact absurd ⟨rfl,h⟩ hle
    rw [h1,h2] at hn;exact absurd rfl hn
  subst hlv;have hkb:fsB ⟨true,ars,pgs⟩=false:=by unfold fsB;rw [xd6 rfl];simp [hn]
  rw [hkb] at hk
  repeat' (first|(with_reducible apply a4 a0);rfl;rfl;rfl|(with_reducible apply a5);rfl;(first|apply Ld.sl a0;rfl;exact hS.blkC 0 rfl rfl|apply Ld.st a0;rfl;exact hS.roR (by assumption) (by assumption);rfl);rfl|(with_reducible apply p8 a0);rfl;rfl;rfl;rfl;omega;rfl|refine yDn (by with_reducible constructor) ?_|(with_reducible apply l8 hS a0);rfl;rfl;rfl;clear hS;intro g w' hS|(with_reducible apply l9 hS a0 (i:=0));(iterate 8 rfl);exact (rfl:_=[_,_,_]);clear hS;intro w' hS;simp only [List.set] at hS|(with_reducible apply i5);rfl;all_goals (intro hb hp;try (exfalso;omega)))
  (focus ((with_reducible apply b9 _ _ _ (by kernel_rfl) (by kernel_rfl) hS);(repeat' (first|(first|(with_reducible apply j8 a0);rfl;rfl|(with_reducible apply l5);rfl;(intro wd hd;replace hd:St _ _ wd _:=hd;(first|apply Ld.sc a0;rfl;exact hd.blkC 0 rfl rfl|apply Ld.sl a0;rfl;(first|exact hd.blkC 0 rfl rfl|exact hd.blkC 1 rfl rfl)|apply Ld.st a0;rfl;exact hd.roR (by assumption) (by assumption);rfl));rfl|(with_reducible apply a0N a0);rfl;rfl;rfl;rfl;omega;rfl|(first|((with_reducible apply r9);(iterate 4 rfl);first|rfl|assumption)|(with_reducible apply a0Z);(iterate 4 rfl);rfl;rfl|(with_reducible apply a0c);(iterate 5 rfl)|(with_reducible apply k7);rfl;(first|rfl|assumption);rfl;rfl))|(with_reducible apply i7);rfl;rfl;rfl;refine ⟨_,fun wd hd=>hfn _,?_⟩|(with_reducible apply i7);rfl;rfl;rfl;refine ⟨_,fun wd hd=>hck _ (har.now hd),?_⟩|(with_reducible apply i7);rfl;rfl;rfl;refine ⟨_,fun wd hd=>hpa _ (har.now hd),?_⟩));all_goals ((with_reducible apply o3);intro w' hS';clear hS;have hS:=hS';clear hS')))
  repeat' (first|(with_reducible apply a4 a0);rfl;rfl;rfl|refine yDn (by with_reducible constructor) ?_|(with_reducible apply b7);rfl;assumption)
  (refine i2 rfl ?_)
  exact ⟨by rw [s6 hlt (by rw [hk])];rfl,hS.sub (xg4 _)⟩
 have hdn:(!decide ((pgs.length:Int)=o4 ars))=false:=by rw [xg6 hn];rfl
 have hfs:fsB ⟨live,ars,pgs⟩=q9 ars pgs pgs.length:=by
  unfold fsB
  cases live with
  |true=>rw [xd6 rfl];simp [hc,hn]
  |false=>
   obtain ⟨h1,h2⟩:ars=[]/\pgs=[]:=by
    by_cases h:ars=[]/\pgs=[]
    ·exact h
    ·exact absurd ⟨rfl,h⟩ hle
   rw [xd7 (by simp)];dsimp only;rw [h1,h2];rfl
 have hpl:pgs.length<=65025:=by
  have:=a5i hok ars.length;rw [xe9] at this;have:=(m9.1 hc).1;omega
 have hgo:∀ {w1:World} {Γ1:List Asr},True:=fun {_ _}=>trivial;clear hgo;have hlive:(live=true)\/(live=false/\ars=[]/\pgs=[]):=by
  cases live with
  |true=>exact xc6 rfl
  |false=>
   refine xc3 ⟨rfl,?_⟩;by_cases h:ars=[]/\pgs=[]
   ·exact h
   ·exact absurd ⟨rfl,h⟩ hle
 repeat' (first|(with_reducible apply a4 a0);rfl;rfl;rfl|(with_reducible apply a5);rfl;(first|apply Ld.sl a0;rfl;exact hS.blkC 0 rfl rfl|apply Ld.st a0;rfl;exact hS.roR (by assumption) (by assumption);rfl);rfl|(with_reducible apply p8 a0);rfl;rfl;rfl;rfl;omega;rfl|refine yDn (by with_reducible constructor) ?_|(with_reducible apply l8 hS a0);rfl;rfl;rfl;clear hS;intro g w' hS|(with_reducible apply l9 hS a0 (i:=0));(iterate 8 rfl);exact (rfl:_=[_,_,_]);clear hS;intro w' hS;simp only [List.set] at hS|(with_reducible apply i5);rfl;all_goals (intro hb hp;try (exfalso;omega)))
 rename Nat=>g5
 replace hS:St nF w w' (.blk g5 [.bool live,.slice pa ars.length ca,.slice pp pgs.length cp]::_):=hS;refine a63 (F:=nF) (w0:=w) (X:=Unit) (fun _=>[(1,.pointer (some ⟨g1,0,none⟩)),(3,.int .i64 (z8 (sp.take i):Nat)),(4,.int .i64 (i:Nat)),(5,.pointer (some ⟨g5,0,none⟩)),(87,.bool (!decide ((pgs.length:Int)=o4 ars)))]) (fun _=>[.blk g5 [.bool live,.slice pa ars.length ca,.slice pp pgs.length cp],.blk g1 [.int .i64 slots,.slice (some ⟨b,off,none⟩) sp.length c1,.slice (some ⟨b',off',none⟩) pr.length c2,.slice p3 out.length c3]]) (fun _=>True) ?_ ?_
 ·rcases hlive with rfl|⟨rfl,rfl,rfl⟩
  ·repeat' (fail)
   (focus ((with_reducible apply b9 _ _ _ (by kernel_rfl) (by kernel_rfl) hS);(repeat' (first|(first|(with_reducible apply j8 a0);rfl;rfl|(with_reducible apply l5);rfl;(intro wd hd;replace hd:St _ _ wd _:=hd;(first|apply Ld.sc a0;rfl;exact hd.blkC 0 rfl rfl|apply Ld.sl a0;rfl;(first|exact hd.blkC 0 rfl rfl|exact hd.blkC 1 rfl rfl)|apply Ld.st a0;rfl;exact hd.roR (by assumption) (by assumption);rfl));rfl|(with_reducible apply a0N a0);rfl;rfl;rfl;rfl;omega;rfl|(first|((with_reducible apply r9);(iterate 4 rfl);first|rfl|assumption)|(with_reducible apply a0Z);(iterate 4 rfl);rfl;rfl|(with_reducible apply a0c);(iterate 5 rfl)|(with_reducible apply k7);rfl;(first|rfl|assumption);rfl;rfl))|(with_reducible apply i7);rfl;rfl;rfl;refine ⟨_,fun wd hd=>hfn _,?_⟩|(with_reducible apply i7);rfl;rfl;rfl;refine ⟨_,fun wd hd=>hck _ (har.now hd),?_⟩|(with_reducible apply i7);rfl;rfl;rfl;refine ⟨_,fun wd hd=>hpa _ (har.now hd),?_⟩));all_goals ((with_reducible apply o3);intro w' hS';clear hS;have hS:=hS';clear hS')))
   repeat' ((refine yDn (by with_reducible constructor) ?_))
   exact a3h () (by exact Fr.sub_of rfl) trivial hS
  ·repeat' (fail)
   (focus ((with_reducible apply b9 _ _ _ (by kernel_rfl) (by kernel_rfl) hS);(repeat' (first|(first|(with_reducible apply j8 a0);rfl;rfl|(with_reducible apply l5);rfl;(intro wd hd;replace hd:St _ _ wd _:=hd;(first|apply Ld.sc a0;rfl;exact hd.blkC 0 rfl rfl|apply Ld.sl a0;rfl;(first|exact hd.blkC 0 rfl rfl|exact hd.blkC 1 rfl rfl)|apply Ld.st a0;rfl;exact hd.roR (by assumption) (by assumption);rfl));rfl|(with_reducible apply a0N a0);rfl;rfl;rfl;rfl;omega;rfl|(first|(with_reducible apply r9);(iterate 4 rfl);rfl|(with_reducible apply n5);rfl;rfl;rfl;rfl|(with_reducible apply k7);rfl;rfl;rfl;rfl))|(with_reducible apply i7);rfl;rfl;rfl;refine ⟨_,fun wd hd=>hfn _,?_⟩|(with_reducible apply i7);rfl;rfl;rfl;refine ⟨_,fun wd hd=>hck _ (har.now hd),?_⟩|(with_reducible apply i7);rfl;rfl;rfl;refine ⟨_,fun wd hd=>hpa _ (har.now hd),?_⟩));all_goals ((with_reducible apply o3);intro w' hS';clear hS;have hS:=hS';clear hS')))
   repeat' ((refine yDn (by with_reducible constructor) ?_))
   exact a3h () (by exact Fr.sub_of rfl) trivial hS
 clear hS;rintro - w2 - hS
 repeat' (first|(with_reducible apply a4 a0);rfl;rfl;rfl|(with_reducible apply a5);rfl;(apply Ld.sl a0;rfl;exact hS.blkC 0 rfl rfl);rfl|(with_reducible apply a0q);rfl;rfl;omega;omega;rfl|refine yDn (by with_reducible constructor) ?_|(with_reducible apply j5);rfl;assumption)
 refine y8 (F:=nF) (w0:=w) (X:=Nat) (fun j=>[(6,.int .i64 (j:Nat))]) [1,3,4,5] rfl (fun _=>[]) (fun j=>j<=pgs.length/\q9 ars pgs j=true) (fun j=>pgs.length - j) 0 (by exact Fr.sub_of rfl) ⟨xe7 _,rfl⟩ hS ?_;clear hS;rintro j w3 ⟨hj,hpb⟩ hS;dsimp only [List.cons_append,List.nil_append] at hj hpb hS |-;by_cases hjl:j < pgs.length;rotate_left
 ·obtain rfl:j=pgs.length:=by omega
  repeat' (first|(with_reducible apply a4 a0);rfl;rfl;rfl|(with_reducible apply a5);rfl;(apply Ld.sl a0;rfl;exact hS.blkC 0 rfl rfl);rfl|(with_reducible apply a0q);rfl;rfl;omega;omega;rfl|refine yDn (by with_reducible constructor) ?_|(with_reducible apply i5);rfl;all_goals (intro hb hp;try (exfalso;omega)))
  refine o9 (i + 1) (by rw [hss];exact Fr.sub_of rfl) ⟨by omega,by rw [hst,hk,hfs,hpb],by rw [hss];omega⟩ hS.drop (by omega)
 obtain ⟨y,hy⟩:=n8 (l:=pgs) (i:=j) (by omega);have hrow3:=j3 (f:=fpC) hy;obtain ⟨b3,off3,rfl,hro3⟩:=hpg.at_ (i:=j) hjl;unfold fpC at hrow3;have haa:=fun w1 (h:Sl nF w1 4 (.slice pa ars.length ca) (ars.map arC))=>a5F y.page h hok;unfold a1W at haa;obtain ⟨a,hag⟩:∃ a,(l3 ars y.page).getD a3d=a:=⟨_,rfl⟩;obtain ⟨is,his⟩:∃ is,(l3 ars y.page).isSome=is:=⟨_,rfl⟩;rw [hag,his] at haa;unfold arC at haa;have hpst:=a1g (A:=ars) (l:=pgs) (n:=j);rw [hpb,xk8] at hpst;have bx:(y.data.length:Int)=16 ↔ y.data.length=16:=by omega
 repeat' (first|(with_reducible apply a4 a0);rfl;rfl;rfl|(with_reducible apply a5);rfl;(apply Ld.sl a0;rfl;exact hS.blkC 0 rfl rfl);rfl|refine yDn (by with_reducible constructor) ?_|(with_reducible apply i5);rfl;all_goals (intro hb hp;try (exfalso;omega)))
 refine a63 (F:=nF) (w0:=w) (X:=Unit) (fun _=>[(1,.pointer (some ⟨g1,0,none⟩)),(3,.int .i64 ((z8 (sp.take i):Nat) + (pgs.length:Nat))),(4,.int .i64 (i:Nat)),(5,.pointer (some ⟨g5,0,none⟩)),(6,.int .i64 (j:Nat)),(8,.bool is)]) (fun _=>[.blk g5 [.bool live,.slice pa ars.length ca,.slice (some ⟨b3,off3,none⟩) pgs.length cp],.blk g1 [.int .i64 slots,.slice (some ⟨b,off,none⟩) sp.length c1,.slice (some ⟨b',off',none⟩) pr.length c2,.slice p3 out.length c3]]) (fun _=>True) ?_ ?_
 ·refine a8Z 15 rfl hS (by kernel_rfl) ?_;intro wh hh;clear hS;have hS:=hh;clear hh
  ((with_reducible apply p7 (nn 0) a0);rfl;kernel_rfl;exact (fun _ _ _ h=>h);exact hS;rfl;rfl)
  ((with_reducible apply a2e (nn 1));rfl;kernel_rfl;exact (fun _ _ _ h=>h);exact hS;rfl;(intro wd hd;replace hd:St _ _ wd _:=hd;(apply Ld.sl a0;rfl;exact hd.blkC 0 rfl rfl));rfl)
  ((with_reducible apply p7 (nn 2) a0);rfl;kernel_rfl;exact (fun _ _ _ h=>h);exact hS;rfl;rfl)
  ((with_reducible apply a2e (nn 3));rfl;kernel_rfl;exact (fun _ _ _ h=>h);exact hS;rfl;(intro wd hd;replace hd:St _ _ wd _:=hd;(apply Ld.sl a0;rfl;exact hd.blkC 0 rfl rfl));rfl)
  ((with_reducible apply p7 (nn 4) a0);rfl;kernel_rfl;exact (fun _ _ _ h=>h);exact hS;rfl;rfl)
  ((with_reducible apply b1X (nn 5) a0);rfl;kernel_rfl;kernel_rfl;kernel_rfl;exact (fun _ _ _ _ h=>h);exact hS;rfl;rfl;rfl;rfl;omega;rfl)
  ((with_reducible apply p7 (nn 6) a0);rfl;kernel_rfl;exact (fun _ _ _ h=>h);exact hS;rfl;rfl)
  ((with_reducible apply a2e (nn 7));rfl;kernel_rfl;exact (fun _ _ _ h=>h);exact hS;rfl;(intro wd hd;replace hd:St _ _ wd _:=hd;(apply Ld.sc a0;rfl;exact hd.roC0 (by assumption) (by assumption) rfl));rfl)
  refine b0X (i:=8) (j:=12) (by kernel_rfl) ?_ ?_
  ·refine a3q rfl (a3x (first:=[]) (caps:=[]) rfl rfl (haa _ (har.now hS))) rfl ?_;rintro _ w' ⟨rfl,hS'⟩;replace hS:=hS.transA hS';simp only [a4I] at hS;clear hS';refine ⟨hS,?_⟩
   ((with_reducible apply p7 (nn 9) a0);rfl;kernel_rfl;exact (fun _ _ _ h=>h);exact hS;rfl;rfl)
   ((with_reducible apply p7 (nn 10) a0);rfl;kernel_rfl;exact (fun _ _ _ h=>h);exact hS;rfl;rfl)
   ((with_reducible apply p7 (nn 11) a0);rfl;kernel_rfl;exact (fun _ _ _ h=>h);exact hS;rfl;rfl)
   refine a5l (i:=12) (by kernel_rfl) ?_;refine a3q rfl (a1a hS a0 rfl rfl) rfl ?_;rintro _ w' ⟨g,rfl,hS'⟩;clear hS;have hS:=hS';clear hS';refine ⟨hS.drop,?_⟩;refine a5l (i:=13) (by kernel_rfl) ?_;refine a5x (Φ:=fun _ w'=>St _ _ w' _) rfl (a1Q hS a0 (i:=0) rfl rfl rfl rfl rfl (xe5 rfl) (xb7.1 rfl)) ?_;intro _ w' hS';simp only [List.set] at hS';clear hS;have hS:=hS';clear hS';refine ⟨hS.drop,?_⟩
   ((with_reducible apply p7 (nn 14) a0);rfl;kernel_rfl;exact (fun _ _ _ h=>h);exact hS.drop;rfl;rfl)
   refine a7S (by kernel_rfl) ?_;refine a3h () (by exact Fr.sub_of rfl) trivial hS.drop
  ·refine a3q rfl (a1a hS a0 rfl rfl) rfl ?_;rintro _ w' ⟨g,rfl,hS'⟩;clear hS;have hS:=hS';clear hS';refine ⟨hS.drop,?_⟩;refine a5l (i:=8) (by kernel_rfl) ?_;refine a3q rfl (a3x (first:=[]) (caps:=[]) rfl rfl (haa _ (har.now hS))) rfl ?_;rintro _ w' ⟨rfl,hS'⟩;replace hS:=hS.transA hS';simp only [a4I] at hS;clear hS';refine ⟨hS.drop,?_⟩
   ((with_reducible apply p7 (nn 9) a0);rfl;kernel_rfl;exact (fun _ _ _ h=>h);exact hS.drop;rfl;rfl)
   ((with_reducible apply p7 (nn 10) a0);rfl;kernel_rfl;exact (fun _ _ _ h=>h);exact hS.drop;rfl;rfl)
   ((with_reducible apply p7 (nn 11) a0);rfl;kernel_rfl;exact (fun _ _ _ h=>h);exact hS.drop;rfl;rfl)
   refine a5l (i:=13) (by kernel_rfl) ?_;refine a5x (Φ:=fun _ w'=>St _ _ w' _) rfl (a1Q hS a0 (i:=0) rfl rfl rfl rfl rfl (xe5 rfl) (xb7.1 rfl)) ?_;intro _ w' hS';simp only [List.set] at hS';clear hS;have hS:=hS';clear hS';refine ⟨hS.drop,?_⟩
   ((with_reducible apply p7 (nn 14) a0);rfl;kernel_rfl;exact (fun _ _ _ h=>h);exact hS.drop;rfl;rfl)
   refine a7S (by kernel_rfl) ?_;refine a3h () (by exact Fr.sub_of rfl) trivial hS.drop
 clear hS;rintro - w4 - hS
 cases is with
 |false=>
  have hbp:=o5 (A:=ars) (n:=pgs.length) hjl (by unfold l6;rw [hy];dsimp only;rw [his];rfl);have hbad:=s6 (g:=g0) hlt (by rw [hk,hfs,hbp])
  repeat' ((refine yDn (by with_reducible constructor) ?_))
  (focus ((with_reducible apply b9 _ _ _ (by kernel_rfl) (by kernel_rfl) hS);(repeat' ((first|(with_reducible apply j8 a0);rfl;rfl|(first|(with_reducible apply a0Z);(iterate 4 rfl);rfl;rfl|(with_reducible apply a0c);(iterate 5 rfl)|(with_reducible apply n5);rfl;rfl;rfl;rfl))));all_goals ((with_reducible apply o3);intro w' hS';clear hS;have hS:=hS';clear hS')))
  repeat' (first|(with_reducible apply a4 a0);rfl;rfl;rfl|refine yDn (by with_reducible constructor) ?_|(with_reducible apply b7);rfl;rfl)
  (refine i2 rfl ?_)
  exact ⟨by rw [hbad];rfl,hS.sub (xg4 _)⟩
 |true=>
 cases j with
 |zero=>
  have hd0:decide ((0:Int) < ((0:Nat):Int))=false:=rfl;by_cases hl:y.data.length=16;rotate_left
  ·have hdl:(!decide ((y.data.length:Int)=16))=true:=by rw [xg8 (fun h=>hl (bx.1 h))];rfl
   have hbp:=o5 (A:=ars) (n:=pgs.length) hjl (by unfold l6;rw [hy];dsimp only;rw [xg8 hl,xl0,xk9]);have hbad:=s6 (g:=g0) hlt (by rw [hk,hfs,hbp])
   repeat' ((refine yDn (by with_reducible constructor) ?_))
   (focus ((with_reducible apply b9 _ _ _ (by kernel_rfl) (by kernel_rfl) hS);(repeat' ((first|(with_reducible apply j8 a0);rfl;rfl|(with_reducible apply l5);rfl;(intro wd hd;replace hd:St _ _ wd _:=hd;(first|apply Ld.sc a0;rfl;exact hd.roC (by assumption) (by assumption) rfl|apply Ld.sl a0;rfl;exact hd.blkC 0 rfl rfl));rfl|(with_reducible apply a0N a0);rfl;rfl;rfl;rfl;omega;rfl|(first|(with_reducible apply r9);(iterate 4 rfl);rfl|(with_reducible apply a0Z);(iterate 4 rfl);rfl;rfl|(with_reducible apply k7);rfl;rfl;rfl;rfl))));all_goals ((with_reducible apply o3);intro w' hS';clear hS;have hS:=hS';clear hS')))
   repeat' (first|(with_reducible apply a4 a0);rfl;rfl;rfl|refine yDn (by with_reducible constructor) ?_|(with_reducible apply b7);rfl;assumption)
   (refine i2 rfl ?_)
   exact ⟨by rw [hbad];rfl,hS.sub (xg4 _)⟩
  have hdl:(!decide ((y.data.length:Int)=16))=false:=by rw [xg6 (bx.2 hl)];rfl
  have hok2:l6 ars pgs 0=true:=by
   unfold l6;rw [hy];dsimp only;rw [his,xg6 hl];rfl
  rw [hok2] at hpst
  repeat' ((refine yDn (by with_reducible constructor) ?_))
  (focus ((with_reducible apply b9 _ _ _ (by kernel_rfl) (by kernel_rfl) hS);(repeat' ((first|(with_reducible apply j8 a0);rfl;rfl|(with_reducible apply l5);rfl;(intro wd hd;replace hd:St _ _ wd _:=hd;(first|apply Ld.sc a0;rfl;exact hd.roC (by assumption) (by assumption) rfl|apply Ld.sl a0;rfl;exact hd.blkC 0 rfl rfl));rfl|(with_reducible apply a0N a0);rfl;rfl;rfl;rfl;omega;rfl|(first|(with_reducible apply r9);(iterate 4 rfl);rfl|(with_reducible apply a0Z);(iterate 4 rfl);rfl;rfl|(with_reducible apply k7);rfl;rfl;rfl;rfl))));all_goals ((with_reducible apply o3);intro w' hS';clear hS;have hS:=hS';clear hS')))
  repeat' (first|(with_reducible apply a4 a0);rfl;rfl;rfl|(with_reducible apply a0q);rfl;rfl;omega;omega;rfl|refine yDn (by with_reducible constructor) ?_|(with_reducible apply j5);rfl;assumption)
  exact o9 1 (by exact Fr.sub_of rfl) ⟨by omega,hpst⟩ hS (by omega)
 |succ j=>
  have hd0:decide ((0:Int) < ((j + 1:Nat):Int))=true:=xg6 (by omega);obtain ⟨q,hq⟩:=n8 (l:=pgs) (i:=j) (by omega);have hjj:(((j + 1:Nat):Int) - 1).toNat=j:=by omega
  have hrowq:(pgs.map fpC)[(((j + 1:Nat):Int) - 1).toNat]?=some [.int .i64 q.page,.string ⟨q.data.toArray⟩]:=by rw [hjj];exact j3 (f:=fpC) hq
  by_cases hr:y.page<=q.page
  ·have hdr:decide (y.page<=q.page)=true:=xg6 hr;have hbp:=o5 (A:=ars) (n:=pgs.length) hjl (by unfold l6;rw [hy];dsimp only;rw [hq];dsimp only;rw [xg8 (show ¬q.page < y.page by omega),xk9,xk9]);have hbad:=s6 (g:=g0) hlt (by rw [hk,hfs,hbp])
   repeat' ((refine yDn (by with_reducible constructor) ?_))
   (focus ((with_reducible apply b9 _ _ _ (by kernel_rfl) (by kernel_rfl) hS);(repeat' ((first|(with_reducible apply a3B);rfl;rfl;omega;omega;rfl|(with_reducible apply j8 a0);rfl;rfl|(with_reducible apply l5);rfl;(intro wd hd;replace hd:St _ _ wd _:=hd;(first|apply Ld.sc a0;rfl;exact hd.roC0 (by assumption) (by assumption) rfl|apply Ld.sl a0;rfl;exact hd.blkC 0 rfl rfl));rfl|(with_reducible apply a0N a0);rfl;rfl;rfl;(first|rfl|exact xk1 (by omega));omega;rfl|(first|((with_reducible apply r9);(iterate 4 rfl);first|rfl|assumption)|(with_reducible apply a0Z);(iterate 4 rfl);assumption;rfl|(with_reducible apply n5);rfl;assumption;rfl;rfl|(with_reducible apply k7);rfl;rfl;rfl;rfl))));all_goals ((with_reducible apply o3);intro w' hS';clear hS;have hS:=hS';clear hS')))
   repeat' (first|(with_reducible apply a4 a0);rfl;rfl;rfl|refine yDn (by with_reducible constructor) ?_|(with_reducible apply b7);rfl;rfl)
   (refine i2 rfl ?_)
   exact ⟨by rw [hbad];rfl,hS.sub (xg4 _)⟩
  ·have hdr:decide (y.page<=q.page)=false:=xg8 hr;by_cases hl:y.data.length=16;rotate_left
   ·have hdl:(!decide ((y.data.length:Int)=16))=true:=by rw [xg8 (fun h=>hl (bx.1 h))];rfl
    have hbp:=o5 (A:=ars) (n:=pgs.length) hjl (by unfold l6;rw [hy];dsimp only;rw [xg8 hl,xl0,xk9]);have hbad:=s6 (g:=g0) hlt (by rw [hk,hfs,hbp])
    repeat' ((refine yDn (by with_reducible constructor) ?_))
    (focus ((with_reducible apply b9 _ _ _ (by kernel_rfl) (by kernel_rfl) hS);(repeat' ((first|(with_reducible apply a3B);rfl;rfl;omega;omega;rfl|(with_reducible apply j8 a0);rfl;rfl|(with_reducible apply l5);rfl;(intro wd hd;replace hd:St _ _ wd _:=hd;(first|apply Ld.sc a0;rfl;(first|exact hd.roC0 (by assumption) (by assumption) rfl|exact hd.roC (by assumption) (by assumption) rfl)|apply Ld.sl a0;rfl;exact hd.blkC 0 rfl rfl));rfl|(with_reducible apply a0N a0);rfl;rfl;rfl;(first|rfl|exact xk1 (by omega));omega;rfl|(first|((with_reducible apply r9);(iterate 4 rfl);first|rfl|assumption)|(with_reducible apply n5);rfl;assumption;rfl;rfl|(with_reducible apply k7);rfl;(first|rfl|assumption);rfl;rfl))));all_goals ((with_reducible apply o3);intro w' hS';clear hS;have hS:=hS';clear hS')))
    repeat' (first|(with_reducible apply a4 a0);rfl;rfl;rfl|refine yDn (by with_reducible constructor) ?_|(with_reducible apply b7);rfl;assumption)
    (refine i2 rfl ?_)
    exact ⟨by rw [hbad];rfl,hS.sub (xg4 _)⟩
   have hdl:(!decide ((y.data.length:Int)=16))=false:=by rw [xg6 (bx.2 hl)];rfl
   have hok2:l6 ars pgs (j + 1)=true:=by
    unfold l6;rw [hy];dsimp only;rw [hq];dsimp only;rw [his,xg6 hl,xg6 (show q.page < y.page by omega)];rfl
   rw [hok2] at hpst
   repeat' ((refine yDn (by with_reducible constructor) ?_))
   (focus ((with_reducible apply b9 _ _ _ (by kernel_rfl) (by kernel_rfl) hS);(repeat' ((first|(with_reducible apply a3B);rfl;rfl;omega;omega;rfl|(with_reducible apply j8 a0);rfl;rfl|(with_reducible apply l5);rfl;(intro wd hd;replace hd:St _ _ wd _:=hd;(first|apply Ld.sc a0;rfl;(first|exact hd.roC0 (by assumption) (by assumption) rfl|exact hd.roC (by assumption) (by assumption) rfl)|apply Ld.sl a0;rfl;exact hd.blkC 0 rfl rfl));rfl|(with_reducible apply a0N a0);rfl;rfl;rfl;(first|rfl|exact xk1 (by omega));omega;rfl|(first|((with_reducible apply r9);(iterate 4 rfl);first|rfl|assumption)|(with_reducible apply n5);rfl;assumption;rfl;rfl|(with_reducible apply k7);rfl;(first|rfl|assumption);rfl;rfl))));all_goals ((with_reducible apply o3);intro w' hS';clear hS;have hS:=hS';clear hS')))
   repeat' (first|(with_reducible apply a4 a0);rfl;rfl;rfl|(with_reducible apply a0q);rfl;rfl;omega;omega;rfl|refine yDn (by with_reducible constructor) ?_|(with_reducible apply j5);rfl;assumption)
   exact o9 (j + 1 + 1) (by exact Fr.sub_of rfl) ⟨by omega,hpst⟩ hS (by omega)
structure Flt where
 slots:Int
 sp:List Fs
 pr:List Pc
 out:List Wd
def FlV.F (f:FlV):Flt:=⟨f.slots,f.sp.map (·.1),f.pr,f.out⟩
def faA (x:Fs×Value×Value):Asr:=.row 119 4 x.2.1 (x.1.areas.map arC)
def fpA (x:Fs×Value×Value):Asr:=.row 83 2 x.2.2 (x.1.pages.map fpC)
def fsA (l:List (Fs×Value×Value)):List Asr:=l.flatMap fun x=>[faA x,fpA x]
def fA (f:FlV):List Asr:=.row 60 3 f.vsp (f.sp.map fsC)::.row 78 13 f.vpr (f.pr.map prC)::.row 73 2 f.vout (f.out.map wdC)::fsA f.sp
theorem FlOk.mem {F:Nat->Prop} {w0 w:World} {Γ:List Asr} {f:FlV} (hS:St F w0 w Γ) (hm:∀ A ∈ fA f,A ∈ Γ):FlOk w f:=by
 have hr:∀ {x A},x ∈ f.sp->A ∈ [faA x,fpA x]->A ∈ Γ:=fun {x A} hx hA=>hm _ (xb5 _ (xb5 _ (xb5 _ (List.mem_flatMap.2 ⟨x,hx,hA⟩))));refine ⟨hS.slMem (e:=60) (hm _ xb4),fun x hx=>?_,fun x hx=>?_,hS.slMem (e:=78) (hm _ (xb5 _ xb4)),hS.slMem (e:=73) (hm _ (xb5 _ (xb5 _ xb4)))⟩
 ·exact hS.slMem (e:=119) (hr hx xb4)
 ·exact hS.slMem (e:=83) (hr hx (xb5 _ xb4))
end Go.Proofs.YtejnpppejalhfadGreat
