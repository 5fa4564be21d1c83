/- Texts that the proof stands on, one behind the other: Lk1, Lk2, Lk3, Ke1, PlLnk3, Lk4, Lk5, PlLnk4, Lk6, PlLnk5, PlFix, PlLay, PlLink, Lk8, Lk7, Lk9, Lk10, Lk11, Im2, Im3, Im4, Sc13, Im5, Im6, Im7, Im8, Lk12, Lk14, Lk15, Im9, Im10, Lk16, PlOf, PlRd, Im21, Lk17. -/
import Derived.Test.YtejnpppejalhfacGreatPFlatStarts4
set_option linter.unusedVariables false
set_option linter.unusedSimpArgs false
namespace Go.Proofs.YtejnpppejalhfacGreat
set_option maxRecDepth 100000
set_option maxHeartbeats 8000000
open Go.RowKit Go.Sort
abbrev shA (s:Sh) (u:Value):Value:=.agg (shC s u).toArray
theorem a5k {S:Sh} {w:World} {u:Value} (hu:ShV w S u):Fn Tryz.prog 148 [shA S u] w (RBf (.bool (j7 S)) w):=by
 have bnd:=hu.bound;obtain ⟨p,c,rfl⟩:=hu.len;refine yEn Tryz.func148 Tryz.ntmps148 (by kernel_rfl) (by kernel_rfl) rfl rfl ?_;have hS:=St.start w;unfold shA shC;by_cases h0:(1<=S.page/\S.page<=255)/\S.data.length=16;rotate_left
 ·have hf:j7 S=false:=by unfold j7;rw [xh9 h0];rfl
  rw [hf]
  repeat' (first|(with_reducible apply a5 a4);rfl;rfl;rfl|(with_reducible apply a6);rfl;(apply Ld.sc a4;rfl;exact hS.blkC 0 rfl rfl);rfl|refine yDn (by with_reducible constructor) ?_|(with_reducible apply e9);(iterate 4 rfl);assumption|(with_reducible apply o4);(iterate 4 rfl);(first|rfl|assumption);rfl|(with_reducible apply d9);rfl;(first|rfl|assumption);rfl;rfl|(with_reducible apply a7);rfl;assumption;rfl;rfl|(with_reducible apply a9);rfl;rfl|(with_reducible apply d8 hS);rfl;rfl;rfl;clear hS;intro g w' hS|(with_reducible apply w5);rfl;rfl;rfl;all_goals (intro hb hp;try (exfalso;omega))|(with_reducible apply a2o);rfl;all_goals (intro hb hp;try (exfalso;omega)))
  all_goals (refine d4 rfl ?_;exact ⟨rfl,hS.sub (xh8 _)⟩)
 have hr:j7 S=a1n 0 S.fixes:=by unfold j7;rw [xh7 h0];rfl
 rw [hr]
 repeat' (first|(with_reducible apply a5 a4);rfl;rfl;rfl|(with_reducible apply a6);rfl;(first|apply Ld.sc a4;rfl;exact hS.blkC 0 rfl rfl|apply Ld.sl a4;rfl;exact hS.blkC 0 rfl rfl);rfl|refine yDn (by with_reducible constructor) ?_|(with_reducible apply e9);(iterate 4 rfl);assumption|(with_reducible apply a7);rfl;assumption;rfl;rfl|(with_reducible apply d8 hS);rfl;rfl;rfl;clear hS;intro g w' hS|(with_reducible apply w5);rfl;rfl;rfl;all_goals (intro hb hp;try (exfalso;omega))|(with_reducible apply a2o);rfl;all_goals (intro hb hp;try (exfalso;omega)))
 refine o6 (X:=Nat×Int) (fun x=>[(23,.int .i64 (x.1:Nat)),(3,.int .i64 x.2)]) [1,21,22] rfl (fun _=>[]) (fun x=>(x.1<=S.fixes.length/\0<=x.2/\x.2<=16)/\a1n 0 S.fixes=a1n x.2 (S.fixes.drop x.1)) (fun x=>S.fixes.length - x.1) (0,0) (by exact Fr.sub_of rfl) (by simp) hS ?_;clear hS;rintro ⟨i,free⟩ w1 ⟨⟨hi,hf0,hf1⟩,hok⟩ hS;dsimp only [List.cons_append,List.nil_append] at hi hf0 hf1 hok hS |-;by_cases hlt:i < S.fixes.length
 ·obtain ⟨x,hx⟩:=l9 (l:=S.fixes) (i:=i) (by omega);have hrow:=i7 (f:=fxC) hx;obtain ⟨b,off,rfl,hro⟩:=hu.at_ (i:=i) hlt;have hst:=a3R (free:=free) hx;by_cases h1:free<=x.off/\x.off<=16/\x.bytes≠[]/\(x.bytes.length:Int)<=16 - x.off
  ·have ho:a1X free x=true:=xh7 h1;have hb0:decide (x.bytes=[])=false:=xh9 h1.2.2.1;rw [ho,xl0] at hst
   repeat' (first|(with_reducible apply a5 a4);rfl;rfl;rfl|(with_reducible apply a6);rfl;(first|apply Ld.sc a4;rfl;exact hS.blkC 0 rfl rfl|apply Ld.st a4;rfl;exact hS.roR (by assumption) (by assumption);rfl);rfl|(with_reducible apply t3 a4);rfl;rfl;rfl;rfl;omega;rfl|(with_reducible apply o9);rfl;rfl;omega;omega;rfl|(with_reducible apply a3L);rfl;rfl;omega;omega;rfl|refine yDn (by with_reducible constructor) ?_|(with_reducible apply e9);(iterate 4 rfl);assumption|(with_reducible apply a7);rfl;assumption;rfl;rfl|(with_reducible apply b8 hS a4);rfl;rfl;rfl;clear hS;intro g w' hS|(with_reducible apply b7 hS a4 (i:=0));(iterate 8 rfl);exact (rfl:_=[_,_]);clear hS;intro w' hS;simp only [List.set] at hS|(with_reducible apply w5);rfl;rfl;rfl;all_goals (intro hb hp;try (exfalso;omega))|(with_reducible apply b6);rfl;all_goals (intro hb hp;try (exfalso;omega)))
   refine m8 (i + 1,a0b x) (by exact Fr.sub_of rfl) ⟨⟨by show i + 1<=S.fixes.length;omega,by show 0<=a0b x;unfold a0b;omega,by show a0b x<=16;unfold a0b;omega⟩,by rw [hok,hst]⟩ hS.drop (by show S.fixes.length - (i + 1) < S.fixes.length - i;omega)
  ·have ho:a1X free x=false:=xh9 h1;rw [ho,xl1] at hst;by_cases hb1:x.bytes=[]
   ·have hb0:decide (x.bytes=[])=true:=xh7 hb1
    repeat' (first|(with_reducible apply a5 a4);rfl;rfl;rfl|(with_reducible apply a6);rfl;(first|apply Ld.sc a4;rfl;exact hS.blkC 0 rfl rfl|apply Ld.st a4;rfl;exact hS.roR (by assumption) (by assumption);rfl);rfl|(with_reducible apply t3 a4);rfl;rfl;rfl;rfl;omega;rfl|refine yDn (by with_reducible constructor) ?_|(with_reducible apply e9);(iterate 4 rfl);assumption|(with_reducible apply o4);(iterate 4 rfl);(first|rfl|assumption);rfl|(with_reducible apply d9);rfl;(first|rfl|assumption);rfl;rfl|(with_reducible apply a7);rfl;assumption;rfl;rfl|(with_reducible apply a9);rfl;rfl|(with_reducible apply b8 hS a4);rfl;rfl;rfl;clear hS;intro g w' hS|(with_reducible apply b7 hS a4 (i:=0));(iterate 8 rfl);exact (rfl:_=[_,_]);clear hS;intro w' hS;simp only [List.set] at hS|(with_reducible apply w5);rfl;rfl;rfl;all_goals (intro hb hp;try (exfalso;omega))|(with_reducible apply b6);rfl;all_goals (intro hb hp;try (exfalso;omega)))
    all_goals (refine d4 rfl ?_;exact ⟨by rw [hok,hst],hS.sub (xh8 _)⟩)
   ·have hb0:decide (x.bytes=[])=false:=xh9 hb1
    repeat' (first|(with_reducible apply a5 a4);rfl;rfl;rfl|(with_reducible apply a6);rfl;(first|apply Ld.sc a4;rfl;exact hS.blkC 0 rfl rfl|apply Ld.st a4;rfl;exact hS.roR (by assumption) (by assumption);rfl);rfl|(with_reducible apply t3 a4);rfl;rfl;rfl;rfl;omega;rfl|(with_reducible apply o9);rfl;rfl;omega;omega;rfl|(with_reducible apply a3L);rfl;rfl;omega;omega;rfl|refine yDn (by with_reducible constructor) ?_|(with_reducible apply e9);(iterate 4 rfl);assumption|(with_reducible apply o4);(iterate 4 rfl);(first|rfl|assumption);rfl|(with_reducible apply d9);rfl;(first|rfl|assumption);rfl;rfl|(with_reducible apply a7);rfl;assumption;rfl;rfl|(with_reducible apply a9);rfl;rfl|(with_reducible apply b8 hS a4);rfl;rfl;rfl;clear hS;intro g w' hS|(with_reducible apply b7 hS a4 (i:=0));(iterate 8 rfl);exact (rfl:_=[_,_]);clear hS;intro w' hS;simp only [List.set] at hS|(with_reducible apply w5);rfl;rfl;rfl;all_goals (intro hb hp;try (exfalso;omega))|(with_reducible apply b6);rfl;all_goals (intro hb hp;try (exfalso;omega)))
    all_goals first|(refine d4 rfl ?_;exact ⟨by rw [hok,hst],hS.sub (xh8 _)⟩)|(exfalso;exact h1 ⟨by omega,by omega,hb1,by omega⟩)
 ·repeat' (first|(with_reducible apply a5 a4);rfl;rfl;rfl|refine yDn (by with_reducible constructor) ?_|(with_reducible apply b6);rfl;all_goals (intro hb hp;try (exfalso;omega)))
  (refine d4 rfl ?_)
  exact ⟨by rw [hok,xk6 (by omega)];rfl,hS.sub (xh8 _)⟩
theorem a4w {S:Sh} {w:World} {u:Value} (hu:ShV w S u):Fn Tryz.prog 172 [shA S u] w (RBf (.bool (j7 S)) w):=by
 have bnd:=hu.bound;obtain ⟨p,c,rfl⟩:=hu.len;refine yEn Tryz.func172 Tryz.ntmps172 (by kernel_rfl) (by kernel_rfl) rfl rfl ?_;have hS:=St.start w;unfold shA shC;by_cases h0:(1<=S.page/\S.page<=255)/\S.data.length=16;rotate_left
 ·have hf:j7 S=false:=by unfold j7;rw [xh9 h0];rfl
  rw [hf];by_cases hp0:1<=S.page/\S.page<=255
  ·have hp1:(!decide (1<=S.page/\S.page<=255))=false:=by simpa using hp0
   repeat' (first|(with_reducible apply a5 a4);rfl;rfl;rfl|(with_reducible apply a6);rfl;(apply Ld.sc a4;rfl;exact hS.blkC 0 rfl rfl);rfl|refine yDn (by with_reducible constructor) ?_|(with_reducible apply e9);(iterate 4 rfl);assumption|(with_reducible apply o4);(iterate 4 rfl);assumption;rfl|(with_reducible apply d9);rfl;assumption;rfl;rfl|(with_reducible apply a7);rfl;assumption;rfl;rfl|(with_reducible apply a9);rfl;rfl|(with_reducible apply d8 hS);rfl;rfl;rfl;clear hS;intro g w' hS|(with_reducible apply r9);rfl;rfl;rfl;all_goals (intro hb hp;try (exfalso;omega))|(with_reducible apply b5 hS);rfl;rfl;rfl;refine ⟨_,d7 _ _ _ _,?_⟩;clear hS;intro w' hS)
   all_goals (refine d4 rfl ?_;exact ⟨rfl,hS.sub (xh8 _)⟩)
  ·have hp1:(!decide (1<=S.page/\S.page<=255))=true:=by rw [xh9 hp0];rfl
   repeat' (first|(with_reducible apply a5 a4);rfl;rfl;rfl|(with_reducible apply a6);rfl;(apply Ld.sc a4;rfl;exact hS.blkC 0 rfl rfl);rfl|refine yDn (by with_reducible constructor) ?_|(with_reducible apply o4);(iterate 4 rfl);(first|rfl|assumption);rfl|(with_reducible apply d9);rfl;(first|rfl|assumption);rfl;rfl|(with_reducible apply a9);rfl;rfl|(with_reducible apply d8 hS);rfl;rfl;rfl;clear hS;intro g w' hS|(with_reducible apply b5 hS);rfl;rfl;rfl;refine ⟨_,d7 _ _ _ _,?_⟩;clear hS;intro w' hS)
   (refine d4 rfl ?_)
   exact ⟨rfl,hS.sub (xh8 _)⟩
 have hp1:(!decide (1<=S.page/\S.page<=255))=false:=by simpa using h0.1
 by_cases h16:S.fixes.length<=16;rotate_left
 ·have hf:j7 S=false:=by
   cases hr:j7 S with
   |false=>rfl
   |true=>have:=a22 hr;omega
  rw [hf]
  repeat' (first|(with_reducible apply a5 a4);rfl;rfl;rfl|(with_reducible apply a6);rfl;(first|apply Ld.sc a4;rfl;exact hS.blkC 0 rfl rfl|apply Ld.sl a4;rfl;exact hS.blkC 0 rfl rfl);rfl|refine yDn (by with_reducible constructor) ?_|(with_reducible apply e9);(iterate 4 rfl);assumption|(with_reducible apply a7);rfl;assumption;rfl;rfl|(with_reducible apply d8 hS);rfl;rfl;rfl;clear hS;intro g w' hS|(with_reducible apply r9);rfl;rfl;rfl;all_goals (intro hb hp;try (exfalso;omega))|(with_reducible apply b6);rfl;all_goals (intro hb hp;try (exfalso;omega))|(with_reducible apply b5 hS);rfl;rfl;rfl;refine ⟨_,d7 _ _ _ _,?_⟩;clear hS;intro w' hS)
  all_goals (refine d4 rfl ?_;exact ⟨rfl,hS.sub (xh8 _)⟩)
 have hr:j7 S=a1n 0 S.fixes:=by unfold j7;rw [xh7 h0];rfl
 rw [hr]
 repeat' (first|(with_reducible apply a5 a4);rfl;rfl;rfl|(with_reducible apply a6);rfl;(first|apply Ld.sc a4;rfl;exact hS.blkC 0 rfl rfl|apply Ld.sl a4;rfl;exact hS.blkC 0 rfl rfl);rfl|refine yDn (by with_reducible constructor) ?_|(with_reducible apply e9);(iterate 4 rfl);assumption|(with_reducible apply a7);rfl;assumption;rfl;rfl|(with_reducible apply d8 hS);rfl;rfl;rfl;clear hS;intro g w' hS|(with_reducible apply r9);rfl;rfl;rfl;all_goals (intro hb hp;try (exfalso;omega))|(with_reducible apply b6);rfl;all_goals (intro hb hp;try (exfalso;omega))|(with_reducible apply b5 hS);rfl;rfl;rfl;refine ⟨_,d7 _ _ _ _,?_⟩;clear hS;intro w' hS)
 refine o6 (X:=Nat×Int) (fun x=>[(4,.int .i64 (x.1:Nat)),(3,.int .i64 x.2)]) [1] rfl (fun _=>[]) (fun x=>(x.1<=S.fixes.length/\0<=x.2/\x.2<=16)/\a1n 0 S.fixes=a1n x.2 (S.fixes.drop x.1)) (fun x=>S.fixes.length - x.1) (0,0) (by exact Fr.sub_of rfl) (by simp) hS ?_;clear hS;rintro ⟨i,free⟩ w1 ⟨⟨hi,hf0,hf1⟩,hok⟩ hS;dsimp only [List.cons_append,List.nil_append] at hi hf0 hf1 hok hS |-;by_cases hlt:i < S.fixes.length
 ·obtain ⟨x,hx⟩:=l9 (l:=S.fixes) (i:=i) (by omega);have hrow:=i7 (f:=fxC) hx;obtain ⟨b,off,rfl,hro⟩:=hu.at_ (i:=i) hlt;have hst:=a3R (free:=free) hx;by_cases h1:free<=x.off/\x.off<=16
  ·have k1:(!decide (free<=x.off/\x.off<=16))=false:=by simpa using h1
   by_cases h2:1<=(x.bytes.length:Int)/\(x.bytes.length:Int)<=16 - x.off
   ·have k2:(!decide (1<=(x.bytes.length:Int)/\(x.bytes.length:Int)<=16 - x.off))=false:=by simpa using h2
    have ho:a1X free x=true:=xh7 ⟨h1.1,h1.2,xa3.1 (by omega),h2.2⟩;rw [ho,xl0] at hst
    repeat' (first|(with_reducible apply a5 a4);rfl;rfl;rfl|(with_reducible apply a6);rfl;(first|apply Ld.sc a4;rfl;exact hS.blkC 0 rfl rfl|apply Ld.sl a4;rfl;exact hS.blkC 0 rfl rfl|apply Ld.st a4;rfl;exact hS.roR (by assumption) (by assumption);rfl);rfl|(with_reducible apply t3 a4);rfl;rfl;rfl;rfl;omega;rfl|(with_reducible apply o9);rfl;rfl;omega;omega;rfl|(with_reducible apply a3L);rfl;rfl;omega;omega;rfl|refine yDn (by with_reducible constructor) ?_|(with_reducible apply e9);(iterate 4 rfl);assumption|(with_reducible apply a7);rfl;assumption;rfl;rfl|(with_reducible apply f8);rfl;assumption|(with_reducible apply b8 hS a4);rfl;rfl;rfl;clear hS;intro g w' hS|(with_reducible apply b7 hS a4 (i:=0));(iterate 8 rfl);exact (rfl:_=[_,_]);clear hS;intro w' hS;simp only [List.set] at hS|(with_reducible apply b6);rfl;all_goals (intro hb hp;try (exfalso;omega))|(with_reducible apply b5 hS);rfl;rfl;rfl;refine ⟨_,d7 _ _ _ _,?_⟩;clear hS;intro w' hS)
    refine m8 (i + 1,a0b x) (by exact Fr.sub_of rfl) ⟨⟨by show i + 1<=S.fixes.length;omega,by show 0<=a0b x;unfold a0b;omega,by show a0b x<=16;unfold a0b;omega⟩,by rw [hok,hst]⟩ hS.drop (by show S.fixes.length - (i + 1) < S.fixes.length - i;omega)
   ·have k2:(!decide (1<=(x.bytes.length:Int)/\(x.bytes.length:Int)<=16 - x.off))=true:=by rw [xh9 h2];rfl
    have ho:a1X free x=false:=xh9 (fun h=>h2 ⟨by have:=xa3.2 h.2.2.1;omega,h.2.2.2⟩);rw [ho,xl1] at hst
    repeat' (first|(with_reducible apply a5 a4);rfl;rfl;rfl|(with_reducible apply a6);rfl;(first|apply Ld.sc a4;rfl;exact hS.blkC 0 rfl rfl|apply Ld.sl a4;rfl;exact hS.blkC 0 rfl rfl|apply Ld.st a4;rfl;exact hS.roR (by assumption) (by assumption);rfl);rfl|(with_reducible apply t3 a4);rfl;rfl;rfl;rfl;omega;rfl|(with_reducible apply a3L);rfl;rfl;omega;omega;rfl|refine yDn (by with_reducible constructor) ?_|(with_reducible apply e9);(iterate 4 rfl);assumption|(with_reducible apply a7);rfl;assumption;rfl;rfl|(with_reducible apply a9);rfl;assumption|(with_reducible apply b8 hS a4);rfl;rfl;rfl;clear hS;intro g w' hS|(with_reducible apply b7 hS a4 (i:=0));(iterate 8 rfl);exact (rfl:_=[_,_]);clear hS;intro w' hS;simp only [List.set] at hS|(with_reducible apply b6);rfl;all_goals (intro hb hp;try (exfalso;omega))|(with_reducible apply b5 hS);rfl;rfl;rfl;refine ⟨_,d7 _ _ _ _,?_⟩;clear hS;intro w' hS)
    (refine d4 rfl ?_)
    exact ⟨by rw [hok,hst],hS.sub (xh8 _)⟩
  ·have k1:(!decide (free<=x.off/\x.off<=16))=true:=by rw [xh9 h1];rfl
   have ho:a1X free x=false:=xh9 (fun h=>h1 ⟨h.1,h.2.1⟩);rw [ho,xl1] at hst
   repeat' (first|(with_reducible apply a5 a4);rfl;rfl;rfl|(with_reducible apply a6);rfl;(first|apply Ld.sc a4;rfl;exact hS.blkC 0 rfl rfl|apply Ld.sl a4;rfl;exact hS.blkC 0 rfl rfl|apply Ld.st a4;rfl;exact hS.roR (by assumption) (by assumption);rfl);rfl|(with_reducible apply t3 a4);rfl;rfl;rfl;rfl;omega;rfl|refine yDn (by with_reducible constructor) ?_|(with_reducible apply o4);(iterate 4 rfl);assumption;rfl|(with_reducible apply d9);rfl;assumption;rfl;rfl|(with_reducible apply a9);rfl;rfl|(with_reducible apply b8 hS a4);rfl;rfl;rfl;clear hS;intro g w' hS|(with_reducible apply b7 hS a4 (i:=0));(iterate 8 rfl);exact (rfl:_=[_,_]);clear hS;intro w' hS;simp only [List.set] at hS|(with_reducible apply b6);rfl;all_goals (intro hb hp;try (exfalso;omega))|(with_reducible apply b5 hS);rfl;rfl;rfl;refine ⟨_,d7 _ _ _ _,?_⟩;clear hS;intro w' hS)
   (refine d4 rfl ?_)
   exact ⟨by rw [hok,hst],hS.sub (xh8 _)⟩
 ·repeat' (first|(with_reducible apply a5 a4);rfl;rfl;rfl|(with_reducible apply a6);rfl;(apply Ld.sl a4;rfl;exact hS.blkC 0 rfl rfl);rfl|refine yDn (by with_reducible constructor) ?_|(with_reducible apply b6);rfl;all_goals (intro hb hp;try (exfalso;omega)))
  (refine d4 rfl ?_)
  exact ⟨by rw [hok,xk6 (by omega)];rfl,hS.sub (xh8 _)⟩
theorem a18 {l:List Fx} {i:Nat} {f:Fx} {d:List UInt8} (h:l[i]?=some f):a0X d (l.take (i + 1))=splice (a0X d (l.take i)) f.off.toNat f.bytes:=by
 unfold a0X;rw [xj4,h];simp [List.foldl_append]
theorem a4a {l:List Fx}:∀ {free:Int},a1n free l=true->0<=free->∀ {i:Nat} {f:Fx},l[i]?=some f->(0<=f.off/\f.off<=16)/\(f.bytes.length:Int)<=16 - f.off:=by
 induction l with
 |nil=>intro free _ _ i f h;simp at h
 |cons g r ih=>
  intro free h h0 i f hf;simp only [a1n,a1X,xb7,xh5] at h;obtain ⟨⟨h1,h2,h3,h4⟩,h5⟩:=h
  cases i with
  |zero=>simp at hf;subst hf;exact ⟨⟨by omega,h2⟩,h4⟩
  |succ i=>exact ih h5 (by unfold a0b;omega) (by simpa using hf)
theorem a30 {l:List Fx} {d:List UInt8} {free:Int} (h:a1n free l=true) (h0:0<=free) (hd:d.length=16):∀ i,i<=l.length->(a0X d (l.take i)).length=16:=by
 intro i
 induction i with
 |zero=>intro _;simpa [a0X] using hd
 |succ i ih=>
  intro hi;have hx:l[i]?=some l[i]:=xd1 (by omega);have:=ih (by omega);obtain ⟨⟨h1,h2⟩,h3⟩:=a4a h h0 hx;rw [a18 hx,a5T (by omega)];exact this
theorem a2i {S:Sh} (h:j7 S=true):S.data.length=16/\a1n 0 S.fixes=true:=by
 unfold j7 at h;simp only [xb7,xh5] at h;exact ⟨h.1.2,h.2⟩
theorem a5a {S:Sh} {i:Nat} (hi:S.fixes.length<=i):a0X S.data (S.fixes.take i)=a45 S:=by rw [xa0 hi];rfl
theorem a9M {S:Sh} {w:World} {u:Value} (hu:ShV w S u):Fn Tryz.prog 92 [shA S u] w (RBf (.tuple #[.string ⟨(if j7 S=true then a45 S else []).toArray⟩,.int .i64 (if j7 S=true then 0 else 1)]) w):=by
 have hr:=fun w (h:ShV w S u)=>a5k h;by_cases hR:j7 S=true;rotate_left
 ·rw [xd9 hR,xd9 hR];rw [show j7 S=false by simpa using hR] at hr;refine yEn Tryz.func92 Tryz.ntmps92 (by kernel_rfl) (by kernel_rfl) rfl rfl ?_;have hS:=St.start w;unfold shA shC
  repeat' (first|(with_reducible apply a5 a4);rfl;rfl;rfl|(with_reducible apply a6);rfl;(apply Ld.st a4;rfl;exact hS.blkR 0 rfl;rfl);rfl|refine yDn (by with_reducible constructor) ?_|(with_reducible apply a9);rfl;rfl|(with_reducible apply d8 hS);rfl;rfl;rfl;clear hS;intro g w' hS|(with_reducible apply b5 hS);rfl;rfl;rfl;refine ⟨_,hr _ (hu.now hS),?_⟩;clear hS;intro w' hS)
  (refine b25 rfl ?_)
  exact ⟨rfl,hS.sub (xh8 _)⟩
 rw [xd8 hR,xd8 hR];rw [hR] at hr;obtain ⟨hd,hok⟩:=a2i hR;have bnd:=hu.bound;obtain ⟨p,c,rfl⟩:=hu.len;refine yEn Tryz.func92 Tryz.ntmps92 (by kernel_rfl) (by kernel_rfl) rfl rfl ?_;have hS:=St.start w;unfold shA shC
 repeat' (first|(with_reducible apply a5 a4);rfl;rfl;rfl|(with_reducible apply a6);rfl;(first|apply Ld.sc a4;rfl;exact hS.blkC 0 rfl rfl|apply Ld.sl a4;rfl;exact hS.blkC 0 rfl rfl|apply Ld.st a4;rfl;exact hS.blkR 0 rfl;rfl);rfl|refine yDn (by with_reducible constructor) ?_|(with_reducible apply f8);rfl;rfl|(with_reducible apply d8 hS);rfl;rfl;rfl;clear hS;intro g w' hS|(with_reducible apply b5 hS);rfl;rfl;rfl;refine ⟨_,hr _ (hu.now hS),?_⟩;clear hS;intro w' hS)
 refine o6 (X:=Nat) (fun x=>[(15,.int .i64 (x:Nat)),(4,.string ⟨(a0X S.data (S.fixes.take x)).toArray⟩)]) [1,13,14] rfl (fun _=>[]) (fun x=>x<=S.fixes.length) (fun x=>S.fixes.length - x) 0 (by exact Fr.sub_of rfl) (by simp) hS ?_;clear hS;intro i w1 hi hS;dsimp only [List.cons_append,List.nil_append] at hi hS |-;have hlen:=a30 hok (by omega) hd i hi;by_cases hlt:i < S.fixes.length
 ·obtain ⟨x,hx⟩:=l9 (l:=S.fixes) (i:=i) (by omega);have hrow:=i7 (f:=fxC) hx;obtain ⟨b,off,rfl,hro⟩:=hu.at_ (i:=i) hlt;obtain ⟨⟨h1,h2⟩,h3⟩:=a4a hok (by omega) hx;have hst:=a18 (d:=S.data) hx;generalize a0X S.data (S.fixes.take i)=d at hlen hst |-;have hlay:=fun w=>a8X d x.bytes x.off w (by unfold maxLen;omega);have hin:inB x.off x.bytes.length d.length=true:=by unfold inB;rw [xh5];omega
  simp only [hin,if_true] at hlay
  repeat' (first|(with_reducible apply a5 a4);rfl;rfl;rfl|(with_reducible apply a6);rfl;(first|apply Ld.sc a4;rfl;exact hS.blkC 0 rfl rfl|apply Ld.st a4;rfl;exact hS.roR (by assumption) (by assumption);rfl);rfl|(with_reducible apply t3 a4);rfl;rfl;rfl;rfl;omega;rfl|(with_reducible apply o9);rfl;rfl;omega;omega;rfl|refine yDn (by with_reducible constructor) ?_|(with_reducible apply b8 hS a4);rfl;rfl;rfl;clear hS;intro g w' hS|(with_reducible apply b7 hS a4 (i:=0));(iterate 8 rfl);exact (rfl:_=[_,_]);clear hS;intro w' hS;simp only [List.set] at hS|(with_reducible apply b6);rfl;all_goals (intro hb hp;try (exfalso;omega))|(with_reducible apply b5 hS);rfl;rfl;rfl;refine ⟨_,hlay _,?_⟩;clear hS;intro w' hS)
  exact m8 (i + 1) (by rw [hst];exact Fr.sub_of rfl) (by show i + 1<=S.fixes.length;omega) hS.drop (by show S.fixes.length - (i + 1) < S.fixes.length - i;omega)
 ·repeat' (first|(with_reducible apply a5 a4);rfl;rfl;rfl|refine yDn (by with_reducible constructor) ?_|(with_reducible apply b6);rfl;all_goals (intro hb hp;try (exfalso;omega)))
  (refine b25 rfl ?_)
  exact ⟨by rw [a5a (by omega)],hS.sub (xh8 _)⟩
theorem a7j {S:Sh} {w:World} {u:Value} (hu:ShV w S u) (hR:j7 S=true):Fn Tryz.prog 93 [shA S u] w (RBf (.string ⟨(a45 S).toArray⟩) w):=by
 obtain ⟨hd,hok⟩:=a2i hR;have bnd:=hu.bound;obtain ⟨p,c,rfl⟩:=hu.len;refine yEn Tryz.func93 Tryz.ntmps93 (by kernel_rfl) (by kernel_rfl) rfl rfl ?_;have hS:=St.start w;unfold shA shC
 repeat' (first|(with_reducible apply a5 a4);rfl;rfl;rfl|(with_reducible apply a6);rfl;(apply Ld.sc a4;rfl;exact hS.blkC 0 rfl rfl);rfl|refine yDn (by with_reducible constructor) ?_|(with_reducible apply d8 hS);rfl;rfl;rfl;clear hS;intro g w' hS)
 refine o6 (X:=Nat) (fun x=>[(4,.int .i64 (x:Nat)),(3,.string ⟨(a0X S.data (S.fixes.take x)).toArray⟩)]) [1] rfl (fun _=>[]) (fun x=>x<=S.fixes.length) (fun x=>S.fixes.length - x) 0 (by exact Fr.sub_of rfl) (by simp) hS ?_;clear hS;intro i w1 hi hS;dsimp only [List.cons_append,List.nil_append] at hi hS |-;have hlen:=a30 hok (by omega) hd i hi;by_cases hlt:i < S.fixes.length
 ·obtain ⟨x,hx⟩:=l9 (l:=S.fixes) (i:=i) (by omega);have hrow:=i7 (f:=fxC) hx;obtain ⟨b,off,rfl,hro⟩:=hu.at_ (i:=i) hlt;obtain ⟨⟨h1,h2⟩,h3⟩:=a4a hok (by omega) hx;have hst:=a18 (d:=S.data) hx;generalize a0X S.data (S.fixes.take i)=d at hlen hst |-;have hover:∀ w,Fn Tryz.prog 149 [.string ⟨d.toArray⟩,.int .i64 x.off,.string ⟨x.bytes.toArray⟩] w (RBf (.string ⟨(splice d x.off.toNat x.bytes).toArray⟩) w):=fun w=>by
   have:=b0A d x.bytes x.off.toNat w (by unfold maxLen;omega) (by omega)
   rwa [xk9 h1] at this
  repeat' (first|(with_reducible apply a5 a4);rfl;rfl;rfl|(with_reducible apply a6);rfl;(apply Ld.sl a4;rfl;exact hS.blkC 0 rfl rfl);rfl|refine yDn (by with_reducible constructor) ?_|(with_reducible apply b6);rfl;all_goals (intro hb hp;try (exfalso;omega)))
  (focus ((with_reducible apply a8 _ _ _ (by kernel_rfl) (by kernel_rfl) hS);(repeat' (first|(first|(with_reducible apply i4 a4);rfl;rfl|(with_reducible apply i6);rfl;(intro wd hd;replace hd:St _ _ wd _:=hd;(first|apply Ld.sc a4;rfl;(first|exact hd.roC0 (by assumption) (by assumption) rfl|exact hd.roC (by assumption) (by assumption) rfl)|apply Ld.sl a4;rfl;exact hd.blkC 0 rfl rfl));rfl|(with_reducible apply z9 a4);rfl;rfl;rfl;rfl;omega;rfl)|(with_reducible apply b9);rfl;rfl;rfl;refine ⟨_,fun wd hd=>hover _,?_⟩));all_goals ((with_reducible apply l3);intro w' hS';clear hS;have hS:=hS';clear hS')))
  repeat' (first|(with_reducible apply a5 a4);rfl;rfl;rfl|(with_reducible apply o9);rfl;rfl;omega;omega;rfl|refine yDn (by with_reducible constructor) ?_)
  exact m8 (i + 1) (by rw [hst];exact Fr.sub_of rfl) (by show i + 1<=S.fixes.length;omega) hS (by show S.fixes.length - (i + 1) < S.fixes.length - i;omega)
 ·repeat' (first|(with_reducible apply a5 a4);rfl;rfl;rfl|(with_reducible apply a6);rfl;(apply Ld.sl a4;rfl;exact hS.blkC 0 rfl rfl);rfl|refine yDn (by with_reducible constructor) ?_|(with_reducible apply b6);rfl;all_goals (intro hb hp;try (exfalso;omega)))
  (refine d4 rfl ?_)
  exact ⟨by rw [a5a (by omega)],hS.sub (xh8 _)⟩
theorem a6q {A:List Ar} {Lp:List (Sh×Value)} {w:World} {va vs:Value} {en:Int} (hA:Sl nF w 4 va (A.map arC)) (hL:ShsV w Lp vs) (hen:-9223372036854775808<=en) (hen2:en<=9223372036854775807):Fn Tryz.prog 90 [lkA va vs en] w (RBf (.int .i64 (l8 A (shs Lp) en)) w):=by
 have bnd:=hL.sl.bound;have hsl:=hL.sl;obtain ⟨p,c,rfl⟩:=hL.sl.len;unfold lkA;by_cases hc:b4 A=0;rotate_left
 ·have hr:l8 A (shs Lp) en=b4 A:=xd9 hc;have hc':(!decide (b4 A=0))=true:=by rw [xh9 hc];rfl
  rw [hr];refine yEn Tryz.func90 Tryz.ntmps90 (by kernel_rfl) (by kernel_rfl) rfl rfl ?_;have hS:=St.start w
  repeat' (first|(with_reducible apply a5 a4);rfl;rfl;rfl|(with_reducible apply a6);rfl;(apply Ld.sl a4;rfl;exact hS.blkC 0 rfl rfl);rfl|refine yDn (by with_reducible constructor) ?_|(with_reducible apply a9);rfl;assumption|(with_reducible apply d8 hS);rfl;rfl;rfl;clear hS;intro g w' hS|(with_reducible apply b5 hS);rfl;rfl;rfl;refine ⟨_,a3k (hA.now hS),?_⟩;clear hS;intro w' hS)
  (refine d4 rfl ?_)
  exact ⟨rfl,hS.sub (xh8 _)⟩
 have hck:=fun w (h:Sl nF w 4 va (A.map arC))=>a3k h;have htot:=fun w (h:Sl nF w 4 va (A.map arC))=>a5f h;have hfnd:=fun w page (h:Sl nF w 4 va (A.map arC))=>a6I page h;have hfi:∀ page,a2s A page=k6 A page:=fun page=>xd8 hc;simp only [hc,if_true,hfi] at hck htot hfnd;have hr:l8 A (shs Lp) en=if lkB A (shs Lp) en=true then 0 else 1:=xd8 hc;rw [hr];unfold lkB;rw [a0e];by_cases hn:(Lp.length:Int)=l7 A;rotate_left
 ·have hn':(!decide ((Lp.length:Int)=l7 A))=true:=by rw [xh9 hn];rfl
  rw [xd9 (by rw [xh9 hn];simp)];refine yEn Tryz.func90 Tryz.ntmps90 (by kernel_rfl) (by kernel_rfl) rfl rfl ?_;have hS:=St.start w
  repeat' (first|(with_reducible apply a5 a4);rfl;rfl;rfl|(with_reducible apply a6);rfl;(apply Ld.sl a4;rfl;exact hS.blkC 0 rfl rfl);rfl|refine yDn (by with_reducible constructor) ?_|(with_reducible apply f8);rfl;rfl|(with_reducible apply d8 hS);rfl;rfl;rfl;clear hS;intro g w' hS|(with_reducible apply b5 hS);rfl;rfl;rfl;refine ⟨_,hck _ (hA.now hS),?_⟩;clear hS;intro w' hS)
  (focus ((with_reducible apply a8 _ _ _ (by kernel_rfl) (by kernel_rfl) hS);(repeat' (first|(first|(with_reducible apply i4 a4);rfl;rfl|(with_reducible apply i6);rfl;(intro wd hd;replace hd:St _ _ wd _:=hd;(apply Ld.sl a4;rfl;exact hd.blkC 0 rfl rfl));rfl)|(with_reducible apply b9);rfl;rfl;rfl;refine ⟨_,fun wd hd=>htot _ (hA.now hd),?_⟩));all_goals ((with_reducible apply l3);intro w' hS';clear hS;have hS:=hS';clear hS')))
  repeat' (first|(with_reducible apply a5 a4);rfl;rfl;rfl|refine yDn (by with_reducible constructor) ?_|(with_reducible apply a9);rfl;assumption)
  (refine d4 rfl ?_)
  exact ⟨rfl,hS.sub (xh8 _)⟩
 have hn':(!decide ((Lp.length:Int)=l7 A))=false:=by rw [xh7 hn];rfl
 rw [xh7 hn,xl0];refine yEn Tryz.func90 Tryz.ntmps90 (by kernel_rfl) (by kernel_rfl) rfl rfl ?_;have hS:=St.start w
 repeat' (first|(with_reducible apply a5 a4);rfl;rfl;rfl|(with_reducible apply a6);rfl;(apply Ld.sl a4;rfl;exact hS.blkC 0 rfl rfl);rfl|refine yDn (by with_reducible constructor) ?_|(with_reducible apply f8);rfl;rfl|(with_reducible apply d8 hS);rfl;rfl;rfl;clear hS;intro g w' hS|(with_reducible apply b5 hS);rfl;rfl;rfl;refine ⟨_,hck _ (hA.now hS),?_⟩;clear hS;intro w' hS)
 (focus ((with_reducible apply a8 _ _ _ (by kernel_rfl) (by kernel_rfl) hS);(repeat' (first|(first|(with_reducible apply i4 a4);rfl;rfl|(with_reducible apply i6);rfl;(intro wd hd;replace hd:St _ _ wd _:=hd;(apply Ld.sl a4;rfl;exact hd.blkC 0 rfl rfl));rfl)|(with_reducible apply b9);rfl;rfl;rfl;refine ⟨_,fun wd hd=>htot _ (hA.now hd),?_⟩));all_goals ((with_reducible apply l3);intro w' hS';clear hS;have hS:=hS';clear hS')))
 repeat' (first|(with_reducible apply a5 a4);rfl;rfl;rfl|(with_reducible apply a6);rfl;(apply Ld.sl a4;rfl;exact hS.blkC 0 rfl rfl);rfl|refine yDn (by with_reducible constructor) ?_|(with_reducible apply f8);rfl;assumption)
 refine o6 (X:=Nat×Int) (fun x=>[(27,.int .i64 (x.1:Nat)),(4,.int .i64 x.2)]) [1,25,26] rfl (fun _=>[]) (fun x=>x.1<=Lp.length/\a3n A 0 (shs Lp)=a3n A x.2 ((shs Lp).drop x.1)) (fun x=>Lp.length - x.1) (0,0) (by exact Fr.sub_of rfl) (by simp) hS ?_;clear hS;rintro ⟨i,last⟩ w1 ⟨hi,hok⟩ hS;dsimp only [List.cons_append,List.nil_append] at hi hok hS |-;by_cases hlt:i < Lp.length
 ·obtain ⟨x,hx⟩:=l9 (l:=Lp) (i:=i) (by omega);have hrow:=i7 (f:=fun p=>shC p.1 p.2) hx;obtain ⟨b,off,rfl,hro⟩:=hsl.at_ (i:=i) hlt;have hst:=a7L (A:=A) (last:=last) (a1C hx);have hfx:=hL.fx x (xc1 hx);have hfi2:=fun w h=>hfnd w x.1.page h;obtain ⟨S,u⟩:=x;dsimp only [shC] at hrow hst hfx hfi2;obtain ⟨pu,cu,rfl⟩:=hfx.len;have hrt:=fun w (h:ShV w S (.slice pu S.fixes.length cu))=>a5k h;rw [hst] at hok
  cases hf:k6 A S.page with
  |none=>
   simp only [hf] at hfi2;have ha:a08 A S.page=false:=by unfold a08;rw [hf]
   rw [ha,xl1] at hok
   repeat' (first|(with_reducible apply a5 a4);rfl;rfl;rfl|(with_reducible apply a6);rfl;(first|apply Ld.sc a4;rfl;exact hS.blkC 0 rfl rfl|apply Ld.sl a4;rfl;exact hS.blkC 1 rfl rfl|apply Ld.st a4;rfl;exact hS.roR (by assumption) (by assumption);rfl);rfl|(with_reducible apply t3 a4);rfl;rfl;rfl;rfl;omega;rfl|refine yDn (by with_reducible constructor) ?_|(with_reducible apply o4);(iterate 4 rfl);rfl;rfl|(with_reducible apply d9);rfl;rfl;rfl;rfl|(with_reducible apply a9);rfl;rfl|(with_reducible apply b8 hS a4);rfl;rfl;rfl;clear hS;intro g w' hS|(with_reducible apply b7 hS a4 (i:=0));(iterate 8 rfl);(first|exact (rfl:_=[_,_,_])|exact (rfl:_=[_,_,_,_]));clear hS;intro w' hS;simp only [List.set] at hS|(with_reducible apply b6);rfl;all_goals (intro hb hp;try (exfalso;omega))|(with_reducible apply b5 hS);rfl;rfl;rfl;refine ⟨_,hfi2 _ (hA.now hS),?_⟩;clear hS;intro w' hS)
   (refine d4 rfl ?_)
   exact ⟨by rw [hok];rfl,hS.sub (xh8 _)⟩
  |some a=>
   simp only [hf] at hfi2;obtain ⟨pg,n,prot,z⟩:=a
   cases z with
   |true=>
    have ha:a08 A S.page=false:=by unfold a08;rw [hf];rfl
    rw [ha,xl1] at hok
    repeat' (first|(with_reducible apply a5 a4);rfl;rfl;rfl|(with_reducible apply a6);rfl;(first|apply Ld.sc a4;rfl;exact hS.blkC 0 rfl rfl|apply Ld.sl a4;rfl;exact hS.blkC 1 rfl rfl|apply Ld.st a4;rfl;exact hS.roR (by assumption) (by assumption);rfl);rfl|(with_reducible apply t3 a4);rfl;rfl;rfl;rfl;omega;rfl|refine yDn (by with_reducible constructor) ?_|(with_reducible apply e9);(iterate 4 rfl);rfl|(with_reducible apply o4);(iterate 4 rfl);rfl;rfl|(with_reducible apply d9);rfl;rfl;rfl;rfl|(with_reducible apply a7);rfl;rfl;rfl;rfl|(with_reducible apply a9);rfl;rfl|(with_reducible apply b8 hS a4);rfl;rfl;rfl;clear hS;intro g w' hS|(with_reducible apply b7 hS a4 (i:=0));(iterate 8 rfl);(first|exact (rfl:_=[_,_,_])|exact (rfl:_=[_,_,_,_]));clear hS;intro w' hS;simp only [List.set] at hS|(with_reducible apply b6);rfl;all_goals (intro hb hp;try (exfalso;omega))|(with_reducible apply b5 hS);rfl;rfl;rfl;refine ⟨_,hfi2 _ (hA.now hS),?_⟩;clear hS;intro w' hS)
    (refine d4 rfl ?_)
    exact ⟨by rw [hok];rfl,hS.sub (xh8 _)⟩
   |false=>
    have ha:a08 A S.page=true:=by unfold a08;rw [hf];rfl
    rw [ha,xl0] at hok
    cases hR:j7 S with
    |false=>
     simp only [hR] at hrt;rw [hR,xl1] at hok
     repeat' (first|(with_reducible apply a5 a4);rfl;rfl;rfl|(with_reducible apply a6);rfl;(first|apply Ld.sc a4;rfl;exact hS.blkC 0 rfl rfl|apply Ld.sl a4;rfl;exact hS.blkC 1 rfl rfl|apply Ld.st a4;rfl;(first|exact hS.blkR 1 rfl|exact hS.roR (by assumption) (by assumption));rfl);rfl|(with_reducible apply t3 a4);rfl;rfl;rfl;rfl;omega;rfl|refine yDn (by with_reducible constructor) ?_|(with_reducible apply e9);(iterate 4 rfl);rfl|(with_reducible apply o4);(iterate 4 rfl);rfl;rfl|(with_reducible apply d9);rfl;rfl;rfl;rfl|(with_reducible apply a7);rfl;rfl;rfl;rfl|(with_reducible apply a9);rfl;rfl|(with_reducible apply b8 hS a4);rfl;rfl;rfl;clear hS;intro g w' hS|(with_reducible apply b7 hS a4 (i:=0));(iterate 8 rfl);(first|exact (rfl:_=[_,_,_])|exact (rfl:_=[_,_,_,_]));clear hS;intro w' hS;simp only [List.set] at hS|(with_reducible apply b6);rfl;all_goals (intro hb hp;try (exfalso;omega))|(with_reducible apply b5 hS);rfl;rfl;rfl;refine ⟨_,hfi2 _ (hA.now hS),?_⟩;clear hS;intro w' hS|(with_reducible apply b5 hS);rfl;rfl;rfl;refine ⟨_,hrt _ (hfx.now hS),?_⟩;clear hS;intro w' hS)
     (refine d4 rfl ?_)
     exact ⟨by rw [hok];rfl,hS.sub (xh8 _)⟩
    |true=>
     simp only [hR] at hrt;rw [hR,xl0] at hok;by_cases hlp:last < S.page
     ·rw [xh7 hlp,xl0] at hok
      repeat' (first|(with_reducible apply a5 a4);rfl;rfl;rfl|(with_reducible apply a6);rfl;(first|apply Ld.sc a4;rfl;(first|exact hS.blkC 0 rfl rfl|exact hS.blkC 1 rfl rfl)|apply Ld.sl a4;rfl;exact hS.blkC 1 rfl rfl|apply Ld.st a4;rfl;(first|exact hS.blkR 1 rfl|exact hS.roR (by assumption) (by assumption));rfl);rfl|(with_reducible apply t3 a4);rfl;rfl;rfl;rfl;omega;rfl|(with_reducible apply o9);rfl;rfl;omega;omega;rfl|refine yDn (by with_reducible constructor) ?_|(with_reducible apply e9);(iterate 4 rfl);rfl|(with_reducible apply a7);rfl;rfl;rfl;rfl|(with_reducible apply b8 hS a4);rfl;rfl;rfl;clear hS;intro g w' hS|(with_reducible apply b7 hS a4 (i:=0));(iterate 8 rfl);(first|exact (rfl:_=[_,_,_])|exact (rfl:_=[_,_,_,_]));clear hS;intro w' hS;simp only [List.set] at hS|(with_reducible apply b6);rfl;all_goals (intro hb hp;try (exfalso;omega))|(with_reducible apply b5 hS);rfl;rfl;rfl;refine ⟨_,hfi2 _ (hA.now hS),?_⟩;clear hS;intro w' hS|(with_reducible apply b5 hS);rfl;rfl;rfl;refine ⟨_,hrt _ (hfx.now hS),?_⟩;clear hS;intro w' hS)
      exact m8 (i + 1,S.page) (by exact Fr.sub_of rfl) ⟨by show i + 1<=Lp.length;omega,hok⟩ (hS.reorder [2] (by decide) rfl) (by show Lp.length - (i + 1) < Lp.length - i;omega)
     ·rw [xh9 hlp,xl1] at hok
      repeat' (first|(with_reducible apply a5 a4);rfl;rfl;rfl|(with_reducible apply a6);rfl;(first|apply Ld.sc a4;rfl;(first|exact hS.blkC 0 rfl rfl|exact hS.blkC 1 rfl rfl)|apply Ld.sl a4;rfl;exact hS.blkC 1 rfl rfl|apply Ld.st a4;rfl;(first|exact hS.blkR 1 rfl|exact hS.roR (by assumption) (by assumption));rfl);rfl|(with_reducible apply t3 a4);rfl;rfl;rfl;rfl;omega;rfl|refine yDn (by with_reducible constructor) ?_|(with_reducible apply e9);(iterate 4 rfl);rfl|(with_reducible apply a7);rfl;rfl;rfl;rfl|(with_reducible apply b8 hS a4);rfl;rfl;rfl;clear hS;intro g w' hS|(with_reducible apply b7 hS a4 (i:=0));(iterate 8 rfl);(first|exact (rfl:_=[_,_,_])|exact (rfl:_=[_,_,_,_]));clear hS;intro w' hS;simp only [List.set] at hS|(with_reducible apply b6);rfl;all_goals (intro hb hp;try (exfalso;omega))|(with_reducible apply b5 hS);rfl;rfl;rfl;refine ⟨_,hfi2 _ (hA.now hS),?_⟩;clear hS;intro w' hS|(with_reducible apply b5 hS);rfl;rfl;rfl;refine ⟨_,hrt _ (hfx.now hS),?_⟩;clear hS;intro w' hS)
      (refine d4 rfl ?_)
      exact ⟨by rw [hok];rfl,hS.sub (xh8 _)⟩
 rw [xk6 (by rw [a0e];omega)] at hok;have hrv:(if (a3n A 0 (shs Lp) && a0w A en)=true then (0:Int) else 1)=if a0w A en=true then 0 else 1:=by
  simp only [hok,a3n,xl0]
 rw [hrv];have hfe:=fun w h=>hfnd w (en.tdiv 16) h;by_cases he:0<=en/\en.tmod 8=0;rotate_left
 ·have hE:a0w A en=false:=by unfold a0w;rw [xh9 he];rfl
  rw [hE];have hrv2:(if false=true then (0:Int) else 1)=1:=rfl
  repeat' (first|(with_reducible apply a5 a4);rfl;rfl;rfl|(with_reducible apply a6);rfl;(apply Ld.sc a4;rfl;exact hS.blkC 0 rfl rfl);rfl|refine yDn (by with_reducible constructor) ?_|(with_reducible apply e9);(iterate 4 rfl);assumption|(with_reducible apply o4);(iterate 4 rfl);assumption;rfl|(with_reducible apply d9);rfl;assumption;rfl;rfl|(with_reducible apply a7);rfl;assumption;rfl;rfl|(with_reducible apply a9);rfl;rfl|(with_reducible apply w5);rfl;rfl;rfl;all_goals (intro hb hp;try (exfalso;omega))|(with_reducible apply b6);rfl;all_goals (intro hb hp;try (exfalso;omega))|(with_reducible apply a2o);rfl;all_goals (intro hb hp;try (exfalso;omega))|(with_reducible apply a1F);rfl;rfl;omega;rfl)
  all_goals (refine d4 rfl ?_;exact ⟨rfl,hS.sub (xh8 _)⟩)
 cases hf:k6 A (en.tdiv 16) with
 |none=>
  simp only [hf] at hfe;have hE:a0w A en=false:=by unfold a0w;rw [hf];simp
  rw [hE]
  repeat' (first|(with_reducible apply a5 a4);rfl;rfl;rfl|(with_reducible apply a6);rfl;(first|apply Ld.sc a4;rfl;exact hS.blkC 0 rfl rfl|apply Ld.sl a4;rfl;exact hS.blkC 0 rfl rfl);rfl|refine yDn (by with_reducible constructor) ?_|(with_reducible apply e9);(iterate 4 rfl);assumption|(with_reducible apply o4);(iterate 4 rfl);rfl;rfl|(with_reducible apply d9);rfl;rfl;rfl;rfl|(with_reducible apply a7);rfl;assumption;rfl;rfl|(with_reducible apply a9);rfl;rfl|(with_reducible apply b8 hS a4);rfl;rfl;rfl;clear hS;intro g w' hS|(with_reducible apply b7 hS a4 (i:=0));(iterate 8 rfl);exact (rfl:_=[_,_,_,_]);clear hS;intro w' hS;simp only [List.set] at hS|(with_reducible apply w5);rfl;rfl;rfl;all_goals (intro hb hp;try (exfalso;omega))|(with_reducible apply b6);rfl;all_goals (intro hb hp;try (exfalso;omega))|(with_reducible apply a2o);rfl;all_goals (intro hb hp;try (exfalso;omega))|(with_reducible apply a1F);rfl;rfl;omega;rfl|(with_reducible apply a1y);rfl;rfl;omega;omega;omega;rfl|(with_reducible apply b5 hS);rfl;rfl;rfl;refine ⟨_,hfe _ (hA.now hS),?_⟩;clear hS;intro w' hS)
  (refine d4 rfl ?_)
  exact ⟨rfl,hS.sub (xh8 _)⟩
 |some a=>
  simp only [hf] at hfe;have hok2:=(a2P hc hf).1;unfold Ar.ok at hok2;obtain ⟨pg,n,prot,z⟩:=a;dsimp only at hok2;have ha2:=b3l (p:=prot) (by omega) (by omega);by_cases h2:2<=prot
  ·have hE:a0w A en=true:=by unfold a0w;rw [hf,xh7 he];simp [h2]
   rw [hE];rw [xd8 h2] at ha2
   repeat' (first|(with_reducible apply a5 a4);rfl;rfl;rfl|(with_reducible apply a6);rfl;(first|apply Ld.sc a4;rfl;exact hS.blkC 0 rfl rfl|apply Ld.sl a4;rfl;exact hS.blkC 0 rfl rfl);rfl|refine yDn (by with_reducible constructor) ?_|((with_reducible apply e9);(iterate 4 rfl);first|rfl|assumption)|(with_reducible apply a7);rfl;(first|rfl|assumption);rfl;rfl|(with_reducible apply f8);rfl;rfl|(with_reducible apply b8 hS a4);rfl;rfl;rfl;clear hS;intro g w' hS|(with_reducible apply b7 hS a4 (i:=0));(iterate 8 rfl);exact (rfl:_=[_,_,_,_]);clear hS;intro w' hS;simp only [List.set] at hS|(with_reducible apply w5);rfl;rfl;rfl;all_goals (intro hb hp;try (exfalso;omega))|(with_reducible apply b6);rfl;all_goals (intro hb hp;try (exfalso;omega))|(with_reducible apply a2o);rfl;all_goals (intro hb hp;try (exfalso;omega))|(with_reducible apply a1F);rfl;rfl;omega;rfl|(with_reducible apply a1y);rfl;rfl;omega;omega;omega;rfl|(with_reducible apply b5 hS);rfl;rfl;rfl;refine ⟨_,hfe _ (hA.now hS),?_⟩;clear hS;intro w' hS|(with_reducible apply b0S);rfl;rfl;exact ha2;rfl)
   (refine d4 rfl ?_)
   exact ⟨rfl,hS.sub (xh8 _)⟩
  ·have hE:a0w A en=false:=by unfold a0w;rw [hf];simp [h2]
   rw [hE];rw [xd9 h2] at ha2
   repeat' (first|(with_reducible apply a5 a4);rfl;rfl;rfl|(with_reducible apply a6);rfl;(first|apply Ld.sc a4;rfl;exact hS.blkC 0 rfl rfl|apply Ld.sl a4;rfl;exact hS.blkC 0 rfl rfl);rfl|refine yDn (by with_reducible constructor) ?_|((with_reducible apply e9);(iterate 4 rfl);first|rfl|assumption)|(with_reducible apply a7);rfl;(first|rfl|assumption);rfl;rfl|(with_reducible apply a9);rfl;rfl|(with_reducible apply b8 hS a4);rfl;rfl;rfl;clear hS;intro g w' hS|(with_reducible apply b7 hS a4 (i:=0));(iterate 8 rfl);exact (rfl:_=[_,_,_,_]);clear hS;intro w' hS;simp only [List.set] at hS|(with_reducible apply w5);rfl;rfl;rfl;all_goals (intro hb hp;try (exfalso;omega))|(with_reducible apply b6);rfl;all_goals (intro hb hp;try (exfalso;omega))|(with_reducible apply a2o);rfl;all_goals (intro hb hp;try (exfalso;omega))|(with_reducible apply a1F);rfl;rfl;omega;rfl|(with_reducible apply a1y);rfl;rfl;omega;omega;omega;rfl|(with_reducible apply b5 hS);rfl;rfl;rfl;refine ⟨_,hfe _ (hA.now hS),?_⟩;clear hS;intro w' hS|(with_reducible apply b0S);rfl;rfl;exact ha2;rfl)
   (refine d4 rfl ?_)
   exact ⟨rfl,hS.sub (xh8 _)⟩
theorem a65 {A:List Ar} {p:Int} (h:a08 A p=true):(!(k6 A p).isSome)=false/\((k6 A p).getD a2f).z=false:=by
 unfold a08 at h
 cases hf:k6 A p with
 |none=>rw [hf] at h;cases h
 |some a=>rw [hf] at h;exact ⟨rfl,by simpa using h⟩
theorem a5E {A:List Ar} {p:Int} (h:a08 A p=false):(!(k6 A p).isSome)=true\/((!(k6 A p).isSome)=false/\((k6 A p).getD a2f).z=true):=by
 unfold a08 at h
 cases hf:k6 A p with
 |none=>exact xc7 rfl
 |some a=>rw [hf] at h;exact xc4 ⟨rfl,by simpa using h⟩
theorem a6r {l:List Sh} {i:Nat} {s:Sh} {last:Int} (h:l[i]?=some s):a0k last (l.drop i)=(j7 s && (decide (last < s.page) && a0k s.page (l.drop (i + 1)))):=by
 rw [a4k h];rfl
theorem a6h {S:Sh} (h:j7 S=true):1<=S.page/\S.page<=255:=by
 unfold j7 at h;simp only [xb7,xh5] at h;exact h.1.1
theorem a3q {Lp:List (Sh×Value)} {w:World} {vs:Value} (hL:ShsV w Lp vs):Fn Tryz.prog 123 [vs] w (RBf (.bool (a0k 0 (shs Lp))) w):=by
 have bnd:=hL.sl.bound;have hsl:=hL.sl;obtain ⟨p,c,rfl⟩:=hL.sl.len;refine yEn Tryz.func123 Tryz.ntmps123 (by kernel_rfl) (by kernel_rfl) rfl rfl ?_;have hS:=St.start w
 repeat' (first|(with_reducible apply a5 a4);rfl;rfl;rfl|refine yDn (by with_reducible constructor) ?_)
 refine o6 (X:=Nat×Int) (fun x=>[(3,.int .i64 (x.1:Nat))]) [0] rfl (fun _=>[]) (fun x=>x.1<=Lp.length/\((x.1=0/\x.2=0)\/(0 < x.1/\∃ y,Lp[x.1 - 1]?=some y/\x.2=y.1.page))/\a0k 0 (shs Lp)=a0k x.2 ((shs Lp).drop x.1)) (fun x=>Lp.length - x.1) (0,0) (by exact Fr.sub_of rfl) (by simp) hS ?_;clear hS;rintro ⟨i,last⟩ w1 ⟨hi,hlast,hok⟩ hS;dsimp only [List.cons_append,List.nil_append] at hi hlast hok hS |-;by_cases hlt:i < Lp.length;rotate_left
 ·rw [xk6 (by rw [a0e];omega)] at hok
  repeat' (first|(with_reducible apply a5 a4);rfl;rfl;rfl|refine yDn (by with_reducible constructor) ?_|(with_reducible apply b6);rfl;all_goals (intro hb hp;try (exfalso;omega)))
  (refine d4 rfl ?_)
  exact ⟨by rw [hok];rfl,hS.sub (xh8 _)⟩
 obtain ⟨x,hx⟩:=l9 (l:=Lp) (i:=i) (by omega);have hrow:=i7 (f:=fun p=>shC p.1 p.2) hx;obtain ⟨b,off,rfl,hro⟩:=hsl.at_ (i:=i) hlt;have hst:=a6r (last:=last) (a1C hx);have hfx:=hL.fx x (xc1 hx);obtain ⟨S,u⟩:=x;dsimp only [shC] at hrow hst hfx;obtain ⟨pu,cu,rfl⟩:=hfx.len;have hfine:=fun w (h:ShV w S (.slice pu S.fixes.length cu))=>a4w h;rw [hst] at hok
 cases hR:j7 S with
 |false=>
  simp only [hR] at hfine;rw [hR,xl1] at hok
  repeat' (first|(with_reducible apply a5 a4);rfl;rfl;rfl|refine yDn (by with_reducible constructor) ?_|(with_reducible apply b6);rfl;all_goals (intro hb hp;try (exfalso;omega)))
  (focus ((with_reducible apply a8 _ _ _ (by kernel_rfl) (by kernel_rfl) hS);(repeat' (first|(first|(with_reducible apply i4 a4);rfl;rfl|(with_reducible apply i6);rfl;(intro wd hd;replace hd:St _ _ wd _:=hd;(apply Ld.st a4;rfl;exact hd.roR (by assumption) (by assumption);rfl));rfl|(with_reducible apply z9 a4);rfl;rfl;rfl;rfl;omega;rfl|(first|(with_reducible apply a0S);(iterate 4 rfl);rfl;rfl|(with_reducible apply a0q);(iterate 5 rfl)|(with_reducible apply l6);rfl;rfl;rfl;rfl))|(with_reducible apply b9);rfl;rfl;rfl;refine ⟨_,fun wd hd=>hfine _ (hfx.now hd),?_⟩));all_goals ((with_reducible apply l3);intro w' hS';clear hS;have hS:=hS';clear hS')))
  all_goals (repeat' (first|(with_reducible apply a5 a4);rfl;rfl;rfl|refine yDn (by with_reducible constructor) ?_|(with_reducible apply a9);rfl;rfl))
  all_goals ((refine d4 rfl ?_))
  all_goals exact ⟨by rw [hok],hS.sub (xh8 _)⟩
 |true=>
  simp only [hR] at hfine;rw [hR,xl0] at hok;have hpg:=a6h hR;rcases hlast with ⟨rfl,rfl⟩|⟨hi0,y,hy,rfl⟩
  ·rw [xh7 (show (0:Int) < S.page by omega),xl0] at hok
   repeat' (first|(with_reducible apply a5 a4);rfl;rfl;rfl|refine yDn (by with_reducible constructor) ?_|(with_reducible apply b6);rfl;all_goals (intro hb hp;try (exfalso;omega)))
   (focus ((with_reducible apply a8 _ _ _ (by kernel_rfl) (by kernel_rfl) hS);(repeat' (first|(first|(with_reducible apply i4 a4);rfl;rfl|(with_reducible apply i6);rfl;(intro wd hd;replace hd:St _ _ wd _:=hd;(apply Ld.st a4;rfl;exact hd.roR (by assumption) (by assumption);rfl));rfl|(with_reducible apply z9 a4);rfl;rfl;rfl;rfl;omega;rfl|(first|(with_reducible apply p7);(iterate 4 rfl);rfl|(with_reducible apply a0S);(iterate 4 rfl);rfl;rfl|(with_reducible apply l2);rfl;rfl;rfl;rfl))|(with_reducible apply b9);rfl;rfl;rfl;refine ⟨_,fun wd hd=>hfine _ (hfx.now hd),?_⟩));all_goals ((with_reducible apply l3);intro w' hS';clear hS;have hS:=hS';clear hS')))
   repeat' (first|(with_reducible apply a5 a4);rfl;rfl;rfl|(with_reducible apply o9);rfl;rfl;omega;omega;rfl|refine yDn (by with_reducible constructor) ?_|(with_reducible apply f8);rfl;rfl)
   exact m8 (1,S.page) (by exact Fr.sub_of rfl) ⟨by show 1<=Lp.length;omega,xc4 ⟨by show 0 < 1;omega,_,hx,rfl⟩,hok⟩ hS (by show Lp.length - 1 < Lp.length - 0;omega)
  ·have e1:((i:Int) - 1).toNat=i - 1:=by omega
   have hrow2:(Lp.map fun p=>shC p.1 p.2)[((i:Int) - 1).toNat]?=some (shC y.1 y.2):=by rw [e1];exact i7 (f:=fun p=>shC p.1 p.2) hy
   obtain ⟨S2,u2⟩:=y;dsimp only [shC] at hrow2 hok;by_cases hlp:S2.page < S.page
   ·rw [xh7 hlp,xl0] at hok;have hd1:decide (S.page<=S2.page)=false:=xh9 (by omega)
    repeat' (first|(with_reducible apply a5 a4);rfl;rfl;rfl|refine yDn (by with_reducible constructor) ?_|(with_reducible apply b6);rfl;all_goals (intro hb hp;try (exfalso;omega)))
    (focus ((with_reducible apply a8 _ _ _ (by kernel_rfl) (by kernel_rfl) hS);(repeat' (first|(first|(with_reducible apply a2Q);rfl;rfl;omega;omega;rfl|(with_reducible apply i4 a4);rfl;rfl|(with_reducible apply i6);rfl;(intro wd hd;replace hd:St _ _ wd _:=hd;(first|apply Ld.sc a4;rfl;exact hd.roC0 (by assumption) (by assumption) rfl|apply Ld.st a4;rfl;exact hd.roR (by assumption) (by assumption);rfl));rfl|(with_reducible apply z9 a4);rfl;rfl;rfl;(first|rfl|exact xk9 (by omega));omega;rfl|(first|((with_reducible apply p7);(iterate 4 rfl);first|rfl|assumption)|(with_reducible apply a6D);rfl;rfl;rfl;all_goals (intro hb hp;try (exfalso;omega))|(with_reducible apply l6);rfl;assumption;rfl;rfl|(with_reducible apply l2);rfl;rfl;rfl;rfl))|(with_reducible apply b9);rfl;rfl;rfl;refine ⟨_,fun wd hd=>hfine _ (hfx.now hd),?_⟩));all_goals ((with_reducible apply l3);intro w' hS';clear hS;have hS:=hS';clear hS')))
    repeat' (first|(with_reducible apply a5 a4);rfl;rfl;rfl|(with_reducible apply o9);rfl;rfl;omega;omega;rfl|refine yDn (by with_reducible constructor) ?_|(with_reducible apply f8);rfl;assumption)
    exact m8 (i + 1,S.page) (by exact Fr.sub_of rfl) ⟨by show i + 1<=Lp.length;omega,xc4 ⟨by show 0 < i + 1;omega,_,hx,rfl⟩,hok⟩ hS (by show Lp.length - (i + 1) < Lp.length - i;omega)
   ·rw [xh9 hlp,xl1] at hok;have hd1:decide (S.page<=S2.page)=true:=xh7 (by omega)
    repeat' (first|(with_reducible apply a5 a4);rfl;rfl;rfl|refine yDn (by with_reducible constructor) ?_|(with_reducible apply b6);rfl;all_goals (intro hb hp;try (exfalso;omega)))
    (focus ((with_reducible apply a8 _ _ _ (by kernel_rfl) (by kernel_rfl) hS);(repeat' (first|(first|(with_reducible apply a2Q);rfl;rfl;omega;omega;rfl|(with_reducible apply i4 a4);rfl;rfl|(with_reducible apply i6);rfl;(intro wd hd;replace hd:St _ _ wd _:=hd;(first|apply Ld.sc a4;rfl;exact hd.roC0 (by assumption) (by assumption) rfl|apply Ld.st a4;rfl;exact hd.roR (by assumption) (by assumption);rfl));rfl|(with_reducible apply z9 a4);rfl;rfl;rfl;(first|rfl|exact xk9 (by omega));omega;rfl|(first|((with_reducible apply p7);(iterate 4 rfl);first|rfl|assumption)|(with_reducible apply a6D);rfl;rfl;rfl;all_goals (intro hb hp;try (exfalso;omega))|(with_reducible apply l6);rfl;assumption;rfl;rfl|(with_reducible apply l2);rfl;rfl;rfl;rfl))|(with_reducible apply b9);rfl;rfl;rfl;refine ⟨_,fun wd hd=>hfine _ (hfx.now hd),?_⟩));all_goals ((with_reducible apply l3);intro w' hS';clear hS;have hS:=hS';clear hS')))
    repeat' (first|(with_reducible apply a5 a4);rfl;rfl;rfl|refine yDn (by with_reducible constructor) ?_|(with_reducible apply a9);rfl;assumption)
    (refine d4 rfl ?_)
    exact ⟨by rw [hok],hS.sub (xh8 _)⟩
theorem a28 {A:List Ar} {Lp:List (Sh×Value)} {w:World} {va vs:Value} {en:Int} (hA:Sl nF w 4 va (A.map arC)) (hL:ShsV w Lp vs) (hen:-9223372036854775808<=en) (hen2:en<=9223372036854775807):Fn Tryz.prog 73 [lkA va vs en] w (RBf (.int .i64 (l8 A (shs Lp) en)) w):=by
 have bnd:=hL.sl.bound;have hsl:=hL.sl;have hrise:=fun w (h:ShsV w Lp vs)=>a3q h;obtain ⟨p,c,rfl⟩:=hL.sl.len;unfold lkA;have hca:=fun w (h:Sl nF w 4 va (A.map arC))=>a1r h;by_cases hc:b4 A=0;rotate_left
 ·have hr:l8 A (shs Lp) en=b4 A:=xd9 hc;have hc':(!decide (b4 A=0))=true:=by rw [xh9 hc];rfl
  rw [hr];refine yEn Tryz.func73 Tryz.ntmps73 (by kernel_rfl) (by kernel_rfl) rfl rfl ?_;have hS:=St.start w
  repeat' (first|(with_reducible apply a5 a4);rfl;rfl;rfl|(with_reducible apply a6);rfl;(apply Ld.sl a4;rfl;exact hS.blkC 0 rfl rfl);rfl|refine yDn (by with_reducible constructor) ?_|(with_reducible apply a9);rfl;assumption|(with_reducible apply d8 hS);rfl;rfl;rfl;clear hS;intro g w' hS|(with_reducible apply b5 hS);rfl;rfl;rfl;refine ⟨_,hca _ (hA.now hS),?_⟩;clear hS;intro w' hS)
  (refine d4 rfl ?_)
  exact ⟨rfl,hS.sub (xh8 _)⟩
 simp only [hc] at hca;have hpag:=fun w (h:Sl nF w 4 va (A.map arC))=>a3c h hc;have hat:=fun w page (h:Sl nF w 4 va (A.map arC))=>a3J page h (v9 (o3.1 hc).2);have hr:l8 A (shs Lp) en=if lkB A (shs Lp) en=true then 0 else 1:=xd8 hc;have hlk:lkB A (shs Lp) en=(decide ((Lp.length:Int)=l7 A) && (a0k 0 (shs Lp) && (arB A (shs Lp) && a0w A en))):=by
  unfold lkB;rw [a0e,a4t,Bool.and_assoc]
 rw [hr,hlk];refine yEn Tryz.func73 Tryz.ntmps73 (by kernel_rfl) (by kernel_rfl) rfl rfl ?_;have hS:=St.start w;by_cases hn:(Lp.length:Int)=l7 A;rotate_left
 ·have hn':(!decide ((Lp.length:Int)=l7 A))=true:=by rw [xh9 hn];rfl
  rw [xh9 hn,xl1]
  repeat' (first|(with_reducible apply a5 a4);rfl;rfl;rfl|(with_reducible apply a6);rfl;(apply Ld.sl a4;rfl;exact hS.blkC 0 rfl rfl);rfl|refine yDn (by with_reducible constructor) ?_|(with_reducible apply f8);rfl;rfl|(with_reducible apply d8 hS);rfl;rfl;rfl;clear hS;intro g w' hS|(with_reducible apply b5 hS);rfl;rfl;rfl;refine ⟨_,hca _ (hA.now hS),?_⟩;clear hS;intro w' hS)
  (focus ((with_reducible apply a8 _ _ _ (by kernel_rfl) (by kernel_rfl) hS);(repeat' (first|(first|(with_reducible apply i4 a4);rfl;rfl|(with_reducible apply i6);rfl;(intro wd hd;replace hd:St _ _ wd _:=hd;(apply Ld.sl a4;rfl;exact hd.blkC 0 rfl rfl));rfl|(first|(with_reducible apply a0S);(iterate 4 rfl);assumption;rfl|(with_reducible apply l6);rfl;assumption;rfl;rfl))|(with_reducible apply b9);rfl;rfl;rfl;refine ⟨_,fun wd hd=>hpag _ (hA.now hd),?_⟩));all_goals ((with_reducible apply l3);intro w' hS';clear hS;have hS:=hS';clear hS')))
  repeat' (first|(with_reducible apply a5 a4);rfl;rfl;rfl|refine yDn (by with_reducible constructor) ?_|(with_reducible apply a9);rfl;rfl)
  (refine d4 rfl ?_)
  exact ⟨rfl,hS.sub (xh8 _)⟩
 have hn':(!decide ((Lp.length:Int)=l7 A))=false:=by rw [xh7 hn];rfl
 rw [xh7 hn,xl0]
 cases hri:a0k 0 (shs Lp) with
 |false=>
  simp only [hri] at hrise;rw [xl1]
  repeat' (first|(with_reducible apply a5 a4);rfl;rfl;rfl|(with_reducible apply a6);rfl;(apply Ld.sl a4;rfl;exact hS.blkC 0 rfl rfl);rfl|refine yDn (by with_reducible constructor) ?_|(with_reducible apply f8);rfl;rfl|(with_reducible apply d8 hS);rfl;rfl;rfl;clear hS;intro g w' hS|(with_reducible apply b5 hS);rfl;rfl;rfl;refine ⟨_,hca _ (hA.now hS),?_⟩;clear hS;intro w' hS)
  (focus ((with_reducible apply a8 _ _ _ (by kernel_rfl) (by kernel_rfl) hS);(repeat' (first|(first|(with_reducible apply i4 a4);rfl;rfl|(with_reducible apply i6);rfl;(intro wd hd;replace hd:St _ _ wd _:=hd;(apply Ld.sl a4;rfl;exact hd.blkC 0 rfl rfl));rfl|(first|(with_reducible apply p7);(iterate 4 rfl);assumption|(with_reducible apply l2);rfl;assumption;rfl;rfl))|(with_reducible apply b9);rfl;rfl;rfl;refine ⟨_,fun wd hd=>hpag _ (hA.now hd),?_⟩|(with_reducible apply b9);rfl;rfl;rfl;refine ⟨_,fun wd hd=>hrise _ (hL.now hd),?_⟩));all_goals ((with_reducible apply l3);intro w' hS';clear hS;have hS:=hS';clear hS')))
  repeat' (first|(with_reducible apply a5 a4);rfl;rfl;rfl|refine yDn (by with_reducible constructor) ?_|(with_reducible apply a9);rfl;rfl)
  (refine d4 rfl ?_)
  exact ⟨rfl,hS.sub (xh8 _)⟩
 |true=>
 simp only [hri] at hrise;rw [xl0]
 repeat' (first|(with_reducible apply a5 a4);rfl;rfl;rfl|(with_reducible apply a6);rfl;(apply Ld.sl a4;rfl;exact hS.blkC 0 rfl rfl);rfl|refine yDn (by with_reducible constructor) ?_|(with_reducible apply f8);rfl;rfl|(with_reducible apply d8 hS);rfl;rfl;rfl;clear hS;intro g w' hS|(with_reducible apply b5 hS);rfl;rfl;rfl;refine ⟨_,hca _ (hA.now hS),?_⟩;clear hS;intro w' hS)
 (focus ((with_reducible apply a8 _ _ _ (by kernel_rfl) (by kernel_rfl) hS);(repeat' (first|(first|(with_reducible apply i4 a4);rfl;rfl|(with_reducible apply i6);rfl;(intro wd hd;replace hd:St _ _ wd _:=hd;(apply Ld.sl a4;rfl;exact hd.blkC 0 rfl rfl));rfl|(first|(with_reducible apply p7);(iterate 4 rfl);assumption|(with_reducible apply l2);rfl;assumption;rfl;rfl))|(with_reducible apply b9);rfl;rfl;rfl;refine ⟨_,fun wd hd=>hpag _ (hA.now hd),?_⟩|(with_reducible apply b9);rfl;rfl;rfl;refine ⟨_,fun wd hd=>hrise _ (hL.now hd),?_⟩));all_goals ((with_reducible apply l3);intro w' hS';clear hS;have hS:=hS';clear hS')))
 repeat' (first|(with_reducible apply a5 a4);rfl;rfl;rfl|refine yDn (by with_reducible constructor) ?_|(with_reducible apply f8);rfl;rfl)
 refine a2E hS 4 [1] rfl (Lp.length) (fun i=>((shs Lp).take i).all (fun s=>a08 A s.page)=true) 0 rfl (xf0 _) (by (rfl)) ?_;rintro i w1 hi hall hS';clear hS;have hS:=hS';clear hS';by_cases hlt:i < Lp.length
 ·obtain ⟨x,hx⟩:=l9 (l:=Lp) (i:=i) (by omega);have hrow:=i7 (f:=fun p=>shC p.1 p.2) hx;obtain ⟨b,off,rfl,hro⟩:=hsl.at_ (i:=i) hlt;have hsx:=a1C hx;obtain ⟨S,u⟩:=x;dsimp only [shC] at hrow hsx;have hat2:=fun w h=>hat w S.page h;have hz1:=fun h=>a65 (A:=A) (p:=S.page) h;have hz2:=fun h=>a5E (A:=A) (p:=S.page) h
  repeat' (first|(with_reducible apply a5 a4);rfl;rfl;rfl|(with_reducible apply a6);rfl;(apply Ld.sl a4;rfl;exact hS.blkC 0 rfl rfl);rfl|refine yDn (by with_reducible constructor) ?_|(with_reducible apply b6);rfl;all_goals (intro hb hp;try (exfalso;omega)))
  refine a4n 15 rfl hS (by kernel_rfl) ?_;intro wh hh;clear hS;have hS:=hh;clear hh
  ((with_reducible apply i3 (nn 0) a4);rfl;kernel_rfl;exact (fun _ _ _ h=>h);exact hS;rfl;rfl)
  ((with_reducible apply n9 (nn 1));rfl;kernel_rfl;exact (fun _ _ _ h=>h);exact hS;rfl;(intro wd hd;replace hd:St _ _ wd _:=hd;(apply Ld.sl a4;rfl;exact hd.blkC 0 rfl rfl));rfl)
  ((with_reducible apply i3 (nn 2) a4);rfl;kernel_rfl;exact (fun _ _ _ h=>h);exact hS;rfl;rfl)
  ((with_reducible apply n9 (nn 3));rfl;kernel_rfl;exact (fun _ _ _ h=>h);exact hS;rfl;(intro wd hd;replace hd:St _ _ wd _:=hd;(apply Ld.sl a4;rfl;exact hd.blkC 0 rfl rfl));rfl)
  ((with_reducible apply i3 (nn 4) a4);rfl;kernel_rfl;exact (fun _ _ _ h=>h);exact hS;rfl;rfl)
  ((with_reducible apply a9U (nn 5) a4);rfl;kernel_rfl;kernel_rfl;kernel_rfl;exact (fun _ _ _ _ h=>h);exact hS;rfl;rfl;rfl;rfl;omega;rfl)
  ((with_reducible apply i3 (nn 6) a4);rfl;kernel_rfl;exact (fun _ _ _ h=>h);exact hS;rfl;rfl)
  ((with_reducible apply n9 (nn 7));rfl;kernel_rfl;exact (fun _ _ _ h=>h);exact hS;rfl;(intro wd hd;replace hd:St _ _ wd _:=hd;(apply Ld.sc a4;rfl;exact hd.roC0 (by assumption) (by assumption) rfl));rfl)
  refine a5t (i:=8) (j:=12) (by kernel_rfl) ?_ ?_
  ·refine o8 rfl (a0m (first:=[]) (caps:=[]) rfl rfl (hat2 _ (hA.now hS))) rfl ?_;rintro _ w' ⟨rfl,hS'⟩;replace hS:=hS.transA hS';simp only [a1P] at hS;clear hS';refine ⟨hS,?_⟩
   ((with_reducible apply i3 (nn 9) a4);rfl;kernel_rfl;exact (fun _ _ _ h=>h);exact hS;rfl;rfl)
   ((with_reducible apply i3 (nn 10) a4);rfl;kernel_rfl;exact (fun _ _ _ h=>h);exact hS;rfl;rfl)
   ((with_reducible apply i3 (nn 11) a4);rfl;kernel_rfl;exact (fun _ _ _ h=>h);exact hS;rfl;rfl)
   refine s7 (i:=12) (by kernel_rfl) ?_;refine o8 rfl (s9 hS a4 rfl rfl) rfl ?_;rintro _ w' ⟨g,rfl,hS'⟩;clear hS;have hS:=hS';clear hS';refine ⟨hS.drop,?_⟩;refine s7 (i:=13) (by kernel_rfl) ?_;refine t4 (Φ:=fun _ w'=>St _ _ w' _) rfl (p8 hS a4 (i:=0) rfl rfl rfl rfl rfl (xe8 rfl) (xb8.1 rfl)) ?_;intro _ w' hS';simp only [List.set] at hS';clear hS;have hS:=hS';clear hS';refine ⟨hS.drop,?_⟩
   ((with_reducible apply i3 (nn 14) a4);rfl;kernel_rfl;exact (fun _ _ _ h=>h);exact hS.drop;rfl;rfl)
   refine a0v (by kernel_rfl) ?_
   cases ha:a08 A S.page with
   |true=>
    obtain ⟨hz3,hz4⟩:=hz1 ha
    repeat' (first|(with_reducible apply a5 a4);rfl;rfl;rfl|(with_reducible apply a6);rfl;(apply Ld.sc a4;rfl;exact hS.blkC 0 rfl rfl);rfl|(with_reducible apply o9);rfl;rfl;omega;omega;rfl|refine yDn (by with_reducible constructor) ?_|(with_reducible apply e9);(iterate 4 rfl);assumption|(with_reducible apply a7);rfl;assumption;rfl;rfl|(with_reducible apply f8);rfl;assumption)
    exact a1h (i + 1) (by exact Fr.sub_of rfl) (by omega) (a1v hall hsx ha) (by omega) hS.drop
   |false=>
    rw [show arB A (shs Lp)=false from a8W hsx ha,xl1];rcases hz2 ha with hz|hz
    ·repeat' (first|(with_reducible apply a5 a4);rfl;rfl;rfl|refine yDn (by with_reducible constructor) ?_|(with_reducible apply o4);(iterate 4 rfl);assumption;rfl|(with_reducible apply d9);rfl;assumption;rfl;rfl|(with_reducible apply a9);rfl;rfl)
     (refine d4 rfl ?_)
     exact ⟨rfl,hS.sub (xh8 _)⟩
    ·have hz3:=hz.1;have hz4:=hz.2
     repeat' (first|(with_reducible apply a5 a4);rfl;rfl;rfl|(with_reducible apply a6);rfl;(apply Ld.sc a4;rfl;exact hS.blkC 0 rfl rfl);rfl|refine yDn (by with_reducible constructor) ?_|(with_reducible apply e9);(iterate 4 rfl);assumption|(with_reducible apply a7);rfl;assumption;rfl;rfl|(with_reducible apply a9);rfl;assumption)
     (refine d4 rfl ?_)
     exact ⟨rfl,hS.sub (xh8 _)⟩
  ·refine o8 rfl (s9 hS a4 rfl rfl) rfl ?_;rintro _ w' ⟨g,rfl,hS'⟩;clear hS;have hS:=hS';clear hS';refine ⟨hS.drop,?_⟩;refine s7 (i:=8) (by kernel_rfl) ?_;refine o8 rfl (a0m (first:=[]) (caps:=[]) rfl rfl (hat2 _ (hA.now hS))) rfl ?_;rintro _ w' ⟨rfl,hS'⟩;replace hS:=hS.transA hS';simp only [a1P] at hS;clear hS';refine ⟨hS.drop,?_⟩
   ((with_reducible apply i3 (nn 9) a4);rfl;kernel_rfl;exact (fun _ _ _ h=>h);exact hS.drop;rfl;rfl)
   ((with_reducible apply i3 (nn 10) a4);rfl;kernel_rfl;exact (fun _ _ _ h=>h);exact hS.drop;rfl;rfl)
   ((with_reducible apply i3 (nn 11) a4);rfl;kernel_rfl;exact (fun _ _ _ h=>h);exact hS.drop;rfl;rfl)
   refine s7 (i:=13) (by kernel_rfl) ?_;refine t4 (Φ:=fun _ w'=>St _ _ w' _) rfl (p8 hS a4 (i:=0) rfl rfl rfl rfl rfl (xe8 rfl) (xb8.1 rfl)) ?_;intro _ w' hS';simp only [List.set] at hS';clear hS;have hS:=hS';clear hS';refine ⟨hS.drop,?_⟩
   ((with_reducible apply i3 (nn 14) a4);rfl;kernel_rfl;exact (fun _ _ _ h=>h);exact hS.drop;rfl;rfl)
   refine a0v (by kernel_rfl) ?_
   cases ha:a08 A S.page with
   |true=>
    obtain ⟨hz3,hz4⟩:=hz1 ha
    repeat' (first|(with_reducible apply a5 a4);rfl;rfl;rfl|(with_reducible apply a6);rfl;(apply Ld.sc a4;rfl;exact hS.blkC 0 rfl rfl);rfl|(with_reducible apply o9);rfl;rfl;omega;omega;rfl|refine yDn (by with_reducible constructor) ?_|(with_reducible apply e9);(iterate 4 rfl);assumption|(with_reducible apply a7);rfl;assumption;rfl;rfl|(with_reducible apply f8);rfl;assumption)
    exact a1h (i + 1) (by exact Fr.sub_of rfl) (by omega) (a1v hall hsx ha) (by omega) hS.drop
   |false=>
    rw [show arB A (shs Lp)=false from a8W hsx ha,xl1];rcases hz2 ha with hz|hz
    ·repeat' (first|(with_reducible apply a5 a4);rfl;rfl;rfl|refine yDn (by with_reducible constructor) ?_|(with_reducible apply o4);(iterate 4 rfl);assumption;rfl|(with_reducible apply d9);rfl;assumption;rfl;rfl|(with_reducible apply a9);rfl;rfl)
     (refine d4 rfl ?_)
     exact ⟨rfl,hS.sub (xh8 _)⟩
    ·have hz3:=hz.1;have hz4:=hz.2
     repeat' (first|(with_reducible apply a5 a4);rfl;rfl;rfl|(with_reducible apply a6);rfl;(apply Ld.sc a4;rfl;exact hS.blkC 0 rfl rfl);rfl|refine yDn (by with_reducible constructor) ?_|(with_reducible apply e9);(iterate 4 rfl);assumption|(with_reducible apply a7);rfl;assumption;rfl;rfl|(with_reducible apply a9);rfl;assumption)
     (refine d4 rfl ?_)
     exact ⟨rfl,hS.sub (xh8 _)⟩
 have hal:arB A (shs Lp)=true:=a4j hall (by rw [a0e];omega);rw [hal,xl0];have hate:=fun w h=>hat w (en.tdiv 16) h
 cases hf:k6 A (en.tdiv 16) with
 |none=>
  simp only [hf] at hate;have hE:a0w A en=false:=by unfold a0w;rw [hf];simp
  rw [hE]
  repeat' (first|(with_reducible apply a5 a4);rfl;rfl;rfl|(with_reducible apply a6);rfl;(first|apply Ld.sc a4;rfl;exact hS.blkC 0 rfl rfl|apply Ld.sl a4;rfl;exact hS.blkC 0 rfl rfl);rfl|refine yDn (by with_reducible constructor) ?_|(with_reducible apply o4);(iterate 4 rfl);rfl;rfl|(with_reducible apply d9);rfl;rfl;rfl;rfl|(with_reducible apply a9);rfl;rfl|(with_reducible apply b8 hS a4);rfl;rfl;rfl;clear hS;intro g w' hS|(with_reducible apply b7 hS a4 (i:=0));(iterate 8 rfl);exact (rfl:_=[_,_,_,_]);clear hS;intro w' hS;simp only [List.set] at hS|(with_reducible apply b6);rfl;all_goals (intro hb hp;try (exfalso;omega))|(with_reducible apply a1y);rfl;rfl;omega;omega;omega;rfl|(with_reducible apply b5 hS);rfl;rfl;rfl;refine ⟨_,hate _ (hA.now hS),?_⟩;clear hS;intro w' hS)
  (refine d4 rfl ?_)
  exact ⟨rfl,hS.sub (xh8 _)⟩
 |some a=>
  simp only [hf] at hate;obtain ⟨hok2,hp1⟩:=a2P hc hf;have hen0:0<=en:=by
   by_cases h:0<=en
   ·exact h
   ·exfalso;have e:en.tdiv 16=-((-en).tdiv 16):=by rw [Int.neg_tdiv,Int.neg_neg]
    rw [e,xj9 (by omega)] at hp1;omega
  obtain ⟨pg,n,prot,z⟩:=a;by_cases he:en.tmod 8=0
  ·by_cases h2:2<=prot
   ·have hE:a0w A en=true:=by unfold a0w;rw [hf,xh7 ⟨hen0,he⟩];simp [h2]
    have hpr:decide (prot < 2)=false:=xh9 (by omega);have he8:(!decide (en.tmod 8=0))=false:=by rw [xh7 he];rfl
    rw [hE]
    repeat' (first|(with_reducible apply a5 a4);rfl;rfl;rfl|(with_reducible apply a6);rfl;(first|apply Ld.sc a4;rfl;(first|exact hS.blkC 0 rfl rfl|exact hS.blkC 1 rfl rfl)|apply Ld.sl a4;rfl;exact hS.blkC 0 rfl rfl);rfl|refine yDn (by with_reducible constructor) ?_|((with_reducible apply e9);(iterate 4 rfl);first|rfl|assumption)|(with_reducible apply a7);rfl;(first|rfl|assumption);rfl;rfl|(with_reducible apply f8);rfl;assumption|(with_reducible apply b8 hS a4);rfl;rfl;rfl;clear hS;intro g w' hS|(with_reducible apply b7 hS a4 (i:=0));(iterate 8 rfl);exact (rfl:_=[_,_,_,_]);clear hS;intro w' hS;simp only [List.set] at hS|(with_reducible apply b6);rfl;all_goals (intro hb hp;try (exfalso;omega))|(with_reducible apply a1F);rfl;rfl;omega;rfl|(with_reducible apply a1y);rfl;rfl;omega;omega;omega;rfl|(with_reducible apply b5 hS);rfl;rfl;rfl;refine ⟨_,hate _ (hA.now hS),?_⟩;clear hS;intro w' hS)
    (refine d4 rfl ?_)
    exact ⟨rfl,hS.sub (xh8 _)⟩
   ·have hE:a0w A en=false:=by unfold a0w;rw [hf];simp [h2]
    have hpr:decide (prot < 2)=true:=xh7 (by omega);have he8:(!decide (en.tmod 8=0))=false:=by rw [xh7 he];rfl
    rw [hE]
    repeat' (first|(with_reducible apply a5 a4);rfl;rfl;rfl|(with_reducible apply a6);rfl;(first|apply Ld.sc a4;rfl;(first|exact hS.blkC 0 rfl rfl|exact hS.blkC 1 rfl rfl)|apply Ld.sl a4;rfl;exact hS.blkC 0 rfl rfl);rfl|refine yDn (by with_reducible constructor) ?_|((with_reducible apply e9);(iterate 4 rfl);first|rfl|assumption)|(with_reducible apply a7);rfl;(first|rfl|assumption);rfl;rfl|(with_reducible apply a9);rfl;assumption|(with_reducible apply b8 hS a4);rfl;rfl;rfl;clear hS;intro g w' hS|(with_reducible apply b7 hS a4 (i:=0));(iterate 8 rfl);exact (rfl:_=[_,_,_,_]);clear hS;intro w' hS;simp only [List.set] at hS|(with_reducible apply b6);rfl;all_goals (intro hb hp;try (exfalso;omega))|(with_reducible apply a1F);rfl;rfl;omega;rfl|(with_reducible apply a1y);rfl;rfl;omega;omega;omega;rfl|(with_reducible apply b5 hS);rfl;rfl;rfl;refine ⟨_,hate _ (hA.now hS),?_⟩;clear hS;intro w' hS)
    (refine d4 rfl ?_)
    exact ⟨rfl,hS.sub (xh8 _)⟩
  ·have hE:a0w A en=false:=by unfold a0w;rw [xh9 (fun h=>he h.2)];rfl
   have he8:(!decide (en.tmod 8=0))=true:=by rw [xh9 he];rfl
   rw [hE]
   repeat' (first|(with_reducible apply a5 a4);rfl;rfl;rfl|(with_reducible apply a6);rfl;(first|apply Ld.sc a4;rfl;(first|exact hS.blkC 0 rfl rfl|exact hS.blkC 1 rfl rfl)|apply Ld.sl a4;rfl;exact hS.blkC 0 rfl rfl);rfl|refine yDn (by with_reducible constructor) ?_|(with_reducible apply e9);(iterate 4 rfl);rfl|(with_reducible apply o4);(iterate 4 rfl);assumption;rfl|(with_reducible apply d9);rfl;assumption;rfl;rfl|(with_reducible apply a7);rfl;rfl;rfl;rfl|(with_reducible apply a9);rfl;rfl|(with_reducible apply b8 hS a4);rfl;rfl;rfl;clear hS;intro g w' hS|(with_reducible apply b7 hS a4 (i:=0));(iterate 8 rfl);exact (rfl:_=[_,_,_,_]);clear hS;intro w' hS;simp only [List.set] at hS|(with_reducible apply b6);rfl;all_goals (intro hb hp;try (exfalso;omega))|(with_reducible apply a1F);rfl;rfl;omega;rfl|(with_reducible apply a1y);rfl;rfl;omega;omega;omega;rfl|(with_reducible apply b5 hS);rfl;rfl;rfl;refine ⟨_,hate _ (hA.now hS),?_⟩;clear hS;intro w' hS)
   (refine d4 rfl ?_)
   exact ⟨rfl,hS.sub (xh8 _)⟩
structure Ob where
 im:Im
 vn:Value
 vs:Value
 vy:Value
 vr:Value
 at_:Int
def imC (I:Im) (vn vs vy vr:Value):List Value:=[.string ⟨I.name.toArray⟩,vn,vs,vy,vr,.int .i64 I.entry]
abbrev ObV (w:World) (o:Ob):Prop:=ImV w o.im o.vn o.vs o.vy o.vr
def stK (l:List UInt8):Value:=.string ⟨l.toArray⟩
def PlI (es:Array MapEntry) (os:List Ob):Prop:=∃ L,MapG .string es L/\L.map (·.1)=os.map fun o=>stK o.im.name
theorem PlI.mem {es:Array MapEntry} {os:List Ob} {L:List (Value×Value)} (h:L.map (·.1)=os.map fun o=>stK o.im.name) (nm:List UInt8):(∃ v,(stK nm,v) ∈ L) ↔ ∃ o ∈ os,o.im.name=nm:=by
 constructor
 ·rintro ⟨v,hv⟩;have:stK nm ∈ L.map (·.1):=xi0.2 ⟨_,hv,rfl⟩;rw [h] at this;obtain ⟨o,ho,e⟩:=xi0.1 this;unfold stK at e;exact ⟨o,ho,by simpa using e⟩
 ·rintro ⟨o,ho,rfl⟩;have:stK o.im.name ∈ L.map (·.1):=by rw [h];exact xi0.2 ⟨o,ho,rfl⟩
  obtain ⟨p,hp,e⟩:=xi0.1 this;exact ⟨p.2,by rw [<- e];exact hp⟩
def a43 (os:List Ob) (nm:List UInt8):Bool:=os.any fun o=>decide (o.im.name=nm)
theorem a42 {os:List Ob} {nm:List UInt8}:a43 os nm=true ↔ ∃ o ∈ os,o.im.name=nm:=by unfold a43;simp
def a0s (I:Im):Int:=match I.segs.getLast? with
 |some s=>s.pg + s.n
 |none=>0
def a7V (os:List Ob) (next:Int) (I:Im) (vn vs vy vr:Value):List Ob:=if a43 os I.name=true then os else os++[⟨I,vn,vs,vy,vr,next * 16⟩]
def a2U (os:List Ob) (next:Int) (I:Im):Int:=if a43 os I.name=true then next else next + a0s I
structure ImF (F:Nat->Prop) (w:World) (o:Ob):Prop where
 needs:Sl F w 1 o.vn (o.im.needs.map stC)
 segs:Sl F w 5 o.vs (o.im.segs.map sgC)
 syms:Sl F w 2 o.vy (o.im.syms.map syC)
 rels:Sl F w 3 o.vr (o.im.rels.map rlC)
theorem ImF.now {F:Nat->Prop} {w w':World} {Γ:List Asr} {o:Ob} (h:ImF F w o) (hS:St F w w' Γ):ObV w' o:=⟨h.needs.now hS,h.segs.now hS,h.syms.now hS,h.rels.now hS⟩
def b2U (o:Ob):Value:=.agg (imC o.im o.vn o.vs o.vy o.vr).toArray
def OfB (B:List Ob) (o:Ob):Prop:=∃ a:Int,{ o with at_:=a } ∈ B
structure b2W (I:Im):Prop where
 s1:1<=I.segs.length
 s2:I.segs.all b1O=true
 s3:I.segs.length<=6
def a0L (s:List Ob×Int) (o:Ob):List Ob×Int:=(a7V s.1 s.2 o.im o.vn o.vs o.vy o.vr,a2U s.1 s.2 o.im)
structure AllI (B:List Ob) (s:List Ob×Int):Prop where
 sub:∀ o ∈ s.1,OfB B o
 nd:(s.1.map fun o=>o.im.name).Nodup
 lo:1<=s.2
 hi:s.2<=1 + 255 * s.1.length
theorem a3O {α:Type} [DecidableEq α]:∀ {l m:List α},l.Nodup->(∀ x ∈ l,x ∈ m)->l.length<=m.length
 |[],_,_,_=>by simp
 |a::l,m,h,hs=>by
  rw [List.nodup_cons] at h;have ha:=hs a (by simp);have:=a3O (l:=l) (m:=m.erase a) h.2 fun x hx=>by
   refine (List.mem_erase_of_ne ?_).2 (hs x (xb6 _ hx));rintro rfl;exact h.1 hx
  rw [List.length_erase_of_mem ha] at this;have hm:0 < m.length:=List.length_pos_of_mem ha;rw [xd7];omega
theorem AllI.len {B:List Ob} {s:List Ob×Int} (h:AllI B s):s.1.length<=B.length:=by
 have:=a3O (m:=B.map fun o=>o.im.name) h.nd fun x hx=>by
  obtain ⟨o,ho,rfl⟩:=xi0.1 hx;obtain ⟨a,ha⟩:=h.sub o ho;exact xi0.2 ⟨_,ha,rfl⟩
 simpa using this
theorem a5H {I:Im} (h:b2W I):0<=a0s I/\a0s I<=255:=by
 unfold a0s
 split
 ·rename_i s hs;have:=xb8.1 h.s2 s (List.mem_of_getLast? hs);unfold b1O at this;have:=xg4 this;omega
 ·omega
theorem AllI.step {B:List Ob} {s:List Ob×Int} {o:Ob} (h:AllI B s) (ho:o ∈ B) (hI:b2W o.im):AllI B (a0L s o):=by
 unfold a0L a7V a2U;by_cases hp:a43 s.1 o.im.name=true
 ·rw [xd8 hp,xd8 hp];exact h
 ·rw [xd9 hp,xd9 hp];have hl:=a5H hI;refine ⟨fun x hx=>?_,?_,?_,?_⟩
  ·rcases xd2.1 hx with h1|h1
   ·exact h.sub x h1
   ·have:x=⟨o.im,o.vn,o.vs,o.vy,o.vr,s.2 * 16⟩:=by simpa using h1
    exact ⟨o.at_,by rw [this];exact ho⟩
  ·rw [xk2,xk3];refine ⟨h.nd,by simp,fun a ha b hb=>?_⟩;have:b=o.im.name:=by simpa using hb
   subst this;rintro rfl;obtain ⟨x,hx,e⟩:=xi0.1 ha;exact hp (a42.2 ⟨x,hx,e⟩)
  ·have:=h.lo;show 1<=s.2 + a0s o.im;omega
  ·have:=h.hi;show s.2 + a0s o.im<=1 + 255 * ((s.1++[_]).length:Int);rw [xd6];simp only [xd7,xa2];omega
section
variable {F:Nat->Prop} {w0 w w':World} {Γ Δ:List Asr}
end
structure Bx where
 g:Nat
 pg:Int
 data:List UInt8
 p:Option Addr
 c:Nat
 fx:List Fx
def Bx.v (b:Bx):Value:=.slice b.p b.fx.length b.c
def AOk (A:List Ar):Prop:=∀ a ∈ A,a.z=false/\0<=a.pg/\0<=a.n/\a.pg + a.n<=200000/\0<=a.prot/\a.prot<=3
theorem AOk.step {A:List Ar} {a:Ar} (h:AOk A) (ha:a.z=false/\0<=a.pg/\0<=a.n/\a.pg + a.n<=200000/\0<=a.prot/\a.prot<=3):AOk (a4H A a):=by
 unfold a4H
 split
 ·rename_i b hb;have hbm:=h b (List.mem_of_getLast? hb)
  split
  ·rename_i hal;unfold Ar.alike at hal;intro x hx;rcases xd2.1 hx with h1|h1
   ·exact h x ((List.dropLast_sublist A).subset h1)
   ·obtain rfl:x={ b with n:=b.n + a.n }:=by simpa using h1
    have e1:b.fin=a.pg:=hal.1;unfold Ar.fin at e1;obtain ⟨q1,q2,q3,q4,q5,q6⟩:=hbm;obtain ⟨p1,p2,p3,p4,p5,p6⟩:=ha;refine ⟨q1,q2,?_,?_,q5,q6⟩
    ·show 0<=b.n + a.n;omega
    ·show b.pg + (b.n + a.n)<=200000;omega
  ·intro x hx;rcases xd2.1 hx with h1|h1
   ·exact h x h1
   ·obtain rfl:x=a:=by simpa using h1
    exact ha
 ·intro x hx;rcases xd2.1 hx with h1|h1
  ·exact h x h1
  ·obtain rfl:x=a:=by simpa using h1
   exact ha
def a1u:List Ob->Int
 |[]=>0
 |o::l=>a0s o.im + a1u l
theorem a69 (l m:List Ob):a1u (l++m)=a1u l + a1u m:=by
 induction l with
 |nil=>simp [a1u]
 |cons o l ih=>simp only [List.cons_append,a1u,ih];omega
structure PkI (s:List Ob×Int):Prop where
 nx:s.2=1 + a1u s.1
 at_:∀ (i:Nat) (o:Ob),s.1[i]?=some o->o.at_=(1 + a1u (s.1.take i)) * 16
theorem PkI.start:PkI ([],1):=⟨rfl,fun i o h=>by simp at h⟩
theorem PkI.step {s:List Ob×Int} (o:Ob) (h:PkI s):PkI (a0L s o):=by
 unfold a0L a7V a2U;by_cases hp:a43 s.1 o.im.name=true
 ·rw [xd8 hp,xd8 hp];exact h
 ·rw [xd9 hp,xd9 hp];refine ⟨?_,fun i x hx=>?_⟩
  ·show s.2 + a0s o.im=1 + a1u (s.1++[_]);rw [a69,h.nx];simp only [a1u];omega
  ·dsimp only at hx |-;rcases xg7 i s.1.length with hi|hi
   ·rw [xa5 hi] at hx;rw [List.take_append_of_le_length (by omega)];exact h.at_ i x hx
   ·rw [xa4 hi] at hx;obtain ⟨h1,h2⟩:=xa6.1 hx;simp only [xl2] at h1;obtain rfl:i=s.1.length:=by omega
    simp only [Nat.sub_self,xi3] at h2;subst h2;rw [List.take_left];show s.2 * 16=_;rw [h.nx]
theorem a2D {P:Program} {n:Nat} {ds:List Deferred} {E:Fr} {w:World} {Q:Exit->Act->World->Prop} {ops:Array Oper} {d:Nat} {ty:TypeId} {pos:String} {after:Array Edge} {i:Nat} (_C:Nn i) {T:Tab} {S:World->Prop} {fuel:Nat} {li:Array Bool} (hT:TabOk P T) {t s:Nat} {fs:List (Nat×Nat×Bool)} {z L:List Value} {parts:Array (Nat×Operand)} {ps:List (Nat×Value)} (hi:ops[i]?=some ⟨some d,.build t parts,ty,pos,after,none⟩) (hs:Region.noSelect ops=true) (hf:Region.free .any ops li i=true) (hr:(Region.ready .any ops li).contains i=true)
  (hQ:∀ c (a:Act) w v,Q (.panic c) (a.put (some d) v) w->Q (.panic c) a w) (hS:S w) (ht:T.get t=some (.st s fs z)) (hp:evP E parts.toList=some ps) (hL:a0c (fun i=>(fs[i]?).map fun f=>(f.1,f.2.1)) z ps=some L) (hd:Nat.blt d n=true) (k:WA P ops Q S fuel (li.setIfInBounds i true) n ds ((d,.agg L.toArray)::E) w):WA P ops Q S (fuel + 1) li n ds E w :=
 a6t _C hi hs hf hr (fun c a w h=>hQ c a w _ h) hS (fun a ha=>a1W hT ht hp hL _ ha) hd k
end Go.Proofs.YtejnpppejalhfacGreat
namespace Go.Proofs.YtejnpppejalhfacGreat
set_option maxRecDepth 100000
set_option maxHeartbeats 8000000
open Go.RowKit Go.Sort Go.MapKept
structure MapN (es:Array MapEntry) (L:List (List UInt8×Int)):Prop where
 held:es.toList.map (fun e=>(e.key,e.val))=L.map fun p=>(Value.string ⟨p.1.toArray⟩,Value.int .i64 p.2)
 once:(L.map (·.1)).Nodup
theorem MapN.nil:MapN #[] []:=⟨rfl,by simp⟩
theorem b0C {a b:List UInt8} (h:Value.string ⟨a.toArray⟩=Value.string ⟨b.toArray⟩):a=b:=by
 simpa using h
theorem MapN.at_ {w:World} {r c:Nat} {es:Array MapEntry} {L:List (List UInt8×Int)} (h:MapN es L) (hr:w.heap[r]?=some (.map es c)):MapAt .string w r (L.map fun p=>(Value.string ⟨p.1.toArray⟩,Value.int .i64 p.2)):=by
 refine ⟨⟨es,c,hr,h.held⟩,fun p hp=>?_,?_⟩
 ·obtain ⟨q,_,rfl⟩:=xi0.1 hp;trivial
 ·rw [List.map_map];have:(Prod.fst ∘ fun p:List UInt8×Int=>(Value.string ⟨p.1.toArray⟩,Value.int .i64 p.2))=(fun x:List UInt8=>Value.string ⟨x.toArray⟩) ∘ (·.1):=rfl;rw [this,<- List.map_map];exact List.Pairwise.map _ (fun a b hab e=>hab (b0C e)) h.once
section
variable {P:Program} {n:Nat} {ds:List Deferred} {E:Fr} {w:World} {Q:Exit->Act->World->Prop} {ops:Array Oper} {rest:List Oper} {d:Nat} {ty:TypeId} {pos:String} {after:Array Edge} {F:Nat->Prop} {w0:World} {Γ:List Asr} {T:Tab}
end
end Go.Proofs.YtejnpppejalhfacGreat
namespace Go.Proofs.YtejnpppejalhfacGreat
set_option maxRecDepth 100000
set_option maxHeartbeats 8000000
open Go.RowKit Go.Sort
structure PlR (I:Im) (i:Nat):Prop where
 rels:∀ (k:Nat) (r:Rl),k < i->I.rels[k]?=some r->(0<=r.at_/\r.at_<=4080)/\∀ b:Int,0<=b->b < 8->(own I.segs (r.at_ + b)).isSome=true
 step:∀ (k:Nat) (q r:Rl),k + 1 < i->I.rels[k]?=some q->I.rels[k + 1]?=some r->q.at_ + 8<=r.at_
theorem PlR.zero (I:Im):PlR I 0:=⟨by intros;omega,by intros;omega⟩
theorem PlR.succ {I:Im} {i:Nat} {x:Rl} (h:PlR I i) (hx:I.rels[i]?=some x) (h1:0<=x.at_/\x.at_<=4080) (h2:∀ b:Int,0<=b->b < 8->(own I.segs (x.at_ + b)).isSome=true) (h3:∀ q,0 < i->I.rels[i - 1]?=some q->q.at_ + 8<=x.at_):PlR I (i + 1) where
 rels k r hk hr:=by
  by_cases e:k=i
  ·subst e;rw [hx] at hr;cases hr;exact ⟨h1,h2⟩
  ·exact h.rels k r (by omega) hr
 step k q r hk hq hr:=by
  by_cases e:k + 1=i
  ·subst e;rw [hx] at hr;cases hr;exact h3 q (by omega) (by simpa using hq)
  ·exact h.step k q r (by omega) hq hr
def kvI (o:Ob):Value×Value:=(stK o.im.name,b2U o)
def MapB (B:List Ob) (i:Nat) (L:List (Value×Value)):Prop:=(((B.take i).map fun o=>o.im.name).Nodup->L=(B.take i).map kvI)/\(¬ ((B.take i).map fun o=>o.im.name).Nodup->L.length < i)/\L.length<=i
theorem MapB.start (B:List Ob):MapB B 0 []:=⟨fun _=>rfl,fun h=>absurd (by simp) h,xc5 _⟩
theorem MapB.mem {B:List Ob} {i:Nat} {L:List (Value×Value)} (h:L=(B.take i).map kvI) (nm:List UInt8):(∃ v,(stK nm,v) ∈ L) ↔ nm ∈ (B.take i).map fun o=>o.im.name:=by
 rw [h];constructor
 ·rintro ⟨v,hv⟩;obtain ⟨o,ho,e⟩:=xi0.1 hv;have e1:=congrArg Prod.fst e;unfold kvI stK at e1;exact xi0.2 ⟨o,ho,by simpa using e1⟩
 ·intro hn;obtain ⟨o,ho,rfl⟩:=xi0.1 hn;exact ⟨b2U o,xi0.2 ⟨o,ho,rfl⟩⟩
theorem a6Z {α:Type} {l:List α} {x:α}:(l++[x]).Nodup ↔ l.Nodup/\x ∉ l:=by
 rw [xk3];constructor
 ·rintro ⟨h1,-,h3⟩;exact ⟨h1,fun h=>h3 x h x (by simp) rfl⟩
 ·rintro ⟨h1,h2⟩;refine ⟨h1,by simp,fun a ha b hb=>?_⟩;have:b=x:=by simpa using hb
  subst this;rintro rfl;exact h2 ha
theorem MapB.new {B:List Ob} {i:Nat} {L:List (Value×Value)} {o:Ob} (h:MapB B i L) (ho:B[i]?=some o) (hn:∀ v,(stK o.im.name,v) ∉ L):MapB B (i + 1) (L++[kvI o]):=by
 unfold MapB;rw [xj4,ho];simp only [Option.toList_some,xk2,xb0,List.map_nil,xd6,xd7,xa2];rw [a6Z];refine ⟨fun ⟨h1,h2⟩=>by rw [h.1 h1],fun hno=>?_,by have:=h.2.2;omega⟩;by_cases h1:((B.take i).map fun o=>o.im.name).Nodup
 ·exfalso;have hin:o.im.name ∈ (B.take i).map fun o=>o.im.name:=Classical.byContradiction fun hc=>hno ⟨h1,hc⟩;obtain ⟨v,hv⟩:=(MapB.mem (h.1 h1) o.im.name).2 hin;exact hn v hv
 ·have:=h.2.1 h1;omega
theorem MapB.old {B:List Ob} {i j:Nat} {L:List (Value×Value)} {o:Ob} {u:Value} {x:Value×Value} (h:MapB B i L) (ho:B[i]?=some o) (hu:(stK o.im.name,u) ∈ L):MapB B (i + 1) (L.set j x):=by
 unfold MapB;rw [xj4,ho];simp only [Option.toList_some,xk2,xb0,List.map_nil,List.length_set];rw [a6Z];refine ⟨fun ⟨h1,h2⟩=>absurd ((MapB.mem (h.1 h1) o.im.name).1 ⟨u,hu⟩) h2,fun hno=>?_,by have:=h.2.2;omega⟩;have:=h.2.2;omega
structure OrdI (B:List Ob) (ord:List Nat) (s:List Ob×Int):Prop where
 len:s.1.length=ord.length
 at_:∀ (i k:Nat),ord[i]?=some k->∃ (o:Ob) (a:Int),B[k]?=some o/\s.1[i]?=some { o with at_:=a }
theorem a8B {B:List Ob} (h:(B.map fun o=>o.im.name).Nodup) {i j:Nat} {a b:Ob} (ha:B[i]?=some a) (hb:B[j]?=some b) (he:a.im.name=b.im.name):i=j:=by
 obtain ⟨h1,rfl⟩:=xa6.1 ha;obtain ⟨h2,rfl⟩:=xa6.1 hb;unfold List.Nodup at h;rw [xc8] at h;rcases Nat.lt_trichotomy i j with hlt|heq|hlt
 ·exact absurd (by rw [xl3,xl3];exact he) (h i j (by simpa using h1) (by simpa using h2) hlt)
 ·exact heq
 ·exact absurd (by rw [xl3,xl3];exact he.symm) (h j i (by simpa using h2) (by simpa using h1) hlt)
theorem OrdI.mem {B:List Ob} {ord:List Nat} {s:List Ob×Int} {k:Nat} {o:Ob} (h:OrdI B ord s) (hn:(B.map fun o=>o.im.name).Nodup) (hk:B[k]?=some o):k ∈ ord ↔ a43 s.1 o.im.name=true:=by
 rw [a42];constructor
 ·intro hm;obtain ⟨i,hi⟩:=xc9.1 hm;obtain ⟨o',a,h1,h2⟩:=h.at_ i k hi;rw [hk] at h1
  cases h1
  exact ⟨_,xc1 h2,rfl⟩
 ·rintro ⟨x,hx,hxn⟩;obtain ⟨i,hi⟩:=xc9.1 hx;have hil:i < ord.length:=by have:=j8 hi;have:=h.len;omega
  obtain ⟨k',hk'⟩:=l9 (l:=ord) (i:=i) (by omega);obtain ⟨o',a,h1,h2⟩:=h.at_ i k' hk';rw [hi] at h2
  cases h2
  have:=a8B hn hk h1 hxn.symm;subst this;exact xc1 hk'
theorem OrdI.old {B:List Ob} {ord:List Nat} {s:List Ob×Int} {k:Nat} {o:Ob} (h:OrdI B ord s) (hn:(B.map fun o=>o.im.name).Nodup) (hk:B[k]?=some o) (hm:k ∈ ord):OrdI B ord (a0L s o):=by
 have:=(h.mem hn hk).1 hm;unfold a0L a7V a2U;rw [xd8 this,xd8 this];exact h
theorem OrdI.new {B:List Ob} {ord:List Nat} {s:List Ob×Int} {k:Nat} {o:Ob} (h:OrdI B ord s) (hn:(B.map fun o=>o.im.name).Nodup) (hk:B[k]?=some o) (hm:k ∉ ord):OrdI B (ord++[k]) (a0L s o):=by
 have hp:¬ a43 s.1 o.im.name=true:=fun hc=>hm ((h.mem hn hk).2 hc);unfold a0L a7V a2U;rw [xd9 hp,xd9 hp];refine ⟨by simp [h.len],fun i j hj=>?_⟩;rcases xg7 i ord.length with hi|hi
 ·rw [xa5 hi] at hj;obtain ⟨o',a,h1,h2⟩:=h.at_ i j hj;exact ⟨o',a,h1,by rw [xa5 (by rw [h.len];exact hi)];exact h2⟩
 ·rw [xa4 hi] at hj;obtain ⟨h1,h2⟩:=xa6.1 hj;simp only [xl2] at h1;obtain rfl:i=ord.length:=by omega
  simp only [Nat.sub_self,xi3] at h2;subst h2;exact ⟨o,s.2 * 16,hk,by rw [<- h.len,xa4 (by omega)];simp⟩
theorem OrdI.start {B:List Ob} {M:Ob} (h:B[0]?=some M):OrdI B [0] (a0L ([],1) M):=by
 refine ⟨rfl,fun i k hk=>?_⟩
 cases i with
 |zero=>
  obtain rfl:0=k:=by simpa using hk
  exact ⟨M,16,h,rfl⟩
 |succ i=>simp at hk
theorem eb (b:Bool) {c:Bool} (h:b=c):Value.bool b=.bool c:=by rw [h]
structure ObsI (w:World) (os:List Ob):Prop where
 v:∀ o ∈ os,ObV w o
 b:∀ o ∈ os,∃ b:Int,o.at_=b * 16/\1<=b/\b<=1800
 y:∀ o ∈ os,∀ s ∈ o.im.syms,-9223372036854775808<=o.at_ + s.at_/\o.at_ + s.at_<=9223372036854775807
 n:os.length<=7
 k:∀ o ∈ os,a9C o.im=0
theorem ObsI.now {w w':World} {os:List Ob} {Γ:List Asr} (h:ObsI w os) (hS:St nF w w' Γ):ObsI w' os:=⟨fun o ho=>(h.v o ho).now hS,h.b,h.y,h.n,h.k⟩
abbrev Bs8:=List UInt8
section
variable {α:Type} {one:Bs8->Option (α×Bs8)}
end
theorem wrap64_in {m:Int} (h1:-9223372036854775808<=m) (h2:m<=9223372036854775807):wrap64 m=m:=by unfold wrap64;omega
end Go.Proofs.YtejnpppejalhfacGreat
