/- Texts that the proof stands on, one behind the other: Lk1, Lk2, Lk3, Ke1, PlLnk3, Lk4, Lk5, PlLnk4. -/
import Derived.Test.YtejnpppejalhfabGreatPKernelPeeks4
namespace Go.Proofs.YtejnpppejalhfabGreat
set_option maxRecDepth 100000
set_option maxHeartbeats 8000000
open Go.RowKit Go.Sort
abbrev shA (s:Sh) (u:Value):Value:=.agg (shC s u).toArray
theorem a9g {S:Sh} {w:World} {u:Value} (hu:ShV w S u):Fn Tryz.prog 101 [shA S u] w (RBf (.bool (r7 S)) w):=by
 have bnd:=hu.bound
 obtain ⟨p,c,rfl⟩:=hu.len
 refine yEn Tryz.func101 Tryz.ntmps101 (by kernel_rfl) (by kernel_rfl) rfl rfl ?_
 have hS:=St.start w
 unfold shA shC
 by_cases h0:(1<=S.page/\S.page<=255)/\S.data.length=16
 rotate_left
 ·have hf:r7 S=false:=by unfold r7;rw [xh9 h0];rfl
  rw [hf]
  repeat' (first|((with_reducible apply b9 b8);rfl;rfl;rfl)|((with_reducible apply c9);rfl;(((with_reducible apply Loads.sc b8);rfl;((exact hS.blkC 0 rfl rfl))));rfl)|refine yDn (by with_reducible constructor) ?_|((with_reducible apply k6);(iterate 4 rfl);(assumption))|((with_reducible apply p9);(iterate 4 rfl);(first|rfl|assumption);rfl)|((with_reducible apply f9);rfl;(first|rfl|assumption);rfl;rfl)|((with_reducible apply e9);rfl;((assumption));rfl;rfl)|((with_reducible apply e8);rfl;(rfl))|((with_reducible apply k7 hS);rfl;rfl;rfl;clear hS;intro g w' hS)|((with_reducible apply m8);rfl;rfl;rfl;all_goals (intro hb hp;try (exfalso;omega)))|((with_reducible apply a0B);rfl;all_goals (intro hb hp;try (exfalso;omega))))
  all_goals (((refine j4 rfl ?_));exact ⟨rfl,hS.sub (xh2 _)⟩)
 have hr:r7 S=a3o 0 S.fixes:=by unfold r7;rw [xi0 h0];rfl
 rw [hr]
 repeat' (first|((with_reducible apply b9 b8);rfl;rfl;rfl)|((with_reducible apply c9);rfl;(first|((with_reducible apply Loads.sc b8);rfl;((exact hS.blkC 0 rfl rfl)))|((with_reducible apply Loads.sl b8);rfl;((exact hS.blkC 0 rfl rfl))));rfl)|refine yDn (by with_reducible constructor) ?_|((with_reducible apply k6);(iterate 4 rfl);(assumption))|((with_reducible apply e9);rfl;((assumption));rfl;rfl)|((with_reducible apply k7 hS);rfl;rfl;rfl;clear hS;intro g w' hS)|((with_reducible apply m8);rfl;rfl;rfl;all_goals (intro hb hp;try (exfalso;omega)))|((with_reducible apply a0B);rfl;all_goals (intro hb hp;try (exfalso;omega))))
 refine k9 (X:=Nat×Int) (fun x=>[(23,.int .i64 (x.1:Nat)),(3,.int .i64 x.2)]) [1,21,22] rfl (fun _=>[]) (fun x=>(x.1<=S.fixes.length/\0<=x.2/\x.2<=16)/\a3o 0 S.fixes=a3o x.2 (S.fixes.drop x.1)) (fun x=>S.fixes.length - x.1) (0,0) (by exact Fr.sub_of rfl) (by simp) hS ?_
 clear hS
 rintro ⟨i,free⟩ w1 ⟨⟨hi,hf0,hf1⟩,hok⟩ hS
 dsimp only [List.cons_append,List.nil_append] at hi hf0 hf1 hok hS |-
 by_cases hlt:i < S.fixes.length
 ·obtain ⟨x,hx⟩:=i9 (l:=S.fixes) (i:=i) (by omega)
  have hrow:=d9 (f:=fxC) hx
  obtain ⟨b,off,rfl,hro⟩:=hu.at_ (i:=i) hlt
  have hst:=a7E (free:=free) hx
  by_cases h1:free<=x.off/\x.off<=16/\x.bytes≠[]/\(x.bytes.length:Int)<=16 - x.off
  ·have ho:a37 free x=true:=xi0 h1
   have hb0:decide (x.bytes=[])=false:=xh9 h1.2.2.1
   rw [ho,xh8] at hst
   repeat' (first|((with_reducible apply b9 b8);rfl;rfl;rfl)|((with_reducible apply c9);rfl;(first|((with_reducible apply Loads.sc b8);rfl;((exact hS.blkC 0 rfl rfl)))|((with_reducible apply Loads.st b8);rfl;((exact hS.roR (by assumption) (by assumption)));rfl));rfl)|((with_reducible apply l5 b8);rfl;rfl;rfl;((rfl));((omega));rfl)|((with_reducible apply i7);rfl;rfl;omega;omega;rfl)|((with_reducible apply a0x);rfl;rfl;omega;omega;rfl)|refine yDn (by with_reducible constructor) ?_|((with_reducible apply k6);(iterate 4 rfl);(assumption))|((with_reducible apply e9);rfl;((assumption));rfl;rfl)|((with_reducible apply d6 hS b8);rfl;rfl;rfl;clear hS;intro g w' hS)|((with_reducible apply d5 hS b8 (i:=0));(iterate 8 rfl);((exact (rfl:_=[_,_])));clear hS;intro w' hS;simp only [List.set] at hS)|((with_reducible apply m8);rfl;rfl;rfl;all_goals (intro hb hp;try (exfalso;omega)))|((with_reducible apply d8);rfl;all_goals (intro hb hp;try (exfalso;omega))))
   refine f7 (i + 1,a1X x) (by exact Fr.sub_of rfl) ⟨⟨by show i + 1<=S.fixes.length;omega,by show 0<=a1X x;unfold a1X;omega,by show a1X x<=16;unfold a1X;omega⟩,by rw [hok,hst]⟩ hS.drop (by show S.fixes.length - (i + 1) < S.fixes.length - i;omega)
  ·have ho:a37 free x=false:=xh9 h1
   rw [ho,xh7] at hst
   by_cases hb1:x.bytes=[]
   ·have hb0:decide (x.bytes=[])=true:=xi0 hb1
    repeat' (first|((with_reducible apply b9 b8);rfl;rfl;rfl)|((with_reducible apply c9);rfl;(first|((with_reducible apply Loads.sc b8);rfl;((exact hS.blkC 0 rfl rfl)))|((with_reducible apply Loads.st b8);rfl;((exact hS.roR (by assumption) (by assumption)));rfl));rfl)|((with_reducible apply l5 b8);rfl;rfl;rfl;((rfl));((omega));rfl)|refine yDn (by with_reducible constructor) ?_|((with_reducible apply k6);(iterate 4 rfl);(assumption))|((with_reducible apply p9);(iterate 4 rfl);(first|rfl|assumption);rfl)|((with_reducible apply f9);rfl;(first|rfl|assumption);rfl;rfl)|((with_reducible apply e9);rfl;((assumption));rfl;rfl)|((with_reducible apply e8);rfl;(rfl))|((with_reducible apply d6 hS b8);rfl;rfl;rfl;clear hS;intro g w' hS)|((with_reducible apply d5 hS b8 (i:=0));(iterate 8 rfl);((exact (rfl:_=[_,_])));clear hS;intro w' hS;simp only [List.set] at hS)|((with_reducible apply m8);rfl;rfl;rfl;all_goals (intro hb hp;try (exfalso;omega)))|((with_reducible apply d8);rfl;all_goals (intro hb hp;try (exfalso;omega))))
    all_goals (((refine j4 rfl ?_));exact ⟨by rw [hok,hst],hS.sub (xh2 _)⟩)
   ·have hb0:decide (x.bytes=[])=false:=xh9 hb1
    repeat' (first|((with_reducible apply b9 b8);rfl;rfl;rfl)|((with_reducible apply c9);rfl;(first|((with_reducible apply Loads.sc b8);rfl;((exact hS.blkC 0 rfl rfl)))|((with_reducible apply Loads.st b8);rfl;((exact hS.roR (by assumption) (by assumption)));rfl));rfl)|((with_reducible apply l5 b8);rfl;rfl;rfl;((rfl));((omega));rfl)|((with_reducible apply i7);rfl;rfl;omega;omega;rfl)|((with_reducible apply a0x);rfl;rfl;omega;omega;rfl)|refine yDn (by with_reducible constructor) ?_|((with_reducible apply k6);(iterate 4 rfl);(assumption))|((with_reducible apply p9);(iterate 4 rfl);(first|rfl|assumption);rfl)|((with_reducible apply f9);rfl;(first|rfl|assumption);rfl;rfl)|((with_reducible apply e9);rfl;((assumption));rfl;rfl)|((with_reducible apply e8);rfl;(rfl))|((with_reducible apply d6 hS b8);rfl;rfl;rfl;clear hS;intro g w' hS)|((with_reducible apply d5 hS b8 (i:=0));(iterate 8 rfl);((exact (rfl:_=[_,_])));clear hS;intro w' hS;simp only [List.set] at hS)|((with_reducible apply m8);rfl;rfl;rfl;all_goals (intro hb hp;try (exfalso;omega)))|((with_reducible apply d8);rfl;all_goals (intro hb hp;try (exfalso;omega))))
    all_goals first|(((refine j4 rfl ?_));exact ⟨by rw [hok,hst],hS.sub (xh2 _)⟩)|(exfalso;exact h1 ⟨by omega,by omega,hb1,by omega⟩)
 ·repeat' (first|((with_reducible apply b9 b8);rfl;rfl;rfl)|refine yDn (by with_reducible constructor) ?_|((with_reducible apply d8);rfl;all_goals (intro hb hp;try (exfalso;omega))))
  (refine j4 rfl ?_)
  exact ⟨by rw [hok,xn8 (by omega)];rfl,hS.sub (xh2 _)⟩
theorem a8I {S:Sh} {w:World} {u:Value} (hu:ShV w S u):Fn Tryz.prog 119 [shA S u] w (RBf (.bool (r7 S)) w):=by
 have bnd:=hu.bound
 obtain ⟨p,c,rfl⟩:=hu.len
 refine yEn Tryz.func119 Tryz.ntmps119 (by kernel_rfl) (by kernel_rfl) rfl rfl ?_
 have hS:=St.start w
 unfold shA shC
 by_cases h0:(1<=S.page/\S.page<=255)/\S.data.length=16
 rotate_left
 ·have hf:r7 S=false:=by unfold r7;rw [xh9 h0];rfl
  rw [hf]
  by_cases hp0:1<=S.page/\S.page<=255
  ·have hp1:(!decide (1<=S.page/\S.page<=255))=false:=by simpa using hp0
   repeat' (first|((with_reducible apply b9 b8);rfl;rfl;rfl)|((with_reducible apply c9);rfl;(((with_reducible apply Loads.sc b8);rfl;((exact hS.blkC 0 rfl rfl))));rfl)|refine yDn (by with_reducible constructor) ?_|((with_reducible apply k6);(iterate 4 rfl);(assumption))|((with_reducible apply p9);(iterate 4 rfl);((assumption));rfl)|((with_reducible apply f9);rfl;((assumption));rfl;rfl)|((with_reducible apply e9);rfl;((assumption));rfl;rfl)|((with_reducible apply e8);rfl;(rfl))|((with_reducible apply k7 hS);rfl;rfl;rfl;clear hS;intro g w' hS)|((with_reducible apply a1L);rfl;rfl;rfl;all_goals (intro hb hp;try (exfalso;omega)))|((with_reducible apply d7 hS);rfl;rfl;rfl;refine ⟨_,n8 _ _ _ _,?_⟩;clear hS;intro w' hS))
   all_goals (((refine j4 rfl ?_));exact ⟨rfl,hS.sub (xh2 _)⟩)
  ·have hp1:(!decide (1<=S.page/\S.page<=255))=true:=by rw [xh9 hp0];rfl
   repeat' (first|((with_reducible apply b9 b8);rfl;rfl;rfl)|((with_reducible apply c9);rfl;(((with_reducible apply Loads.sc b8);rfl;((exact hS.blkC 0 rfl rfl))));rfl)|refine yDn (by with_reducible constructor) ?_|((with_reducible apply p9);(iterate 4 rfl);(first|rfl|assumption);rfl)|((with_reducible apply f9);rfl;(first|rfl|assumption);rfl;rfl)|((with_reducible apply e8);rfl;(rfl))|((with_reducible apply k7 hS);rfl;rfl;rfl;clear hS;intro g w' hS)|((with_reducible apply d7 hS);rfl;rfl;rfl;refine ⟨_,n8 _ _ _ _,?_⟩;clear hS;intro w' hS))
   (refine j4 rfl ?_)
   exact ⟨rfl,hS.sub (xh2 _)⟩
 have hp1:(!decide (1<=S.page/\S.page<=255))=false:=by simpa using h0.1
 by_cases h16:S.fixes.length<=16
 rotate_left
 ·have hf:r7 S=false:=by
   cases hr:r7 S with
   |false=>rfl
   |true=>have:=a4n hr;omega
  rw [hf]
  repeat' (first|((with_reducible apply b9 b8);rfl;rfl;rfl)|((with_reducible apply c9);rfl;(first|((with_reducible apply Loads.sc b8);rfl;((exact hS.blkC 0 rfl rfl)))|((with_reducible apply Loads.sl b8);rfl;((exact hS.blkC 0 rfl rfl))));rfl)|refine yDn (by with_reducible constructor) ?_|((with_reducible apply k6);(iterate 4 rfl);(assumption))|((with_reducible apply e9);rfl;((assumption));rfl;rfl)|((with_reducible apply k7 hS);rfl;rfl;rfl;clear hS;intro g w' hS)|((with_reducible apply a1L);rfl;rfl;rfl;all_goals (intro hb hp;try (exfalso;omega)))|((with_reducible apply d8);rfl;all_goals (intro hb hp;try (exfalso;omega)))|((with_reducible apply d7 hS);rfl;rfl;rfl;refine ⟨_,n8 _ _ _ _,?_⟩;clear hS;intro w' hS))
  all_goals (((refine j4 rfl ?_));exact ⟨rfl,hS.sub (xh2 _)⟩)
 have hr:r7 S=a3o 0 S.fixes:=by unfold r7;rw [xi0 h0];rfl
 rw [hr]
 repeat' (first|((with_reducible apply b9 b8);rfl;rfl;rfl)|((with_reducible apply c9);rfl;(first|((with_reducible apply Loads.sc b8);rfl;((exact hS.blkC 0 rfl rfl)))|((with_reducible apply Loads.sl b8);rfl;((exact hS.blkC 0 rfl rfl))));rfl)|refine yDn (by with_reducible constructor) ?_|((with_reducible apply k6);(iterate 4 rfl);(assumption))|((with_reducible apply e9);rfl;((assumption));rfl;rfl)|((with_reducible apply k7 hS);rfl;rfl;rfl;clear hS;intro g w' hS)|((with_reducible apply a1L);rfl;rfl;rfl;all_goals (intro hb hp;try (exfalso;omega)))|((with_reducible apply d8);rfl;all_goals (intro hb hp;try (exfalso;omega)))|((with_reducible apply d7 hS);rfl;rfl;rfl;refine ⟨_,n8 _ _ _ _,?_⟩;clear hS;intro w' hS))
 refine k9 (X:=Nat×Int) (fun x=>[(4,.int .i64 (x.1:Nat)),(3,.int .i64 x.2)]) [1] rfl (fun _=>[]) (fun x=>(x.1<=S.fixes.length/\0<=x.2/\x.2<=16)/\a3o 0 S.fixes=a3o x.2 (S.fixes.drop x.1)) (fun x=>S.fixes.length - x.1) (0,0) (by exact Fr.sub_of rfl) (by simp) hS ?_
 clear hS
 rintro ⟨i,free⟩ w1 ⟨⟨hi,hf0,hf1⟩,hok⟩ hS
 dsimp only [List.cons_append,List.nil_append] at hi hf0 hf1 hok hS |-
 by_cases hlt:i < S.fixes.length
 ·obtain ⟨x,hx⟩:=i9 (l:=S.fixes) (i:=i) (by omega)
  have hrow:=d9 (f:=fxC) hx
  obtain ⟨b,off,rfl,hro⟩:=hu.at_ (i:=i) hlt
  have hst:=a7E (free:=free) hx
  by_cases h1:free<=x.off/\x.off<=16
  ·have k1:(!decide (free<=x.off/\x.off<=16))=false:=by simpa using h1
   by_cases h2:1<=(x.bytes.length:Int)/\(x.bytes.length:Int)<=16 - x.off
   ·have k2:(!decide (1<=(x.bytes.length:Int)/\(x.bytes.length:Int)<=16 - x.off))=false:=by simpa using h2
    have ho:a37 free x=true:=xi0 ⟨h1.1,h1.2,xa3.1 (by omega),h2.2⟩
    rw [ho,xh8] at hst
    repeat' (first|((with_reducible apply b9 b8);rfl;rfl;rfl)|((with_reducible apply c9);rfl;(first|((with_reducible apply Loads.sc b8);rfl;((exact hS.blkC 0 rfl rfl)))|((with_reducible apply Loads.sl b8);rfl;((exact hS.blkC 0 rfl rfl)))|((with_reducible apply Loads.st b8);rfl;((exact hS.roR (by assumption) (by assumption)));rfl));rfl)|((with_reducible apply l5 b8);rfl;rfl;rfl;((rfl));((omega));rfl)|((with_reducible apply i7);rfl;rfl;omega;omega;rfl)|((with_reducible apply a0x);rfl;rfl;omega;omega;rfl)|refine yDn (by with_reducible constructor) ?_|((with_reducible apply k6);(iterate 4 rfl);(assumption))|((with_reducible apply e9);rfl;((assumption));rfl;rfl)|((with_reducible apply f8);rfl;(assumption))|((with_reducible apply d6 hS b8);rfl;rfl;rfl;clear hS;intro g w' hS)|((with_reducible apply d5 hS b8 (i:=0));(iterate 8 rfl);((exact (rfl:_=[_,_])));clear hS;intro w' hS;simp only [List.set] at hS)|((with_reducible apply d8);rfl;all_goals (intro hb hp;try (exfalso;omega)))|((with_reducible apply d7 hS);rfl;rfl;rfl;refine ⟨_,n8 _ _ _ _,?_⟩;clear hS;intro w' hS))
    refine f7 (i + 1,a1X x) (by exact Fr.sub_of rfl) ⟨⟨by show i + 1<=S.fixes.length;omega,by show 0<=a1X x;unfold a1X;omega,by show a1X x<=16;unfold a1X;omega⟩,by rw [hok,hst]⟩ hS.drop (by show S.fixes.length - (i + 1) < S.fixes.length - i;omega)
   ·have k2:(!decide (1<=(x.bytes.length:Int)/\(x.bytes.length:Int)<=16 - x.off))=true:=by rw [xh9 h2];rfl
    have ho:a37 free x=false:=xh9 (fun h=>h2 ⟨by have:=xa3.2 h.2.2.1;omega,h.2.2.2⟩)
    rw [ho,xh7] at hst
    repeat' (first|((with_reducible apply b9 b8);rfl;rfl;rfl)|((with_reducible apply c9);rfl;(first|((with_reducible apply Loads.sc b8);rfl;((exact hS.blkC 0 rfl rfl)))|((with_reducible apply Loads.sl b8);rfl;((exact hS.blkC 0 rfl rfl)))|((with_reducible apply Loads.st b8);rfl;((exact hS.roR (by assumption) (by assumption)));rfl));rfl)|((with_reducible apply l5 b8);rfl;rfl;rfl;((rfl));((omega));rfl)|((with_reducible apply a0x);rfl;rfl;omega;omega;rfl)|refine yDn (by with_reducible constructor) ?_|((with_reducible apply k6);(iterate 4 rfl);(assumption))|((with_reducible apply e9);rfl;((assumption));rfl;rfl)|((with_reducible apply e8);rfl;(assumption))|((with_reducible apply d6 hS b8);rfl;rfl;rfl;clear hS;intro g w' hS)|((with_reducible apply d5 hS b8 (i:=0));(iterate 8 rfl);((exact (rfl:_=[_,_])));clear hS;intro w' hS;simp only [List.set] at hS)|((with_reducible apply d8);rfl;all_goals (intro hb hp;try (exfalso;omega)))|((with_reducible apply d7 hS);rfl;rfl;rfl;refine ⟨_,n8 _ _ _ _,?_⟩;clear hS;intro w' hS))
    (refine j4 rfl ?_)
    exact ⟨by rw [hok,hst],hS.sub (xh2 _)⟩
  ·have k1:(!decide (free<=x.off/\x.off<=16))=true:=by rw [xh9 h1];rfl
   have ho:a37 free x=false:=xh9 (fun h=>h1 ⟨h.1,h.2.1⟩)
   rw [ho,xh7] at hst
   repeat' (first|((with_reducible apply b9 b8);rfl;rfl;rfl)|((with_reducible apply c9);rfl;(first|((with_reducible apply Loads.sc b8);rfl;((exact hS.blkC 0 rfl rfl)))|((with_reducible apply Loads.sl b8);rfl;((exact hS.blkC 0 rfl rfl)))|((with_reducible apply Loads.st b8);rfl;((exact hS.roR (by assumption) (by assumption)));rfl));rfl)|((with_reducible apply l5 b8);rfl;rfl;rfl;((rfl));((omega));rfl)|refine yDn (by with_reducible constructor) ?_|((with_reducible apply p9);(iterate 4 rfl);((assumption));rfl)|((with_reducible apply f9);rfl;((assumption));rfl;rfl)|((with_reducible apply e8);rfl;(rfl))|((with_reducible apply d6 hS b8);rfl;rfl;rfl;clear hS;intro g w' hS)|((with_reducible apply d5 hS b8 (i:=0));(iterate 8 rfl);((exact (rfl:_=[_,_])));clear hS;intro w' hS;simp only [List.set] at hS)|((with_reducible apply d8);rfl;all_goals (intro hb hp;try (exfalso;omega)))|((with_reducible apply d7 hS);rfl;rfl;rfl;refine ⟨_,n8 _ _ _ _,?_⟩;clear hS;intro w' hS))
   (refine j4 rfl ?_)
   exact ⟨by rw [hok,hst],hS.sub (xh2 _)⟩
 ·repeat' (first|((with_reducible apply b9 b8);rfl;rfl;rfl)|((with_reducible apply c9);rfl;(((with_reducible apply Loads.sl b8);rfl;((exact hS.blkC 0 rfl rfl))));rfl)|refine yDn (by with_reducible constructor) ?_|((with_reducible apply d8);rfl;all_goals (intro hb hp;try (exfalso;omega))))
  (refine j4 rfl ?_)
  exact ⟨by rw [hok,xn8 (by omega)];rfl,hS.sub (xh2 _)⟩
theorem a5x {l:List Fx} {i:Nat} {f:Fx} {d:List UInt8} (h:l[i]?=some f):a3i d (l.take (i + 1))=splice (a3i d (l.take i)) f.off.toNat f.bytes:=by
 unfold a3i
 rw [xp5,h]
 simp [xj5]
theorem a8S {l:List Fx}:∀ {free:Int},a3o free l=true->0<=free->∀ {i:Nat} {f:Fx},l[i]?=some f->(0<=f.off/\f.off<=16)/\(f.bytes.length:Int)<=16 - f.off:=by
 induction l with
 |nil=>intro free _ _ i f h;simp at h
 |cons g r ih=>
  intro free h h0 i f hf
  simp only [a3o,a37,xb4,xb5] at h
  obtain ⟨⟨h1,h2,h3,h4⟩,h5⟩:=h
  cases i with
  |zero=>simp at hf;subst hf;exact ⟨⟨by omega,h2⟩,h4⟩
  |succ i=>exact ih h5 (by unfold a1X;omega) (by simpa using hf)
theorem a7Y {l:List Fx} {d:List UInt8} {free:Int} (h:a3o free l=true) (h0:0<=free) (hd:d.length=16):∀ i,i<=l.length->(a3i d (l.take i)).length=16:=by
 intro i
 induction i with
 |zero=>intro _;simpa [a3i] using hd
 |succ i ih=>
  intro hi
  have hx:l[i]?=some l[i]:=xe1 (by omega)
  have:=ih (by omega)
  obtain ⟨⟨h1,h2⟩,h3⟩:=a8S h h0 hx
  rw [a5x hx,a6V (by omega)]
  exact this
theorem a5L {S:Sh} (h:r7 S=true):S.data.length=16/\a3o 0 S.fixes=true:=by
 unfold r7 at h
 simp only [xb4,xb5] at h
 exact ⟨h.1.2,h.2⟩
theorem a9j {S:Sh} {i:Nat} (hi:S.fixes.length<=i):a3i S.data (S.fixes.take i)=a5M S:=by rw [xa0 hi];rfl
theorem b1G {S:Sh} {w:World} {u:Value} (hu:ShV w S u):Fn Tryz.prog 46 [shA S u] w (RBf (.tuple #[.string ⟨(if r7 S=true then a5M S else []).toArray⟩,.int .i64 (if r7 S=true then 0 else 1)]) w):=by
 have hr:=fun w (h:ShV w S u)=>a9g h
 by_cases hR:r7 S=true
 rotate_left
 ·rw [xf1 hR,xf1 hR]
  rw [show r7 S=false by simpa using hR] at hr
  refine yEn Tryz.func46 Tryz.ntmps46 (by kernel_rfl) (by kernel_rfl) rfl rfl ?_
  have hS:=St.start w
  unfold shA shC
  repeat' (first|((with_reducible apply b9 b8);rfl;rfl;rfl)|((with_reducible apply c9);rfl;(((with_reducible apply Loads.st b8);rfl;((exact hS.blkR 0 rfl));rfl));rfl)|refine yDn (by with_reducible constructor) ?_|((with_reducible apply e8);rfl;(rfl))|((with_reducible apply k7 hS);rfl;rfl;rfl;clear hS;intro g w' hS)|((with_reducible apply d7 hS);rfl;rfl;rfl;refine ⟨_,hr _ (hu.now hS),?_⟩;clear hS;intro w' hS))
  (refine a2L rfl ?_)
  exact ⟨rfl,hS.sub (xh2 _)⟩
 rw [xf0 hR,xf0 hR]
 rw [hR] at hr
 obtain ⟨hd,hok⟩:=a5L hR
 have bnd:=hu.bound
 obtain ⟨p,c,rfl⟩:=hu.len
 refine yEn Tryz.func46 Tryz.ntmps46 (by kernel_rfl) (by kernel_rfl) rfl rfl ?_
 have hS:=St.start w
 unfold shA shC
 repeat' (first|((with_reducible apply b9 b8);rfl;rfl;rfl)|((with_reducible apply c9);rfl;(first|((with_reducible apply Loads.sc b8);rfl;((exact hS.blkC 0 rfl rfl)))|((with_reducible apply Loads.sl b8);rfl;((exact hS.blkC 0 rfl rfl)))|((with_reducible apply Loads.st b8);rfl;((exact hS.blkR 0 rfl));rfl));rfl)|refine yDn (by with_reducible constructor) ?_|((with_reducible apply f8);rfl;(rfl))|((with_reducible apply k7 hS);rfl;rfl;rfl;clear hS;intro g w' hS)|((with_reducible apply d7 hS);rfl;rfl;rfl;refine ⟨_,hr _ (hu.now hS),?_⟩;clear hS;intro w' hS))
 refine k9 (X:=Nat) (fun x=>[(15,.int .i64 (x:Nat)),(4,.string ⟨(a3i S.data (S.fixes.take x)).toArray⟩)]) [1,13,14] rfl (fun _=>[]) (fun x=>x<=S.fixes.length) (fun x=>S.fixes.length - x) 0 (by exact Fr.sub_of rfl) (by simp) hS ?_
 clear hS
 intro i w1 hi hS
 dsimp only [List.cons_append,List.nil_append] at hi hS |-
 have hlen:=a7Y hok (by omega) hd i hi
 by_cases hlt:i < S.fixes.length
 ·obtain ⟨x,hx⟩:=i9 (l:=S.fixes) (i:=i) (by omega)
  have hrow:=d9 (f:=fxC) hx
  obtain ⟨b,off,rfl,hro⟩:=hu.at_ (i:=i) hlt
  obtain ⟨⟨h1,h2⟩,h3⟩:=a8S hok (by omega) hx
  have hst:=a5x (d:=S.data) hx
  generalize a3i S.data (S.fixes.take i)=d at hlen hst |-
  have hlay:=fun w=>b3W d x.bytes x.off w (by unfold maxLen;omega)
  have hin:inB x.off x.bytes.length d.length=true:=by unfold inB;rw [xb5];omega
  simp only [hin,if_true] at hlay
  repeat' (first|((with_reducible apply b9 b8);rfl;rfl;rfl)|((with_reducible apply c9);rfl;(first|((with_reducible apply Loads.sc b8);rfl;((exact hS.blkC 0 rfl rfl)))|((with_reducible apply Loads.st b8);rfl;((exact hS.roR (by assumption) (by assumption)));rfl));rfl)|((with_reducible apply l5 b8);rfl;rfl;rfl;((rfl));((omega));rfl)|((with_reducible apply i7);rfl;rfl;omega;omega;rfl)|refine yDn (by with_reducible constructor) ?_|((with_reducible apply d6 hS b8);rfl;rfl;rfl;clear hS;intro g w' hS)|((with_reducible apply d5 hS b8 (i:=0));(iterate 8 rfl);((exact (rfl:_=[_,_])));clear hS;intro w' hS;simp only [List.set] at hS)|((with_reducible apply d8);rfl;all_goals (intro hb hp;try (exfalso;omega)))|((with_reducible apply d7 hS);rfl;rfl;rfl;refine ⟨_,hlay _,?_⟩;clear hS;intro w' hS))
  exact f7 (i + 1) (by rw [hst];exact Fr.sub_of rfl) (by show i + 1<=S.fixes.length;omega) hS.drop (by show S.fixes.length - (i + 1) < S.fixes.length - i;omega)
 ·repeat' (first|((with_reducible apply b9 b8);rfl;rfl;rfl)|refine yDn (by with_reducible constructor) ?_|((with_reducible apply d8);rfl;all_goals (intro hb hp;try (exfalso;omega))))
  (refine a2L rfl ?_)
  exact ⟨by rw [a9j (by omega)],hS.sub (xh2 _)⟩
theorem b2N {S:Sh} {w:World} {u:Value} (hu:ShV w S u) (hR:r7 S=true):Fn Tryz.prog 121 [shA S u] w (RBf (.string ⟨(a5M S).toArray⟩) w):=by
 obtain ⟨hd,hok⟩:=a5L hR
 have bnd:=hu.bound
 obtain ⟨p,c,rfl⟩:=hu.len
 refine yEn Tryz.func121 Tryz.ntmps121 (by kernel_rfl) (by kernel_rfl) rfl rfl ?_
 have hS:=St.start w
 unfold shA shC
 repeat' (first|((with_reducible apply b9 b8);rfl;rfl;rfl)|((with_reducible apply c9);rfl;(((with_reducible apply Loads.sc b8);rfl;((exact hS.blkC 0 rfl rfl))));rfl)|refine yDn (by with_reducible constructor) ?_|((with_reducible apply k7 hS);rfl;rfl;rfl;clear hS;intro g w' hS))
 refine k9 (X:=Nat) (fun x=>[(4,.int .i64 (x:Nat)),(3,.string ⟨(a3i S.data (S.fixes.take x)).toArray⟩)]) [1] rfl (fun _=>[]) (fun x=>x<=S.fixes.length) (fun x=>S.fixes.length - x) 0 (by exact Fr.sub_of rfl) (by simp) hS ?_
 clear hS
 intro i w1 hi hS
 dsimp only [List.cons_append,List.nil_append] at hi hS |-
 have hlen:=a7Y hok (by omega) hd i hi
 by_cases hlt:i < S.fixes.length
 ·obtain ⟨x,hx⟩:=i9 (l:=S.fixes) (i:=i) (by omega)
  have hrow:=d9 (f:=fxC) hx
  obtain ⟨b,off,rfl,hro⟩:=hu.at_ (i:=i) hlt
  obtain ⟨⟨h1,h2⟩,h3⟩:=a8S hok (by omega) hx
  have hst:=a5x (d:=S.data) hx
  generalize a3i S.data (S.fixes.take i)=d at hlen hst |-
  have hover:∀ w,Fn Tryz.prog 79 [.string ⟨d.toArray⟩,.int .i64 x.off,.string ⟨x.bytes.toArray⟩] w (RBf (.string ⟨(splice d x.off.toNat x.bytes).toArray⟩) w):=fun w=>by
   have:=b5T d x.bytes x.off.toNat w (by unfold maxLen;omega) (by omega)
   rwa [xk9 h1] at this
  repeat' (first|((with_reducible apply b9 b8);rfl;rfl;rfl)|((with_reducible apply c9);rfl;(((with_reducible apply Loads.sl b8);rfl;((exact hS.blkC 0 rfl rfl))));rfl)|refine yDn (by with_reducible constructor) ?_|((with_reducible apply d8);rfl;all_goals (intro hb hp;try (exfalso;omega))))
  (focus ((with_reducible apply e7 _ _ _ (by kernel_rfl) (by kernel_rfl) hS);(repeat' (first|(first|((with_reducible apply j3 b8);rfl;rfl)|((with_reducible apply j0);rfl;(intro wd hd;replace hd:St _ _ wd _:=hd;(first|((with_reducible apply Loads.sc b8);rfl;(first|exact hd.roC0 (by assumption) (by assumption) rfl|exact hd.roC (by assumption) (by assumption) rfl))|((with_reducible apply Loads.sl b8);rfl;((exact hd.blkC 0 rfl rfl)))));rfl)|((with_reducible apply a0w b8);rfl;rfl;rfl;((rfl));((omega));rfl))|((with_reducible apply o6);rfl;rfl;rfl;refine ⟨_,fun wd hd=>hover _,?_⟩)));all_goals ((with_reducible apply k8);intro w' hS';clear hS;have hS:=hS';clear hS')))
  repeat' (first|((with_reducible apply b9 b8);rfl;rfl;rfl)|((with_reducible apply i7);rfl;rfl;omega;omega;rfl)|refine yDn (by with_reducible constructor) ?_)
  exact f7 (i + 1) (by rw [hst];exact Fr.sub_of rfl) (by show i + 1<=S.fixes.length;omega) hS (by show S.fixes.length - (i + 1) < S.fixes.length - i;omega)
 ·repeat' (first|((with_reducible apply b9 b8);rfl;rfl;rfl)|((with_reducible apply c9);rfl;(((with_reducible apply Loads.sl b8);rfl;((exact hS.blkC 0 rfl rfl))));rfl)|refine yDn (by with_reducible constructor) ?_|((with_reducible apply d8);rfl;all_goals (intro hb hp;try (exfalso;omega))))
  (refine j4 rfl ?_)
  exact ⟨by rw [a9j (by omega)],hS.sub (xh2 _)⟩
theorem b1k {A:List Ar} {Lp:List (Sh×Value)} {w:World} {va vs:Value} {en:Int} (hA:Sl nF w 4 va (A.map arC)) (hL:ShsV w Lp vs) (hen:-9223372036854775808<=en) (hen2:en<=9223372036854775807):Fn Tryz.prog 44 [lkA va vs en] w (RBf (.int .i64 (a2e A (shs Lp) en)) w):=by
 have bnd:=hL.sl.bound
 have hsl:=hL.sl
 obtain ⟨p,c,rfl⟩:=hL.sl.len
 unfold lkA
 by_cases hc:l6 A=0
 rotate_left
 ·have hr:a2e A (shs Lp) en=l6 A:=xf1 hc
  have hc':(!decide (l6 A=0))=true:=by rw [xh9 hc];rfl
  rw [hr]
  refine yEn Tryz.func44 Tryz.ntmps44 (by kernel_rfl) (by kernel_rfl) rfl rfl ?_
  have hS:=St.start w
  repeat' (first|((with_reducible apply b9 b8);rfl;rfl;rfl)|((with_reducible apply c9);rfl;(((with_reducible apply Loads.sl b8);rfl;((exact hS.blkC 0 rfl rfl))));rfl)|refine yDn (by with_reducible constructor) ?_|((with_reducible apply e8);rfl;(assumption))|((with_reducible apply k7 hS);rfl;rfl;rfl;clear hS;intro g w' hS)|((with_reducible apply d7 hS);rfl;rfl;rfl;refine ⟨_,a7a (hA.now hS),?_⟩;clear hS;intro w' hS))
  (refine j4 rfl ?_)
  exact ⟨rfl,hS.sub (xh2 _)⟩
 have hck:=fun w (h:Sl nF w 4 va (A.map arC))=>a7a h
 have htot:=fun w (h:Sl nF w 4 va (A.map arC))=>a3x h
 have hfnd:=fun w page (h:Sl nF w 4 va (A.map arC))=>a4U page h
 have hfi:∀ page,a5C A page=m7 A page:=fun page=>xf0 hc
 simp only [hc,if_true,hfi] at hck htot hfnd
 have hr:a2e A (shs Lp) en=if lkB A (shs Lp) en=true then 0 else 1:=xf0 hc
 rw [hr]
 unfold lkB
 rw [a1O]
 by_cases hn:(Lp.length:Int)=r9 A
 rotate_left
 ·have hn':(!decide ((Lp.length:Int)=r9 A))=true:=by rw [xh9 hn];rfl
  rw [xf1 (by rw [xh9 hn];simp)]
  refine yEn Tryz.func44 Tryz.ntmps44 (by kernel_rfl) (by kernel_rfl) rfl rfl ?_
  have hS:=St.start w
  repeat' (first|((with_reducible apply b9 b8);rfl;rfl;rfl)|((with_reducible apply c9);rfl;(((with_reducible apply Loads.sl b8);rfl;((exact hS.blkC 0 rfl rfl))));rfl)|refine yDn (by with_reducible constructor) ?_|((with_reducible apply f8);rfl;(rfl))|((with_reducible apply k7 hS);rfl;rfl;rfl;clear hS;intro g w' hS)|((with_reducible apply d7 hS);rfl;rfl;rfl;refine ⟨_,hck _ (hA.now hS),?_⟩;clear hS;intro w' hS))
  (focus ((with_reducible apply e7 _ _ _ (by kernel_rfl) (by kernel_rfl) hS);(repeat' (first|(first|((with_reducible apply j3 b8);rfl;rfl)|((with_reducible apply j0);rfl;(intro wd hd;replace hd:St _ _ wd _:=hd;(((with_reducible apply Loads.sl b8);rfl;((exact hd.blkC 0 rfl rfl)))));rfl))|((with_reducible apply o6);rfl;rfl;rfl;refine ⟨_,fun wd hd=>htot _ (hA.now hd),?_⟩)));all_goals ((with_reducible apply k8);intro w' hS';clear hS;have hS:=hS';clear hS')))
  repeat' (first|((with_reducible apply b9 b8);rfl;rfl;rfl)|refine yDn (by with_reducible constructor) ?_|((with_reducible apply e8);rfl;(assumption)))
  (refine j4 rfl ?_)
  exact ⟨rfl,hS.sub (xh2 _)⟩
 have hn':(!decide ((Lp.length:Int)=r9 A))=false:=by rw [xi0 hn];rfl
 rw [xi0 hn,xh8]
 refine yEn Tryz.func44 Tryz.ntmps44 (by kernel_rfl) (by kernel_rfl) rfl rfl ?_
 have hS:=St.start w
 repeat' (first|((with_reducible apply b9 b8);rfl;rfl;rfl)|((with_reducible apply c9);rfl;(((with_reducible apply Loads.sl b8);rfl;((exact hS.blkC 0 rfl rfl))));rfl)|refine yDn (by with_reducible constructor) ?_|((with_reducible apply f8);rfl;(rfl))|((with_reducible apply k7 hS);rfl;rfl;rfl;clear hS;intro g w' hS)|((with_reducible apply d7 hS);rfl;rfl;rfl;refine ⟨_,hck _ (hA.now hS),?_⟩;clear hS;intro w' hS))
 (focus ((with_reducible apply e7 _ _ _ (by kernel_rfl) (by kernel_rfl) hS);(repeat' (first|(first|((with_reducible apply j3 b8);rfl;rfl)|((with_reducible apply j0);rfl;(intro wd hd;replace hd:St _ _ wd _:=hd;(((with_reducible apply Loads.sl b8);rfl;((exact hd.blkC 0 rfl rfl)))));rfl))|((with_reducible apply o6);rfl;rfl;rfl;refine ⟨_,fun wd hd=>htot _ (hA.now hd),?_⟩)));all_goals ((with_reducible apply k8);intro w' hS';clear hS;have hS:=hS';clear hS')))
 repeat' (first|((with_reducible apply b9 b8);rfl;rfl;rfl)|((with_reducible apply c9);rfl;(((with_reducible apply Loads.sl b8);rfl;((exact hS.blkC 0 rfl rfl))));rfl)|refine yDn (by with_reducible constructor) ?_|((with_reducible apply f8);rfl;(assumption)))
 refine k9 (X:=Nat×Int) (fun x=>[(27,.int .i64 (x.1:Nat)),(4,.int .i64 x.2)]) [1,25,26] rfl (fun _=>[]) (fun x=>x.1<=Lp.length/\a7g A 0 (shs Lp)=a7g A x.2 ((shs Lp).drop x.1)) (fun x=>Lp.length - x.1) (0,0) (by exact Fr.sub_of rfl) (by simp) hS ?_
 clear hS
 rintro ⟨i,last⟩ w1 ⟨hi,hok⟩ hS
 dsimp only [List.cons_append,List.nil_append] at hi hok hS |-
 by_cases hlt:i < Lp.length
 ·obtain ⟨x,hx⟩:=i9 (l:=Lp) (i:=i) (by omega)
  have hrow:=d9 (f:=fun p=>shC p.1 p.2) hx
  obtain ⟨b,off,rfl,hro⟩:=hsl.at_ (i:=i) hlt
  have hst:=b2M (A:=A) (last:=last) (a5s hx)
  have hfx:=hL.fx x (xd0 hx)
  have hfi2:=fun w h=>hfnd w x.1.page h
  obtain ⟨S,u⟩:=x
  dsimp only [shC] at hrow hst hfx hfi2
  obtain ⟨pu,cu,rfl⟩:=hfx.len
  have hrt:=fun w (h:ShV w S (.slice pu S.fixes.length cu))=>a9g h
  rw [hst] at hok
  cases hf:m7 A S.page with
  |none=>
   simp only [hf] at hfi2
   have ha:a7m A S.page=false:=by unfold a7m;rw [hf]
   rw [ha,xh7] at hok
   repeat' (first|((with_reducible apply b9 b8);rfl;rfl;rfl)|((with_reducible apply c9);rfl;(first|((with_reducible apply Loads.sc b8);rfl;((exact hS.blkC 0 rfl rfl)))|((with_reducible apply Loads.sl b8);rfl;((exact hS.blkC 1 rfl rfl)))|((with_reducible apply Loads.st b8);rfl;((exact hS.roR (by assumption) (by assumption)));rfl));rfl)|((with_reducible apply l5 b8);rfl;rfl;rfl;((rfl));((omega));rfl)|refine yDn (by with_reducible constructor) ?_|((with_reducible apply p9);(iterate 4 rfl);((rfl));rfl)|((with_reducible apply f9);rfl;((rfl));rfl;rfl)|((with_reducible apply e8);rfl;(rfl))|((with_reducible apply d6 hS b8);rfl;rfl;rfl;clear hS;intro g w' hS)|((with_reducible apply d5 hS b8 (i:=0));(iterate 8 rfl);(first|exact (rfl:_=[_,_,_])|exact (rfl:_=[_,_,_,_]));clear hS;intro w' hS;simp only [List.set] at hS)|((with_reducible apply d8);rfl;all_goals (intro hb hp;try (exfalso;omega)))|((with_reducible apply d7 hS);rfl;rfl;rfl;refine ⟨_,hfi2 _ (hA.now hS),?_⟩;clear hS;intro w' hS))
   (refine j4 rfl ?_)
   exact ⟨by rw [hok];rfl,hS.sub (xh2 _)⟩
  |some a=>
   simp only [hf] at hfi2
   obtain ⟨pg,n,prot,z⟩:=a
   cases z with
   |true=>
    have ha:a7m A S.page=false:=by unfold a7m;rw [hf];rfl
    rw [ha,xh7] at hok
    repeat' (first|((with_reducible apply b9 b8);rfl;rfl;rfl)|((with_reducible apply c9);rfl;(first|((with_reducible apply Loads.sc b8);rfl;((exact hS.blkC 0 rfl rfl)))|((with_reducible apply Loads.sl b8);rfl;((exact hS.blkC 1 rfl rfl)))|((with_reducible apply Loads.st b8);rfl;((exact hS.roR (by assumption) (by assumption)));rfl));rfl)|((with_reducible apply l5 b8);rfl;rfl;rfl;((rfl));((omega));rfl)|refine yDn (by with_reducible constructor) ?_|((with_reducible apply k6);(iterate 4 rfl);(rfl))|((with_reducible apply p9);(iterate 4 rfl);((rfl));rfl)|((with_reducible apply f9);rfl;((rfl));rfl;rfl)|((with_reducible apply e9);rfl;((rfl));rfl;rfl)|((with_reducible apply e8);rfl;(rfl))|((with_reducible apply d6 hS b8);rfl;rfl;rfl;clear hS;intro g w' hS)|((with_reducible apply d5 hS b8 (i:=0));(iterate 8 rfl);(first|exact (rfl:_=[_,_,_])|exact (rfl:_=[_,_,_,_]));clear hS;intro w' hS;simp only [List.set] at hS)|((with_reducible apply d8);rfl;all_goals (intro hb hp;try (exfalso;omega)))|((with_reducible apply d7 hS);rfl;rfl;rfl;refine ⟨_,hfi2 _ (hA.now hS),?_⟩;clear hS;intro w' hS))
    (refine j4 rfl ?_)
    exact ⟨by rw [hok];rfl,hS.sub (xh2 _)⟩
   |false=>
    have ha:a7m A S.page=true:=by unfold a7m;rw [hf];rfl
    rw [ha,xh8] at hok
    cases hR:r7 S with
    |false=>
     simp only [hR] at hrt
     rw [hR,xh7] at hok
     repeat' (first|((with_reducible apply b9 b8);rfl;rfl;rfl)|((with_reducible apply c9);rfl;(first|((with_reducible apply Loads.sc b8);rfl;((exact hS.blkC 0 rfl rfl)))|((with_reducible apply Loads.sl b8);rfl;((exact hS.blkC 1 rfl rfl)))|((with_reducible apply Loads.st b8);rfl;(first|exact hS.blkR 1 rfl|exact hS.roR (by assumption) (by assumption));rfl));rfl)|((with_reducible apply l5 b8);rfl;rfl;rfl;((rfl));((omega));rfl)|refine yDn (by with_reducible constructor) ?_|((with_reducible apply k6);(iterate 4 rfl);(rfl))|((with_reducible apply p9);(iterate 4 rfl);((rfl));rfl)|((with_reducible apply f9);rfl;((rfl));rfl;rfl)|((with_reducible apply e9);rfl;((rfl));rfl;rfl)|((with_reducible apply e8);rfl;(rfl))|((with_reducible apply d6 hS b8);rfl;rfl;rfl;clear hS;intro g w' hS)|((with_reducible apply d5 hS b8 (i:=0));(iterate 8 rfl);(first|exact (rfl:_=[_,_,_])|exact (rfl:_=[_,_,_,_]));clear hS;intro w' hS;simp only [List.set] at hS)|((with_reducible apply d8);rfl;all_goals (intro hb hp;try (exfalso;omega)))|((with_reducible apply d7 hS);rfl;rfl;rfl;refine ⟨_,hfi2 _ (hA.now hS),?_⟩;clear hS;intro w' hS)|((with_reducible apply d7 hS);rfl;rfl;rfl;refine ⟨_,hrt _ (hfx.now hS),?_⟩;clear hS;intro w' hS))
     (refine j4 rfl ?_)
     exact ⟨by rw [hok];rfl,hS.sub (xh2 _)⟩
    |true=>
     simp only [hR] at hrt
     rw [hR,xh8] at hok
     by_cases hlp:last < S.page
     ·rw [xi0 hlp,xh8] at hok
      repeat' (first|((with_reducible apply b9 b8);rfl;rfl;rfl)|((with_reducible apply c9);rfl;(first|((with_reducible apply Loads.sc b8);rfl;(first|exact hS.blkC 0 rfl rfl|exact hS.blkC 1 rfl rfl))|((with_reducible apply Loads.sl b8);rfl;((exact hS.blkC 1 rfl rfl)))|((with_reducible apply Loads.st b8);rfl;(first|exact hS.blkR 1 rfl|exact hS.roR (by assumption) (by assumption));rfl));rfl)|((with_reducible apply l5 b8);rfl;rfl;rfl;((rfl));((omega));rfl)|((with_reducible apply i7);rfl;rfl;omega;omega;rfl)|refine yDn (by with_reducible constructor) ?_|((with_reducible apply k6);(iterate 4 rfl);(rfl))|((with_reducible apply e9);rfl;((rfl));rfl;rfl)|((with_reducible apply d6 hS b8);rfl;rfl;rfl;clear hS;intro g w' hS)|((with_reducible apply d5 hS b8 (i:=0));(iterate 8 rfl);(first|exact (rfl:_=[_,_,_])|exact (rfl:_=[_,_,_,_]));clear hS;intro w' hS;simp only [List.set] at hS)|((with_reducible apply d8);rfl;all_goals (intro hb hp;try (exfalso;omega)))|((with_reducible apply d7 hS);rfl;rfl;rfl;refine ⟨_,hfi2 _ (hA.now hS),?_⟩;clear hS;intro w' hS)|((with_reducible apply d7 hS);rfl;rfl;rfl;refine ⟨_,hrt _ (hfx.now hS),?_⟩;clear hS;intro w' hS))
      exact f7 (i + 1,S.page) (by exact Fr.sub_of rfl) ⟨by show i + 1<=Lp.length;omega,hok⟩ (hS.reorder [2] (by decide) rfl) (by show Lp.length - (i + 1) < Lp.length - i;omega)
     ·rw [xh9 hlp,xh7] at hok
      repeat' (first|((with_reducible apply b9 b8);rfl;rfl;rfl)|((with_reducible apply c9);rfl;(first|((with_reducible apply Loads.sc b8);rfl;(first|exact hS.blkC 0 rfl rfl|exact hS.blkC 1 rfl rfl))|((with_reducible apply Loads.sl b8);rfl;((exact hS.blkC 1 rfl rfl)))|((with_reducible apply Loads.st b8);rfl;(first|exact hS.blkR 1 rfl|exact hS.roR (by assumption) (by assumption));rfl));rfl)|((with_reducible apply l5 b8);rfl;rfl;rfl;((rfl));((omega));rfl)|refine yDn (by with_reducible constructor) ?_|((with_reducible apply k6);(iterate 4 rfl);(rfl))|((with_reducible apply e9);rfl;((rfl));rfl;rfl)|((with_reducible apply d6 hS b8);rfl;rfl;rfl;clear hS;intro g w' hS)|((with_reducible apply d5 hS b8 (i:=0));(iterate 8 rfl);(first|exact (rfl:_=[_,_,_])|exact (rfl:_=[_,_,_,_]));clear hS;intro w' hS;simp only [List.set] at hS)|((with_reducible apply d8);rfl;all_goals (intro hb hp;try (exfalso;omega)))|((with_reducible apply d7 hS);rfl;rfl;rfl;refine ⟨_,hfi2 _ (hA.now hS),?_⟩;clear hS;intro w' hS)|((with_reducible apply d7 hS);rfl;rfl;rfl;refine ⟨_,hrt _ (hfx.now hS),?_⟩;clear hS;intro w' hS))
      (refine j4 rfl ?_)
      exact ⟨by rw [hok];rfl,hS.sub (xh2 _)⟩
 rw [xn8 (by rw [a1O];omega)] at hok
 have hrv:(if (a7g A 0 (shs Lp) && a69 A en)=true then (0:Int) else 1)=if a69 A en=true then 0 else 1:=by
  simp only [hok,a7g,xh8]
 rw [hrv]
 have hfe:=fun w h=>hfnd w (en.tdiv 16) h
 by_cases he:0<=en/\en.tmod 8=0
 rotate_left
 ·have hE:a69 A en=false:=by unfold a69;rw [xh9 he];rfl
  rw [hE]
  have hrv2:(if false=true then (0:Int) else 1)=1:=rfl
  repeat' (first|((with_reducible apply b9 b8);rfl;rfl;rfl)|((with_reducible apply c9);rfl;(((with_reducible apply Loads.sc b8);rfl;((exact hS.blkC 0 rfl rfl))));rfl)|refine yDn (by with_reducible constructor) ?_|((with_reducible apply k6);(iterate 4 rfl);(assumption))|((with_reducible apply p9);(iterate 4 rfl);((assumption));rfl)|((with_reducible apply f9);rfl;((assumption));rfl;rfl)|((with_reducible apply e9);rfl;((assumption));rfl;rfl)|((with_reducible apply e8);rfl;(rfl))|((with_reducible apply m8);rfl;rfl;rfl;all_goals (intro hb hp;try (exfalso;omega)))|((with_reducible apply d8);rfl;all_goals (intro hb hp;try (exfalso;omega)))|((with_reducible apply a0B);rfl;all_goals (intro hb hp;try (exfalso;omega)))|((with_reducible apply a3J);rfl;rfl;omega;rfl))
  all_goals (((refine j4 rfl ?_));exact ⟨rfl,hS.sub (xh2 _)⟩)
 cases hf:m7 A (en.tdiv 16) with
 |none=>
  simp only [hf] at hfe
  have hE:a69 A en=false:=by unfold a69;rw [hf];simp
  rw [hE]
  repeat' (first|((with_reducible apply b9 b8);rfl;rfl;rfl)|((with_reducible apply c9);rfl;(first|((with_reducible apply Loads.sc b8);rfl;((exact hS.blkC 0 rfl rfl)))|((with_reducible apply Loads.sl b8);rfl;((exact hS.blkC 0 rfl rfl))));rfl)|refine yDn (by with_reducible constructor) ?_|((with_reducible apply k6);(iterate 4 rfl);(assumption))|((with_reducible apply p9);(iterate 4 rfl);((rfl));rfl)|((with_reducible apply f9);rfl;((rfl));rfl;rfl)|((with_reducible apply e9);rfl;((assumption));rfl;rfl)|((with_reducible apply e8);rfl;(rfl))|((with_reducible apply d6 hS b8);rfl;rfl;rfl;clear hS;intro g w' hS)|((with_reducible apply d5 hS b8 (i:=0));(iterate 8 rfl);((exact (rfl:_=[_,_,_,_])));clear hS;intro w' hS;simp only [List.set] at hS)|((with_reducible apply m8);rfl;rfl;rfl;all_goals (intro hb hp;try (exfalso;omega)))|((with_reducible apply d8);rfl;all_goals (intro hb hp;try (exfalso;omega)))|((with_reducible apply a0B);rfl;all_goals (intro hb hp;try (exfalso;omega)))|((with_reducible apply a3J);rfl;rfl;omega;rfl)|((with_reducible apply a0D);rfl;rfl;omega;omega;omega;rfl)|((with_reducible apply d7 hS);rfl;rfl;rfl;refine ⟨_,hfe _ (hA.now hS),?_⟩;clear hS;intro w' hS))
  (refine j4 rfl ?_)
  exact ⟨rfl,hS.sub (xh2 _)⟩
 |some a=>
  simp only [hf] at hfe
  have hok2:=(a0V hc hf).1
  unfold Ar.ok at hok2
  obtain ⟨pg,n,prot,z⟩:=a
  dsimp only at hok2
  have ha2:=b7B (p:=prot) (by omega) (by omega)
  by_cases h2:2<=prot
  ·have hE:a69 A en=true:=by unfold a69;rw [hf,xi0 he];simp [h2]
   rw [hE]
   rw [xf0 h2] at ha2
   repeat' (first|((with_reducible apply b9 b8);rfl;rfl;rfl)|((with_reducible apply c9);rfl;(first|((with_reducible apply Loads.sc b8);rfl;((exact hS.blkC 0 rfl rfl)))|((with_reducible apply Loads.sl b8);rfl;((exact hS.blkC 0 rfl rfl))));rfl)|refine yDn (by with_reducible constructor) ?_|((with_reducible apply k6);(iterate 4 rfl);first|rfl|assumption)|((with_reducible apply e9);rfl;(first|rfl|assumption);rfl;rfl)|((with_reducible apply f8);rfl;(rfl))|((with_reducible apply d6 hS b8);rfl;rfl;rfl;clear hS;intro g w' hS)|((with_reducible apply d5 hS b8 (i:=0));(iterate 8 rfl);((exact (rfl:_=[_,_,_,_])));clear hS;intro w' hS;simp only [List.set] at hS)|((with_reducible apply m8);rfl;rfl;rfl;all_goals (intro hb hp;try (exfalso;omega)))|((with_reducible apply d8);rfl;all_goals (intro hb hp;try (exfalso;omega)))|((with_reducible apply a0B);rfl;all_goals (intro hb hp;try (exfalso;omega)))|((with_reducible apply a3J);rfl;rfl;omega;rfl)|((with_reducible apply a0D);rfl;rfl;omega;omega;omega;rfl)|((with_reducible apply d7 hS);rfl;rfl;rfl;refine ⟨_,hfe _ (hA.now hS),?_⟩;clear hS;intro w' hS)|((with_reducible apply a7L);rfl;rfl;exact ha2;rfl))
   (refine j4 rfl ?_)
   exact ⟨rfl,hS.sub (xh2 _)⟩
  ·have hE:a69 A en=false:=by unfold a69;rw [hf];simp [h2]
   rw [hE]
   rw [xf1 h2] at ha2
   repeat' (first|((with_reducible apply b9 b8);rfl;rfl;rfl)|((with_reducible apply c9);rfl;(first|((with_reducible apply Loads.sc b8);rfl;((exact hS.blkC 0 rfl rfl)))|((with_reducible apply Loads.sl b8);rfl;((exact hS.blkC 0 rfl rfl))));rfl)|refine yDn (by with_reducible constructor) ?_|((with_reducible apply k6);(iterate 4 rfl);first|rfl|assumption)|((with_reducible apply e9);rfl;(first|rfl|assumption);rfl;rfl)|((with_reducible apply e8);rfl;(rfl))|((with_reducible apply d6 hS b8);rfl;rfl;rfl;clear hS;intro g w' hS)|((with_reducible apply d5 hS b8 (i:=0));(iterate 8 rfl);((exact (rfl:_=[_,_,_,_])));clear hS;intro w' hS;simp only [List.set] at hS)|((with_reducible apply m8);rfl;rfl;rfl;all_goals (intro hb hp;try (exfalso;omega)))|((with_reducible apply d8);rfl;all_goals (intro hb hp;try (exfalso;omega)))|((with_reducible apply a0B);rfl;all_goals (intro hb hp;try (exfalso;omega)))|((with_reducible apply a3J);rfl;rfl;omega;rfl)|((with_reducible apply a0D);rfl;rfl;omega;omega;omega;rfl)|((with_reducible apply d7 hS);rfl;rfl;rfl;refine ⟨_,hfe _ (hA.now hS),?_⟩;clear hS;intro w' hS)|((with_reducible apply a7L);rfl;rfl;exact ha2;rfl))
   (refine j4 rfl ?_)
   exact ⟨rfl,hS.sub (xh2 _)⟩
theorem a6d {l:List Sh} {i:Nat} {s:Sh} {last:Int} (h:l[i]?=some s):a0E last (l.drop i)=(r7 s && (decide (last < s.page) && a0E s.page (l.drop (i + 1)))):=by
 rw [a2A h];rfl
theorem a4o {S:Sh} (h:r7 S=true):1<=S.page/\S.page<=255:=by
 unfold r7 at h
 simp only [xb4,xb5] at h
 exact h.1.1
theorem a7q {Lp:List (Sh×Value)} {w:World} {vs:Value} (hL:ShsV w Lp vs):Fn Tryz.prog 68 [vs] w (RBf (.bool (a0E 0 (shs Lp))) w):=by
 have bnd:=hL.sl.bound
 have hsl:=hL.sl
 obtain ⟨p,c,rfl⟩:=hL.sl.len
 refine yEn Tryz.func68 Tryz.ntmps68 (by kernel_rfl) (by kernel_rfl) rfl rfl ?_
 have hS:=St.start w
 repeat' (first|((with_reducible apply b9 b8);rfl;rfl;rfl)|refine yDn (by with_reducible constructor) ?_)
 refine k9 (X:=Nat×Int) (fun x=>[(3,.int .i64 (x.1:Nat))]) [0] rfl (fun _=>[]) (fun x=>x.1<=Lp.length/\((x.1=0/\x.2=0)\/(0 < x.1/\∃ y,Lp[x.1 - 1]?=some y/\x.2=y.1.page))/\a0E 0 (shs Lp)=a0E x.2 ((shs Lp).drop x.1)) (fun x=>Lp.length - x.1) (0,0) (by exact Fr.sub_of rfl) (by simp) hS ?_
 clear hS
 rintro ⟨i,last⟩ w1 ⟨hi,hlast,hok⟩ hS
 dsimp only [List.cons_append,List.nil_append] at hi hlast hok hS |-
 by_cases hlt:i < Lp.length
 rotate_left
 ·rw [xn8 (by rw [a1O];omega)] at hok
  repeat' (first|((with_reducible apply b9 b8);rfl;rfl;rfl)|refine yDn (by with_reducible constructor) ?_|((with_reducible apply d8);rfl;all_goals (intro hb hp;try (exfalso;omega))))
  (refine j4 rfl ?_)
  exact ⟨by rw [hok];rfl,hS.sub (xh2 _)⟩
 obtain ⟨x,hx⟩:=i9 (l:=Lp) (i:=i) (by omega)
 have hrow:=d9 (f:=fun p=>shC p.1 p.2) hx
 obtain ⟨b,off,rfl,hro⟩:=hsl.at_ (i:=i) hlt
 have hst:=a6d (last:=last) (a5s hx)
 have hfx:=hL.fx x (xd0 hx)
 obtain ⟨S,u⟩:=x
 dsimp only [shC] at hrow hst hfx
 obtain ⟨pu,cu,rfl⟩:=hfx.len
 have hfine:=fun w (h:ShV w S (.slice pu S.fixes.length cu))=>a8I h
 rw [hst] at hok
 cases hR:r7 S with
 |false=>
  simp only [hR] at hfine
  rw [hR,xh7] at hok
  repeat' (first|((with_reducible apply b9 b8);rfl;rfl;rfl)|refine yDn (by with_reducible constructor) ?_|((with_reducible apply d8);rfl;all_goals (intro hb hp;try (exfalso;omega))))
  (focus ((with_reducible apply e7 _ _ _ (by kernel_rfl) (by kernel_rfl) hS);(repeat' (first|(first|((with_reducible apply j3 b8);rfl;rfl)|((with_reducible apply j0);rfl;(intro wd hd;replace hd:St _ _ wd _:=hd;(((with_reducible apply Loads.st b8);rfl;((exact hd.roR (by assumption) (by assumption)));rfl)));rfl)|((with_reducible apply a0w b8);rfl;rfl;rfl;((rfl));((omega));rfl)|(first|((with_reducible apply a13);(iterate 4 rfl);((rfl));rfl)|((with_reducible apply a1K);(iterate 5 rfl))|((with_reducible apply q9);rfl;((rfl));rfl;rfl)))|((with_reducible apply o6);rfl;rfl;rfl;refine ⟨_,fun wd hd=>hfine _ (hfx.now hd),?_⟩)));all_goals ((with_reducible apply k8);intro w' hS';clear hS;have hS:=hS';clear hS')))
  all_goals (repeat' (first|((with_reducible apply b9 b8);rfl;rfl;rfl)|refine yDn (by with_reducible constructor) ?_|((with_reducible apply e8);rfl;(rfl))))
  all_goals ((refine j4 rfl ?_))
  all_goals exact ⟨by rw [hok],hS.sub (xh2 _)⟩
 |true=>
  simp only [hR] at hfine
  rw [hR,xh8] at hok
  have hpg:=a4o hR
  rcases hlast with ⟨rfl,rfl⟩|⟨hi0,y,hy,rfl⟩
  ·rw [xi0 (show (0:Int) < S.page by omega),xh8] at hok
   repeat' (first|((with_reducible apply b9 b8);rfl;rfl;rfl)|refine yDn (by with_reducible constructor) ?_|((with_reducible apply d8);rfl;all_goals (intro hb hp;try (exfalso;omega))))
   (focus ((with_reducible apply e7 _ _ _ (by kernel_rfl) (by kernel_rfl) hS);(repeat' (first|(first|((with_reducible apply j3 b8);rfl;rfl)|((with_reducible apply j0);rfl;(intro wd hd;replace hd:St _ _ wd _:=hd;(((with_reducible apply Loads.st b8);rfl;((exact hd.roR (by assumption) (by assumption)));rfl)));rfl)|((with_reducible apply a0w b8);rfl;rfl;rfl;((rfl));((omega));rfl)|(first|((with_reducible apply a0s);(iterate 4 rfl);(rfl))|((with_reducible apply a13);(iterate 4 rfl);((rfl));rfl)|((with_reducible apply p8);rfl;((rfl));rfl;rfl)))|((with_reducible apply o6);rfl;rfl;rfl;refine ⟨_,fun wd hd=>hfine _ (hfx.now hd),?_⟩)));all_goals ((with_reducible apply k8);intro w' hS';clear hS;have hS:=hS';clear hS')))
   repeat' (first|((with_reducible apply b9 b8);rfl;rfl;rfl)|((with_reducible apply i7);rfl;rfl;omega;omega;rfl)|refine yDn (by with_reducible constructor) ?_|((with_reducible apply f8);rfl;(rfl)))
   exact f7 (1,S.page) (by exact Fr.sub_of rfl) ⟨by show 1<=Lp.length;omega,xd3 ⟨by show 0 < 1;omega,_,hx,rfl⟩,hok⟩ hS (by show Lp.length - 1 < Lp.length - 0;omega)
  ·have e1:((i:Int) - 1).toNat=i - 1:=by omega
   have hrow2:(Lp.map fun p=>shC p.1 p.2)[((i:Int) - 1).toNat]?=some (shC y.1 y.2):=by rw [e1];exact d9 (f:=fun p=>shC p.1 p.2) hy
   obtain ⟨S2,u2⟩:=y
   dsimp only [shC] at hrow2 hok
   by_cases hlp:S2.page < S.page
   ·rw [xi0 hlp,xh8] at hok
    have hd1:decide (S.page<=S2.page)=false:=xh9 (by omega)
    repeat' (first|((with_reducible apply b9 b8);rfl;rfl;rfl)|refine yDn (by with_reducible constructor) ?_|((with_reducible apply d8);rfl;all_goals (intro hb hp;try (exfalso;omega))))
    (focus ((with_reducible apply e7 _ _ _ (by kernel_rfl) (by kernel_rfl) hS);(repeat' (first|(first|((with_reducible apply a1A);rfl;rfl;omega;omega;rfl)|((with_reducible apply j3 b8);rfl;rfl)|((with_reducible apply j0);rfl;(intro wd hd;replace hd:St _ _ wd _:=hd;(first|((with_reducible apply Loads.sc b8);rfl;((exact hd.roC0 (by assumption) (by assumption) rfl)))|((with_reducible apply Loads.st b8);rfl;((exact hd.roR (by assumption) (by assumption)));rfl)));rfl)|((with_reducible apply a0w b8);rfl;rfl;rfl;(first|rfl|exact xk9 (by omega));((omega));rfl)|(first|((with_reducible apply a0s);(iterate 4 rfl);first|rfl|assumption)|((with_reducible apply y9);rfl;rfl;rfl;all_goals (intro hb hp;try (exfalso;omega)))|((with_reducible apply q9);rfl;((assumption));rfl;rfl)|((with_reducible apply p8);rfl;((rfl));rfl;rfl)))|((with_reducible apply o6);rfl;rfl;rfl;refine ⟨_,fun wd hd=>hfine _ (hfx.now hd),?_⟩)));all_goals ((with_reducible apply k8);intro w' hS';clear hS;have hS:=hS';clear hS')))
    repeat' (first|((with_reducible apply b9 b8);rfl;rfl;rfl)|((with_reducible apply i7);rfl;rfl;omega;omega;rfl)|refine yDn (by with_reducible constructor) ?_|((with_reducible apply f8);rfl;(assumption)))
    exact f7 (i + 1,S.page) (by exact Fr.sub_of rfl) ⟨by show i + 1<=Lp.length;omega,xd3 ⟨by show 0 < i + 1;omega,_,hx,rfl⟩,hok⟩ hS (by show Lp.length - (i + 1) < Lp.length - i;omega)
   ·rw [xh9 hlp,xh7] at hok
    have hd1:decide (S.page<=S2.page)=true:=xi0 (by omega)
    repeat' (first|((with_reducible apply b9 b8);rfl;rfl;rfl)|refine yDn (by with_reducible constructor) ?_|((with_reducible apply d8);rfl;all_goals (intro hb hp;try (exfalso;omega))))
    (focus ((with_reducible apply e7 _ _ _ (by kernel_rfl) (by kernel_rfl) hS);(repeat' (first|(first|((with_reducible apply a1A);rfl;rfl;omega;omega;rfl)|((with_reducible apply j3 b8);rfl;rfl)|((with_reducible apply j0);rfl;(intro wd hd;replace hd:St _ _ wd _:=hd;(first|((with_reducible apply Loads.sc b8);rfl;((exact hd.roC0 (by assumption) (by assumption) rfl)))|((with_reducible apply Loads.st b8);rfl;((exact hd.roR (by assumption) (by assumption)));rfl)));rfl)|((with_reducible apply a0w b8);rfl;rfl;rfl;(first|rfl|exact xk9 (by omega));((omega));rfl)|(first|((with_reducible apply a0s);(iterate 4 rfl);first|rfl|assumption)|((with_reducible apply y9);rfl;rfl;rfl;all_goals (intro hb hp;try (exfalso;omega)))|((with_reducible apply q9);rfl;((assumption));rfl;rfl)|((with_reducible apply p8);rfl;((rfl));rfl;rfl)))|((with_reducible apply o6);rfl;rfl;rfl;refine ⟨_,fun wd hd=>hfine _ (hfx.now hd),?_⟩)));all_goals ((with_reducible apply k8);intro w' hS';clear hS;have hS:=hS';clear hS')))
    repeat' (first|((with_reducible apply b9 b8);rfl;rfl;rfl)|refine yDn (by with_reducible constructor) ?_|((with_reducible apply e8);rfl;(assumption)))
    (refine j4 rfl ?_)
    exact ⟨by rw [hok],hS.sub (xh2 _)⟩
theorem b2K (S:Sh) (u:Value) (t:Int) (w:World) (ho:u.oneCell'=true) (h1:-9223372036854775808<=S.page - t) (h2:S.page - t<=9223372036854775807):Fn Tryz.prog 131 [.agg (shC S u).toArray,.int .i64 t] w (RBf (.int .i64 (S.page - t)) w):=by
 unfold shC
 refine yEn Tryz.func131 Tryz.ntmps131 (by kernel_rfl) (by kernel_rfl) rfl rfl ?_
 have hS:=St.start w
 repeat' (first|((with_reducible apply b9 b8);rfl;rfl;rfl)|((with_reducible apply c9);rfl;(((with_reducible apply Loads.sc b8);rfl;((exact hS.blkC 0 rfl rfl))));rfl)|((with_reducible apply a0x);rfl;rfl;omega;omega;rfl)|refine yDn (by with_reducible constructor) ?_|((with_reducible apply k7 hS);rfl;rfl;rfl;clear hS;intro g w' hS))
 (refine j4 rfl ?_)
 exact ⟨rfl,hS.sub (xh2 _)⟩
theorem b2T (e:En) (t:Int) (w:World) (h1:-9223372036854775808<=e.page - t) (h2:e.page - t<=9223372036854775807):Fn Tryz.prog 129 [.agg (enC e).toArray,.int .i64 t] w (RBf (.int .i64 (e.page - t)) w):=by
 unfold enC
 refine yEn Tryz.func129 Tryz.ntmps129 (by kernel_rfl) (by kernel_rfl) rfl rfl ?_
 have hS:=St.start w
 repeat' (first|((with_reducible apply b9 b8);rfl;rfl;rfl)|((with_reducible apply c9);rfl;(((with_reducible apply Loads.sc b8);rfl;((exact hS.blkC 0 rfl rfl))));rfl)|((with_reducible apply a0x);rfl;rfl;omega;omega;rfl)|refine yDn (by with_reducible constructor) ?_|((with_reducible apply k7 hS);rfl;rfl;rfl;clear hS;intro g w' hS))
 (refine j4 rfl ?_)
 exact ⟨rfl,hS.sub (xh2 _)⟩
def BsV (l:List Int) (t:Int):Value:=.tuple #[.int .i64 (lbd l t:Nat),.bool (decide (t ∈ l))]
theorem b5Y {L:List (Sh×Value)} {w:World} {v:Value} {t:Int} (hL:Sl nF w 3 v (L.map fun p=>shC p.1 p.2)) (hr:Rises (L.map fun p=>p.1.page)) (hb:∀ q ∈ L.map fun p=>p.1.page,-9223372036854775808<=q - t/\q - t<=9223372036854775807) (ho:∀ p ∈ L,p.2.oneCell'=true) :
  Fn Tryz.prog 130 [v,.int .i64 t,.func (.func 131) #[] #[]] w (RBf (BsV (L.map fun p=>p.1.page) t) w):=by
 have hc:=fun (x:Sh×Value) (hx:x ∈ L) w=>b2K x.1 x.2 t w (ho x hx)
 have bnd:=hL.bound
 obtain ⟨p,c,rfl⟩:=hL.len
 refine yEn Tryz.func130 Tryz.ntmps130 (by kernel_rfl) (by kernel_rfl) rfl rfl ?_
 have hS:=St.start w
 repeat' (first|((with_reducible apply b9 b8);rfl;rfl;rfl)|refine yDn (by with_reducible constructor) ?_)
 refine k9 (X:=Nat×Nat) (fun x=>[(9,.int .i64 (x.1:Nat)),(10,.int .i64 (x.2:Nat))]) [0,1,2,8] rfl (fun _=>[]) (fun x=>x.1<=x.2/\x.2<=L.length/\(∀ (j:Nat) (q:Int),j < x.1->(L.map (fun p=>p.1.page))[j]?=some q->q < t)/\(∀ (j:Nat) (q:Int),x.2<=j->(L.map (fun p=>p.1.page))[j]?=some q->t<=q)) (fun x=>x.2 - x.1) (0,L.length) (by exact Fr.sub_of rfl) ⟨xi5 _,xd4 _,fun j q h=>by omega,fun j q h hq=>by have:=e6 hq;rw [xh1] at this;omega⟩ hS ?_
 clear hS
 rintro ⟨i,j⟩ w1 ⟨hij,hj,hlo,hhi⟩ hS
 dsimp only [List.cons_append,List.nil_append] at hij hj hlo hhi hS |-
 by_cases hlt:i < j
 ·obtain ⟨hm0,hm1⟩:i<=(i + j) / 2/\(i + j) / 2 < j:=by omega
  obtain ⟨h,hh⟩:∃ h,h=(i + j) / 2:=⟨_,rfl⟩
  rw [<- hh] at hm0 hm1
  have ehi:((i:Int) + (j:Int)) / 2=(h:Nat):=by omega
  obtain ⟨x,hx⟩:=i9 (l:=L) (i:=h) (by omega)
  have hrow:=d9 (f:=(fun p=>shC p.1 p.2)) hx
  have hpx:=d9 (f:=(fun p=>p.1.page)) hx
  have hbx:=hb _ (xd0 hpx)
  obtain ⟨b,off,rfl,hro⟩:=hL.at_ (i:=h) (by omega)
  have hcmp:=hc x (xd0 hx)
  repeat' (first|((with_reducible apply b9 b8);rfl;rfl;rfl)|((with_reducible apply a4l b8);rfl;rfl)|refine yDn (by with_reducible constructor) ?_|((with_reducible apply d8);rfl;all_goals (intro hb hp;try (exfalso;omega)))|((with_reducible apply b3q);rfl;rfl;rfl))
  rw [a7R (by omega) (by omega) ehi (by omega)]
  by_cases hp:x.1.page < t
  ·have hd:decide (x.1.page - t < 0)=true:=xi0 (by omega)
   repeat' (first|((with_reducible apply b9 b8);rfl;rfl;rfl)|((with_reducible apply c9);rfl;(((with_reducible apply Loads.st b8);rfl;((exact hS.roR (by assumption) (by assumption)));rfl));rfl)|((with_reducible apply l5 b8);rfl;rfl;rfl;((rfl));((omega));rfl)|((with_reducible apply i7);rfl;rfl;omega;omega;rfl)|refine yDn (by with_reducible constructor) ?_|((with_reducible apply e8);rfl;(assumption))|((with_reducible apply d7 hS);rfl;rfl;rfl;refine ⟨_,hcmp _ (by omega) (by omega),?_⟩;clear hS;intro w' hS))
   refine f7 (h + 1,j) (by exact Fr.sub_of rfl) ⟨by show h + 1<=j;omega,hj,fun k q hk hq=>?_,hhi⟩ hS (by show j - (h + 1) < j - i;omega)
   rcases xq4 k h with h1|h1
   ·exact Int.lt_trans (hr.at_ h1 hq hpx) hp
   ·obtain rfl:k=h:=by have:k < h + 1:=hk;omega
    rw [hpx] at hq
    cases hq
    exact hp
  ·have hd:decide (x.1.page - t < 0)=false:=xh9 (by omega)
   repeat' (first|((with_reducible apply b9 b8);rfl;rfl;rfl)|((with_reducible apply c9);rfl;(((with_reducible apply Loads.st b8);rfl;((exact hS.roR (by assumption) (by assumption)));rfl));rfl)|((with_reducible apply l5 b8);rfl;rfl;rfl;((rfl));((omega));rfl)|refine yDn (by with_reducible constructor) ?_|((with_reducible apply f8);rfl;(assumption))|((with_reducible apply d7 hS);rfl;rfl;rfl;refine ⟨_,hcmp _ (by omega) (by omega),?_⟩;clear hS;intro w' hS))
   refine f7 (i,h) (by exact Fr.sub_of rfl) ⟨by show i<=h;omega,by show h<=_;omega,hlo,fun k q hk hq=>?_⟩ hS (by show h - i < j - i;omega)
   rcases xq4 h k with h1|h1
   ·have:=hr.at_ h1 hpx hq
    have hp':¬ x.1.page < t:=hp
    omega
   ·obtain rfl:k=h:=by have:h<=k:=hk;omega
    rw [hpx] at hq
    cases hq
    have hp':¬ x.1.page < t:=hp
    omega
 ·obtain rfl:i=j:=by omega
  have hlb:lbd (L.map (fun p=>p.1.page)) t=i:=b0m (by rw [xh1];omega) hlo (fun q hq=>hhi i q (xd4 _) hq)
  unfold BsV
  rw [hlb]
  by_cases hil:i < L.length
  ·obtain ⟨x,hx⟩:=i9 (l:=L) (i:=i) (by omega)
   have hrow:=d9 (f:=(fun p=>shC p.1 p.2)) hx
   have hpx:=d9 (f:=(fun p=>p.1.page)) hx
   have hbx:=hb _ (xd0 hpx)
   obtain ⟨b,off,rfl,hro⟩:=hL.at_ (i:=i) (by omega)
   have hcmp:=hc x (xd0 hx)
   have hiff:=a1i hr t
   rw [hlb,hpx] at hiff
   have hdm:decide (t ∈ L.map (fun p=>p.1.page))=decide (x.1.page - t=0):=by
    rw [xk8,<- hiff]
    constructor
    ·intro h
     have h2:x.1.page=t:=Option.some.inj h
     omega
    ·intro h
     have h2:x.1.page=t:=by omega
     rw [h2]
   rw [hdm]
   repeat' (first|((with_reducible apply b9 b8);rfl;rfl;rfl)|((with_reducible apply c9);rfl;(((with_reducible apply Loads.st b8);rfl;((exact hS.roR (by assumption) (by assumption)));rfl));rfl)|((with_reducible apply l5 b8);rfl;rfl;rfl;((rfl));((omega));rfl)|refine yDn (by with_reducible constructor) ?_|((with_reducible apply k6);(iterate 4 rfl);(assumption))|((with_reducible apply f9);rfl;((assumption));rfl;rfl)|((with_reducible apply m8);rfl;rfl;rfl;all_goals (intro hb hp;try (exfalso;omega)))|((with_reducible apply d8);rfl;all_goals (intro hb hp;try (exfalso;omega)))|((with_reducible apply d7 hS);rfl;rfl;rfl;refine ⟨_,hcmp _ (by omega) (by omega),?_⟩;clear hS;intro w' hS))
   trace_state
   (refine a2L rfl ?_)
   exact ⟨rfl,hS.sub (xh2 _)⟩
  ·have hdm:decide (t ∈ L.map (fun p=>p.1.page))=false:=by
    rw [xm0,<- a1i hr t,hlb,xm2 (by rw [xh1];omega)]
    simp
   rw [hdm]
   repeat' (first|((with_reducible apply b9 b8);rfl;rfl;rfl)|refine yDn (by with_reducible constructor) ?_|((with_reducible apply p9);(iterate 4 rfl);((assumption));rfl)|((with_reducible apply e9);rfl;((assumption));rfl;rfl)|((with_reducible apply m8);rfl;rfl;rfl;all_goals (intro hb hp;try (exfalso;omega)))|((with_reducible apply d8);rfl;all_goals (intro hb hp;try (exfalso;omega))))
   (refine a2L rfl ?_)
   exact ⟨rfl,hS.sub (xh2 _)⟩
theorem b1v {L:List En} {w:World} {v:Value} {t:Int} (hL:Sl nF w 3 v (L.map enC)) (hr:Rises (L.map fun e=>e.page)) (hb:∀ q ∈ L.map fun e=>e.page,-9223372036854775808<=q - t/\q - t<=9223372036854775807) :
  Fn Tryz.prog 128 [v,.int .i64 t,.func (.func 129) #[] #[]] w (RBf (BsV (L.map fun e=>e.page) t) w):=by
 have hc:=fun (x:En) (_:x ∈ L) w=>b2T x t w
 have bnd:=hL.bound
 obtain ⟨p,c,rfl⟩:=hL.len
 refine yEn Tryz.func128 Tryz.ntmps128 (by kernel_rfl) (by kernel_rfl) rfl rfl ?_
 have hS:=St.start w
 repeat' (first|((with_reducible apply b9 b8);rfl;rfl;rfl)|refine yDn (by with_reducible constructor) ?_)
 refine k9 (X:=Nat×Nat) (fun x=>[(9,.int .i64 (x.1:Nat)),(10,.int .i64 (x.2:Nat))]) [0,1,2,8] rfl (fun _=>[]) (fun x=>x.1<=x.2/\x.2<=L.length/\(∀ (j:Nat) (q:Int),j < x.1->(L.map (fun e=>e.page))[j]?=some q->q < t)/\(∀ (j:Nat) (q:Int),x.2<=j->(L.map (fun e=>e.page))[j]?=some q->t<=q)) (fun x=>x.2 - x.1) (0,L.length) (by exact Fr.sub_of rfl) ⟨xi5 _,xd4 _,fun j q h=>by omega,fun j q h hq=>by have:=e6 hq;rw [xh1] at this;omega⟩ hS ?_
 clear hS
 rintro ⟨i,j⟩ w1 ⟨hij,hj,hlo,hhi⟩ hS
 dsimp only [List.cons_append,List.nil_append] at hij hj hlo hhi hS |-
 by_cases hlt:i < j
 ·obtain ⟨hm0,hm1⟩:i<=(i + j) / 2/\(i + j) / 2 < j:=by omega
  obtain ⟨h,hh⟩:∃ h,h=(i + j) / 2:=⟨_,rfl⟩
  rw [<- hh] at hm0 hm1
  have ehi:((i:Int) + (j:Int)) / 2=(h:Nat):=by omega
  obtain ⟨x,hx⟩:=i9 (l:=L) (i:=h) (by omega)
  have hrow:=d9 (f:=enC) hx
  have hpx:=d9 (f:=(fun e=>e.page)) hx
  have hbx:=hb _ (xd0 hpx)
  obtain ⟨b,off,rfl,hro⟩:=hL.at_ (i:=h) (by omega)
  have hcmp:=hc x (xd0 hx)
  repeat' (first|((with_reducible apply b9 b8);rfl;rfl;rfl)|((with_reducible apply a4l b8);rfl;rfl)|refine yDn (by with_reducible constructor) ?_|((with_reducible apply d8);rfl;all_goals (intro hb hp;try (exfalso;omega)))|((with_reducible apply b3q);rfl;rfl;rfl))
  rw [a7R (by omega) (by omega) ehi (by omega)]
  by_cases hp:x.page < t
  ·have hd:decide (x.page - t < 0)=true:=xi0 (by omega)
   repeat' (first|((with_reducible apply b9 b8);rfl;rfl;rfl)|((with_reducible apply c9);rfl;(((with_reducible apply Loads.st b8);rfl;((exact hS.roR (by assumption) (by assumption)));rfl));rfl)|((with_reducible apply l5 b8);rfl;rfl;rfl;((rfl));((omega));rfl)|((with_reducible apply i7);rfl;rfl;omega;omega;rfl)|refine yDn (by with_reducible constructor) ?_|((with_reducible apply e8);rfl;(assumption))|((with_reducible apply d7 hS);rfl;rfl;rfl;refine ⟨_,hcmp _ (by omega) (by omega),?_⟩;clear hS;intro w' hS))
   refine f7 (h + 1,j) (by exact Fr.sub_of rfl) ⟨by show h + 1<=j;omega,hj,fun k q hk hq=>?_,hhi⟩ hS (by show j - (h + 1) < j - i;omega)
   rcases xq4 k h with h1|h1
   ·exact Int.lt_trans (hr.at_ h1 hq hpx) hp
   ·obtain rfl:k=h:=by have:k < h + 1:=hk;omega
    rw [hpx] at hq
    cases hq
    exact hp
  ·have hd:decide (x.page - t < 0)=false:=xh9 (by omega)
   repeat' (first|((with_reducible apply b9 b8);rfl;rfl;rfl)|((with_reducible apply c9);rfl;(((with_reducible apply Loads.st b8);rfl;((exact hS.roR (by assumption) (by assumption)));rfl));rfl)|((with_reducible apply l5 b8);rfl;rfl;rfl;((rfl));((omega));rfl)|refine yDn (by with_reducible constructor) ?_|((with_reducible apply f8);rfl;(assumption))|((with_reducible apply d7 hS);rfl;rfl;rfl;refine ⟨_,hcmp _ (by omega) (by omega),?_⟩;clear hS;intro w' hS))
   refine f7 (i,h) (by exact Fr.sub_of rfl) ⟨by show i<=h;omega,by show h<=_;omega,hlo,fun k q hk hq=>?_⟩ hS (by show h - i < j - i;omega)
   rcases xq4 h k with h1|h1
   ·have:=hr.at_ h1 hpx hq
    have hp':¬ x.page < t:=hp
    omega
   ·obtain rfl:k=h:=by have:h<=k:=hk;omega
    rw [hpx] at hq
    cases hq
    have hp':¬ x.page < t:=hp
    omega
 ·obtain rfl:i=j:=by omega
  have hlb:lbd (L.map (fun e=>e.page)) t=i:=b0m (by rw [xh1];omega) hlo (fun q hq=>hhi i q (xd4 _) hq)
  unfold BsV
  rw [hlb]
  by_cases hil:i < L.length
  ·obtain ⟨x,hx⟩:=i9 (l:=L) (i:=i) (by omega)
   have hrow:=d9 (f:=enC) hx
   have hpx:=d9 (f:=(fun e=>e.page)) hx
   have hbx:=hb _ (xd0 hpx)
   obtain ⟨b,off,rfl,hro⟩:=hL.at_ (i:=i) (by omega)
   have hcmp:=hc x (xd0 hx)
   have hiff:=a1i hr t
   rw [hlb,hpx] at hiff
   have hdm:decide (t ∈ L.map (fun e=>e.page))=decide (x.page - t=0):=by
    rw [xk8,<- hiff]
    constructor
    ·intro h
     have h2:x.page=t:=Option.some.inj h
     omega
    ·intro h
     have h2:x.page=t:=by omega
     rw [h2]
   rw [hdm]
   repeat' (first|((with_reducible apply b9 b8);rfl;rfl;rfl)|((with_reducible apply c9);rfl;(((with_reducible apply Loads.st b8);rfl;((exact hS.roR (by assumption) (by assumption)));rfl));rfl)|((with_reducible apply l5 b8);rfl;rfl;rfl;((rfl));((omega));rfl)|refine yDn (by with_reducible constructor) ?_|((with_reducible apply k6);(iterate 4 rfl);(assumption))|((with_reducible apply f9);rfl;((assumption));rfl;rfl)|((with_reducible apply m8);rfl;rfl;rfl;all_goals (intro hb hp;try (exfalso;omega)))|((with_reducible apply d8);rfl;all_goals (intro hb hp;try (exfalso;omega)))|((with_reducible apply d7 hS);rfl;rfl;rfl;refine ⟨_,hcmp _ (by omega) (by omega),?_⟩;clear hS;intro w' hS))
   trace_state
   (refine a2L rfl ?_)
   exact ⟨rfl,hS.sub (xh2 _)⟩
  ·have hdm:decide (t ∈ L.map (fun e=>e.page))=false:=by
    rw [xm0,<- a1i hr t,hlb,xm2 (by rw [xh1];omega)]
    simp
   rw [hdm]
   repeat' (first|((with_reducible apply b9 b8);rfl;rfl;rfl)|refine yDn (by with_reducible constructor) ?_|((with_reducible apply p9);(iterate 4 rfl);((assumption));rfl)|((with_reducible apply e9);rfl;((assumption));rfl;rfl)|((with_reducible apply m8);rfl;rfl;rfl;all_goals (intro hb hp;try (exfalso;omega)))|((with_reducible apply d8);rfl;all_goals (intro hb hp;try (exfalso;omega))))
   (refine a2L rfl ?_)
   exact ⟨rfl,hS.sub (xh2 _)⟩
structure Ob where
 im:Im
 vn:Value
 vs:Value
 vy:Value
 vr:Value
 at_:Int
def imC (I:Im) (vn vs vy vr:Value):List Value:=[.string ⟨I.name.toArray⟩,vn,vs,vy,vr,.int .i64 I.entry]
def obC (o:Ob):List Value:=[.string ⟨o.im.name.toArray⟩,o.vn,o.vs,o.vy,o.vr,.int .i64 o.im.entry,.int .i64 o.at_]
abbrev ObV (w:World) (o:Ob):Prop:=ImV w o.im o.vn o.vs o.vy o.vr
def a7D (ys:List Sy) (nm:List UInt8):Option Int:=(ys.find? (fun s=>decide (s.name=nm))).map (·.at_)
def adr:List (Im×Int)->List UInt8->Option Int
 |[],_=>none
 |o::r,nm=>match a7D o.1.syms nm with
  |some a=>some (o.2 + a)
  |none=>adr r nm
def obP (os:List Ob):List (Im×Int):=os.map fun o=>(o.im,o.at_)
theorem b7c {os:List Ob} {i:Nat} {o:Ob} (h:os[i]?=some o):(obP os)[i]?=some (o.im,o.at_):=by unfold obP;rw [xm3,h];rfl
theorem b5x (os:List Ob):(obP os).length=os.length:=by unfold obP;simp
theorem b2s {ys:List Sy} {nm:List UInt8} {k:Nat} {s:Sy} (h:(ys.take k).all (fun s=>!decide (s.name=nm))=true) (hs:ys[k]?=some s) (hn:s.name=nm):a7D ys nm=some s.at_:=by
 unfold a7D
 have e:ys=ys.take k++s::ys.drop (k + 1):=by
  obtain ⟨h1,rfl⟩:=xa7.1 hs
  rw [List.getElem_cons_drop,xm4]
 rw [e,List.find?_append]
 have:(ys.take k).find? (fun s=>decide (s.name=nm))=none:=by
  rw [xj1]
  intro t ht
  have:=xc7.1 h t ht
  simpa using this
 rw [this,Option.none_or,xq1,xi0 hn]
 rfl
theorem b0s {ys:List Sy} {nm:List UInt8} {k:Nat} (h:(ys.take k).all (fun s=>!decide (s.name=nm))=true) (hk:ys.length<=k):a7D ys nm=none:=by
 unfold a7D
 rw [xa0 hk] at h
 have:ys.find? (fun s=>decide (s.name=nm))=none:=by
  rw [xj1]
  intro t ht
  have:=xc7.1 h t ht
  simpa using this
 rw [this];rfl
theorem b3A {l:List (Im×Int)} {nm:List UInt8} {i:Nat} {o:Im×Int} (h:l[i]?=some o):adr (l.drop i) nm=match a7D o.1.syms nm with
  |some a=>some (o.2 + a)
  |none=>adr (l.drop (i + 1)) nm:=by
 have:l.drop i=o::l.drop (i + 1):=by
  obtain ⟨h1,rfl⟩:=xa7.1 h
  exact xp4 h1
 rw [this];rfl
def b7i (o:Option Int):Value:=.tuple #[.int .i64 (o.getD 0),.bool o.isSome]
def rgt (s:Sg):Int:=(if s.wr then 1 else 0) + (if s.ex then 2 else 0)
theorem b17 (s:Sg) (w:World):Fn Tryz.prog 98 [.agg (sgC s).toArray] w (RBf (.int .i64 (rgt s)) w):=by
 have o1:∀ a b:Int,bits .or .i64 0 1=1:=fun _ _=>by decide
 have o2:bits .or .i64 0 2=2:=by decide
 have o3:bits .or .i64 1 2=3:=by decide
 obtain ⟨pg,n,d,wr,ex⟩:=s
 refine yEn Tryz.func98 Tryz.ntmps98 (by kernel_rfl) (by kernel_rfl) rfl rfl ?_
 have hS:=St.start w
 unfold sgC
 cases wr <;> cases ex
 all_goals (repeat' (first|((with_reducible apply b9 b8);rfl;rfl;rfl)|((with_reducible apply c9);rfl;(((with_reducible apply Loads.sc b8);rfl;((exact hS.blkC 0 rfl rfl))));rfl)|refine yDn (by with_reducible constructor) ?_|((with_reducible apply e8);rfl;(rfl))|((with_reducible apply f8);rfl;(rfl))|((with_reducible apply k7 hS);rfl;rfl;rfl;clear hS;intro g w' hS)|((with_reducible apply b76);rfl;rfl;(first|exact o1 0 0|exact o2|exact o3);rfl)))
 all_goals ((refine j4 rfl ?_))
 all_goals exact ⟨rfl,hS.sub (xh2 _)⟩
theorem b1c {os:List Ob} {w:World} {gw:Nat} {lv:Value} (nm:List UInt8) (hc:Bs nF w ⟨gw,2,none⟩ lv) (hl:Sl nF w 7 lv (os.map obC)) (hO:∀ o ∈ os,ObV w o) (hr:∀ o ∈ os,∀ s ∈ o.im.syms,-9223372036854775808<=o.at_ + s.at_/\o.at_ + s.at_<=9223372036854775807):Fn Tryz.prog 95 [.pointer (some ⟨gw,0,none⟩),.string ⟨nm.toArray⟩] w (RBf (b7i (adr (obP os) nm)) w):=by
 have bnd:=hl.bound
 obtain ⟨p,c,rfl⟩:=hl.len
 refine yEn Tryz.func95 Tryz.ntmps95 (by kernel_rfl) (by kernel_rfl) rfl rfl ?_
 have hS:=St.start w
 have hc0:Bs nF w ⟨gw,0 + 2,none⟩ _:=hc
 repeat' (first|((with_reducible apply b9 b8);rfl;rfl;rfl)|((with_reducible apply c9);rfl;(((with_reducible apply Loads.sl b8);rfl;((exact hS.bs (by assumption)))));rfl)|refine yDn (by with_reducible constructor) ?_)
 refine k9 (X:=Nat) (fun x=>[(15,.int .i64 (x:Nat))]) [0,1,13,14] rfl (fun _=>[]) (fun x=>x<=os.length/\adr (obP os) nm=adr ((obP os).drop x) nm) (fun x=>os.length - x) 0 (by exact Fr.sub_of rfl) (by simp) hS ?_
 clear hS
 intro i w1 hI hS
 obtain ⟨hi,had⟩:=hI
 dsimp only [List.cons_append,List.nil_append] at hi had hS |-
 by_cases hlt:i < os.length
 rotate_left
 ·rw [xn8 (by rw [b5x];omega)] at had
  repeat' (first|((with_reducible apply b9 b8);rfl;rfl;rfl)|refine yDn (by with_reducible constructor) ?_|((with_reducible apply d8);rfl;all_goals (intro hb hp;try (exfalso;omega))))
  (refine a2L rfl ?_)
  exact ⟨by rw [had];rfl,hS.sub (xh2 _)⟩
 obtain ⟨o,ho⟩:=i9 (l:=os) (i:=i) (by omega)
 have hrow:=d9 (f:=obC) ho
 obtain ⟨b,off,rfl,hro⟩:=hl.at_ (i:=i) hlt
 have hst:=b3A (nm:=nm) (b7c ho)
 have hov:=hO o (xd0 ho)
 have hor:=hr o (xd0 ho)
 rw [hst] at had
 obtain ⟨I,vn,vs,vy,vr,at_⟩:=o
 dsimp only at had hor
 replace hov:ImV w I vn vs vy vr:=hov
 have by_:=hov.syms.bound
 have hsy:=hov.syms
 obtain ⟨pn,cn,rfl⟩:=hov.needs.len
 obtain ⟨ps,cs,rfl⟩:=hov.segs.len
 obtain ⟨py,cy,rfl⟩:=hov.syms.len
 obtain ⟨pr,cr,rfl⟩:=hov.rels.len
 unfold obC at hrow
 repeat' (first|((with_reducible apply b9 b8);rfl;rfl;rfl)|((with_reducible apply c9);rfl;(first|((with_reducible apply Loads.sl b8);rfl;((exact hS.blkC 0 rfl rfl)))|((with_reducible apply Loads.st b8);rfl;((exact hS.roR (by assumption) (by assumption)));rfl));rfl)|((with_reducible apply l5 b8);rfl;rfl;rfl;((rfl));((omega));rfl)|refine yDn (by with_reducible constructor) ?_|((with_reducible apply d6 hS b8);rfl;rfl;rfl;clear hS;intro g w' hS)|((with_reducible apply d5 hS b8 (i:=0));(iterate 8 rfl);((exact (rfl:_=[_,_,_,_,_,_,_])));clear hS;intro w' hS;simp only [List.set] at hS)|((with_reducible apply d8);rfl;all_goals (intro hb hp;try (exfalso;omega))))
 rename Nat=>g7
 refine k9 (X:=Nat) (fun x=>[(23,.int .i64 (x:Nat))]) [0,1,13,14,15,7,21,22] rfl (fun _=>[]) (fun x=>x<=I.syms.length/\(I.syms.take x).all (fun s=>!decide (s.name=nm))=true) (fun x=>I.syms.length - x) 0 (by exact Fr.sub_of rfl) (by simp) hS ?_
 clear hS
 intro k w2 hK hS
 obtain ⟨hk,hall⟩:=hK
 dsimp only [List.cons_append,List.nil_append] at hk hall hS |-
 by_cases hkt:k < I.syms.length
 ·obtain ⟨y,hy⟩:=i9 (l:=I.syms) (i:=k) (by omega)
  have hrow2:=d9 (f:=syC) hy
  obtain ⟨b2,off2,rfl,hro2⟩:=hsy.at_ (i:=k) hkt
  have hyr:=hor y (xd0 hy)
  by_cases hn:y.name=nm
  ·have hd:decide (y.name=nm)=true:=xi0 hn
   rw [b2s hall hy hn] at had
   repeat' (first|((with_reducible apply b9 b8);rfl;rfl;rfl)|((with_reducible apply c9);rfl;(first|((with_reducible apply Loads.sc b8);rfl;(first|exact hS.blkC 0 rfl rfl|exact hS.blkC 1 rfl rfl))|((with_reducible apply Loads.st b8);rfl;((exact hS.roR (by assumption) (by assumption)));rfl));rfl)|((with_reducible apply l5 b8);rfl;rfl;rfl;((rfl));((omega));rfl)|((with_reducible apply i7);rfl;rfl;omega;omega;rfl)|refine yDn (by with_reducible constructor) ?_|((with_reducible apply e8);rfl;(assumption))|((with_reducible apply d6 hS b8);rfl;rfl;rfl;clear hS;intro g w' hS)|((with_reducible apply d5 hS b8 (i:=0));(iterate 8 rfl);((exact (rfl:_=[_,_])));clear hS;intro w' hS;simp only [List.set] at hS)|((with_reducible apply d8);rfl;all_goals (intro hb hp;try (exfalso;omega))))
   (refine a2L rfl ?_)
   exact ⟨by rw [had];rfl,hS.sub (xh2 _)⟩
  ·have hd:decide (y.name=nm)=false:=xh9 hn
   repeat' (first|((with_reducible apply b9 b8);rfl;rfl;rfl)|((with_reducible apply c9);rfl;(first|((with_reducible apply Loads.sc b8);rfl;((exact hS.blkC 0 rfl rfl)))|((with_reducible apply Loads.st b8);rfl;((exact hS.roR (by assumption) (by assumption)));rfl));rfl)|((with_reducible apply l5 b8);rfl;rfl;rfl;((rfl));((omega));rfl)|((with_reducible apply i7);rfl;rfl;omega;omega;rfl)|refine yDn (by with_reducible constructor) ?_|((with_reducible apply f8);rfl;(assumption))|((with_reducible apply d6 hS b8);rfl;rfl;rfl;clear hS;intro g w' hS)|((with_reducible apply d5 hS b8 (i:=0));(iterate 8 rfl);((exact (rfl:_=[_,_])));clear hS;intro w' hS;simp only [List.set] at hS)|((with_reducible apply d8);rfl;all_goals (intro hb hp;try (exfalso;omega))))
   exact f7 (k + 1) (by exact Fr.sub_of rfl) ⟨by show k + 1<=I.syms.length;omega,n9 hall hy (by simp [hn])⟩ hS.drop (by show I.syms.length - (k + 1) < I.syms.length - k;omega)
 ·rw [b0s hall (by omega)] at had
  repeat' (first|((with_reducible apply b9 b8);rfl;rfl;rfl)|((with_reducible apply i7);rfl;rfl;omega;omega;rfl)|refine yDn (by with_reducible constructor) ?_|((with_reducible apply d8);rfl;all_goals (intro hb hp;try (exfalso;omega))))
  exact f7 (i + 1) (by exact Fr.sub_of rfl) ⟨by show i + 1<=os.length;omega,had⟩ hS.drop (by show os.length - (i + 1) < os.length - i;omega)
def stK (l:List UInt8):Value:=.string ⟨l.toArray⟩
def PlI (es:Array MapEntry) (os:List Ob):Prop:=∃ L,MapG .string es L/\L.map (·.1)=os.map fun o=>stK o.im.name
abbrev LkS (gw rb rp:Nat) (p:Option Addr) (c:Nat) (next:Int) (es:Array MapEntry) (cc:Nat) (os:List Ob):List Asr :=
 [.blk gw [.map (some rb),.map (some rp),.slice p os.length c,.int .i64 next],.obj rp (.map es cc),.row 112 7 (.slice p os.length c) (os.map obC)]
theorem PlI.mem {es:Array MapEntry} {os:List Ob} {L:List (Value×Value)} (h:L.map (·.1)=os.map fun o=>stK o.im.name) (nm:List UInt8):(∃ v,(stK nm,v) ∈ L) ↔ ∃ o ∈ os,o.im.name=nm:=by
 constructor
 ·rintro ⟨v,hv⟩
  have:stK nm ∈ L.map (·.1):=xh0.2 ⟨_,hv,rfl⟩
  rw [h] at this
  obtain ⟨o,ho,e⟩:=xh0.1 this
  unfold stK at e
  exact ⟨o,ho,by simpa using e⟩
 ·rintro ⟨o,ho,rfl⟩
  have:stK o.im.name ∈ L.map (·.1):=by rw [h];exact xh0.2 ⟨o,ho,rfl⟩
  obtain ⟨p,hp,e⟩:=xh0.1 this
  exact ⟨p.2,by rw [<- e];exact hp⟩
theorem Sl.atF {F:Nat->Prop} {w:World} {sz:Nat} {α:Type} {f:α->List Value} {l:List α} {p:Option Addr} {n c i:Nat} (h:Sl F w sz (.slice p n c) (l.map f)) (hi:i < l.length):∃ b off,p=some ⟨b,off,none⟩/\RoAt F w b off sz (l.map f):=by
 rcases h.parts.2 with h2|⟨b,off,rfl,_,_,hro⟩
 ·have:=congrArg List.length h2
  rw [xh1,xa2] at this
  omega
 ·exact ⟨b,off,rfl,hro⟩
def a8B (os:List Ob) (nm:List UInt8):Bool:=os.any fun o=>decide (o.im.name=nm)
theorem a4D {os:List Ob} {nm:List UInt8}:a8B os nm=true ↔ ∃ o ∈ os,o.im.name=nm:=by unfold a8B;simp
def a1Q (I:Im):Int:=match I.segs.getLast? with
 |some s=>s.pg + s.n
 |none=>0
def a7s (os:List Ob) (next:Int) (I:Im) (vn vs vy vr:Value):List Ob:=if a8B os I.name=true then os else os++[⟨I,vn,vs,vy,vr,next * 16⟩]
def a4z (os:List Ob) (next:Int) (I:Im):Int:=if a8B os I.name=true then next else next + a1Q I
theorem a5n:(Tryz.prog).underlying 105=some (.map 9 3):=by kernel_rfl
theorem a1H:(Tryz.prog).underlying 9=some .string:=by kernel_rfl
theorem b7s:((Tryz.prog).info? 3).bind (·.zero)=some (.int .i64 0):=by kernel_rfl
theorem a9F {F:Nat->Prop} {w0 w:World} {Γ:List Asr} {gw rb rp c cc:Nat} {p:Option Addr} {next:Int} {es:Array MapEntry} {os:List Ob} {I:Im} {vn vs vy vr:Value} (hS0:St F w0 w (LkS gw rb rp p c next es cc os++Γ)) (hP:PlI es os) (hI:ImV w I vn vs vy vr) (hIs:Sl (fps (LkS gw rb rp p c next es cc os)) w 5 vs (I.segs.map sgC)) (hs1:1<=I.segs.length) (hs2:I.segs.all a2O=true) (hs3:I.segs.length<=6) (hn0:0<=next) (hn1:next<=100000) (hol:os.length<=1000) :
  Fn Tryz.prog 93 [.pointer (some ⟨gw,0,none⟩),imA I vn vs vy vr] w (fun v w'=>v=.int .i64 0/\∃ p' c' es' cc',PlI es' (a7s os next I vn vs vy vr)/\St (fps (LkS gw rb rp p c next es cc os)) w w' (LkS gw rb rp p' c' (a4z os next I) es' cc' (a7s os next I vn vs vy vr))):=by
 obtain ⟨L,hL,hLk⟩:=hP
 have hmem:=PlI.mem (es:=es) hLk I.name
 unfold a7s a4z
 obtain ⟨pn,cn,rfl⟩:=hI.needs.len
 obtain ⟨ps,cs,rfl⟩:=hI.segs.len
 obtain ⟨py,cy,rfl⟩:=hI.syms.len
 obtain ⟨pr,cr,rfl⟩:=hI.rels.len
 refine yEn Tryz.func93 Tryz.ntmps93 (by kernel_rfl) (by kernel_rfl) rfl rfl ?_
 have hS:=St.startM hS0
 simp only [LkS] at hS
 by_cases hpl:a8B os I.name=true
 ·obtain ⟨v,hv⟩:=hmem.2 (a4D.1 hpl)
  rw [xf0 hpl,xf0 hpl]
  repeat' (first|((with_reducible apply b9 b8);rfl;rfl;rfl)|refine yDn (by with_reducible constructor) ?_|((with_reducible apply k7 hS);rfl;rfl;rfl;clear hS;intro g w' hS))
  (focus ((with_reducible apply e7 _ _ _ (by kernel_rfl) (by kernel_rfl) hS);(repeat' (first|(first|((with_reducible apply j3 b8);rfl;rfl)|((with_reducible apply j0);rfl;(intro wd hd;replace hd:St _ _ wd _:=hd;(((with_reducible apply Loads.sc b8);rfl;(first|exact hd.blkC 0 rfl rfl|exact hd.blkC 1 rfl rfl))));rfl))|((with_reducible apply b3D);rfl;rfl;exact b40 2 a5n a1H rfl hL (k:=stK I.name) trivial hv true;rfl)));all_goals ((with_reducible apply k8);intro w' hS';clear hS;have hS:=hS';clear hS')))
  repeat' (first|((with_reducible apply b9 b8);rfl;rfl;rfl)|refine yDn (by with_reducible constructor) ?_|((with_reducible apply e8);rfl;(rfl)))
  (refine j4 rfl ?_)
  exact ⟨rfl,p,c,es,cc,⟨L,hL,hLk⟩,hS.drop⟩
 ·rw [xf1 hpl,xf1 hpl]
  have hno:∀ v,(stK I.name,v) ∉ L:=fun v hv=>hpl (a4D.2 (hmem.1 ⟨v,hv⟩))
  repeat' (first|((with_reducible apply b9 b8);rfl;rfl;rfl)|refine yDn (by with_reducible constructor) ?_|((with_reducible apply k7 hS);rfl;rfl;rfl;clear hS;intro g w' hS))
  rename Nat=>g3
  (focus ((with_reducible apply e7 _ _ _ (by kernel_rfl) (by kernel_rfl) hS);(repeat' (first|(first|((with_reducible apply j3 b8);rfl;rfl)|((with_reducible apply j0);rfl;(intro wd hd;replace hd:St _ _ wd _:=hd;(((with_reducible apply Loads.sc b8);rfl;(first|exact hd.blkC 0 rfl rfl|exact hd.blkC 1 rfl rfl))));rfl))|((with_reducible apply b3D);rfl;rfl;exact b15 2 a5n a1H b7s rfl hL (k:=stK I.name) trivial hno true;rfl)));all_goals ((with_reducible apply k8);intro w' hS';clear hS;have hS:=hS';clear hS')))
  obtain ⟨k,hk⟩:∃ k,I.segs.length=k + 1:=⟨I.segs.length - 1,by omega⟩
  have hix:((k:Nat):Int)=(I.segs.length:Int) - 1:=by omega
  have hlt:k < I.segs.length:=by omega
  obtain ⟨y,hy⟩:=i9 (l:=I.segs) (i:=k) (by omega)
  have hrow:(I.segs.map sgC)[k]?=some [.int .i64 y.pg,.int .i64 y.n,.string ⟨y.data.toArray⟩,.bool y.wr,.bool y.ex]:=d9 (f:=sgC) hy
  obtain ⟨b,off,rfl,hro⟩:=hIs.atF (i:=k) hlt
  have hle:a1Q I=y.pg + y.n:=by
   unfold a1Q
   rw [List.getLast?_eq_getElem?,show I.segs.length - 1=k by omega,hy]
  have hyo:=xc7.1 hs2 y (xd0 hy)
  unfold a2O at hyo
  replace hyo:=xl4 hyo
  obtain ⟨y1,y2,y3,y4,-⟩:=hyo
  rw [hle]
  repeat' (first|((with_reducible apply b9 b8);rfl;rfl;rfl)|((with_reducible apply c9);rfl;(first|((with_reducible apply Loads.sl b8);rfl;((exact hS.blkC 0 rfl rfl)))|((with_reducible apply Loads.st b8);rfl;((exact hS.roR (by assumption) (by assumption)));rfl));rfl)|((with_reducible apply l5 b8);rfl;rfl;rfl;((assumption));((omega));rfl)|((with_reducible apply a0x);rfl;rfl;omega;omega;rfl)|refine yDn (by with_reducible constructor) ?_|((with_reducible apply f8);rfl;(rfl))|((with_reducible apply d6 hS b8);rfl;rfl;rfl;clear hS;intro g w' hS)|((with_reducible apply d5 hS b8 (i:=0));(iterate 8 rfl);((exact (rfl:_=[_,_,_,_,_])));clear hS;intro w' hS;simp only [List.set] at hS))
  (focus ((with_reducible apply a09 _ _ _ 11 (by kernel_rfl) (by kernel_rfl) hS);(simp only [xh3,xh4,xk4,xk5]);(repeat' ((first|((with_reducible apply j3 b8);rfl;rfl)|((with_reducible apply j0);rfl;(intro wd hd;replace hd:St _ _ wd _:=hd;(first|((with_reducible apply Loads.sc b8);rfl;(first|exact hd.blkC 1 rfl rfl|exact hd.blkC 2 rfl rfl))|((with_reducible apply Loads.sl b8);rfl;((exact hd.blkC 2 rfl rfl)))));rfl))));all_goals ((with_reducible apply k8);intro w' hS';clear hS;have hS:=hS';clear hS')))
  refine a2a (a8U hS (i:=3) a5n a1H rfl rfl rfl rfl hL (k:=stK I.name) trivial hno) ?_
  rintro - w9 ⟨es',cc',hL',hS'⟩
  simp only [List.set] at hS'
  clear hS;have hS:=hS';clear hS'
  repeat' ((refine yDn (by with_reducible constructor) ?_))
  refine a3v (fun w'=>(Asr.blk gw [.map (some rb),.map (some rp),.slice p os.length c,.int .i64 next]).holds w'/\(Asr.blk g3 [.string ⟨I.name.toArray⟩,.slice pn I.needs.length cn,.slice (some ⟨b,off,none⟩) I.segs.length cs,.slice py I.syms.length cy,.slice pr I.rels.length cr,.int .i64 I.entry]).holds w') 16 17 rfl hS (by kernel_rfl) ?_
  intro w10 hS'
  clear hS;have hS:=hS';clear hS'
  have hH:=And.intro (hS.at_ (i:=2) rfl) (hS.at_ (i:=1) rfl)
  ((with_reducible apply a0T (nn 0) b8);rfl;kernel_rfl;kernel_rfl;kernel_rfl;rfl;exact (fun _ _ _ h=>h);exact xd3 hH;rfl;rfl)
  ((with_reducible apply a0T (nn 1) b8);rfl;kernel_rfl;kernel_rfl;kernel_rfl;rfl;exact (fun _ _ _ h=>h);exact xd3 hH;rfl;rfl)
  ((with_reducible apply a0T (nn 2) b8);rfl;kernel_rfl;kernel_rfl;kernel_rfl;rfl;exact (fun _ _ _ h=>h);exact xd3 hH;rfl;rfl)
  ((with_reducible apply a0T (nn 3) b8);rfl;kernel_rfl;kernel_rfl;kernel_rfl;rfl;exact (fun _ _ _ h=>h);exact xd3 hH;rfl;rfl)
  ((with_reducible apply a4F (nn 4));rfl;kernel_rfl;kernel_rfl;kernel_rfl;kernel_rfl;rfl;rfl;exact (fun _ _ _ h=>h);exact hH;rfl;(intro w2 hw2;((with_reducible apply Loads.sl b8);rfl;exact a3j hw2.1 rfl));rfl)
  ((with_reducible apply a4F (nn 5));rfl;kernel_rfl;kernel_rfl;kernel_rfl;kernel_rfl;rfl;rfl;exact (fun _ _ _ h=>h);exact hH;rfl;(intro w2 hw2;((with_reducible apply Loads.st b8);rfl;(exact fun j v hj=>by rw [xb1];exact a3j hw2.2 hj);rfl));rfl)
  ((with_reducible apply a0T (nn 6) b8);rfl;kernel_rfl;kernel_rfl;kernel_rfl;rfl;exact (fun _ _ _ h=>h);exact xd3 hH;rfl;rfl)
  ((with_reducible apply a0T (nn 7) b8);rfl;kernel_rfl;kernel_rfl;kernel_rfl;rfl;exact (fun _ _ _ h=>h);exact xd3 hH;rfl;rfl)
  ((with_reducible apply a0T (nn 8) b8);rfl;kernel_rfl;kernel_rfl;kernel_rfl;rfl;exact (fun _ _ _ h=>h);exact xd3 hH;rfl;rfl)
  ((with_reducible apply a4F (nn 9));rfl;kernel_rfl;kernel_rfl;kernel_rfl;kernel_rfl;rfl;rfl;exact (fun _ _ _ h=>h);exact hH;rfl;(intro w2 hw2;((with_reducible apply Loads.sc b8);rfl;exact a3j hw2.1 rfl));rfl)
  refine o7 (i:=10) (by kernel_rfl) ?_
  refine q8 rfl (Gets.of_runs fun a ha=>b6F rfl rfl (by omega) (by omega) a ha _) rfl ?_
  rintro _ _ ⟨rfl,rfl⟩
  refine ⟨xd3 (xd3 hH),?_⟩
  refine o7 (i:=11) (by kernel_rfl) ?_
  ((with_reducible apply b1z b8);rfl;rfl;rfl;((exact (rfl:_=some [_,_,_,_,_,_,_])));rfl)
  refine ⟨xd3 (xd3 hH),?_⟩
  refine o7 (i:=12) (by kernel_rfl) ?_
  refine q8 rfl (z0 hS b8 rfl rfl rfl rfl rfl rfl) rfl ?_
  rintro _ w' ⟨g9,rfl,hS'⟩
  clear hS;have hS:=hS';clear hS'
  refine ⟨xd3 (xd3 ⟨hS.at_ (i:=3) rfl,hS.at_ (i:=2) rfl⟩),?_⟩
  refine o7 (i:=13) (by kernel_rfl) ?_
  refine q8 rfl (a0K hS b8 (i:=5) rfl rfl rfl rfl (hS.rowRo 0 rfl) rfl (by simp only [xh1];omega)) rfl ?_
  rintro _ w' ⟨p',c',rfl,hS'⟩
  simp only [List.set] at hS'
  clear hS;have hS:=hS';clear hS'
  have hH:=And.intro (hS.at_ (i:=3) rfl) (hS.at_ (i:=2) rfl)
  refine ⟨xd3 (xd3 hH),?_⟩
  ((with_reducible apply a0T (nn 14) b8);rfl;kernel_rfl;kernel_rfl;kernel_rfl;rfl;exact (fun _ _ _ h=>h);exact xd3 hH;rfl;rfl)
  ((with_reducible apply a0T (nn 15) b8);rfl;kernel_rfl;kernel_rfl;kernel_rfl;rfl;exact (fun _ _ _ h=>h);exact xd3 hH;rfl;rfl)
  refine o7 (i:=16) (by kernel_rfl) ?_
  refine a04 (Φ:=fun _ w'=>St _ _ w' _) rfl (l9 hS b8 (i:=3) rfl rfl rfl rfl rfl (xg4 rfl) (by intro u hu;simp [Value.cells] at hu;subst hu;rfl)) ?_
  intro _ w' hS'
  simp only [List.set] at hS'
  clear hS;have hS:=hS';clear hS'
  refine ⟨xd6 rfl,?_⟩
  refine a1x (by kernel_rfl) ?_
  repeat' ((refine yDn (by with_reducible constructor) ?_))
  (focus ((with_reducible apply a09 _ _ _ 12 (by kernel_rfl) (by kernel_rfl) hS);(simp only [xh3,xh4,xk4,xk5]);(repeat' ((first|((with_reducible apply a10);rfl;rfl;omega;omega;rfl)|((with_reducible apply j3 b8);rfl;rfl)|((with_reducible apply j0);rfl;(intro wd hd;replace hd:St _ _ wd _:=hd;(((with_reducible apply Loads.sc b8);rfl;(first|exact hd.blkC 1 rfl rfl|exact hd.blkC 3 rfl rfl))));rfl))));all_goals ((with_reducible apply k8);intro w' hS';clear hS;have hS:=hS';clear hS')))
  repeat' (first|((with_reducible apply b9 b8);rfl;rfl;rfl)|refine yDn (by with_reducible constructor) ?_|((with_reducible apply d5 hS b8 (i:=3));(iterate 8 rfl);((exact (rfl:_=[_,_,_,_])));clear hS;intro w' hS;simp only [List.set] at hS))
  (refine j4 rfl ?_)
  have hS2:=hS.drop.drop.drop
  clear hS
  refine ⟨rfl,p',c',es',cc',⟨_,hL',?_⟩,?_⟩
  ·rw [xk2,hLk,xk2]
   rfl
  ·unfold LkS
   rw [xe9,xk2]
   rw [xh1] at hS2
   exact hS2
structure ImF (F:Nat->Prop) (w:World) (o:Ob):Prop where
 needs:Sl F w 1 o.vn (o.im.needs.map stC)
 segs:Sl F w 5 o.vs (o.im.segs.map sgC)
 syms:Sl F w 2 o.vy (o.im.syms.map syC)
 rels:Sl F w 3 o.vr (o.im.rels.map rlC)
theorem ImF.now {F:Nat->Prop} {w w':World} {Γ:List Asr} {o:Ob} (h:ImF F w o) (hS:St F w w' Γ):ObV w' o:=⟨h.needs.now hS,h.segs.now hS,h.syms.now hS,h.rels.now hS⟩
def a7k (o:Ob):Value:=.agg (imC o.im o.vn o.vs o.vy o.vr).toArray
def OfB (B:List Ob) (o:Ob):Prop:=∃ a:Int,{ o with at_:=a } ∈ B
structure b0K (I:Im):Prop where
 s1:1<=I.segs.length
 s2:I.segs.all a2O=true
 s3:I.segs.length<=6
def v6 (s:List Ob×Int) (o:Ob):List Ob×Int:=(a7s s.1 s.2 o.im o.vn o.vs o.vy o.vr,a4z s.1 s.2 o.im)
def a5S (B:List Ob) (nm:List UInt8):Option Ob:=B.find? fun o=>decide (o.im.name=nm)
def a1B (B:List Ob):List (List UInt8)->List Ob×Int->Option (List Ob×Int)
 |[],s=>some s
 |nm::r,s=>match a5S B nm with
  |none=>none
  |some o=>a1B B r (v6 s o)
def a3C (B:List Ob):Nat->Nat->List Ob×Int->Option (List Ob×Int)
 |0,_,s=>some s
 |f + 1,n,s=>match s.1[n]? with
  |none=>some s
  |some o=>match a1B B o.im.needs s with
   |none=>none
   |some s'=>a3C B f (n + 1) s'
structure AllI (B:List Ob) (s:List Ob×Int):Prop where
 sub:∀ o ∈ s.1,OfB B o
 nd:(s.1.map fun o=>o.im.name).Nodup
 lo:1<=s.2
 hi:s.2<=1 + 255 * s.1.length
theorem a5t {α:Type} [DecidableEq α]:∀ {l m:List α},l.Nodup->(∀ x ∈ l,x ∈ m)->l.length<=m.length
 |[],_,_,_=>by simp
 |a::l,m,h,hs=>by
  rw [List.nodup_cons] at h
  have ha:=hs a (by simp)
  have:=a5t (l:=l) (m:=m.erase a) h.2 fun x hx=>by
   refine (List.mem_erase_of_ne ?_).2 (hs x (xc6 _ hx))
   rintro rfl
   exact h.1 hx
  rw [List.length_erase_of_mem ha] at this
  have hm:0 < m.length:=xn3 ha
  rw [xb3]
  omega
theorem AllI.len {B:List Ob} {s:List Ob×Int} (h:AllI B s):s.1.length<=B.length:=by
 have:=a5t (m:=B.map fun o=>o.im.name) h.nd fun x hx=>by
  obtain ⟨o,ho,rfl⟩:=xh0.1 hx
  obtain ⟨a,ha⟩:=h.sub o ho
  exact xh0.2 ⟨_,ha,rfl⟩
 simpa using this
theorem a6t {I:Im} (h:b0K I):0<=a1Q I/\a1Q I<=255:=by
 unfold a1Q
 split
 ·rename_i s hs
  have:=xc7.1 h.s2 s (List.mem_of_getLast? hs)
  unfold a2O at this
  have:=xl4 this
  omega
 ·omega
theorem AllI.step {B:List Ob} {s:List Ob×Int} {o:Ob} (h:AllI B s) (ho:o ∈ B) (hI:b0K o.im):AllI B (v6 s o):=by
 unfold v6 a7s a4z
 by_cases hp:a8B s.1 o.im.name=true
 ·rw [xf0 hp,xf0 hp];exact h
 ·rw [xf1 hp,xf1 hp]
  have hl:=a6t hI
  refine ⟨fun x hx=>?_,?_,?_,?_⟩
  ·rcases xe3.1 hx with h1|h1
   ·exact h.sub x h1
   ·have:x=⟨o.im,o.vn,o.vs,o.vy,o.vr,s.2 * 16⟩:=by simpa using h1
    exact ⟨o.at_,by rw [this];exact ho⟩
  ·rw [xk2,xq6]
   refine ⟨h.nd,by simp,fun a ha b hb=>?_⟩
   have:b=o.im.name:=by simpa using hb
   subst this
   rintro rfl
   obtain ⟨x,hx,e⟩:=xh0.1 ha
   exact hp (a4D.2 ⟨x,hx,e⟩)
  ·have:=h.lo
   show 1<=s.2 + a1Q o.im
   omega
  ·have:=h.hi
   show s.2 + a1Q o.im<=1 + 255 * ((s.1++[_]).length:Int)
   rw [xe9]
   simp only [xb3,xa2]
   omega
theorem a7w {B:List Ob} {nm:List UInt8} {o:Ob} (h:a5S B nm=some o):o ∈ B/\o.im.name=nm:=by
 unfold a5S at h
 exact ⟨xj4 h,by simpa using xg8 h⟩
theorem b05 {B:List Ob} {nm:List UInt8} (h:a5S B nm=none):∀ o ∈ B,o.im.name≠nm:=by
 unfold a5S at h
 rw [xj1] at h
 exact fun o ho=>by simpa using h o ho
theorem a8Z {B:List Ob} {l:List (List UInt8)} {k:Nat} {nm:List UInt8} {s:List Ob×Int} (h:l[k]?=some nm):a1B B (l.drop k) s=match a5S B nm with
  |none=>none
  |some o=>a1B B (l.drop (k + 1)) (v6 s o):=by
 have:l.drop k=nm::l.drop (k + 1):=by
  obtain ⟨h1,rfl⟩:=xa7.1 h
  exact xp4 h1
 rw [this];rfl
end Go.Proofs.YtejnpppejalhfabGreat
