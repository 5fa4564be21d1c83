/- Texts that the proof stands on, one behind the other: BitsF, Choose, Im1, Lk1, Lk2, Lk3. -/
import Derived.Lib.QuietBelow
import Derived.Test.YtejnpppejalhfabGreatPKernelStarts4
namespace Go.Proofs.YtejnpppejalhfabGreat
set_option maxRecDepth 100000
set_option maxHeartbeats 8000000
open Go.RowKit Go.Sort
theorem b4Y (s t:List UInt8) (off:Int) (w:World) (hs:s.length<=maxLen):Fn Tryz.prog 76 [.string ⟨s.toArray⟩,.int .i64 off,.string ⟨t.toArray⟩] w (RBf (.tuple #[.string ⟨(if inB off t.length s.length=true then splice s off.toNat t else []).toArray⟩,.int .i64 (if inB off t.length s.length=true then 0 else 3)]) w):=by
 by_cases h:inB off t.length s.length=true
 ·rw [xf0 h,xf0 h];unfold inB at h;simp only [xb5] at h;have h1:=b5T s t off.toNat w hs (by omega);rw [xk8 (by omega)] at h1;exact Fn.of_rb ⟨Tryz.func76,by kernel_rfl,by kernel_rfl⟩ (a69 h1)
 ·rw [xf1 h,xf1 h];exact (Fn.of_same ⟨Tryz.func76,by kernel_rfl,by kernel_rfl⟩ (b7j s t off w hs (by simpa using h))).mono (by rintro v w' ⟨rfl,rfl⟩;exact ⟨rfl,St.start _⟩)
theorem b6v (s t:List UInt8) (off:Nat) (w:World) (hs:s.length<=maxLen) (h:off + t.length<=s.length):Fn Tryz.prog 79 [.string ⟨s.toArray⟩,.int .i64 off,.string ⟨t.toArray⟩] w (RBf (.string ⟨(splice s off t).toArray⟩) w) :=
 ⟨⟨_,Tryz.func79,by kernel_rfl,by kernel_rfl⟩,(b4V s t off w hs h).mono fun _ _ ⟨he,n,hw⟩=>⟨_,he,rfl,by subst hw;exact (St.start w).grow ⟨rfl,rfl,rfl,xd4 _,fun _ _ _=>rfl⟩⟩⟩
theorem q7 (x a b:Int) (w:World):Fn Tryz.prog 56 [.int .i64 x,.int .i64 a,.int .i64 b] w (RBf (.bool (decide (a<=x/\x<=b))) w):=by
 refine yEn Tryz.func56 Tryz.ntmps56 (by kernel_rfl) (by kernel_rfl) rfl rfl ?_;have hS:=St.start w
 repeat' (first|(with_reducible apply b9 b8);rfl;rfl;rfl|refine yDn (by with_reducible constructor) ?_|(with_reducible apply k6);(iterate 4 rfl);assumption|(with_reducible apply q8);(iterate 4 rfl);assumption;rfl|(with_reducible apply i7);rfl;assumption;rfl;rfl|(with_reducible apply e9);rfl;assumption;rfl;rfl|(with_reducible apply n9);rfl;rfl;rfl;all_goals (intro hb hp;try (exfalso;omega)))
 ·(refine j4 rfl ?_)
  exact ⟨by simp [hp],hS⟩
 ·(refine j4 rfl ?_)
  exact ⟨by simp;omega,hS⟩
theorem i9 {α:Type} {l:List α} {i:Nat} (h:(i:Int) < l.length):∃ x,l[i]?=some x:=⟨l[i]'(by omega),by simp⟩
theorem b32 (r:Int) (w:World):Fn Tryz.prog 157 [.int .i32 r] w (RBf (.bool (!decide ((97<=r/\r<=122)\/(48<=r/\r<=57)\/r=95))) w):=by
 refine yEn Tryz.func157 Tryz.ntmps157 (by kernel_rfl) (by kernel_rfl) rfl rfl ?_;have hS:=St.start w
 repeat' (first|(with_reducible apply b9 b8);rfl;rfl;rfl|refine yDn (by with_reducible constructor) ?_|((with_reducible apply k6);(iterate 4 rfl);first|rfl|assumption)|(with_reducible apply q8);(iterate 4 rfl);(first|rfl|assumption);rfl|(with_reducible apply a1n);(iterate 5 rfl)|(with_reducible apply i7);rfl;(first|rfl|assumption);rfl;rfl|(with_reducible apply e9);rfl;(first|rfl|assumption);rfl;rfl|(with_reducible apply n9);rfl;rfl;rfl;all_goals (intro hb hp;try (exfalso;omega)))
 all_goals
  (refine j4 rfl ?_)
  refine ⟨?_,hS⟩;simp only [Value.bool.injEq]
  first|(congr 1;rw [xk7];omega)|(simp only [Bool.false_eq,Bool.not_eq_false',xb5];omega)
def NmF:Value:=.func (.func 157) #[] #[]
theorem a81 (l:List UInt8) (w:World):Fn Tryz.prog 181 [.string ⟨l.toArray⟩,NmF,.bool true] w (fun v w'=>∃ k:Int,v=.int .i64 k/\(0<=k ↔ l.all okB=false)/\St nF w w' []):=by
 refine yEn Tryz.func181 Tryz.ntmps181 (by kernel_rfl) (by kernel_rfl) rfl rfl ?_;have hS:=St.start w
 repeat' (first|(with_reducible apply b9 b8);rfl;rfl;rfl|refine yDn (by with_reducible constructor) ?_|(with_reducible apply b6t hS b8);rfl;rfl;rfl;intro r w' hS';clear hS;have hS:=hS';clear hS')
 refine b1v (X:=Nat) 0 (fun k=>[(0,.string ⟨l.toArray⟩),(1,NmF),(2,.bool true),(10,.pointer (some ⟨r,0,none⟩))]) (fun k w'=>k<=l.length/\(l.take k).all okB=true/\St nF w w' [.obj r (.stringIter ⟨l.toArray⟩ k)]) (fun k=>l.length - k) ?_ ⟨by omega,rfl,hS⟩ ?_
 ·exact Fr.sub_of rfl
 rintro k w1 ⟨hi,hall,hS'⟩;clear hS;have hS:=hS';clear hS';by_cases hk:k < l.length
 ·obtain ⟨b,hb'⟩:=i9 (l:=l) (i:=k) (by omega)
  repeat' (first|(with_reducible apply b9 b8);rfl;rfl;rfl|(with_reducible apply b3O b8);(iterate 4 rfl)|refine yDn (by with_reducible constructor) ?_|(with_reducible apply e8);rfl;rfl|(with_reducible apply d7);rfl;all_goals (intro hb hp;try (exfalso;omega))|(with_reducible apply b5A hS (i:=0) (hb:=hb'));rfl;rfl;rfl;intro w' c wd hlow hhigh hS';simp only [List.set] at hS';clear hS;have hS:=hS';clear hS'|(with_reducible apply d8 hS);rfl;rfl;rfl;refine ⟨_,b32 _ _,?_⟩;clear hS;intro w' hS)
  ·(refine j4 rfl ?_)
   refine ⟨_,rfl,⟨fun _=>a4v hb' ?_,fun _=>by omega⟩,hS.sub (xh2 _)⟩;simp only [xc8,xm0] at hp;unfold okB;rw [xm0];by_cases hlt:b.toNat < 128
   ·have:=(hlow hlt).1;omega
   ·omega
  ·simp only [xc8,xm0,Decidable.not_not] at hp;have hlt:b.toNat < 128:=by
    by_cases hlt:b.toNat < 128
    ·exact hlt
    ·have:=hhigh hlt;omega
   obtain ⟨rfl,rfl⟩:=hlow hlt;refine b5J (k + 1) (by exact Fr.sub_of rfl) ⟨by omega,o5 hall hb' (by unfold okB;simp only [xb5];omega),hS⟩ (by omega)
 ·have hge:l.length<=k:=by omega
  repeat' (first|(with_reducible apply b9 b8);rfl;rfl;rfl|refine yDn (by with_reducible constructor) ?_|(with_reducible apply f6);rfl;rfl|(with_reducible apply b5F hS (i:=0) (hb:=hge));rfl;rfl;rfl)
  (refine j4 rfl ?_)
  refine ⟨_,rfl,⟨fun h=>absurd h (by decide),fun h=>?_⟩,hS.sub (xh2 _)⟩;rw [a1y hall (by omega)] at h
  cases h
theorem a85 (l:List UInt8) (w:World):Fn Tryz.prog 172 [.string ⟨l.toArray⟩,NmF] w (fun v w'=>∃ k:Int,v=.int .i64 k/\(0<=k ↔ l.all okB=false)/\St nF w w' []):=by
 refine yEn Tryz.func172 Tryz.ntmps172 (by kernel_rfl) (by kernel_rfl) rfl rfl ?_;have hS:=St.start w
 repeat' (first|(with_reducible apply b9 b8);rfl;rfl;rfl|refine yDn (by with_reducible constructor) ?_|(with_reducible apply a0o);rfl;rfl;rfl;refine ⟨_,a81 l _,?_⟩;rintro _ w' ⟨k,rfl,hk,hS'⟩;replace hS:=hS.transA hS';simp only [s7] at hS;clear hS')
 (refine j4 rfl ?_)
 exact ⟨k,rfl,hk,hS⟩
theorem a6c (l:List UInt8) (w:World):Fn Tryz.prog 156 [.string ⟨l.toArray⟩,NmF] w (RBf (.bool (!l.all okB)) w):=by
 refine yEn Tryz.func156 Tryz.ntmps156 (by kernel_rfl) (by kernel_rfl) rfl rfl ?_;have hS:=St.start w
 repeat' (first|(with_reducible apply b9 b8);rfl;rfl;rfl|refine yDn (by with_reducible constructor) ?_|(with_reducible apply a0o);rfl;rfl;rfl;refine ⟨_,a85 l _,?_⟩;rintro _ w' ⟨k,rfl,hk,hS'⟩;replace hS:=hS.transA hS';simp only [s7] at hS;clear hS')
 (refine j4 rfl ?_)
 refine ⟨?_,hS⟩
 congr 1
 cases h:l.all okB with
 |true=>rw [h] at hk;simp at hk |-;omega
 |false=>rw [h] at hk;simp at hk |-;omega
theorem b5V (l:List UInt8) (w:World):Fn Tryz.prog 135 [.string ⟨l.toArray⟩] w (RBf (.bool (nmB l)) w):=by
 refine yEn Tryz.func135 Tryz.ntmps135 (by kernel_rfl) (by kernel_rfl) rfl rfl ?_;have hS:=St.start w
 repeat' (first|(with_reducible apply b9 b8);rfl;rfl;rfl|refine yDn (by with_reducible constructor) ?_|(with_reducible apply k6);(iterate 4 rfl);assumption|(with_reducible apply q8);(iterate 4 rfl);assumption;rfl|(with_reducible apply i7);rfl;assumption;rfl;rfl|(with_reducible apply e9);rfl;assumption;rfl;rfl|(with_reducible apply e8);rfl;rfl|(with_reducible apply n9);rfl;rfl;rfl;all_goals (intro hb hp;try (exfalso;omega))|(with_reducible apply d7);rfl;all_goals (intro hb hp;try (exfalso;omega))|(with_reducible apply d8 hS);rfl;rfl;rfl;refine ⟨_,a6c l _,?_⟩;clear hS;intro w' hS)
 all_goals (refine j4 rfl ?_)
 all_goals refine ⟨?_,hS⟩
 ·rw [b4d (by omega)]
 ·rw [b4d (by omega)]
 ·rw [b7I (by omega),Bool.not_not]
abbrev shA (s:Sh) (u:Value):Value:=.agg (shC s u).toArray
theorem a9i {S:Sh} {w:World} {u:Value} (hu:ShV w S u):Fn Tryz.prog 101 [shA S u] w (RBf (.bool (s9 S)) w):=by
 have bnd:=hu.bound;obtain ⟨p,c,rfl⟩:=hu.len;refine yEn Tryz.func101 Tryz.ntmps101 (by kernel_rfl) (by kernel_rfl) rfl rfl ?_;have hS:=St.start w;unfold shA shC;by_cases h0:(1<=S.page/\S.page<=255)/\S.data.length=16;rotate_left
 ·have hf:s9 S=false:=by unfold s9;rw [xh9 h0];rfl
  rw [hf]
  repeat' (first|(with_reducible apply b9 b8);rfl;rfl;rfl|(with_reducible apply c9);rfl;(apply Ld.sc b8;rfl;exact hS.blkC 0 rfl rfl);rfl|refine yDn (by with_reducible constructor) ?_|(with_reducible apply k6);(iterate 4 rfl);assumption|(with_reducible apply q8);(iterate 4 rfl);(first|rfl|assumption);rfl|(with_reducible apply i7);rfl;(first|rfl|assumption);rfl;rfl|(with_reducible apply e9);rfl;assumption;rfl;rfl|(with_reducible apply e8);rfl;rfl|(with_reducible apply k9 hS);rfl;rfl;rfl;clear hS;intro g w' hS|(with_reducible apply n9);rfl;rfl;rfl;all_goals (intro hb hp;try (exfalso;omega))|(with_reducible apply a0K);rfl;all_goals (intro hb hp;try (exfalso;omega)))
  all_goals (refine j4 rfl ?_;exact ⟨rfl,hS.sub (xh2 _)⟩)
 have hr:s9 S=a3s 0 S.fixes:=by unfold s9;rw [xi0 h0];rfl
 rw [hr]
 repeat' (first|(with_reducible apply b9 b8);rfl;rfl;rfl|(with_reducible apply c9);rfl;(first|apply Ld.sc b8;rfl;exact hS.blkC 0 rfl rfl|apply Ld.sl b8;rfl;exact hS.blkC 0 rfl rfl);rfl|refine yDn (by with_reducible constructor) ?_|(with_reducible apply k6);(iterate 4 rfl);assumption|(with_reducible apply e9);rfl;assumption;rfl;rfl|(with_reducible apply k9 hS);rfl;rfl;rfl;clear hS;intro g w' hS|(with_reducible apply n9);rfl;rfl;rfl;all_goals (intro hb hp;try (exfalso;omega))|(with_reducible apply a0K);rfl;all_goals (intro hb hp;try (exfalso;omega)))
 refine l4 (X:=Nat×Int) (fun x=>[(23,.int .i64 (x.1:Nat)),(3,.int .i64 x.2)]) [1,21,22] rfl (fun _=>[]) (fun x=>(x.1<=S.fixes.length/\0<=x.2/\x.2<=16)/\a3s 0 S.fixes=a3s x.2 (S.fixes.drop x.1)) (fun x=>S.fixes.length - x.1) (0,0) (by exact Fr.sub_of rfl) (by simp) hS ?_;clear hS;rintro ⟨i,free⟩ w1 ⟨⟨hi,hf0,hf1⟩,hok⟩ hS;dsimp only [List.cons_append,List.nil_append] at hi hf0 hf1 hok hS |-;by_cases hlt:i < S.fixes.length
 ·obtain ⟨x,hx⟩:=i9 (l:=S.fixes) (i:=i) (by omega);have hrow:=d9 (f:=fxC) hx;obtain ⟨b,off,rfl,hro⟩:=hu.at_ (i:=i) hlt;have hst:=a7N (free:=free) hx;by_cases h1:free<=x.off/\x.off<=16/\x.bytes≠[]/\(x.bytes.length:Int)<=16 - x.off
  ·have ho:a4o free x=true:=xi0 h1;have hb0:decide (x.bytes=[])=false:=xh9 h1.2.2.1;rw [ho,xh8] at hst
   repeat' (first|(with_reducible apply b9 b8);rfl;rfl;rfl|(with_reducible apply c9);rfl;(first|apply Ld.sc b8;rfl;exact hS.blkC 0 rfl rfl|apply Ld.st b8;rfl;exact hS.roR (by assumption) (by assumption);rfl);rfl|(with_reducible apply l8 b8);rfl;rfl;rfl;rfl;omega;rfl|(with_reducible apply f9);rfl;rfl;omega;omega;rfl|(with_reducible apply a0R);rfl;rfl;omega;omega;rfl|refine yDn (by with_reducible constructor) ?_|(with_reducible apply k6);(iterate 4 rfl);assumption|(with_reducible apply e9);rfl;assumption;rfl;rfl|(with_reducible apply d6 hS b8);rfl;rfl;rfl;clear hS;intro g w' hS|(with_reducible apply d5 hS b8 (i:=0));(iterate 8 rfl);exact (rfl:_=[_,_]);clear hS;intro w' hS;simp only [List.set] at hS|(with_reducible apply n9);rfl;rfl;rfl;all_goals (intro hb hp;try (exfalso;omega))|(with_reducible apply d7);rfl;all_goals (intro hb hp;try (exfalso;omega)))
   refine f8 (i + 1,a1Y x) (by exact Fr.sub_of rfl) ⟨⟨by show i + 1<=S.fixes.length;omega,by show 0<=a1Y x;unfold a1Y;omega,by show a1Y x<=16;unfold a1Y;omega⟩,by rw [hok,hst]⟩ hS.drop (by show S.fixes.length - (i + 1) < S.fixes.length - i;omega)
  ·have ho:a4o free x=false:=xh9 h1;rw [ho,xh7] at hst;by_cases hb1:x.bytes=[]
   ·have hb0:decide (x.bytes=[])=true:=xi0 hb1
    repeat' (first|(with_reducible apply b9 b8);rfl;rfl;rfl|(with_reducible apply c9);rfl;(first|apply Ld.sc b8;rfl;exact hS.blkC 0 rfl rfl|apply Ld.st b8;rfl;exact hS.roR (by assumption) (by assumption);rfl);rfl|(with_reducible apply l8 b8);rfl;rfl;rfl;rfl;omega;rfl|refine yDn (by with_reducible constructor) ?_|(with_reducible apply k6);(iterate 4 rfl);assumption|(with_reducible apply q8);(iterate 4 rfl);(first|rfl|assumption);rfl|(with_reducible apply i7);rfl;(first|rfl|assumption);rfl;rfl|(with_reducible apply e9);rfl;assumption;rfl;rfl|(with_reducible apply e8);rfl;rfl|(with_reducible apply d6 hS b8);rfl;rfl;rfl;clear hS;intro g w' hS|(with_reducible apply d5 hS b8 (i:=0));(iterate 8 rfl);exact (rfl:_=[_,_]);clear hS;intro w' hS;simp only [List.set] at hS|(with_reducible apply n9);rfl;rfl;rfl;all_goals (intro hb hp;try (exfalso;omega))|(with_reducible apply d7);rfl;all_goals (intro hb hp;try (exfalso;omega)))
    all_goals (refine j4 rfl ?_;exact ⟨by rw [hok,hst],hS.sub (xh2 _)⟩)
   ·have hb0:decide (x.bytes=[])=false:=xh9 hb1
    repeat' (first|(with_reducible apply b9 b8);rfl;rfl;rfl|(with_reducible apply c9);rfl;(first|apply Ld.sc b8;rfl;exact hS.blkC 0 rfl rfl|apply Ld.st b8;rfl;exact hS.roR (by assumption) (by assumption);rfl);rfl|(with_reducible apply l8 b8);rfl;rfl;rfl;rfl;omega;rfl|(with_reducible apply f9);rfl;rfl;omega;omega;rfl|(with_reducible apply a0R);rfl;rfl;omega;omega;rfl|refine yDn (by with_reducible constructor) ?_|(with_reducible apply k6);(iterate 4 rfl);assumption|(with_reducible apply q8);(iterate 4 rfl);(first|rfl|assumption);rfl|(with_reducible apply i7);rfl;(first|rfl|assumption);rfl;rfl|(with_reducible apply e9);rfl;assumption;rfl;rfl|(with_reducible apply e8);rfl;rfl|(with_reducible apply d6 hS b8);rfl;rfl;rfl;clear hS;intro g w' hS|(with_reducible apply d5 hS b8 (i:=0));(iterate 8 rfl);exact (rfl:_=[_,_]);clear hS;intro w' hS;simp only [List.set] at hS|(with_reducible apply n9);rfl;rfl;rfl;all_goals (intro hb hp;try (exfalso;omega))|(with_reducible apply d7);rfl;all_goals (intro hb hp;try (exfalso;omega)))
    all_goals first|(refine j4 rfl ?_;exact ⟨by rw [hok,hst],hS.sub (xh2 _)⟩)|(exfalso;exact h1 ⟨by omega,by omega,hb1,by omega⟩)
 ·repeat' (first|(with_reducible apply b9 b8);rfl;rfl;rfl|refine yDn (by with_reducible constructor) ?_|(with_reducible apply d7);rfl;all_goals (intro hb hp;try (exfalso;omega)))
  (refine j4 rfl ?_)
  exact ⟨by rw [hok,xn8 (by omega)];rfl,hS.sub (xh2 _)⟩
theorem a8U {S:Sh} {w:World} {u:Value} (hu:ShV w S u):Fn Tryz.prog 119 [shA S u] w (RBf (.bool (s9 S)) w):=by
 have bnd:=hu.bound;obtain ⟨p,c,rfl⟩:=hu.len;refine yEn Tryz.func119 Tryz.ntmps119 (by kernel_rfl) (by kernel_rfl) rfl rfl ?_;have hS:=St.start w;unfold shA shC;by_cases h0:(1<=S.page/\S.page<=255)/\S.data.length=16;rotate_left
 ·have hf:s9 S=false:=by unfold s9;rw [xh9 h0];rfl
  rw [hf];by_cases hp0:1<=S.page/\S.page<=255
  ·have hp1:(!decide (1<=S.page/\S.page<=255))=false:=by simpa using hp0
   repeat' (first|(with_reducible apply b9 b8);rfl;rfl;rfl|(with_reducible apply c9);rfl;(apply Ld.sc b8;rfl;exact hS.blkC 0 rfl rfl);rfl|refine yDn (by with_reducible constructor) ?_|(with_reducible apply k6);(iterate 4 rfl);assumption|(with_reducible apply q8);(iterate 4 rfl);assumption;rfl|(with_reducible apply i7);rfl;assumption;rfl;rfl|(with_reducible apply e9);rfl;assumption;rfl;rfl|(with_reducible apply e8);rfl;rfl|(with_reducible apply k9 hS);rfl;rfl;rfl;clear hS;intro g w' hS|(with_reducible apply a1U);rfl;rfl;rfl;all_goals (intro hb hp;try (exfalso;omega))|(with_reducible apply d8 hS);rfl;rfl;rfl;refine ⟨_,q7 _ _ _ _,?_⟩;clear hS;intro w' hS)
   all_goals (refine j4 rfl ?_;exact ⟨rfl,hS.sub (xh2 _)⟩)
  ·have hp1:(!decide (1<=S.page/\S.page<=255))=true:=by rw [xh9 hp0];rfl
   repeat' (first|(with_reducible apply b9 b8);rfl;rfl;rfl|(with_reducible apply c9);rfl;(apply Ld.sc b8;rfl;exact hS.blkC 0 rfl rfl);rfl|refine yDn (by with_reducible constructor) ?_|(with_reducible apply q8);(iterate 4 rfl);(first|rfl|assumption);rfl|(with_reducible apply i7);rfl;(first|rfl|assumption);rfl;rfl|(with_reducible apply e8);rfl;rfl|(with_reducible apply k9 hS);rfl;rfl;rfl;clear hS;intro g w' hS|(with_reducible apply d8 hS);rfl;rfl;rfl;refine ⟨_,q7 _ _ _ _,?_⟩;clear hS;intro w' hS)
   (refine j4 rfl ?_)
   exact ⟨rfl,hS.sub (xh2 _)⟩
 have hp1:(!decide (1<=S.page/\S.page<=255))=false:=by simpa using h0.1
 by_cases h16:S.fixes.length<=16;rotate_left
 ·have hf:s9 S=false:=by
   cases hr:s9 S with
   |false=>rfl
   |true=>have:=a4F hr;omega
  rw [hf]
  repeat' (first|(with_reducible apply b9 b8);rfl;rfl;rfl|(with_reducible apply c9);rfl;(first|apply Ld.sc b8;rfl;exact hS.blkC 0 rfl rfl|apply Ld.sl b8;rfl;exact hS.blkC 0 rfl rfl);rfl|refine yDn (by with_reducible constructor) ?_|(with_reducible apply k6);(iterate 4 rfl);assumption|(with_reducible apply e9);rfl;assumption;rfl;rfl|(with_reducible apply k9 hS);rfl;rfl;rfl;clear hS;intro g w' hS|(with_reducible apply a1U);rfl;rfl;rfl;all_goals (intro hb hp;try (exfalso;omega))|(with_reducible apply d7);rfl;all_goals (intro hb hp;try (exfalso;omega))|(with_reducible apply d8 hS);rfl;rfl;rfl;refine ⟨_,q7 _ _ _ _,?_⟩;clear hS;intro w' hS)
  all_goals (refine j4 rfl ?_;exact ⟨rfl,hS.sub (xh2 _)⟩)
 have hr:s9 S=a3s 0 S.fixes:=by unfold s9;rw [xi0 h0];rfl
 rw [hr]
 repeat' (first|(with_reducible apply b9 b8);rfl;rfl;rfl|(with_reducible apply c9);rfl;(first|apply Ld.sc b8;rfl;exact hS.blkC 0 rfl rfl|apply Ld.sl b8;rfl;exact hS.blkC 0 rfl rfl);rfl|refine yDn (by with_reducible constructor) ?_|(with_reducible apply k6);(iterate 4 rfl);assumption|(with_reducible apply e9);rfl;assumption;rfl;rfl|(with_reducible apply k9 hS);rfl;rfl;rfl;clear hS;intro g w' hS|(with_reducible apply a1U);rfl;rfl;rfl;all_goals (intro hb hp;try (exfalso;omega))|(with_reducible apply d7);rfl;all_goals (intro hb hp;try (exfalso;omega))|(with_reducible apply d8 hS);rfl;rfl;rfl;refine ⟨_,q7 _ _ _ _,?_⟩;clear hS;intro w' hS)
 refine l4 (X:=Nat×Int) (fun x=>[(4,.int .i64 (x.1:Nat)),(3,.int .i64 x.2)]) [1] rfl (fun _=>[]) (fun x=>(x.1<=S.fixes.length/\0<=x.2/\x.2<=16)/\a3s 0 S.fixes=a3s x.2 (S.fixes.drop x.1)) (fun x=>S.fixes.length - x.1) (0,0) (by exact Fr.sub_of rfl) (by simp) hS ?_;clear hS;rintro ⟨i,free⟩ w1 ⟨⟨hi,hf0,hf1⟩,hok⟩ hS;dsimp only [List.cons_append,List.nil_append] at hi hf0 hf1 hok hS |-;by_cases hlt:i < S.fixes.length
 ·obtain ⟨x,hx⟩:=i9 (l:=S.fixes) (i:=i) (by omega);have hrow:=d9 (f:=fxC) hx;obtain ⟨b,off,rfl,hro⟩:=hu.at_ (i:=i) hlt;have hst:=a7N (free:=free) hx;by_cases h1:free<=x.off/\x.off<=16
  ·have k1:(!decide (free<=x.off/\x.off<=16))=false:=by simpa using h1
   by_cases h2:1<=(x.bytes.length:Int)/\(x.bytes.length:Int)<=16 - x.off
   ·have k2:(!decide (1<=(x.bytes.length:Int)/\(x.bytes.length:Int)<=16 - x.off))=false:=by simpa using h2
    have ho:a4o free x=true:=xi0 ⟨h1.1,h1.2,xa3.1 (by omega),h2.2⟩;rw [ho,xh8] at hst
    repeat' (first|(with_reducible apply b9 b8);rfl;rfl;rfl|(with_reducible apply c9);rfl;(first|apply Ld.sc b8;rfl;exact hS.blkC 0 rfl rfl|apply Ld.sl b8;rfl;exact hS.blkC 0 rfl rfl|apply Ld.st b8;rfl;exact hS.roR (by assumption) (by assumption);rfl);rfl|(with_reducible apply l8 b8);rfl;rfl;rfl;rfl;omega;rfl|(with_reducible apply f9);rfl;rfl;omega;omega;rfl|(with_reducible apply a0R);rfl;rfl;omega;omega;rfl|refine yDn (by with_reducible constructor) ?_|(with_reducible apply k6);(iterate 4 rfl);assumption|(with_reducible apply e9);rfl;assumption;rfl;rfl|(with_reducible apply f6);rfl;assumption|(with_reducible apply d6 hS b8);rfl;rfl;rfl;clear hS;intro g w' hS|(with_reducible apply d5 hS b8 (i:=0));(iterate 8 rfl);exact (rfl:_=[_,_]);clear hS;intro w' hS;simp only [List.set] at hS|(with_reducible apply d7);rfl;all_goals (intro hb hp;try (exfalso;omega))|(with_reducible apply d8 hS);rfl;rfl;rfl;refine ⟨_,q7 _ _ _ _,?_⟩;clear hS;intro w' hS)
    refine f8 (i + 1,a1Y x) (by exact Fr.sub_of rfl) ⟨⟨by show i + 1<=S.fixes.length;omega,by show 0<=a1Y x;unfold a1Y;omega,by show a1Y x<=16;unfold a1Y;omega⟩,by rw [hok,hst]⟩ hS.drop (by show S.fixes.length - (i + 1) < S.fixes.length - i;omega)
   ·have k2:(!decide (1<=(x.bytes.length:Int)/\(x.bytes.length:Int)<=16 - x.off))=true:=by rw [xh9 h2];rfl
    have ho:a4o free x=false:=xh9 (fun h=>h2 ⟨by have:=xa3.2 h.2.2.1;omega,h.2.2.2⟩);rw [ho,xh7] at hst
    repeat' (first|(with_reducible apply b9 b8);rfl;rfl;rfl|(with_reducible apply c9);rfl;(first|apply Ld.sc b8;rfl;exact hS.blkC 0 rfl rfl|apply Ld.sl b8;rfl;exact hS.blkC 0 rfl rfl|apply Ld.st b8;rfl;exact hS.roR (by assumption) (by assumption);rfl);rfl|(with_reducible apply l8 b8);rfl;rfl;rfl;rfl;omega;rfl|(with_reducible apply a0R);rfl;rfl;omega;omega;rfl|refine yDn (by with_reducible constructor) ?_|(with_reducible apply k6);(iterate 4 rfl);assumption|(with_reducible apply e9);rfl;assumption;rfl;rfl|(with_reducible apply e8);rfl;assumption|(with_reducible apply d6 hS b8);rfl;rfl;rfl;clear hS;intro g w' hS|(with_reducible apply d5 hS b8 (i:=0));(iterate 8 rfl);exact (rfl:_=[_,_]);clear hS;intro w' hS;simp only [List.set] at hS|(with_reducible apply d7);rfl;all_goals (intro hb hp;try (exfalso;omega))|(with_reducible apply d8 hS);rfl;rfl;rfl;refine ⟨_,q7 _ _ _ _,?_⟩;clear hS;intro w' hS)
    (refine j4 rfl ?_)
    exact ⟨by rw [hok,hst],hS.sub (xh2 _)⟩
  ·have k1:(!decide (free<=x.off/\x.off<=16))=true:=by rw [xh9 h1];rfl
   have ho:a4o free x=false:=xh9 (fun h=>h1 ⟨h.1,h.2.1⟩);rw [ho,xh7] at hst
   repeat' (first|(with_reducible apply b9 b8);rfl;rfl;rfl|(with_reducible apply c9);rfl;(first|apply Ld.sc b8;rfl;exact hS.blkC 0 rfl rfl|apply Ld.sl b8;rfl;exact hS.blkC 0 rfl rfl|apply Ld.st b8;rfl;exact hS.roR (by assumption) (by assumption);rfl);rfl|(with_reducible apply l8 b8);rfl;rfl;rfl;rfl;omega;rfl|refine yDn (by with_reducible constructor) ?_|(with_reducible apply q8);(iterate 4 rfl);assumption;rfl|(with_reducible apply i7);rfl;assumption;rfl;rfl|(with_reducible apply e8);rfl;rfl|(with_reducible apply d6 hS b8);rfl;rfl;rfl;clear hS;intro g w' hS|(with_reducible apply d5 hS b8 (i:=0));(iterate 8 rfl);exact (rfl:_=[_,_]);clear hS;intro w' hS;simp only [List.set] at hS|(with_reducible apply d7);rfl;all_goals (intro hb hp;try (exfalso;omega))|(with_reducible apply d8 hS);rfl;rfl;rfl;refine ⟨_,q7 _ _ _ _,?_⟩;clear hS;intro w' hS)
   (refine j4 rfl ?_)
   exact ⟨by rw [hok,hst],hS.sub (xh2 _)⟩
 ·repeat' (first|(with_reducible apply b9 b8);rfl;rfl;rfl|(with_reducible apply c9);rfl;(apply Ld.sl b8;rfl;exact hS.blkC 0 rfl rfl);rfl|refine yDn (by with_reducible constructor) ?_|(with_reducible apply d7);rfl;all_goals (intro hb hp;try (exfalso;omega)))
  (refine j4 rfl ?_)
  exact ⟨by rw [hok,xn8 (by omega)];rfl,hS.sub (xh2 _)⟩
theorem a5C {l:List Fx} {i:Nat} {f:Fx} {d:List UInt8} (h:l[i]?=some f):a3p d (l.take (i + 1))=splice (a3p d (l.take i)) f.off.toNat f.bytes:=by
 unfold a3p;rw [xp5,h];simp [xj4]
theorem a87 {l:List Fx}:∀ {free:Int},a3s free l=true->0<=free->∀ {i:Nat} {f:Fx},l[i]?=some f->(0<=f.off/\f.off<=16)/\(f.bytes.length:Int)<=16 - f.off:=by
 induction l with
 |nil=>intro free _ _ i f h;simp at h
 |cons g r ih=>
  intro free h h0 i f hf;simp only [a3s,a4o,xb4,xb5] at h;obtain ⟨⟨h1,h2,h3,h4⟩,h5⟩:=h
  cases i with
  |zero=>simp at hf;subst hf;exact ⟨⟨by omega,h2⟩,h4⟩
  |succ i=>exact ih h5 (by unfold a1Y;omega) (by simpa using hf)
theorem a7I {l:List Fx} {d:List UInt8} {free:Int} (h:a3s free l=true) (h0:0<=free) (hd:d.length=16):∀ i,i<=l.length->(a3p d (l.take i)).length=16:=by
 intro i
 induction i with
 |zero=>intro _;simpa [a3p] using hd
 |succ i ih=>
  intro hi;have hx:l[i]?=some l[i]:=xe1 (by omega);have:=ih (by omega);obtain ⟨⟨h1,h2⟩,h3⟩:=a87 h h0 hx;rw [a5C hx,a6z (by omega)];exact this
theorem a50 {S:Sh} (h:s9 S=true):S.data.length=16/\a3s 0 S.fixes=true:=by
 unfold s9 at h;simp only [xb4,xb5] at h;exact ⟨h.1.2,h.2⟩
theorem a9A {S:Sh} {i:Nat} (hi:S.fixes.length<=i):a3p S.data (S.fixes.take i)=a5Y S:=by rw [xa0 hi];rfl
theorem b16 {S:Sh} {w:World} {u:Value} (hu:ShV w S u):Fn Tryz.prog 46 [shA S u] w (RBf (.tuple #[.string ⟨(if s9 S=true then a5Y S else []).toArray⟩,.int .i64 (if s9 S=true then 0 else 1)]) w):=by
 have hr:=fun w (h:ShV w S u)=>a9i h;by_cases hR:s9 S=true;rotate_left
 ·rw [xf1 hR,xf1 hR];rw [show s9 S=false by simpa using hR] at hr;refine yEn Tryz.func46 Tryz.ntmps46 (by kernel_rfl) (by kernel_rfl) rfl rfl ?_;have hS:=St.start w;unfold shA shC
  repeat' (first|(with_reducible apply b9 b8);rfl;rfl;rfl|(with_reducible apply c9);rfl;(apply Ld.st b8;rfl;exact hS.blkR 0 rfl;rfl);rfl|refine yDn (by with_reducible constructor) ?_|(with_reducible apply e8);rfl;rfl|(with_reducible apply k9 hS);rfl;rfl;rfl;clear hS;intro g w' hS|(with_reducible apply d8 hS);rfl;rfl;rfl;refine ⟨_,hr _ (hu.now hS),?_⟩;clear hS;intro w' hS)
  (refine a2O rfl ?_)
  exact ⟨rfl,hS.sub (xh2 _)⟩
 rw [xf0 hR,xf0 hR];rw [hR] at hr;obtain ⟨hd,hok⟩:=a50 hR;have bnd:=hu.bound;obtain ⟨p,c,rfl⟩:=hu.len;refine yEn Tryz.func46 Tryz.ntmps46 (by kernel_rfl) (by kernel_rfl) rfl rfl ?_;have hS:=St.start w;unfold shA shC
 repeat' (first|(with_reducible apply b9 b8);rfl;rfl;rfl|(with_reducible apply c9);rfl;(first|apply Ld.sc b8;rfl;exact hS.blkC 0 rfl rfl|apply Ld.sl b8;rfl;exact hS.blkC 0 rfl rfl|apply Ld.st b8;rfl;exact hS.blkR 0 rfl;rfl);rfl|refine yDn (by with_reducible constructor) ?_|(with_reducible apply f6);rfl;rfl|(with_reducible apply k9 hS);rfl;rfl;rfl;clear hS;intro g w' hS|(with_reducible apply d8 hS);rfl;rfl;rfl;refine ⟨_,hr _ (hu.now hS),?_⟩;clear hS;intro w' hS)
 refine l4 (X:=Nat) (fun x=>[(15,.int .i64 (x:Nat)),(4,.string ⟨(a3p S.data (S.fixes.take x)).toArray⟩)]) [1,13,14] rfl (fun _=>[]) (fun x=>x<=S.fixes.length) (fun x=>S.fixes.length - x) 0 (by exact Fr.sub_of rfl) (by simp) hS ?_;clear hS;intro i w1 hi hS;dsimp only [List.cons_append,List.nil_append] at hi hS |-;have hlen:=a7I hok (by omega) hd i hi;by_cases hlt:i < S.fixes.length
 ·obtain ⟨x,hx⟩:=i9 (l:=S.fixes) (i:=i) (by omega);have hrow:=d9 (f:=fxC) hx;obtain ⟨b,off,rfl,hro⟩:=hu.at_ (i:=i) hlt;obtain ⟨⟨h1,h2⟩,h3⟩:=a87 hok (by omega) hx;have hst:=a5C (d:=S.data) hx;generalize a3p S.data (S.fixes.take i)=d at hlen hst |-;have hlay:=fun w=>b4Y d x.bytes x.off w (by unfold maxLen;omega);have hin:inB x.off x.bytes.length d.length=true:=by unfold inB;rw [xb5];omega
  simp only [hin,if_true] at hlay
  repeat' (first|(with_reducible apply b9 b8);rfl;rfl;rfl|(with_reducible apply c9);rfl;(first|apply Ld.sc b8;rfl;exact hS.blkC 0 rfl rfl|apply Ld.st b8;rfl;exact hS.roR (by assumption) (by assumption);rfl);rfl|(with_reducible apply l8 b8);rfl;rfl;rfl;rfl;omega;rfl|(with_reducible apply f9);rfl;rfl;omega;omega;rfl|refine yDn (by with_reducible constructor) ?_|(with_reducible apply d6 hS b8);rfl;rfl;rfl;clear hS;intro g w' hS|(with_reducible apply d5 hS b8 (i:=0));(iterate 8 rfl);exact (rfl:_=[_,_]);clear hS;intro w' hS;simp only [List.set] at hS|(with_reducible apply d7);rfl;all_goals (intro hb hp;try (exfalso;omega))|(with_reducible apply d8 hS);rfl;rfl;rfl;refine ⟨_,hlay _,?_⟩;clear hS;intro w' hS)
  exact f8 (i + 1) (by rw [hst];exact Fr.sub_of rfl) (by show i + 1<=S.fixes.length;omega) hS.drop (by show S.fixes.length - (i + 1) < S.fixes.length - i;omega)
 ·repeat' (first|(with_reducible apply b9 b8);rfl;rfl;rfl|refine yDn (by with_reducible constructor) ?_|(with_reducible apply d7);rfl;all_goals (intro hb hp;try (exfalso;omega)))
  (refine a2O rfl ?_)
  exact ⟨by rw [a9A (by omega)],hS.sub (xh2 _)⟩
theorem b3k {S:Sh} {w:World} {u:Value} (hu:ShV w S u) (hR:s9 S=true):Fn Tryz.prog 121 [shA S u] w (RBf (.string ⟨(a5Y S).toArray⟩) w):=by
 obtain ⟨hd,hok⟩:=a50 hR;have bnd:=hu.bound;obtain ⟨p,c,rfl⟩:=hu.len;refine yEn Tryz.func121 Tryz.ntmps121 (by kernel_rfl) (by kernel_rfl) rfl rfl ?_;have hS:=St.start w;unfold shA shC
 repeat' (first|(with_reducible apply b9 b8);rfl;rfl;rfl|(with_reducible apply c9);rfl;(apply Ld.sc b8;rfl;exact hS.blkC 0 rfl rfl);rfl|refine yDn (by with_reducible constructor) ?_|(with_reducible apply k9 hS);rfl;rfl;rfl;clear hS;intro g w' hS)
 refine l4 (X:=Nat) (fun x=>[(4,.int .i64 (x:Nat)),(3,.string ⟨(a3p S.data (S.fixes.take x)).toArray⟩)]) [1] rfl (fun _=>[]) (fun x=>x<=S.fixes.length) (fun x=>S.fixes.length - x) 0 (by exact Fr.sub_of rfl) (by simp) hS ?_;clear hS;intro i w1 hi hS;dsimp only [List.cons_append,List.nil_append] at hi hS |-;have hlen:=a7I hok (by omega) hd i hi;by_cases hlt:i < S.fixes.length
 ·obtain ⟨x,hx⟩:=i9 (l:=S.fixes) (i:=i) (by omega);have hrow:=d9 (f:=fxC) hx;obtain ⟨b,off,rfl,hro⟩:=hu.at_ (i:=i) hlt;obtain ⟨⟨h1,h2⟩,h3⟩:=a87 hok (by omega) hx;have hst:=a5C (d:=S.data) hx;generalize a3p S.data (S.fixes.take i)=d at hlen hst |-;have hover:∀ w,Fn Tryz.prog 79 [.string ⟨d.toArray⟩,.int .i64 x.off,.string ⟨x.bytes.toArray⟩] w (RBf (.string ⟨(splice d x.off.toNat x.bytes).toArray⟩) w):=fun w=>by
   have:=b6v d x.bytes x.off.toNat w (by unfold maxLen;omega) (by omega)
   rwa [xk8 h1] at this
  repeat' (first|(with_reducible apply b9 b8);rfl;rfl;rfl|(with_reducible apply c9);rfl;(apply Ld.sl b8;rfl;exact hS.blkC 0 rfl rfl);rfl|refine yDn (by with_reducible constructor) ?_|(with_reducible apply d7);rfl;all_goals (intro hb hp;try (exfalso;omega)))
  (focus ((with_reducible apply e6 _ _ _ (by kernel_rfl) (by kernel_rfl) hS);(repeat' (first|(first|(with_reducible apply j3 b8);rfl;rfl|(with_reducible apply j0);rfl;(intro wd hd;replace hd:St _ _ wd _:=hd;(first|apply Ld.sc b8;rfl;(first|exact hd.roC0 (by assumption) (by assumption) rfl|exact hd.roC (by assumption) (by assumption) rfl)|apply Ld.sl b8;rfl;exact hd.blkC 0 rfl rfl));rfl|(with_reducible apply a0s b8);rfl;rfl;rfl;rfl;omega;rfl)|(with_reducible apply m7);rfl;rfl;rfl;refine ⟨_,fun wd hd=>hover _,?_⟩));all_goals ((with_reducible apply k8);intro w' hS';clear hS;have hS:=hS';clear hS')))
  repeat' (first|(with_reducible apply b9 b8);rfl;rfl;rfl|(with_reducible apply f9);rfl;rfl;omega;omega;rfl|refine yDn (by with_reducible constructor) ?_)
  exact f8 (i + 1) (by rw [hst];exact Fr.sub_of rfl) (by show i + 1<=S.fixes.length;omega) hS (by show S.fixes.length - (i + 1) < S.fixes.length - i;omega)
 ·repeat' (first|(with_reducible apply b9 b8);rfl;rfl;rfl|(with_reducible apply c9);rfl;(apply Ld.sl b8;rfl;exact hS.blkC 0 rfl rfl);rfl|refine yDn (by with_reducible constructor) ?_|(with_reducible apply d7);rfl;all_goals (intro hb hp;try (exfalso;omega)))
  (refine j4 rfl ?_)
  exact ⟨by rw [a9A (by omega)],hS.sub (xh2 _)⟩
theorem b1m {A:List Ar} {Lp:List (Sh×Value)} {w:World} {va vs:Value} {en:Int} (hA:Sl nF w 4 va (A.map arC)) (hL:ShsV w Lp vs) (hen:-9223372036854775808<=en) (hen2:en<=9223372036854775807):Fn Tryz.prog 44 [lkA va vs en] w (RBf (.int .i64 (a0H A (shs Lp) en)) w):=by
 have bnd:=hL.sl.bound;have hsl:=hL.sl;obtain ⟨p,c,rfl⟩:=hL.sl.len;unfold lkA;by_cases hc:l7 A=0;rotate_left
 ·have hr:a0H A (shs Lp) en=l7 A:=xf1 hc;have hc':(!decide (l7 A=0))=true:=by rw [xh9 hc];rfl
  rw [hr];refine yEn Tryz.func44 Tryz.ntmps44 (by kernel_rfl) (by kernel_rfl) rfl rfl ?_;have hS:=St.start w
  repeat' (first|(with_reducible apply b9 b8);rfl;rfl;rfl|(with_reducible apply c9);rfl;(apply Ld.sl b8;rfl;exact hS.blkC 0 rfl rfl);rfl|refine yDn (by with_reducible constructor) ?_|(with_reducible apply e8);rfl;assumption|(with_reducible apply k9 hS);rfl;rfl;rfl;clear hS;intro g w' hS|(with_reducible apply d8 hS);rfl;rfl;rfl;refine ⟨_,a6r (hA.now hS),?_⟩;clear hS;intro w' hS)
  (refine j4 rfl ?_)
  exact ⟨rfl,hS.sub (xh2 _)⟩
 have hck:=fun w (h:Sl nF w 4 va (A.map arC))=>a6r h;have htot:=fun w (h:Sl nF w 4 va (A.map arC))=>a3R h;have hfnd:=fun w page (h:Sl nF w 4 va (A.map arC))=>a5j page h;have hfi:∀ page,a5Q A page=n7 A page:=fun page=>xf0 hc;simp only [hc,if_true,hfi] at hck htot hfnd;have hr:a0H A (shs Lp) en=if lkB A (shs Lp) en=true then 0 else 1:=xf0 hc;rw [hr];unfold lkB;rw [a0L];by_cases hn:(Lp.length:Int)=r6 A;rotate_left
 ·have hn':(!decide ((Lp.length:Int)=r6 A))=true:=by rw [xh9 hn];rfl
  rw [xf1 (by rw [xh9 hn];simp)];refine yEn Tryz.func44 Tryz.ntmps44 (by kernel_rfl) (by kernel_rfl) rfl rfl ?_;have hS:=St.start w
  repeat' (first|(with_reducible apply b9 b8);rfl;rfl;rfl|(with_reducible apply c9);rfl;(apply Ld.sl b8;rfl;exact hS.blkC 0 rfl rfl);rfl|refine yDn (by with_reducible constructor) ?_|(with_reducible apply f6);rfl;rfl|(with_reducible apply k9 hS);rfl;rfl;rfl;clear hS;intro g w' hS|(with_reducible apply d8 hS);rfl;rfl;rfl;refine ⟨_,hck _ (hA.now hS),?_⟩;clear hS;intro w' hS)
  (focus ((with_reducible apply e6 _ _ _ (by kernel_rfl) (by kernel_rfl) hS);(repeat' (first|(first|(with_reducible apply j3 b8);rfl;rfl|(with_reducible apply j0);rfl;(intro wd hd;replace hd:St _ _ wd _:=hd;(apply Ld.sl b8;rfl;exact hd.blkC 0 rfl rfl));rfl)|(with_reducible apply m7);rfl;rfl;rfl;refine ⟨_,fun wd hd=>htot _ (hA.now hd),?_⟩));all_goals ((with_reducible apply k8);intro w' hS';clear hS;have hS:=hS';clear hS')))
  repeat' (first|(with_reducible apply b9 b8);rfl;rfl;rfl|refine yDn (by with_reducible constructor) ?_|(with_reducible apply e8);rfl;assumption)
  (refine j4 rfl ?_)
  exact ⟨rfl,hS.sub (xh2 _)⟩
 have hn':(!decide ((Lp.length:Int)=r6 A))=false:=by rw [xi0 hn];rfl
 rw [xi0 hn,xh8];refine yEn Tryz.func44 Tryz.ntmps44 (by kernel_rfl) (by kernel_rfl) rfl rfl ?_;have hS:=St.start w
 repeat' (first|(with_reducible apply b9 b8);rfl;rfl;rfl|(with_reducible apply c9);rfl;(apply Ld.sl b8;rfl;exact hS.blkC 0 rfl rfl);rfl|refine yDn (by with_reducible constructor) ?_|(with_reducible apply f6);rfl;rfl|(with_reducible apply k9 hS);rfl;rfl;rfl;clear hS;intro g w' hS|(with_reducible apply d8 hS);rfl;rfl;rfl;refine ⟨_,hck _ (hA.now hS),?_⟩;clear hS;intro w' hS)
 (focus ((with_reducible apply e6 _ _ _ (by kernel_rfl) (by kernel_rfl) hS);(repeat' (first|(first|(with_reducible apply j3 b8);rfl;rfl|(with_reducible apply j0);rfl;(intro wd hd;replace hd:St _ _ wd _:=hd;(apply Ld.sl b8;rfl;exact hd.blkC 0 rfl rfl));rfl)|(with_reducible apply m7);rfl;rfl;rfl;refine ⟨_,fun wd hd=>htot _ (hA.now hd),?_⟩));all_goals ((with_reducible apply k8);intro w' hS';clear hS;have hS:=hS';clear hS')))
 repeat' (first|(with_reducible apply b9 b8);rfl;rfl;rfl|(with_reducible apply c9);rfl;(apply Ld.sl b8;rfl;exact hS.blkC 0 rfl rfl);rfl|refine yDn (by with_reducible constructor) ?_|(with_reducible apply f6);rfl;assumption)
 refine l4 (X:=Nat×Int) (fun x=>[(27,.int .i64 (x.1:Nat)),(4,.int .i64 x.2)]) [1,25,26] rfl (fun _=>[]) (fun x=>x.1<=Lp.length/\a7A A 0 (shs Lp)=a7A A x.2 ((shs Lp).drop x.1)) (fun x=>Lp.length - x.1) (0,0) (by exact Fr.sub_of rfl) (by simp) hS ?_;clear hS;rintro ⟨i,last⟩ w1 ⟨hi,hok⟩ hS;dsimp only [List.cons_append,List.nil_append] at hi hok hS |-;by_cases hlt:i < Lp.length
 ·obtain ⟨x,hx⟩:=i9 (l:=Lp) (i:=i) (by omega);have hrow:=d9 (f:=fun p=>shC p.1 p.2) hx;obtain ⟨b,off,rfl,hro⟩:=hsl.at_ (i:=i) hlt;have hst:=b2x (A:=A) (last:=last) (a2M hx);have hfx:=hL.fx x (xd0 hx);have hfi2:=fun w h=>hfnd w x.1.page h;obtain ⟨S,u⟩:=x;dsimp only [shC] at hrow hst hfx hfi2;obtain ⟨pu,cu,rfl⟩:=hfx.len;have hrt:=fun w (h:ShV w S (.slice pu S.fixes.length cu))=>a9i h;rw [hst] at hok
  cases hf:n7 A S.page with
  |none=>
   simp only [hf] at hfi2;have ha:a3W A S.page=false:=by unfold a3W;rw [hf]
   rw [ha,xh7] at hok
   repeat' (first|(with_reducible apply b9 b8);rfl;rfl;rfl|(with_reducible apply c9);rfl;(first|apply Ld.sc b8;rfl;exact hS.blkC 0 rfl rfl|apply Ld.sl b8;rfl;exact hS.blkC 1 rfl rfl|apply Ld.st b8;rfl;exact hS.roR (by assumption) (by assumption);rfl);rfl|(with_reducible apply l8 b8);rfl;rfl;rfl;rfl;omega;rfl|refine yDn (by with_reducible constructor) ?_|(with_reducible apply q8);(iterate 4 rfl);rfl;rfl|(with_reducible apply i7);rfl;rfl;rfl;rfl|(with_reducible apply e8);rfl;rfl|(with_reducible apply d6 hS b8);rfl;rfl;rfl;clear hS;intro g w' hS|(with_reducible apply d5 hS b8 (i:=0));(iterate 8 rfl);(first|exact (rfl:_=[_,_,_])|exact (rfl:_=[_,_,_,_]));clear hS;intro w' hS;simp only [List.set] at hS|(with_reducible apply d7);rfl;all_goals (intro hb hp;try (exfalso;omega))|(with_reducible apply d8 hS);rfl;rfl;rfl;refine ⟨_,hfi2 _ (hA.now hS),?_⟩;clear hS;intro w' hS)
   (refine j4 rfl ?_)
   exact ⟨by rw [hok];rfl,hS.sub (xh2 _)⟩
  |some a=>
   simp only [hf] at hfi2;obtain ⟨pg,n,prot,z⟩:=a
   cases z with
   |true=>
    have ha:a3W A S.page=false:=by unfold a3W;rw [hf];rfl
    rw [ha,xh7] at hok
    repeat' (first|(with_reducible apply b9 b8);rfl;rfl;rfl|(with_reducible apply c9);rfl;(first|apply Ld.sc b8;rfl;exact hS.blkC 0 rfl rfl|apply Ld.sl b8;rfl;exact hS.blkC 1 rfl rfl|apply Ld.st b8;rfl;exact hS.roR (by assumption) (by assumption);rfl);rfl|(with_reducible apply l8 b8);rfl;rfl;rfl;rfl;omega;rfl|refine yDn (by with_reducible constructor) ?_|(with_reducible apply k6);(iterate 4 rfl);rfl|(with_reducible apply q8);(iterate 4 rfl);rfl;rfl|(with_reducible apply i7);rfl;rfl;rfl;rfl|(with_reducible apply e9);rfl;rfl;rfl;rfl|(with_reducible apply e8);rfl;rfl|(with_reducible apply d6 hS b8);rfl;rfl;rfl;clear hS;intro g w' hS|(with_reducible apply d5 hS b8 (i:=0));(iterate 8 rfl);(first|exact (rfl:_=[_,_,_])|exact (rfl:_=[_,_,_,_]));clear hS;intro w' hS;simp only [List.set] at hS|(with_reducible apply d7);rfl;all_goals (intro hb hp;try (exfalso;omega))|(with_reducible apply d8 hS);rfl;rfl;rfl;refine ⟨_,hfi2 _ (hA.now hS),?_⟩;clear hS;intro w' hS)
    (refine j4 rfl ?_)
    exact ⟨by rw [hok];rfl,hS.sub (xh2 _)⟩
   |false=>
    have ha:a3W A S.page=true:=by unfold a3W;rw [hf];rfl
    rw [ha,xh8] at hok
    cases hR:s9 S with
    |false=>
     simp only [hR] at hrt;rw [hR,xh7] at hok
     repeat' (first|(with_reducible apply b9 b8);rfl;rfl;rfl|(with_reducible apply c9);rfl;(first|apply Ld.sc b8;rfl;exact hS.blkC 0 rfl rfl|apply Ld.sl b8;rfl;exact hS.blkC 1 rfl rfl|apply Ld.st b8;rfl;(first|exact hS.blkR 1 rfl|exact hS.roR (by assumption) (by assumption));rfl);rfl|(with_reducible apply l8 b8);rfl;rfl;rfl;rfl;omega;rfl|refine yDn (by with_reducible constructor) ?_|(with_reducible apply k6);(iterate 4 rfl);rfl|(with_reducible apply q8);(iterate 4 rfl);rfl;rfl|(with_reducible apply i7);rfl;rfl;rfl;rfl|(with_reducible apply e9);rfl;rfl;rfl;rfl|(with_reducible apply e8);rfl;rfl|(with_reducible apply d6 hS b8);rfl;rfl;rfl;clear hS;intro g w' hS|(with_reducible apply d5 hS b8 (i:=0));(iterate 8 rfl);(first|exact (rfl:_=[_,_,_])|exact (rfl:_=[_,_,_,_]));clear hS;intro w' hS;simp only [List.set] at hS|(with_reducible apply d7);rfl;all_goals (intro hb hp;try (exfalso;omega))|(with_reducible apply d8 hS);rfl;rfl;rfl;refine ⟨_,hfi2 _ (hA.now hS),?_⟩;clear hS;intro w' hS|(with_reducible apply d8 hS);rfl;rfl;rfl;refine ⟨_,hrt _ (hfx.now hS),?_⟩;clear hS;intro w' hS)
     (refine j4 rfl ?_)
     exact ⟨by rw [hok];rfl,hS.sub (xh2 _)⟩
    |true=>
     simp only [hR] at hrt;rw [hR,xh8] at hok;by_cases hlp:last < S.page
     ·rw [xi0 hlp,xh8] at hok
      repeat' (first|(with_reducible apply b9 b8);rfl;rfl;rfl|(with_reducible apply c9);rfl;(first|apply Ld.sc b8;rfl;(first|exact hS.blkC 0 rfl rfl|exact hS.blkC 1 rfl rfl)|apply Ld.sl b8;rfl;exact hS.blkC 1 rfl rfl|apply Ld.st b8;rfl;(first|exact hS.blkR 1 rfl|exact hS.roR (by assumption) (by assumption));rfl);rfl|(with_reducible apply l8 b8);rfl;rfl;rfl;rfl;omega;rfl|(with_reducible apply f9);rfl;rfl;omega;omega;rfl|refine yDn (by with_reducible constructor) ?_|(with_reducible apply k6);(iterate 4 rfl);rfl|(with_reducible apply e9);rfl;rfl;rfl;rfl|(with_reducible apply d6 hS b8);rfl;rfl;rfl;clear hS;intro g w' hS|(with_reducible apply d5 hS b8 (i:=0));(iterate 8 rfl);(first|exact (rfl:_=[_,_,_])|exact (rfl:_=[_,_,_,_]));clear hS;intro w' hS;simp only [List.set] at hS|(with_reducible apply d7);rfl;all_goals (intro hb hp;try (exfalso;omega))|(with_reducible apply d8 hS);rfl;rfl;rfl;refine ⟨_,hfi2 _ (hA.now hS),?_⟩;clear hS;intro w' hS|(with_reducible apply d8 hS);rfl;rfl;rfl;refine ⟨_,hrt _ (hfx.now hS),?_⟩;clear hS;intro w' hS)
      exact f8 (i + 1,S.page) (by exact Fr.sub_of rfl) ⟨by show i + 1<=Lp.length;omega,hok⟩ (hS.reorder [2] (by decide) rfl) (by show Lp.length - (i + 1) < Lp.length - i;omega)
     ·rw [xh9 hlp,xh7] at hok
      repeat' (first|(with_reducible apply b9 b8);rfl;rfl;rfl|(with_reducible apply c9);rfl;(first|apply Ld.sc b8;rfl;(first|exact hS.blkC 0 rfl rfl|exact hS.blkC 1 rfl rfl)|apply Ld.sl b8;rfl;exact hS.blkC 1 rfl rfl|apply Ld.st b8;rfl;(first|exact hS.blkR 1 rfl|exact hS.roR (by assumption) (by assumption));rfl);rfl|(with_reducible apply l8 b8);rfl;rfl;rfl;rfl;omega;rfl|refine yDn (by with_reducible constructor) ?_|(with_reducible apply k6);(iterate 4 rfl);rfl|(with_reducible apply e9);rfl;rfl;rfl;rfl|(with_reducible apply d6 hS b8);rfl;rfl;rfl;clear hS;intro g w' hS|(with_reducible apply d5 hS b8 (i:=0));(iterate 8 rfl);(first|exact (rfl:_=[_,_,_])|exact (rfl:_=[_,_,_,_]));clear hS;intro w' hS;simp only [List.set] at hS|(with_reducible apply d7);rfl;all_goals (intro hb hp;try (exfalso;omega))|(with_reducible apply d8 hS);rfl;rfl;rfl;refine ⟨_,hfi2 _ (hA.now hS),?_⟩;clear hS;intro w' hS|(with_reducible apply d8 hS);rfl;rfl;rfl;refine ⟨_,hrt _ (hfx.now hS),?_⟩;clear hS;intro w' hS)
      (refine j4 rfl ?_)
      exact ⟨by rw [hok];rfl,hS.sub (xh2 _)⟩
 rw [xn8 (by rw [a0L];omega)] at hok;have hrv:(if (a7A A 0 (shs Lp) && a2V A en)=true then (0:Int) else 1)=if a2V A en=true then 0 else 1:=by
  simp only [hok,a7A,xh8]
 rw [hrv];have hfe:=fun w h=>hfnd w (en.tdiv 16) h;by_cases he:0<=en/\en.tmod 8=0;rotate_left
 ·have hE:a2V A en=false:=by unfold a2V;rw [xh9 he];rfl
  rw [hE];have hrv2:(if false=true then (0:Int) else 1)=1:=rfl
  repeat' (first|(with_reducible apply b9 b8);rfl;rfl;rfl|(with_reducible apply c9);rfl;(apply Ld.sc b8;rfl;exact hS.blkC 0 rfl rfl);rfl|refine yDn (by with_reducible constructor) ?_|(with_reducible apply k6);(iterate 4 rfl);assumption|(with_reducible apply q8);(iterate 4 rfl);assumption;rfl|(with_reducible apply i7);rfl;assumption;rfl;rfl|(with_reducible apply e9);rfl;assumption;rfl;rfl|(with_reducible apply e8);rfl;rfl|(with_reducible apply n9);rfl;rfl;rfl;all_goals (intro hb hp;try (exfalso;omega))|(with_reducible apply d7);rfl;all_goals (intro hb hp;try (exfalso;omega))|(with_reducible apply a0K);rfl;all_goals (intro hb hp;try (exfalso;omega))|(with_reducible apply a2q);rfl;rfl;omega;rfl)
  all_goals (refine j4 rfl ?_;exact ⟨rfl,hS.sub (xh2 _)⟩)
 cases hf:n7 A (en.tdiv 16) with
 |none=>
  simp only [hf] at hfe;have hE:a2V A en=false:=by unfold a2V;rw [hf];simp
  rw [hE]
  repeat' (first|(with_reducible apply b9 b8);rfl;rfl;rfl|(with_reducible apply c9);rfl;(first|apply Ld.sc b8;rfl;exact hS.blkC 0 rfl rfl|apply Ld.sl b8;rfl;exact hS.blkC 0 rfl rfl);rfl|refine yDn (by with_reducible constructor) ?_|(with_reducible apply k6);(iterate 4 rfl);assumption|(with_reducible apply q8);(iterate 4 rfl);rfl;rfl|(with_reducible apply i7);rfl;rfl;rfl;rfl|(with_reducible apply e9);rfl;assumption;rfl;rfl|(with_reducible apply e8);rfl;rfl|(with_reducible apply d6 hS b8);rfl;rfl;rfl;clear hS;intro g w' hS|(with_reducible apply d5 hS b8 (i:=0));(iterate 8 rfl);exact (rfl:_=[_,_,_,_]);clear hS;intro w' hS;simp only [List.set] at hS|(with_reducible apply n9);rfl;rfl;rfl;all_goals (intro hb hp;try (exfalso;omega))|(with_reducible apply d7);rfl;all_goals (intro hb hp;try (exfalso;omega))|(with_reducible apply a0K);rfl;all_goals (intro hb hp;try (exfalso;omega))|(with_reducible apply a2q);rfl;rfl;omega;rfl|(with_reducible apply a0q);rfl;rfl;omega;omega;omega;rfl|(with_reducible apply d8 hS);rfl;rfl;rfl;refine ⟨_,hfe _ (hA.now hS),?_⟩;clear hS;intro w' hS)
  (refine j4 rfl ?_)
  exact ⟨rfl,hS.sub (xh2 _)⟩
 |some a=>
  simp only [hf] at hfe;have hok2:=(a0O hc hf).1;unfold Ar.ok at hok2;obtain ⟨pg,n,prot,z⟩:=a;dsimp only at hok2;have ha2:=b70 (p:=prot) (by omega) (by omega);by_cases h2:2<=prot
  ·have hE:a2V A en=true:=by unfold a2V;rw [hf,xi0 he];simp [h2]
   rw [hE];rw [xf0 h2] at ha2
   repeat' (first|(with_reducible apply b9 b8);rfl;rfl;rfl|(with_reducible apply c9);rfl;(first|apply Ld.sc b8;rfl;exact hS.blkC 0 rfl rfl|apply Ld.sl b8;rfl;exact hS.blkC 0 rfl rfl);rfl|refine yDn (by with_reducible constructor) ?_|((with_reducible apply k6);(iterate 4 rfl);first|rfl|assumption)|(with_reducible apply e9);rfl;(first|rfl|assumption);rfl;rfl|(with_reducible apply f6);rfl;rfl|(with_reducible apply d6 hS b8);rfl;rfl;rfl;clear hS;intro g w' hS|(with_reducible apply d5 hS b8 (i:=0));(iterate 8 rfl);exact (rfl:_=[_,_,_,_]);clear hS;intro w' hS;simp only [List.set] at hS|(with_reducible apply n9);rfl;rfl;rfl;all_goals (intro hb hp;try (exfalso;omega))|(with_reducible apply d7);rfl;all_goals (intro hb hp;try (exfalso;omega))|(with_reducible apply a0K);rfl;all_goals (intro hb hp;try (exfalso;omega))|(with_reducible apply a2q);rfl;rfl;omega;rfl|(with_reducible apply a0q);rfl;rfl;omega;omega;omega;rfl|(with_reducible apply d8 hS);rfl;rfl;rfl;refine ⟨_,hfe _ (hA.now hS),?_⟩;clear hS;intro w' hS|(with_reducible apply a8i);rfl;rfl;exact ha2;rfl)
   (refine j4 rfl ?_)
   exact ⟨rfl,hS.sub (xh2 _)⟩
  ·have hE:a2V A en=false:=by unfold a2V;rw [hf];simp [h2]
   rw [hE];rw [xf1 h2] at ha2
   repeat' (first|(with_reducible apply b9 b8);rfl;rfl;rfl|(with_reducible apply c9);rfl;(first|apply Ld.sc b8;rfl;exact hS.blkC 0 rfl rfl|apply Ld.sl b8;rfl;exact hS.blkC 0 rfl rfl);rfl|refine yDn (by with_reducible constructor) ?_|((with_reducible apply k6);(iterate 4 rfl);first|rfl|assumption)|(with_reducible apply e9);rfl;(first|rfl|assumption);rfl;rfl|(with_reducible apply e8);rfl;rfl|(with_reducible apply d6 hS b8);rfl;rfl;rfl;clear hS;intro g w' hS|(with_reducible apply d5 hS b8 (i:=0));(iterate 8 rfl);exact (rfl:_=[_,_,_,_]);clear hS;intro w' hS;simp only [List.set] at hS|(with_reducible apply n9);rfl;rfl;rfl;all_goals (intro hb hp;try (exfalso;omega))|(with_reducible apply d7);rfl;all_goals (intro hb hp;try (exfalso;omega))|(with_reducible apply a0K);rfl;all_goals (intro hb hp;try (exfalso;omega))|(with_reducible apply a2q);rfl;rfl;omega;rfl|(with_reducible apply a0q);rfl;rfl;omega;omega;omega;rfl|(with_reducible apply d8 hS);rfl;rfl;rfl;refine ⟨_,hfe _ (hA.now hS),?_⟩;clear hS;intro w' hS|(with_reducible apply a8i);rfl;rfl;exact ha2;rfl)
   (refine j4 rfl ?_)
   exact ⟨rfl,hS.sub (xh2 _)⟩
theorem b3b {A:List Ar} {p:Int} (h:a3W A p=true):(!(n7 A p).isSome)=false/\((n7 A p).getD a2c).z=false:=by
 unfold a3W at h
 cases hf:n7 A p with
 |none=>rw [hf] at h;cases h
 |some a=>rw [hf] at h;exact ⟨rfl,by simpa using h⟩
theorem b1n {A:List Ar} {p:Int} (h:a3W A p=false):(!(n7 A p).isSome)=true\/((!(n7 A p).isSome)=false/\((n7 A p).getD a2c).z=true):=by
 unfold a3W at h
 cases hf:n7 A p with
 |none=>exact xd6 rfl
 |some a=>rw [hf] at h;exact xd3 ⟨rfl,by simpa using h⟩
theorem a60 {l:List Sh} {i:Nat} {s:Sh} {last:Int} (h:l[i]?=some s):a0B last (l.drop i)=(s9 s && (decide (last < s.page) && a0B s.page (l.drop (i + 1)))):=by
 rw [a2z h];rfl
theorem a4A {S:Sh} (h:s9 S=true):1<=S.page/\S.page<=255:=by
 unfold s9 at h;simp only [xb4,xb5] at h;exact h.1.1
theorem a4r {Lp:List (Sh×Value)} {w:World} {vs:Value} (hL:ShsV w Lp vs):Fn Tryz.prog 68 [vs] w (RBf (.bool (a0B 0 (shs Lp))) w):=by
 have bnd:=hL.sl.bound;have hsl:=hL.sl;obtain ⟨p,c,rfl⟩:=hL.sl.len;refine yEn Tryz.func68 Tryz.ntmps68 (by kernel_rfl) (by kernel_rfl) rfl rfl ?_;have hS:=St.start w
 repeat' (first|(with_reducible apply b9 b8);rfl;rfl;rfl|refine yDn (by with_reducible constructor) ?_)
 refine l4 (X:=Nat×Int) (fun x=>[(3,.int .i64 (x.1:Nat))]) [0] rfl (fun _=>[]) (fun x=>x.1<=Lp.length/\((x.1=0/\x.2=0)\/(0 < x.1/\∃ y,Lp[x.1 - 1]?=some y/\x.2=y.1.page))/\a0B 0 (shs Lp)=a0B x.2 ((shs Lp).drop x.1)) (fun x=>Lp.length - x.1) (0,0) (by exact Fr.sub_of rfl) (by simp) hS ?_;clear hS;rintro ⟨i,last⟩ w1 ⟨hi,hlast,hok⟩ hS;dsimp only [List.cons_append,List.nil_append] at hi hlast hok hS |-;by_cases hlt:i < Lp.length;rotate_left
 ·rw [xn8 (by rw [a0L];omega)] at hok
  repeat' (first|(with_reducible apply b9 b8);rfl;rfl;rfl|refine yDn (by with_reducible constructor) ?_|(with_reducible apply d7);rfl;all_goals (intro hb hp;try (exfalso;omega)))
  (refine j4 rfl ?_)
  exact ⟨by rw [hok];rfl,hS.sub (xh2 _)⟩
 obtain ⟨x,hx⟩:=i9 (l:=Lp) (i:=i) (by omega);have hrow:=d9 (f:=fun p=>shC p.1 p.2) hx;obtain ⟨b,off,rfl,hro⟩:=hsl.at_ (i:=i) hlt;have hst:=a60 (last:=last) (a2M hx);have hfx:=hL.fx x (xd0 hx);obtain ⟨S,u⟩:=x;dsimp only [shC] at hrow hst hfx;obtain ⟨pu,cu,rfl⟩:=hfx.len;have hfine:=fun w (h:ShV w S (.slice pu S.fixes.length cu))=>a8U h;rw [hst] at hok
 cases hR:s9 S with
 |false=>
  simp only [hR] at hfine;rw [hR,xh7] at hok
  repeat' (first|(with_reducible apply b9 b8);rfl;rfl;rfl|refine yDn (by with_reducible constructor) ?_|(with_reducible apply d7);rfl;all_goals (intro hb hp;try (exfalso;omega)))
  (focus ((with_reducible apply e6 _ _ _ (by kernel_rfl) (by kernel_rfl) hS);(repeat' (first|(first|(with_reducible apply j3 b8);rfl;rfl|(with_reducible apply j0);rfl;(intro wd hd;replace hd:St _ _ wd _:=hd;(apply Ld.st b8;rfl;exact hd.roR (by assumption) (by assumption);rfl));rfl|(with_reducible apply a0s b8);rfl;rfl;rfl;rfl;omega;rfl|(first|(with_reducible apply a18);(iterate 4 rfl);rfl;rfl|(with_reducible apply a1X);(iterate 5 rfl)|(with_reducible apply p9);rfl;rfl;rfl;rfl))|(with_reducible apply m7);rfl;rfl;rfl;refine ⟨_,fun wd hd=>hfine _ (hfx.now hd),?_⟩));all_goals ((with_reducible apply k8);intro w' hS';clear hS;have hS:=hS';clear hS')))
  all_goals (repeat' (first|(with_reducible apply b9 b8);rfl;rfl;rfl|refine yDn (by with_reducible constructor) ?_|(with_reducible apply e8);rfl;rfl))
  all_goals ((refine j4 rfl ?_))
  all_goals exact ⟨by rw [hok],hS.sub (xh2 _)⟩
 |true=>
  simp only [hR] at hfine;rw [hR,xh8] at hok;have hpg:=a4A hR;rcases hlast with ⟨rfl,rfl⟩|⟨hi0,y,hy,rfl⟩
  ·rw [xi0 (show (0:Int) < S.page by omega),xh8] at hok
   repeat' (first|(with_reducible apply b9 b8);rfl;rfl;rfl|refine yDn (by with_reducible constructor) ?_|(with_reducible apply d7);rfl;all_goals (intro hb hp;try (exfalso;omega)))
   (focus ((with_reducible apply e6 _ _ _ (by kernel_rfl) (by kernel_rfl) hS);(repeat' (first|(first|(with_reducible apply j3 b8);rfl;rfl|(with_reducible apply j0);rfl;(intro wd hd;replace hd:St _ _ wd _:=hd;(apply Ld.st b8;rfl;exact hd.roR (by assumption) (by assumption);rfl));rfl|(with_reducible apply a0s b8);rfl;rfl;rfl;rfl;omega;rfl|(first|(with_reducible apply a0g);(iterate 4 rfl);rfl|(with_reducible apply a18);(iterate 4 rfl);rfl;rfl|(with_reducible apply p7);rfl;rfl;rfl;rfl))|(with_reducible apply m7);rfl;rfl;rfl;refine ⟨_,fun wd hd=>hfine _ (hfx.now hd),?_⟩));all_goals ((with_reducible apply k8);intro w' hS';clear hS;have hS:=hS';clear hS')))
   repeat' (first|(with_reducible apply b9 b8);rfl;rfl;rfl|(with_reducible apply f9);rfl;rfl;omega;omega;rfl|refine yDn (by with_reducible constructor) ?_|(with_reducible apply f6);rfl;rfl)
   exact f8 (1,S.page) (by exact Fr.sub_of rfl) ⟨by show 1<=Lp.length;omega,xd3 ⟨by show 0 < 1;omega,_,hx,rfl⟩,hok⟩ hS (by show Lp.length - 1 < Lp.length - 0;omega)
  ·have e1:((i:Int) - 1).toNat=i - 1:=by omega
   have hrow2:(Lp.map fun p=>shC p.1 p.2)[((i:Int) - 1).toNat]?=some (shC y.1 y.2):=by rw [e1];exact d9 (f:=fun p=>shC p.1 p.2) hy
   obtain ⟨S2,u2⟩:=y;dsimp only [shC] at hrow2 hok;by_cases hlp:S2.page < S.page
   ·rw [xi0 hlp,xh8] at hok;have hd1:decide (S.page<=S2.page)=false:=xh9 (by omega)
    repeat' (first|(with_reducible apply b9 b8);rfl;rfl;rfl|refine yDn (by with_reducible constructor) ?_|(with_reducible apply d7);rfl;all_goals (intro hb hp;try (exfalso;omega)))
    (focus ((with_reducible apply e6 _ _ _ (by kernel_rfl) (by kernel_rfl) hS);(repeat' (first|(first|(with_reducible apply a1G);rfl;rfl;omega;omega;rfl|(with_reducible apply j3 b8);rfl;rfl|(with_reducible apply j0);rfl;(intro wd hd;replace hd:St _ _ wd _:=hd;(first|apply Ld.sc b8;rfl;exact hd.roC0 (by assumption) (by assumption) rfl|apply Ld.st b8;rfl;exact hd.roR (by assumption) (by assumption);rfl));rfl|(with_reducible apply a0s b8);rfl;rfl;rfl;(first|rfl|exact xk8 (by omega));omega;rfl|(first|((with_reducible apply a0g);(iterate 4 rfl);first|rfl|assumption)|(with_reducible apply a0c);rfl;rfl;rfl;all_goals (intro hb hp;try (exfalso;omega))|(with_reducible apply p9);rfl;assumption;rfl;rfl|(with_reducible apply p7);rfl;rfl;rfl;rfl))|(with_reducible apply m7);rfl;rfl;rfl;refine ⟨_,fun wd hd=>hfine _ (hfx.now hd),?_⟩));all_goals ((with_reducible apply k8);intro w' hS';clear hS;have hS:=hS';clear hS')))
    repeat' (first|(with_reducible apply b9 b8);rfl;rfl;rfl|(with_reducible apply f9);rfl;rfl;omega;omega;rfl|refine yDn (by with_reducible constructor) ?_|(with_reducible apply f6);rfl;assumption)
    exact f8 (i + 1,S.page) (by exact Fr.sub_of rfl) ⟨by show i + 1<=Lp.length;omega,xd3 ⟨by show 0 < i + 1;omega,_,hx,rfl⟩,hok⟩ hS (by show Lp.length - (i + 1) < Lp.length - i;omega)
   ·rw [xh9 hlp,xh7] at hok;have hd1:decide (S.page<=S2.page)=true:=xi0 (by omega)
    repeat' (first|(with_reducible apply b9 b8);rfl;rfl;rfl|refine yDn (by with_reducible constructor) ?_|(with_reducible apply d7);rfl;all_goals (intro hb hp;try (exfalso;omega)))
    (focus ((with_reducible apply e6 _ _ _ (by kernel_rfl) (by kernel_rfl) hS);(repeat' (first|(first|(with_reducible apply a1G);rfl;rfl;omega;omega;rfl|(with_reducible apply j3 b8);rfl;rfl|(with_reducible apply j0);rfl;(intro wd hd;replace hd:St _ _ wd _:=hd;(first|apply Ld.sc b8;rfl;exact hd.roC0 (by assumption) (by assumption) rfl|apply Ld.st b8;rfl;exact hd.roR (by assumption) (by assumption);rfl));rfl|(with_reducible apply a0s b8);rfl;rfl;rfl;(first|rfl|exact xk8 (by omega));omega;rfl|(first|((with_reducible apply a0g);(iterate 4 rfl);first|rfl|assumption)|(with_reducible apply a0c);rfl;rfl;rfl;all_goals (intro hb hp;try (exfalso;omega))|(with_reducible apply p9);rfl;assumption;rfl;rfl|(with_reducible apply p7);rfl;rfl;rfl;rfl))|(with_reducible apply m7);rfl;rfl;rfl;refine ⟨_,fun wd hd=>hfine _ (hfx.now hd),?_⟩));all_goals ((with_reducible apply k8);intro w' hS';clear hS;have hS:=hS';clear hS')))
    repeat' (first|(with_reducible apply b9 b8);rfl;rfl;rfl|refine yDn (by with_reducible constructor) ?_|(with_reducible apply e8);rfl;assumption)
    (refine j4 rfl ?_)
    exact ⟨by rw [hok],hS.sub (xh2 _)⟩
theorem a6L {A:List Ar} {Lp:List (Sh×Value)} {w:World} {va vs:Value} {en:Int} (hA:Sl nF w 4 va (A.map arC)) (hL:ShsV w Lp vs) (hen:-9223372036854775808<=en) (hen2:en<=9223372036854775807):Fn Tryz.prog 55 [lkA va vs en] w (RBf (.int .i64 (a0H A (shs Lp) en)) w):=by
 have bnd:=hL.sl.bound;have hsl:=hL.sl;have hrise:=fun w (h:ShsV w Lp vs)=>a4r h;obtain ⟨p,c,rfl⟩:=hL.sl.len;unfold lkA;have hca:=fun w (h:Sl nF w 4 va (A.map arC))=>a4h h;by_cases hc:l7 A=0;rotate_left
 ·have hr:a0H A (shs Lp) en=l7 A:=xf1 hc;have hc':(!decide (l7 A=0))=true:=by rw [xh9 hc];rfl
  rw [hr];refine yEn Tryz.func55 Tryz.ntmps55 (by kernel_rfl) (by kernel_rfl) rfl rfl ?_;have hS:=St.start w
  repeat' (first|(with_reducible apply b9 b8);rfl;rfl;rfl|(with_reducible apply c9);rfl;(apply Ld.sl b8;rfl;exact hS.blkC 0 rfl rfl);rfl|refine yDn (by with_reducible constructor) ?_|(with_reducible apply e8);rfl;assumption|(with_reducible apply k9 hS);rfl;rfl;rfl;clear hS;intro g w' hS|(with_reducible apply d8 hS);rfl;rfl;rfl;refine ⟨_,hca _ (hA.now hS),?_⟩;clear hS;intro w' hS)
  (refine j4 rfl ?_)
  exact ⟨rfl,hS.sub (xh2 _)⟩
 simp only [hc] at hca;have hpag:=fun w (h:Sl nF w 4 va (A.map arC))=>a66 h hc;have hat:=fun w page (h:Sl nF w 4 va (A.map arC))=>a32 page h (a00 (r7.1 hc).2);have hr:a0H A (shs Lp) en=if lkB A (shs Lp) en=true then 0 else 1:=xf0 hc;have hlk:lkB A (shs Lp) en=(decide ((Lp.length:Int)=r6 A) && (a0B 0 (shs Lp) && (arB A (shs Lp) && a2V A en))):=by
  unfold lkB;rw [a0L,b2d,Bool.and_assoc]
 rw [hr,hlk];refine yEn Tryz.func55 Tryz.ntmps55 (by kernel_rfl) (by kernel_rfl) rfl rfl ?_;have hS:=St.start w;by_cases hn:(Lp.length:Int)=r6 A;rotate_left
 ·have hn':(!decide ((Lp.length:Int)=r6 A))=true:=by rw [xh9 hn];rfl
  rw [xh9 hn,xh7]
  repeat' (first|(with_reducible apply b9 b8);rfl;rfl;rfl|(with_reducible apply c9);rfl;(apply Ld.sl b8;rfl;exact hS.blkC 0 rfl rfl);rfl|refine yDn (by with_reducible constructor) ?_|(with_reducible apply f6);rfl;rfl|(with_reducible apply k9 hS);rfl;rfl;rfl;clear hS;intro g w' hS|(with_reducible apply d8 hS);rfl;rfl;rfl;refine ⟨_,hca _ (hA.now hS),?_⟩;clear hS;intro w' hS)
  (focus ((with_reducible apply e6 _ _ _ (by kernel_rfl) (by kernel_rfl) hS);(repeat' (first|(first|(with_reducible apply j3 b8);rfl;rfl|(with_reducible apply j0);rfl;(intro wd hd;replace hd:St _ _ wd _:=hd;(apply Ld.sl b8;rfl;exact hd.blkC 0 rfl rfl));rfl|(first|(with_reducible apply a18);(iterate 4 rfl);assumption;rfl|(with_reducible apply p9);rfl;assumption;rfl;rfl))|(with_reducible apply m7);rfl;rfl;rfl;refine ⟨_,fun wd hd=>hpag _ (hA.now hd),?_⟩));all_goals ((with_reducible apply k8);intro w' hS';clear hS;have hS:=hS';clear hS')))
  repeat' (first|(with_reducible apply b9 b8);rfl;rfl;rfl|refine yDn (by with_reducible constructor) ?_|(with_reducible apply e8);rfl;rfl)
  (refine j4 rfl ?_)
  exact ⟨rfl,hS.sub (xh2 _)⟩
 have hn':(!decide ((Lp.length:Int)=r6 A))=false:=by rw [xi0 hn];rfl
 rw [xi0 hn,xh8]
 cases hri:a0B 0 (shs Lp) with
 |false=>
  simp only [hri] at hrise;rw [xh7]
  repeat' (first|(with_reducible apply b9 b8);rfl;rfl;rfl|(with_reducible apply c9);rfl;(apply Ld.sl b8;rfl;exact hS.blkC 0 rfl rfl);rfl|refine yDn (by with_reducible constructor) ?_|(with_reducible apply f6);rfl;rfl|(with_reducible apply k9 hS);rfl;rfl;rfl;clear hS;intro g w' hS|(with_reducible apply d8 hS);rfl;rfl;rfl;refine ⟨_,hca _ (hA.now hS),?_⟩;clear hS;intro w' hS)
  (focus ((with_reducible apply e6 _ _ _ (by kernel_rfl) (by kernel_rfl) hS);(repeat' (first|(first|(with_reducible apply j3 b8);rfl;rfl|(with_reducible apply j0);rfl;(intro wd hd;replace hd:St _ _ wd _:=hd;(apply Ld.sl b8;rfl;exact hd.blkC 0 rfl rfl));rfl|(first|(with_reducible apply a0g);(iterate 4 rfl);assumption|(with_reducible apply p7);rfl;assumption;rfl;rfl))|(with_reducible apply m7);rfl;rfl;rfl;refine ⟨_,fun wd hd=>hpag _ (hA.now hd),?_⟩|(with_reducible apply m7);rfl;rfl;rfl;refine ⟨_,fun wd hd=>hrise _ (hL.now hd),?_⟩));all_goals ((with_reducible apply k8);intro w' hS';clear hS;have hS:=hS';clear hS')))
  repeat' (first|(with_reducible apply b9 b8);rfl;rfl;rfl|refine yDn (by with_reducible constructor) ?_|(with_reducible apply e8);rfl;rfl)
  (refine j4 rfl ?_)
  exact ⟨rfl,hS.sub (xh2 _)⟩
 |true=>
 simp only [hri] at hrise;rw [xh8]
 repeat' (first|(with_reducible apply b9 b8);rfl;rfl;rfl|(with_reducible apply c9);rfl;(apply Ld.sl b8;rfl;exact hS.blkC 0 rfl rfl);rfl|refine yDn (by with_reducible constructor) ?_|(with_reducible apply f6);rfl;rfl|(with_reducible apply k9 hS);rfl;rfl;rfl;clear hS;intro g w' hS|(with_reducible apply d8 hS);rfl;rfl;rfl;refine ⟨_,hca _ (hA.now hS),?_⟩;clear hS;intro w' hS)
 (focus ((with_reducible apply e6 _ _ _ (by kernel_rfl) (by kernel_rfl) hS);(repeat' (first|(first|(with_reducible apply j3 b8);rfl;rfl|(with_reducible apply j0);rfl;(intro wd hd;replace hd:St _ _ wd _:=hd;(apply Ld.sl b8;rfl;exact hd.blkC 0 rfl rfl));rfl|(first|(with_reducible apply a0g);(iterate 4 rfl);assumption|(with_reducible apply p7);rfl;assumption;rfl;rfl))|(with_reducible apply m7);rfl;rfl;rfl;refine ⟨_,fun wd hd=>hpag _ (hA.now hd),?_⟩|(with_reducible apply m7);rfl;rfl;rfl;refine ⟨_,fun wd hd=>hrise _ (hL.now hd),?_⟩));all_goals ((with_reducible apply k8);intro w' hS';clear hS;have hS:=hS';clear hS')))
 repeat' (first|(with_reducible apply b9 b8);rfl;rfl;rfl|refine yDn (by with_reducible constructor) ?_|(with_reducible apply f6);rfl;rfl)
 refine a0p hS 4 [1] rfl (Lp.length) (fun i=>((shs Lp).take i).all (fun s=>a3W A s.page)=true) 0 rfl (xi5 _) (by (rfl)) ?_;rintro i w1 hi hall hS';clear hS;have hS:=hS';clear hS';by_cases hlt:i < Lp.length
 ·obtain ⟨x,hx⟩:=i9 (l:=Lp) (i:=i) (by omega);have hrow:=d9 (f:=fun p=>shC p.1 p.2) hx;obtain ⟨b,off,rfl,hro⟩:=hsl.at_ (i:=i) hlt;have hsx:=a2M hx;obtain ⟨S,u⟩:=x;dsimp only [shC] at hrow hsx;have hat2:=fun w h=>hat w S.page h;have hz1:=fun h=>b3b (A:=A) (p:=S.page) h;have hz2:=fun h=>b1n (A:=A) (p:=S.page) h
  repeat' (first|(with_reducible apply b9 b8);rfl;rfl;rfl|(with_reducible apply c9);rfl;(apply Ld.sl b8;rfl;exact hS.blkC 0 rfl rfl);rfl|refine yDn (by with_reducible constructor) ?_|(with_reducible apply d7);rfl;all_goals (intro hb hp;try (exfalso;omega)))
  refine a4a 15 rfl hS (by kernel_rfl) ?_;intro wh hh;clear hS;have hS:=hh;clear hh
  ((with_reducible apply g8 (nn 0) b8);rfl;kernel_rfl;exact (fun _ _ _ h=>h);exact hS;rfl;rfl)
  ((with_reducible apply n5 (nn 1));rfl;kernel_rfl;exact (fun _ _ _ h=>h);exact hS;rfl;(intro wd hd;replace hd:St _ _ wd _:=hd;(apply Ld.sl b8;rfl;exact hd.blkC 0 rfl rfl));rfl)
  ((with_reducible apply g8 (nn 2) b8);rfl;kernel_rfl;exact (fun _ _ _ h=>h);exact hS;rfl;rfl)
  ((with_reducible apply n5 (nn 3));rfl;kernel_rfl;exact (fun _ _ _ h=>h);exact hS;rfl;(intro wd hd;replace hd:St _ _ wd _:=hd;(apply Ld.sl b8;rfl;exact hd.blkC 0 rfl rfl));rfl)
  ((with_reducible apply g8 (nn 4) b8);rfl;kernel_rfl;exact (fun _ _ _ h=>h);exact hS;rfl;rfl)
  ((with_reducible apply b5d (nn 5) b8);rfl;kernel_rfl;kernel_rfl;kernel_rfl;exact (fun _ _ _ _ h=>h);exact hS;rfl;rfl;rfl;rfl;omega;rfl)
  ((with_reducible apply g8 (nn 6) b8);rfl;kernel_rfl;exact (fun _ _ _ h=>h);exact hS;rfl;rfl)
  ((with_reducible apply n5 (nn 7));rfl;kernel_rfl;exact (fun _ _ _ h=>h);exact hS;rfl;(intro wd hd;replace hd:St _ _ wd _:=hd;(apply Ld.sc b8;rfl;exact hd.roC0 (by assumption) (by assumption) rfl));rfl)
  refine a17 (i:=8) (j:=12) (by kernel_rfl) ?_ ?_
  ·refine j5 rfl (x8 (first:=[]) (caps:=[]) rfl rfl (hat2 _ (hA.now hS))) rfl ?_;rintro _ w' ⟨rfl,hS'⟩;replace hS:=hS.transA hS';simp only [s7] at hS;clear hS';refine ⟨hS,?_⟩
   ((with_reducible apply g8 (nn 9) b8);rfl;kernel_rfl;exact (fun _ _ _ h=>h);exact hS;rfl;rfl)
   ((with_reducible apply g8 (nn 10) b8);rfl;kernel_rfl;exact (fun _ _ _ h=>h);exact hS;rfl;rfl)
   ((with_reducible apply g8 (nn 11) b8);rfl;kernel_rfl;exact (fun _ _ _ h=>h);exact hS;rfl;rfl)
   refine k7 (i:=12) (by kernel_rfl) ?_;refine j5 rfl (v6 hS b8 rfl rfl) rfl ?_;rintro _ w' ⟨g,rfl,hS'⟩;clear hS;have hS:=hS';clear hS';refine ⟨hS.drop,?_⟩;refine k7 (i:=13) (by kernel_rfl) ?_;refine l9 (Φ:=fun _ w'=>St _ _ w' _) rfl (j9 hS b8 (i:=0) rfl rfl rfl rfl rfl (xg4 rfl) (xc7.1 rfl)) ?_;intro _ w' hS';simp only [List.set] at hS';clear hS;have hS:=hS';clear hS';refine ⟨hS.drop,?_⟩
   ((with_reducible apply g8 (nn 14) b8);rfl;kernel_rfl;exact (fun _ _ _ h=>h);exact hS.drop;rfl;rfl)
   refine o8 (by kernel_rfl) ?_
   cases ha:a3W A S.page with
   |true=>
    obtain ⟨hz3,hz4⟩:=hz1 ha
    repeat' (first|(with_reducible apply b9 b8);rfl;rfl;rfl|(with_reducible apply c9);rfl;(apply Ld.sc b8;rfl;exact hS.blkC 0 rfl rfl);rfl|(with_reducible apply f9);rfl;rfl;omega;omega;rfl|refine yDn (by with_reducible constructor) ?_|(with_reducible apply k6);(iterate 4 rfl);assumption|(with_reducible apply e9);rfl;assumption;rfl;rfl|(with_reducible apply f6);rfl;assumption)
    exact v9 (i + 1) (by exact Fr.sub_of rfl) (by omega) (o5 hall hsx ha) (by omega) hS.drop
   |false=>
    rw [show arB A (shs Lp)=false from a4v hsx ha,xh7];rcases hz2 ha with hz|hz
    ·repeat' (first|(with_reducible apply b9 b8);rfl;rfl;rfl|refine yDn (by with_reducible constructor) ?_|(with_reducible apply q8);(iterate 4 rfl);assumption;rfl|(with_reducible apply i7);rfl;assumption;rfl;rfl|(with_reducible apply e8);rfl;rfl)
     (refine j4 rfl ?_)
     exact ⟨rfl,hS.sub (xh2 _)⟩
    ·have hz3:=hz.1;have hz4:=hz.2
     repeat' (first|(with_reducible apply b9 b8);rfl;rfl;rfl|(with_reducible apply c9);rfl;(apply Ld.sc b8;rfl;exact hS.blkC 0 rfl rfl);rfl|refine yDn (by with_reducible constructor) ?_|(with_reducible apply k6);(iterate 4 rfl);assumption|(with_reducible apply e9);rfl;assumption;rfl;rfl|(with_reducible apply e8);rfl;assumption)
     (refine j4 rfl ?_)
     exact ⟨rfl,hS.sub (xh2 _)⟩
  ·refine j5 rfl (v6 hS b8 rfl rfl) rfl ?_;rintro _ w' ⟨g,rfl,hS'⟩;clear hS;have hS:=hS';clear hS';refine ⟨hS.drop,?_⟩;refine k7 (i:=8) (by kernel_rfl) ?_;refine j5 rfl (x8 (first:=[]) (caps:=[]) rfl rfl (hat2 _ (hA.now hS))) rfl ?_;rintro _ w' ⟨rfl,hS'⟩;replace hS:=hS.transA hS';simp only [s7] at hS;clear hS';refine ⟨hS.drop,?_⟩
   ((with_reducible apply g8 (nn 9) b8);rfl;kernel_rfl;exact (fun _ _ _ h=>h);exact hS.drop;rfl;rfl)
   ((with_reducible apply g8 (nn 10) b8);rfl;kernel_rfl;exact (fun _ _ _ h=>h);exact hS.drop;rfl;rfl)
   ((with_reducible apply g8 (nn 11) b8);rfl;kernel_rfl;exact (fun _ _ _ h=>h);exact hS.drop;rfl;rfl)
   refine k7 (i:=13) (by kernel_rfl) ?_;refine l9 (Φ:=fun _ w'=>St _ _ w' _) rfl (j9 hS b8 (i:=0) rfl rfl rfl rfl rfl (xg4 rfl) (xc7.1 rfl)) ?_;intro _ w' hS';simp only [List.set] at hS';clear hS;have hS:=hS';clear hS';refine ⟨hS.drop,?_⟩
   ((with_reducible apply g8 (nn 14) b8);rfl;kernel_rfl;exact (fun _ _ _ h=>h);exact hS.drop;rfl;rfl)
   refine o8 (by kernel_rfl) ?_
   cases ha:a3W A S.page with
   |true=>
    obtain ⟨hz3,hz4⟩:=hz1 ha
    repeat' (first|(with_reducible apply b9 b8);rfl;rfl;rfl|(with_reducible apply c9);rfl;(apply Ld.sc b8;rfl;exact hS.blkC 0 rfl rfl);rfl|(with_reducible apply f9);rfl;rfl;omega;omega;rfl|refine yDn (by with_reducible constructor) ?_|(with_reducible apply k6);(iterate 4 rfl);assumption|(with_reducible apply e9);rfl;assumption;rfl;rfl|(with_reducible apply f6);rfl;assumption)
    exact v9 (i + 1) (by exact Fr.sub_of rfl) (by omega) (o5 hall hsx ha) (by omega) hS.drop
   |false=>
    rw [show arB A (shs Lp)=false from a4v hsx ha,xh7];rcases hz2 ha with hz|hz
    ·repeat' (first|(with_reducible apply b9 b8);rfl;rfl;rfl|refine yDn (by with_reducible constructor) ?_|(with_reducible apply q8);(iterate 4 rfl);assumption;rfl|(with_reducible apply i7);rfl;assumption;rfl;rfl|(with_reducible apply e8);rfl;rfl)
     (refine j4 rfl ?_)
     exact ⟨rfl,hS.sub (xh2 _)⟩
    ·have hz3:=hz.1;have hz4:=hz.2
     repeat' (first|(with_reducible apply b9 b8);rfl;rfl;rfl|(with_reducible apply c9);rfl;(apply Ld.sc b8;rfl;exact hS.blkC 0 rfl rfl);rfl|refine yDn (by with_reducible constructor) ?_|(with_reducible apply k6);(iterate 4 rfl);assumption|(with_reducible apply e9);rfl;assumption;rfl;rfl|(with_reducible apply e8);rfl;assumption)
     (refine j4 rfl ?_)
     exact ⟨rfl,hS.sub (xh2 _)⟩
 have hal:arB A (shs Lp)=true:=a1y hall (by rw [a0L];omega);rw [hal,xh8];have hate:=fun w h=>hat w (en.tdiv 16) h
 cases hf:n7 A (en.tdiv 16) with
 |none=>
  simp only [hf] at hate;have hE:a2V A en=false:=by unfold a2V;rw [hf];simp
  rw [hE]
  repeat' (first|(with_reducible apply b9 b8);rfl;rfl;rfl|(with_reducible apply c9);rfl;(first|apply Ld.sc b8;rfl;exact hS.blkC 0 rfl rfl|apply Ld.sl b8;rfl;exact hS.blkC 0 rfl rfl);rfl|refine yDn (by with_reducible constructor) ?_|(with_reducible apply q8);(iterate 4 rfl);rfl;rfl|(with_reducible apply i7);rfl;rfl;rfl;rfl|(with_reducible apply e8);rfl;rfl|(with_reducible apply d6 hS b8);rfl;rfl;rfl;clear hS;intro g w' hS|(with_reducible apply d5 hS b8 (i:=0));(iterate 8 rfl);exact (rfl:_=[_,_,_,_]);clear hS;intro w' hS;simp only [List.set] at hS|(with_reducible apply d7);rfl;all_goals (intro hb hp;try (exfalso;omega))|(with_reducible apply a0q);rfl;rfl;omega;omega;omega;rfl|(with_reducible apply d8 hS);rfl;rfl;rfl;refine ⟨_,hate _ (hA.now hS),?_⟩;clear hS;intro w' hS)
  (refine j4 rfl ?_)
  exact ⟨rfl,hS.sub (xh2 _)⟩
 |some a=>
  simp only [hf] at hate;obtain ⟨hok2,hp1⟩:=a0O hc hf;have hen0:0<=en:=by
   by_cases h:0<=en
   ·exact h
   ·exfalso;have e:en.tdiv 16=-((-en).tdiv 16):=by rw [Int.neg_tdiv,Int.neg_neg]
    rw [e,xf2 (by omega)] at hp1;omega
  obtain ⟨pg,n,prot,z⟩:=a;by_cases he:en.tmod 8=0
  ·by_cases h2:2<=prot
   ·have hE:a2V A en=true:=by unfold a2V;rw [hf,xi0 ⟨hen0,he⟩];simp [h2]
    have hpr:decide (prot < 2)=false:=xh9 (by omega);have he8:(!decide (en.tmod 8=0))=false:=by rw [xi0 he];rfl
    rw [hE]
    repeat' (first|(with_reducible apply b9 b8);rfl;rfl;rfl|(with_reducible apply c9);rfl;(first|apply Ld.sc b8;rfl;(first|exact hS.blkC 0 rfl rfl|exact hS.blkC 1 rfl rfl)|apply Ld.sl b8;rfl;exact hS.blkC 0 rfl rfl);rfl|refine yDn (by with_reducible constructor) ?_|((with_reducible apply k6);(iterate 4 rfl);first|rfl|assumption)|(with_reducible apply e9);rfl;(first|rfl|assumption);rfl;rfl|(with_reducible apply f6);rfl;assumption|(with_reducible apply d6 hS b8);rfl;rfl;rfl;clear hS;intro g w' hS|(with_reducible apply d5 hS b8 (i:=0));(iterate 8 rfl);exact (rfl:_=[_,_,_,_]);clear hS;intro w' hS;simp only [List.set] at hS|(with_reducible apply d7);rfl;all_goals (intro hb hp;try (exfalso;omega))|(with_reducible apply a2q);rfl;rfl;omega;rfl|(with_reducible apply a0q);rfl;rfl;omega;omega;omega;rfl|(with_reducible apply d8 hS);rfl;rfl;rfl;refine ⟨_,hate _ (hA.now hS),?_⟩;clear hS;intro w' hS)
    (refine j4 rfl ?_)
    exact ⟨rfl,hS.sub (xh2 _)⟩
   ·have hE:a2V A en=false:=by unfold a2V;rw [hf];simp [h2]
    have hpr:decide (prot < 2)=true:=xi0 (by omega);have he8:(!decide (en.tmod 8=0))=false:=by rw [xi0 he];rfl
    rw [hE]
    repeat' (first|(with_reducible apply b9 b8);rfl;rfl;rfl|(with_reducible apply c9);rfl;(first|apply Ld.sc b8;rfl;(first|exact hS.blkC 0 rfl rfl|exact hS.blkC 1 rfl rfl)|apply Ld.sl b8;rfl;exact hS.blkC 0 rfl rfl);rfl|refine yDn (by with_reducible constructor) ?_|((with_reducible apply k6);(iterate 4 rfl);first|rfl|assumption)|(with_reducible apply e9);rfl;(first|rfl|assumption);rfl;rfl|(with_reducible apply e8);rfl;assumption|(with_reducible apply d6 hS b8);rfl;rfl;rfl;clear hS;intro g w' hS|(with_reducible apply d5 hS b8 (i:=0));(iterate 8 rfl);exact (rfl:_=[_,_,_,_]);clear hS;intro w' hS;simp only [List.set] at hS|(with_reducible apply d7);rfl;all_goals (intro hb hp;try (exfalso;omega))|(with_reducible apply a2q);rfl;rfl;omega;rfl|(with_reducible apply a0q);rfl;rfl;omega;omega;omega;rfl|(with_reducible apply d8 hS);rfl;rfl;rfl;refine ⟨_,hate _ (hA.now hS),?_⟩;clear hS;intro w' hS)
    (refine j4 rfl ?_)
    exact ⟨rfl,hS.sub (xh2 _)⟩
  ·have hE:a2V A en=false:=by unfold a2V;rw [xh9 (fun h=>he h.2)];rfl
   have he8:(!decide (en.tmod 8=0))=true:=by rw [xh9 he];rfl
   rw [hE]
   repeat' (first|(with_reducible apply b9 b8);rfl;rfl;rfl|(with_reducible apply c9);rfl;(first|apply Ld.sc b8;rfl;(first|exact hS.blkC 0 rfl rfl|exact hS.blkC 1 rfl rfl)|apply Ld.sl b8;rfl;exact hS.blkC 0 rfl rfl);rfl|refine yDn (by with_reducible constructor) ?_|(with_reducible apply k6);(iterate 4 rfl);rfl|(with_reducible apply q8);(iterate 4 rfl);assumption;rfl|(with_reducible apply i7);rfl;assumption;rfl;rfl|(with_reducible apply e9);rfl;rfl;rfl;rfl|(with_reducible apply e8);rfl;rfl|(with_reducible apply d6 hS b8);rfl;rfl;rfl;clear hS;intro g w' hS|(with_reducible apply d5 hS b8 (i:=0));(iterate 8 rfl);exact (rfl:_=[_,_,_,_]);clear hS;intro w' hS;simp only [List.set] at hS|(with_reducible apply d7);rfl;all_goals (intro hb hp;try (exfalso;omega))|(with_reducible apply a2q);rfl;rfl;omega;rfl|(with_reducible apply a0q);rfl;rfl;omega;omega;omega;rfl|(with_reducible apply d8 hS);rfl;rfl;rfl;refine ⟨_,hate _ (hA.now hS),?_⟩;clear hS;intro w' hS)
   (refine j4 rfl ?_)
   exact ⟨rfl,hS.sub (xh2 _)⟩
end Go.Proofs.YtejnpppejalhfabGreat
