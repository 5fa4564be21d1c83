/- Texts that the proof stands on, one behind the other: Im1, Lk1, Lk2, Lk3, Ke1, PlLnk3, Lk4, Lk5, PlLnk4. -/
import Derived.Test.YtejnpppejalhfacPKernelEmpty3
/- Names. -/
namespace Go.Proofs.Ytejnpppejalhfac
open Go.RowKit Go.Sort
theorem l8 {α:Type} {l:List α} {i:Nat} (h:(i:Int) < l.length):∃ x,l[i]?=some x:=⟨l[i]'(by omega),by simp⟩
/-! the program's -/
theorem b13 (r:Int) (w:World):Fn Try.prog 93 [.int .i32 r] w (RBf (.bool (!decide ((97≤r∧r≤122)∨(48≤r∧r≤57)∨r=95))) w):=by
 refine j0 (fn:=Try.f93) ⟨Try.func93,by kernel_rfl,by kernel_rfl⟩ (by exact rfl) Try.ntmps93 (by exact rfl) ?_
 have hS:=St.start w
 repeat' (first|(first|((with_reducible apply d6 c8);exact rfl;exact rfl)|(first|((with_reducible apply p9);(iterate 4 exact rfl);first|exact rfl|assumption)|((with_reducible apply a0f);(iterate 4 exact rfl);(first|exact rfl|assumption);exact rfl)|((with_reducible apply a4m);(iterate 5 exact rfl))|((with_reducible apply r6);(iterate 3 exact rfl);all_goals (intro hb hp;try (exfalso;omega)))|((with_reducible apply m9);exact rfl;(first|exact rfl|assumption);exact rfl;exact rfl)|((with_reducible apply n0);exact rfl;(first|exact rfl|assumption);exact rfl;exact rfl)))|(first|(with_reducible first|apply d8|apply c9|apply d7|apply d5|apply j5)))
 all_goals
  (apply j6);(repeat (first|exact ResL.nil|(apply ResL.tmp;exact rfl)))
  refine ⟨?_,hS⟩
  simp only [Value.bool.injEq]
  first|(congr 1;rw [decide_eq_decide];omega)|(simp only [Bool.false_eq,Bool.not_eq_false',decide_eq_true_eq];omega)
def NmF:Value:=.func (.func 93) #[] #[]
theorem a7m (l:List UInt8) (w:World):Fn Try.prog 102 [.string ⟨l.toArray⟩,NmF,.bool true] w (fun v w'=>∃ k:Int,v=.int .i64 k∧(0≤k ↔ l.all okB=false)∧St nF w w' []):=by
 refine j0 (fn:=Try.f102) ⟨Try.func102,by kernel_rfl,by kernel_rfl⟩ (by exact rfl) Try.ntmps102 (by exact rfl) ?_
 have hS:=St.start w
 repeat' (first|(((with_reducible apply d6 c8);exact rfl;exact rfl))|(first|(with_reducible first|apply d8|apply c9|apply d7|apply d5|apply e7))|((with_reducible apply b4k hS c8);(iterate 3 exact rfl);intro r w' hS';clear hS;have hS:=hS';clear hS'))
 refine a9L (X:=Nat) 0 (fun k=>[(0,.string ⟨l.toArray⟩),(1,NmF),(2,.bool true),(10,.pointer (some ⟨r,0,none⟩))]) (fun k w'=>k≤l.length∧(l.take k).all okB=true∧St nF w w' [.obj r (.stringIter ⟨l.toArray⟩ k)]) (fun k=>l.length - k) ?_ ⟨by omega,rfl,hS⟩ ?_
 ·repeat (first|exact Fr.sub_nil _|(apply Fr.sub_cons;exact rfl))
 rintro k w1 ⟨hi,hall,hS'⟩
 clear hS
 have hS:=hS'
 clear hS'
 by_cases hk:k < l.length
 ·obtain ⟨b,hb'⟩:=l8 (l:=l) (i:=k) (by omega)
  repeat' (first|(first|((with_reducible apply d6 c8);exact rfl;exact rfl)|((with_reducible apply b5J c8);(iterate 4 exact rfl)))|(first|(with_reducible first|apply d8|apply c9|apply d7|apply d5|apply g8|apply e7|apply j5|apply e6|apply k8|apply j8))|(first|((with_reducible apply k9);exact rfl;(exact rfl))|((with_reducible apply k6);exact rfl;all_goals (intro hb hp;try (exfalso;omega))))|((with_reducible apply b4v hS (i:=0) (hb:=hb'));(iterate 3 exact rfl);intro w' c wd hlow hhigh hS';simp only [List.set] at hS';clear hS;have hS:=hS';clear hS')|((with_reducible apply e8);exact rfl;exact rfl;exact b13 _ _;exact rfl;rintro _ w' ⟨rfl,hS'⟩;replace hS:=hS.transA hS';simp only [k7] at hS;clear hS'))
  ·(apply j6);(repeat (first|exact ResL.nil|(apply ResL.tmp;exact rfl)))
   refine ⟨_,rfl,⟨fun _=>a5T hb' ?_,fun _=>by omega⟩,hS.sub (List.nil_sublist _)⟩
   simp only [Bool.not_eq_true',decide_eq_false_iff_not] at hp
   unfold okB
   rw [decide_eq_false_iff_not]
   by_cases hlt:b.toNat < 128
   ·have:=(hlow hlt).1
    omega
   ·omega
  ·simp only [Bool.not_eq_true',decide_eq_false_iff_not,Decidable.not_not] at hp
   have hlt:b.toNat < 128:=by
    by_cases hlt:b.toNat < 128
    ·exact hlt
    ·have:=hhigh hlt;omega
   obtain ⟨rfl,rfl⟩:=hlow hlt
   refine b4q (k + 1) (by repeat (first|exact Fr.sub_nil _|(apply Fr.sub_cons;exact rfl))) ⟨by omega,t0 hall hb' (by unfold okB;simp only [decide_eq_true_eq];omega),hS⟩ (by omega)
 ·have hge:l.length≤k:=by omega
  repeat' (first|(((with_reducible apply d6 c8);exact rfl;exact rfl))|(first|(with_reducible first|apply d8|apply c9|apply d7|apply d5|apply n5|apply j5|apply j4|apply i9))|(((with_reducible apply l6);exact rfl;(exact rfl)))|((with_reducible apply b34 hS (i:=0) (hb:=hge));(iterate 3 exact rfl)))
  (apply j6);(repeat (first|exact ResL.nil|(apply ResL.tmp;exact rfl)))
  refine ⟨_,rfl,⟨fun h=>absurd h (by decide),fun h=>?_⟩,hS.sub (List.nil_sublist _)⟩
  rw [a1J hall (by omega)] at h
  cases h
theorem a7R (l:List UInt8) (w:World):Fn Try.prog 100 [.string ⟨l.toArray⟩,NmF] w (fun v w'=>∃ k:Int,v=.int .i64 k∧(0≤k ↔ l.all okB=false)∧St nF w w' []):=by
 refine j0 (fn:=Try.f100) ⟨Try.func100,by kernel_rfl,by kernel_rfl⟩ (by exact rfl) Try.ntmps100 (by exact rfl) ?_
 have hS:=St.start w
 repeat' (first|(((with_reducible apply d6 c8);exact rfl;exact rfl))|(first|(with_reducible first|apply d8|apply c9|apply d7|apply d5|apply j5))|((with_reducible apply e8);exact rfl;exact rfl;exact a7m l _;exact rfl;rintro _ w' ⟨k,rfl,hk,hS'⟩;replace hS:=hS.transA hS';simp only [k7] at hS;clear hS'))
 (apply j6);(repeat (first|exact ResL.nil|(apply ResL.tmp;exact rfl)))
 exact ⟨k,rfl,hk,hS⟩
theorem a49 (l:List UInt8) (w:World):Fn Try.prog 92 [.string ⟨l.toArray⟩,NmF] w (RBf (.bool (!l.all okB)) w):=by
 refine j0 (fn:=Try.f92) ⟨Try.func92,by kernel_rfl,by kernel_rfl⟩ (by exact rfl) Try.ntmps92 (by exact rfl) ?_
 have hS:=St.start w
 repeat' (first|(((with_reducible apply d6 c8);exact rfl;exact rfl))|(first|(with_reducible first|apply d8|apply c9|apply d7|apply d5|apply j5))|((with_reducible apply e8);exact rfl;exact rfl;exact a7R l _;exact rfl;rintro _ w' ⟨k,rfl,hk,hS'⟩;replace hS:=hS.transA hS';simp only [k7] at hS;clear hS'))
 (apply j6);(repeat (first|exact ResL.nil|(apply ResL.tmp;exact rfl)))
 refine ⟨?_,hS⟩
 congr 1
 cases h:l.all okB with
 |true=>rw [h] at hk;simp at hk ⊢;omega
 |false=>rw [h] at hk;simp at hk ⊢;omega
theorem b3t (l:List UInt8) (w:World):Fn Try.prog 84 [.string ⟨l.toArray⟩] w (RBf (.bool (nmB l)) w):=by
 refine j0 (fn:=Try.f84) ⟨Try.func84,by kernel_rfl,by kernel_rfl⟩ (by exact rfl) Try.ntmps84 (by exact rfl) ?_
 have hS:=St.start w
 repeat' (first|(first|((with_reducible apply d6 c8);exact rfl;exact rfl)|(first|((with_reducible apply p9);(iterate 4 exact rfl);(assumption))|((with_reducible apply a0f);(iterate 4 exact rfl);((assumption));exact rfl)|((with_reducible apply r6);(iterate 3 exact rfl);all_goals (intro hb hp;try (exfalso;omega)))|((with_reducible apply m9);exact rfl;((assumption));exact rfl;exact rfl)|((with_reducible apply n0);exact rfl;((assumption));exact rfl;exact rfl)))|(first|(with_reducible first|apply d8|apply c9|apply d7|apply d5|apply g8|apply j5|apply e6))|(first|((with_reducible apply k9);exact rfl;(exact rfl))|((with_reducible apply k6);exact rfl;all_goals (intro hb hp;try (exfalso;omega))))|((with_reducible apply e8);exact rfl;exact rfl;exact a49 l _;exact rfl;rintro _ w' ⟨rfl,hS'⟩;replace hS:=hS.transA hS';simp only [k7] at hS;clear hS'))
 all_goals (apply j6);(repeat (first|exact ResL.nil|(apply ResL.tmp;exact rfl)))
 all_goals refine ⟨?_,hS⟩
 ·rw [b1R (by omega)]
 ·rw [b1R (by omega)]
 ·rw [b5i (by omega),Bool.not_not]
end Go.Proofs.Ytejnpppejalhfac
/- Sheets: right, and filled. -/
namespace Go.Proofs.Ytejnpppejalhfac
open Go.RowKit Go.Sort
abbrev shA (s:Sh) (u:Value):Value:=.agg (shC s u).toArray
set_option maxRecDepth 100000 in
set_option maxHeartbeats 4000000 in
theorem a8m {S:Sh} {w:World} {u:Value} (hu:ShV w S u):Fn Try.prog 59 [shA S u] w (RBf (.bool (a0b S)) w):=by
 have bnd:=hu.bound
 obtain ⟨p,c,rfl⟩:=hu.len
 refine j0 (fn:=Try.f59) ⟨Try.func59,by kernel_rfl,by kernel_rfl⟩ (by exact rfl) Try.ntmps59 (by exact rfl) ?_
 have hS:=St.start w
 unfold shA shC
 by_cases h0:(1≤S.page∧S.page≤255)∧S.data.length=16
 rotate_left
 ·have hf:a0b S=false:=by unfold a0b;rw [decide_eq_false h0];rfl
  rw [hf]
  repeat' (first|(first|((with_reducible apply d6 c8);exact rfl;exact rfl)|((with_reducible apply d9);exact rfl;(((with_reducible apply Loads.sc c8);exact rfl;((exact hS.blkC 0 rfl rfl))));exact rfl)|((with_reducible apply p7 hS);(iterate 3 exact rfl);intro g w' hS';clear hS;have hS:=hS';clear hS')|(first|((with_reducible apply p9);(iterate 4 exact rfl);(assumption))|((with_reducible apply a0f);(iterate 4 exact rfl);(first|exact rfl|assumption);exact rfl)|((with_reducible apply r6);(iterate 3 exact rfl);all_goals (intro hb hp;try (exfalso;omega)))|((with_reducible apply m9);exact rfl;(first|exact rfl|assumption);exact rfl;exact rfl)|((with_reducible apply n0);exact rfl;((assumption));exact rfl;exact rfl)))|(first|(with_reducible first|apply d8|apply c9|apply d7|apply d5|apply j5|apply e6))|(first|((with_reducible apply k9);exact rfl;(exact rfl))|((with_reducible apply a1e);exact rfl;all_goals (intro hb hp;try (exfalso;omega)))))
  all_goals (((apply j6);(repeat (first|exact ResL.nil|(apply ResL.tmp;exact rfl))));exact ⟨rfl,hS.sub (List.nil_sublist _)⟩)
 have hr:a0b S=a3V 0 S.fixes:=by unfold a0b;rw [decide_eq_true h0];rfl
 rw [hr]
 repeat' (first|(first|((with_reducible apply d6 c8);exact rfl;exact rfl)|((with_reducible apply d9);exact rfl;(first|((with_reducible apply Loads.sc c8);exact rfl;((exact hS.blkC 0 rfl rfl)))|((with_reducible apply Loads.sl c8);exact rfl;((exact hS.blkC 0 rfl rfl))));exact rfl)|((with_reducible apply p7 hS);(iterate 3 exact rfl);intro g w' hS';clear hS;have hS:=hS';clear hS')|(first|((with_reducible apply p9);(iterate 4 exact rfl);(assumption))|((with_reducible apply r6);(iterate 3 exact rfl);all_goals (intro hb hp;try (exfalso;omega)))|((with_reducible apply n0);exact rfl;((assumption));exact rfl;exact rfl)))|(first|(with_reducible first|apply d8|apply c9|apply d7|apply d5|apply g8|apply e7))|(((with_reducible apply a1e);exact rfl;all_goals (intro hb hp;try (exfalso;omega)))))
 refine o6 (X:=Nat×Int) (fun x=>[(23,.int .i64 (x.1:Nat)),(3,.int .i64 x.2)]) [1,21,22] rfl (fun _=>[]) (fun x=>(x.1≤S.fixes.length∧0≤x.2∧x.2≤16)∧a3V 0 S.fixes=a3V x.2 (S.fixes.drop x.1)) (fun x=>S.fixes.length - x.1) (0,0) (by repeat (first|exact Fr.sub_nil _|(apply Fr.sub_cons;exact rfl))) (by simp) hS ?_
 clear hS
 rintro ⟨i,free⟩ w1 ⟨⟨hi,hf0,hf1⟩,hok⟩ hS
 dsimp only [List.cons_append,List.nil_append] at hi hf0 hf1 hok hS ⊢
 by_cases hlt:i < S.fixes.length
 ·obtain ⟨x,hx⟩:=l8 (l:=S.fixes) (i:=i) (by omega)
  have hrow:=j9 (f:=fxC) hx
  obtain ⟨b,off,rfl,hro⟩:=hu.at_ (i:=i) hlt
  have hst:=b1i (free:=free) hx
  by_cases h1:free≤x.off∧x.off≤16∧x.bytes≠[]∧(x.bytes.length:Int)≤16 - x.off
  ·have ho:a5h free x=true:=decide_eq_true h1
   have hb0:decide (x.bytes=[])=false:=decide_eq_false h1.2.2.1
   rw [ho,Bool.true_and] at hst
   repeat' (first|(first|((with_reducible apply m0);exact rfl;exact rfl;omega;omega;exact rfl)|((with_reducible apply a1X);exact rfl;exact rfl;omega;omega;exact rfl)|((with_reducible apply d6 c8);exact rfl;exact rfl)|((with_reducible apply d9);exact rfl;(first|((with_reducible apply Loads.sc c8);exact rfl;((exact hS.blkC 0 rfl rfl)))|((with_reducible apply Loads.st c8);exact rfl;((exact hS.roR (by assumption) (by assumption)));exact rfl));exact rfl)|((with_reducible apply p8 c8);(iterate 3 exact rfl);((exact rfl));((omega));exact rfl)|((with_reducible apply j7 hS c8);(iterate 3 exact rfl);intro g w' hS';clear hS;have hS:=hS';clear hS')|(((with_reducible apply i7 hS c8 (i:=0));(iterate 8 exact rfl);((exact (rfl:_=[_,_])));intro w' hS';simp only [List.set] at hS';clear hS;have hS:=hS';clear hS'))|(first|((with_reducible apply p9);(iterate 4 exact rfl);(assumption))|((with_reducible apply r6);(iterate 3 exact rfl);all_goals (intro hb hp;try (exfalso;omega)))|((with_reducible apply n0);exact rfl;((assumption));exact rfl;exact rfl)))|(first|(with_reducible first|apply d8|apply c9|apply d7|apply d5|apply g8|apply e7|apply k8))|(((with_reducible apply k6);exact rfl;all_goals (intro hb hp;try (exfalso;omega)))))
   refine m6 (i + 1,a2R x) (by repeat (first|exact Fr.sub_nil _|(apply Fr.sub_cons;exact rfl))) ⟨⟨by show i + 1≤S.fixes.length;omega,by show 0≤a2R x;unfold a2R;omega,by show a2R x≤16;unfold a2R;omega⟩,by rw [hok,hst]⟩ hS.drop (by show S.fixes.length - (i + 1) < S.fixes.length - i;omega)
  ·have ho:a5h free x=false:=decide_eq_false h1
   rw [ho,Bool.false_and] at hst
   by_cases hb1:x.bytes=[]
   ·have hb0:decide (x.bytes=[])=true:=decide_eq_true hb1
    repeat' (first|(first|((with_reducible apply d6 c8);exact rfl;exact rfl)|((with_reducible apply d9);exact rfl;(first|((with_reducible apply Loads.sc c8);exact rfl;((exact hS.blkC 0 rfl rfl)))|((with_reducible apply Loads.st c8);exact rfl;((exact hS.roR (by assumption) (by assumption)));exact rfl));exact rfl)|((with_reducible apply p8 c8);(iterate 3 exact rfl);((exact rfl));((omega));exact rfl)|((with_reducible apply j7 hS c8);(iterate 3 exact rfl);intro g w' hS';clear hS;have hS:=hS';clear hS')|(((with_reducible apply i7 hS c8 (i:=0));(iterate 8 exact rfl);((exact (rfl:_=[_,_])));intro w' hS';simp only [List.set] at hS';clear hS;have hS:=hS';clear hS'))|(first|((with_reducible apply p9);(iterate 4 exact rfl);(assumption))|((with_reducible apply a0f);(iterate 4 exact rfl);(first|exact rfl|assumption);exact rfl)|((with_reducible apply r6);(iterate 3 exact rfl);all_goals (intro hb hp;try (exfalso;omega)))|((with_reducible apply m9);exact rfl;(first|exact rfl|assumption);exact rfl;exact rfl)|((with_reducible apply n0);exact rfl;((assumption));exact rfl;exact rfl)))|(first|(with_reducible first|apply d8|apply c9|apply d7|apply d5|apply g8|apply e7|apply j5|apply e6|apply j8))|(first|((with_reducible apply k9);exact rfl;(exact rfl))|((with_reducible apply k6);exact rfl;all_goals (intro hb hp;try (exfalso;omega)))))
    all_goals (((apply j6);(repeat (first|exact ResL.nil|(apply ResL.tmp;exact rfl))));exact ⟨by rw [hok,hst],hS.sub (List.nil_sublist _)⟩)
   ·have hb0:decide (x.bytes=[])=false:=decide_eq_false hb1
    repeat' (first|(first|((with_reducible apply m0);exact rfl;exact rfl;omega;omega;exact rfl)|((with_reducible apply a1X);exact rfl;exact rfl;omega;omega;exact rfl)|((with_reducible apply d6 c8);exact rfl;exact rfl)|((with_reducible apply d9);exact rfl;(first|((with_reducible apply Loads.sc c8);exact rfl;((exact hS.blkC 0 rfl rfl)))|((with_reducible apply Loads.st c8);exact rfl;((exact hS.roR (by assumption) (by assumption)));exact rfl));exact rfl)|((with_reducible apply p8 c8);(iterate 3 exact rfl);((exact rfl));((omega));exact rfl)|((with_reducible apply j7 hS c8);(iterate 3 exact rfl);intro g w' hS';clear hS;have hS:=hS';clear hS')|(((with_reducible apply i7 hS c8 (i:=0));(iterate 8 exact rfl);((exact (rfl:_=[_,_])));intro w' hS';simp only [List.set] at hS';clear hS;have hS:=hS';clear hS'))|(first|((with_reducible apply p9);(iterate 4 exact rfl);(assumption))|((with_reducible apply a0f);(iterate 4 exact rfl);(first|exact rfl|assumption);exact rfl)|((with_reducible apply r6);(iterate 3 exact rfl);all_goals (intro hb hp;try (exfalso;omega)))|((with_reducible apply m9);exact rfl;(first|exact rfl|assumption);exact rfl;exact rfl)|((with_reducible apply n0);exact rfl;((assumption));exact rfl;exact rfl)))|(first|(with_reducible first|apply d8|apply c9|apply d7|apply d5|apply g8|apply e7|apply j5|apply e6|apply k8|apply j8))|(first|((with_reducible apply k9);exact rfl;(exact rfl))|((with_reducible apply k6);exact rfl;all_goals (intro hb hp;try (exfalso;omega)))))
    all_goals first|(((apply j6);(repeat (first|exact ResL.nil|(apply ResL.tmp;exact rfl))));exact ⟨by rw [hok,hst],hS.sub (List.nil_sublist _)⟩)|(exfalso;exact h1 ⟨by omega,by omega,hb1,by omega⟩)
 ·repeat' (first|(((with_reducible apply d6 c8);exact rfl;exact rfl))|(first|(with_reducible first|apply d8|apply c9|apply d7|apply d5|apply n5|apply j5|apply j4|apply i9))|(((with_reducible apply k6);exact rfl;all_goals (intro hb hp;try (exfalso;omega)))))
  (apply j6);(repeat (first|exact ResL.nil|(apply ResL.tmp;exact rfl)))
  exact ⟨by rw [hok,List.drop_of_length_le (by omega)];rfl,hS.sub (List.nil_sublist _)⟩
/-! filling -/
theorem a7e {l:List Fx} {i:Nat} {f:Fx} {d:List UInt8} (h:l[i]?=some f):a3J d (l.take (i + 1))=splice (a3J d (l.take i)) f.off.toNat f.bytes:=by
 unfold a3J
 rw [List.take_add_one,h]
 simp [List.foldl_append]
theorem b0w {l:List Fx}:∀ {free:Int},a3V free l=true→0≤free→∀ {i:Nat} {f:Fx},l[i]?=some f→(0≤f.off∧f.off≤16)∧(f.bytes.length:Int)≤16 - f.off:=by
 induction l with
 |nil=>intro free _ _ i f h;simp at h
 |cons g r ih=>
  intro free h h0 i f hf
  simp only [a3V,a5h,Bool.and_eq_true,decide_eq_true_eq] at h
  obtain ⟨⟨h1,h2,h3,h4⟩,h5⟩:=h
  cases i with
  |zero=>simp at hf;subst hf;exact ⟨⟨by omega,h2⟩,h4⟩
  |succ i=>exact ih h5 (by unfold a2R;omega) (by simpa using hf)
theorem b1x {l:List Fx} {d:List UInt8} {free:Int} (h:a3V free l=true) (h0:0≤free) (hd:d.length=16):∀ i,i≤l.length→(a3J d (l.take i)).length=16:=by
 intro i
 induction i with
 |zero=>intro _;simpa [a3J] using hd
 |succ i ih=>
  intro hi
  have hx:l[i]?=some l[i]:=List.getElem?_eq_getElem (by omega)
  have:=ih (by omega)
  obtain ⟨⟨h1,h2⟩,h3⟩:=b0w h h0 hx
  rw [a7e hx,a5w (by omega)]
  exact this
theorem a7U {S:Sh} (h:a0b S=true):S.data.length=16∧a3V 0 S.fixes=true:=by
 unfold a0b at h
 simp only [Bool.and_eq_true,decide_eq_true_eq] at h
 exact ⟨h.1.2,h.2⟩
theorem b3q {S:Sh} {i:Nat} (hi:S.fixes.length≤i):a3J S.data (S.fixes.take i)=a7d S:=by rw [List.take_of_length_le hi];rfl
set_option maxRecDepth 100000 in
set_option maxHeartbeats 4000000 in
theorem a91 {S:Sh} {w:World} {u:Value} (hu:ShV w S u):Fn Try.prog 51 [shA S u] w (RBf (.tuple #[.string ⟨(if a0b S=true then a7d S else []).toArray⟩,.int .i64 (if a0b S=true then 0 else 1)]) w):=by
 have hr:=fun w (h:ShV w S u)=>a8m h
 by_cases hR:a0b S=true
 rotate_left
 ·rw [if_neg hR,if_neg hR]
  rw [show a0b S=false by simpa using hR] at hr
  refine j0 (fn:=Try.f51) ⟨Try.func51,by kernel_rfl,by kernel_rfl⟩ (by exact rfl) Try.ntmps51 (by exact rfl) ?_
  have hS:=St.start w
  unfold shA shC
  repeat' (first|(first|((with_reducible apply d6 c8);exact rfl;exact rfl)|((with_reducible apply d9);exact rfl;(((with_reducible apply Loads.st c8);exact rfl;((exact hS.blkR 0 rfl));exact rfl));exact rfl)|((with_reducible apply p7 hS);(iterate 3 exact rfl);intro g w' hS';clear hS;have hS:=hS';clear hS'))|(first|(with_reducible first|apply d8|apply c9|apply d7|apply d5|apply j5|apply e6))|(((with_reducible apply k9);exact rfl;(exact rfl)))|((with_reducible apply e8);exact rfl;exact rfl;exact hr _ (hu.now hS);exact rfl;rintro _ w' ⟨rfl,hS'⟩;replace hS:=hS.transA hS';simp only [k7] at hS;clear hS'))
  (apply s9);(repeat (first|exact ResL.nil|(apply ResL.tmp;exact rfl)))
  exact ⟨rfl,hS.sub (List.nil_sublist _)⟩
 rw [if_pos hR,if_pos hR]
 rw [hR] at hr
 obtain ⟨hd,hok⟩:=a7U hR
 have bnd:=hu.bound
 obtain ⟨p,c,rfl⟩:=hu.len
 refine j0 (fn:=Try.f51) ⟨Try.func51,by kernel_rfl,by kernel_rfl⟩ (by exact rfl) Try.ntmps51 (by exact rfl) ?_
 have hS:=St.start w
 unfold shA shC
 repeat' (first|(first|((with_reducible apply d6 c8);exact rfl;exact rfl)|((with_reducible apply d9);exact rfl;(first|((with_reducible apply Loads.sc c8);exact rfl;((exact hS.blkC 0 rfl rfl)))|((with_reducible apply Loads.sl c8);exact rfl;((exact hS.blkC 0 rfl rfl)))|((with_reducible apply Loads.st c8);exact rfl;((exact hS.blkR 0 rfl));exact rfl));exact rfl)|((with_reducible apply p7 hS);(iterate 3 exact rfl);intro g w' hS';clear hS;have hS:=hS';clear hS'))|(first|(with_reducible first|apply d8|apply c9|apply d7|apply d5|apply g8|apply e7))|(((with_reducible apply l6);exact rfl;(exact rfl)))|((with_reducible apply e8);exact rfl;exact rfl;exact hr _ (hu.now hS);exact rfl;rintro _ w' ⟨rfl,hS'⟩;replace hS:=hS.transA hS';simp only [k7] at hS;clear hS'))
 refine o6 (X:=Nat) (fun x=>[(15,.int .i64 (x:Nat)),(4,.string ⟨(a3J S.data (S.fixes.take x)).toArray⟩)]) [1,13,14] rfl (fun _=>[]) (fun x=>x≤S.fixes.length) (fun x=>S.fixes.length - x) 0 (by repeat (first|exact Fr.sub_nil _|(apply Fr.sub_cons;exact rfl))) (by simp) hS ?_
 clear hS
 intro i w1 hi hS
 dsimp only [List.cons_append,List.nil_append] at hi hS ⊢
 have hlen:=b1x hok (by omega) hd i hi
 by_cases hlt:i < S.fixes.length
 ·obtain ⟨x,hx⟩:=l8 (l:=S.fixes) (i:=i) (by omega)
  have hrow:=j9 (f:=fxC) hx
  obtain ⟨b,off,rfl,hro⟩:=hu.at_ (i:=i) hlt
  obtain ⟨⟨h1,h2⟩,h3⟩:=b0w hok (by omega) hx
  have hst:=a7e (d:=S.data) hx
  generalize a3J S.data (S.fixes.take i)=d at hlen hst ⊢
  have hlay:=fun w=>b14 d x.bytes x.off w (by unfold maxLen;omega)
  have hin:inB x.off x.bytes.length d.length=true:=by unfold inB;rw [decide_eq_true_eq];omega
  simp only [hin,if_true] at hlay
  repeat' (first|(first|((with_reducible apply m0);exact rfl;exact rfl;omega;omega;exact rfl)|((with_reducible apply d6 c8);exact rfl;exact rfl)|((with_reducible apply d9);exact rfl;(first|((with_reducible apply Loads.sc c8);exact rfl;((exact hS.blkC 0 rfl rfl)))|((with_reducible apply Loads.st c8);exact rfl;((exact hS.roR (by assumption) (by assumption)));exact rfl));exact rfl)|((with_reducible apply p8 c8);(iterate 3 exact rfl);((exact rfl));((omega));exact rfl)|((with_reducible apply j7 hS c8);(iterate 3 exact rfl);intro g w' hS';clear hS;have hS:=hS';clear hS')|(((with_reducible apply i7 hS c8 (i:=0));(iterate 8 exact rfl);((exact (rfl:_=[_,_])));intro w' hS';simp only [List.set] at hS';clear hS;have hS:=hS';clear hS')))|(first|(with_reducible first|apply d8|apply c9|apply d7|apply d5|apply g8|apply e7|apply k8))|(((with_reducible apply k6);exact rfl;all_goals (intro hb hp;try (exfalso;omega))))|((with_reducible apply e8);exact rfl;exact rfl;exact hlay _;exact rfl;rintro _ w' ⟨rfl,hS'⟩;replace hS:=hS.transA hS';simp only [k7] at hS;clear hS'))
  exact m6 (i + 1) (by rw [hst];repeat (first|exact Fr.sub_nil _|(apply Fr.sub_cons;exact rfl))) (by show i + 1≤S.fixes.length;omega) hS.drop (by show S.fixes.length - (i + 1) < S.fixes.length - i;omega)
 ·repeat' (first|(((with_reducible apply d6 c8);exact rfl;exact rfl))|(first|(with_reducible first|apply d8|apply c9|apply d7|apply d5|apply n5|apply j5|apply j4|apply i9))|(((with_reducible apply k6);exact rfl;all_goals (intro hb hp;try (exfalso;omega)))))
  (apply s9);(repeat (first|exact ResL.nil|(apply ResL.tmp;exact rfl)))
  exact ⟨by rw [b3q (by omega)],hS.sub (List.nil_sublist _)⟩
end Go.Proofs.Ytejnpppejalhfac
/- link.Check and the reference's. -/
namespace Go.Proofs.Ytejnpppejalhfac
open Go.RowKit Go.Sort
set_option maxRecDepth 100000 in
set_option maxHeartbeats 8000000 in
theorem a88 {A:List Ar} {Lp:List (Sh×Value)} {w:World} {va vs:Value} {en:Int} (hA:Sl nF w 4 va (A.map arC)) (hL:ShsV w Lp vs) (hen:-9223372036854775808≤en) (hen2:en≤9223372036854775807):Fn Try.prog 36 [lkA va vs en] w (RBf (.int .i64 (a1N A (shs Lp) en)) w):=by
 have bnd:=hL.sl.bound
 have hsl:=hL.sl
 obtain ⟨p,c,rfl⟩:=hL.sl.len
 unfold lkA
 by_cases hc:q7 A=0
 rotate_left
 ·have hr:a1N A (shs Lp) en=q7 A:=if_neg hc
  have hc':(!decide (q7 A=0))=true:=by rw [decide_eq_false hc];rfl
  rw [hr]
  refine j0 (fn:=Try.f36) ⟨Try.func36,by kernel_rfl,by kernel_rfl⟩ (by exact rfl) Try.ntmps36 (by exact rfl) ?_
  have hS:=St.start w
  repeat' (first|(first|((with_reducible apply d6 c8);exact rfl;exact rfl)|((with_reducible apply d9);exact rfl;(((with_reducible apply Loads.sl c8);exact rfl;((exact hS.blkC 0 rfl rfl))));exact rfl)|((with_reducible apply p7 hS);(iterate 3 exact rfl);intro g w' hS';clear hS;have hS:=hS';clear hS'))|(first|(with_reducible first|apply d8|apply c9|apply d7|apply d5|apply j5|apply e6))|(((with_reducible apply k9);exact rfl;(assumption)))|((with_reducible apply e8);exact rfl;exact rfl;exact a6b (hA.now hS);exact rfl;rintro _ w' ⟨rfl,hS'⟩;replace hS:=hS.transA hS';simp only [k7] at hS;clear hS'))
  (apply j6);(repeat (first|exact ResL.nil|(apply ResL.tmp;exact rfl)))
  exact ⟨rfl,hS.sub (List.nil_sublist _)⟩
 have hck:=fun w (h:Sl nF w 4 va (A.map arC))=>a6b h
 have htot:=fun w (h:Sl nF w 4 va (A.map arC))=>a29 h
 have hfnd:=fun w page (h:Sl nF w 4 va (A.map arC))=>a4a page h
 have hfi:∀ page,a41 A page=v7 A page:=fun page=>if_pos hc
 simp only [hc,if_true,hfi] at hck htot hfnd
 have hr:a1N A (shs Lp) en=if lkB A (shs Lp) en=true then 0 else 1:=if_pos hc
 rw [hr]
 unfold lkB
 rw [a2J]
 by_cases hn:(Lp.length:Int)=y6 A
 rotate_left
 ·have hn':(!decide ((Lp.length:Int)=y6 A))=true:=by rw [decide_eq_false hn];rfl
  rw [if_neg (by rw [decide_eq_false hn];simp)]
  refine j0 (fn:=Try.f36) ⟨Try.func36,by kernel_rfl,by kernel_rfl⟩ (by exact rfl) Try.ntmps36 (by exact rfl) ?_
  have hS:=St.start w
  repeat' (first|(first|((with_reducible apply d6 c8);exact rfl;exact rfl)|((with_reducible apply d9);exact rfl;(((with_reducible apply Loads.sl c8);exact rfl;((exact hS.blkC 0 rfl rfl))));exact rfl)|((with_reducible apply p7 hS);(iterate 3 exact rfl);intro g w' hS';clear hS;have hS:=hS';clear hS'))|(first|(with_reducible first|apply d8|apply c9|apply d7|apply d5|apply g8))|(((with_reducible apply l6);exact rfl;(exact rfl)))|((with_reducible apply e8);exact rfl;exact rfl;exact hck _ (hA.now hS);exact rfl;rintro _ w' ⟨rfl,hS'⟩;replace hS:=hS.transA hS';simp only [k7] at hS;clear hS'))
  (focus ((with_reducible apply m7 nF _ _ (by kernel_rfl) (by kernel_rfl) hS);(repeat' (first|(first|((with_reducible apply o5 c8);exact rfl;exact rfl)|((with_reducible apply n6);exact rfl;(intro wd hd;replace hd:St _ _ wd _:=hd;(((with_reducible apply Loads.sl c8);exact rfl;((exact hd.blkC 0 rfl rfl)))));exact rfl))|((with_reducible apply a0A);exact rfl;exact rfl;(intro wd hd;replace hd:St _ _ wd _:=hd;exact htot _ (hA.now hd));exact rfl)));all_goals ((with_reducible apply r5);intro w' hS';clear hS;have hS:=hS';clear hS')))
  repeat' (first|(((with_reducible apply d6 c8);exact rfl;exact rfl))|(first|(with_reducible first|apply d8|apply c9|apply d7|apply d5|apply j5|apply e6))|(((with_reducible apply k9);exact rfl;(assumption))))
  (apply j6);(repeat (first|exact ResL.nil|(apply ResL.tmp;exact rfl)))
  exact ⟨rfl,hS.sub (List.nil_sublist _)⟩
 have hn':(!decide ((Lp.length:Int)=y6 A))=false:=by rw [decide_eq_true hn];rfl
 rw [decide_eq_true hn,Bool.true_and]
 refine j0 (fn:=Try.f36) ⟨Try.func36,by kernel_rfl,by kernel_rfl⟩ (by exact rfl) Try.ntmps36 (by exact rfl) ?_
 have hS:=St.start w
 repeat' (first|(first|((with_reducible apply d6 c8);exact rfl;exact rfl)|((with_reducible apply d9);exact rfl;(((with_reducible apply Loads.sl c8);exact rfl;((exact hS.blkC 0 rfl rfl))));exact rfl)|((with_reducible apply p7 hS);(iterate 3 exact rfl);intro g w' hS';clear hS;have hS:=hS';clear hS'))|(first|(with_reducible first|apply d8|apply c9|apply d7|apply d5|apply g8))|(((with_reducible apply l6);exact rfl;(exact rfl)))|((with_reducible apply e8);exact rfl;exact rfl;exact hck _ (hA.now hS);exact rfl;rintro _ w' ⟨rfl,hS'⟩;replace hS:=hS.transA hS';simp only [k7] at hS;clear hS'))
 (focus ((with_reducible apply m7 nF _ _ (by kernel_rfl) (by kernel_rfl) hS);(repeat' (first|(first|((with_reducible apply o5 c8);exact rfl;exact rfl)|((with_reducible apply n6);exact rfl;(intro wd hd;replace hd:St _ _ wd _:=hd;(((with_reducible apply Loads.sl c8);exact rfl;((exact hd.blkC 0 rfl rfl)))));exact rfl))|((with_reducible apply a0A);exact rfl;exact rfl;(intro wd hd;replace hd:St _ _ wd _:=hd;exact htot _ (hA.now hd));exact rfl)));all_goals ((with_reducible apply r5);intro w' hS';clear hS;have hS:=hS';clear hS')))
 repeat' (first|(first|((with_reducible apply d6 c8);exact rfl;exact rfl)|((with_reducible apply d9);exact rfl;(((with_reducible apply Loads.sl c8);exact rfl;((exact hS.blkC 0 rfl rfl))));exact rfl))|(first|(with_reducible first|apply d8|apply c9|apply d7|apply d5|apply g8|apply e7))|(((with_reducible apply l6);exact rfl;(assumption))))
 refine o6 (X:=Nat×Int) (fun x=>[(27,.int .i64 (x.1:Nat)),(4,.int .i64 x.2)]) [1,25,26] rfl (fun _=>[]) (fun x=>x.1≤Lp.length∧a6l A 0 (shs Lp)=a6l A x.2 ((shs Lp).drop x.1)) (fun x=>Lp.length - x.1) (0,0) (by repeat (first|exact Fr.sub_nil _|(apply Fr.sub_cons;exact rfl))) (by simp) hS ?_
 clear hS
 rintro ⟨i,last⟩ w1 ⟨hi,hok⟩ hS
 dsimp only [List.cons_append,List.nil_append] at hi hok hS ⊢
 by_cases hlt:i < Lp.length
 ·obtain ⟨x,hx⟩:=l8 (l:=Lp) (i:=i) (by omega)
  have hrow:=j9 (f:=fun p=>shC p.1 p.2) hx
  obtain ⟨b,off,rfl,hro⟩:=hsl.at_ (i:=i) hlt
  have hst:=b0R (A:=A) (last:=last) (a5Z hx)
  have hfx:=hL.fx x (List.mem_of_getElem? hx)
  have hfi2:=fun w h=>hfnd w x.1.page h
  obtain ⟨S,u⟩:=x
  dsimp only [shC] at hrow hst hfx hfi2
  obtain ⟨pu,cu,rfl⟩:=hfx.len
  have hrt:=fun w (h:ShV w S (.slice pu S.fixes.length cu))=>a8m h
  rw [hst] at hok
  cases hf:v7 A S.page with
  |none=>
   simp only [hf] at hfi2
   have ha:a6p A S.page=false:=by unfold a6p;rw [hf]
   rw [ha,Bool.false_and] at hok
   repeat' (first|(first|((with_reducible apply d6 c8);exact rfl;exact rfl)|((with_reducible apply d9);exact rfl;(first|((with_reducible apply Loads.sc c8);exact rfl;((exact hS.blkC 0 rfl rfl)))|((with_reducible apply Loads.sl c8);exact rfl;((exact hS.blkC 1 rfl rfl)))|((with_reducible apply Loads.st c8);exact rfl;((exact hS.roR (by assumption) (by assumption)));exact rfl));exact rfl)|((with_reducible apply p8 c8);(iterate 3 exact rfl);((exact rfl));((omega));exact rfl)|((with_reducible apply j7 hS c8);(iterate 3 exact rfl);intro g w' hS';clear hS;have hS:=hS';clear hS')|(((with_reducible apply i7 hS c8 (i:=0));(iterate 8 exact rfl);(first|exact (rfl:_=[_,_,_])|exact (rfl:_=[_,_,_,_]));intro w' hS';simp only [List.set] at hS';clear hS;have hS:=hS';clear hS'))|(first|((with_reducible apply a0f);(iterate 4 exact rfl);((exact rfl));exact rfl)|((with_reducible apply m9);exact rfl;((exact rfl));exact rfl;exact rfl)))|(first|(with_reducible first|apply d8|apply c9|apply d7|apply d5|apply g8|apply e7|apply j5|apply e6|apply j8))|(first|((with_reducible apply k9);exact rfl;(exact rfl))|((with_reducible apply k6);exact rfl;all_goals (intro hb hp;try (exfalso;omega))))|((with_reducible apply e8);exact rfl;exact rfl;exact hfi2 _ (hA.now hS);exact rfl;rintro _ w' ⟨rfl,hS'⟩;replace hS:=hS.transA hS';simp only [k7] at hS;clear hS'))
   (apply j6);(repeat (first|exact ResL.nil|(apply ResL.tmp;exact rfl)))
   exact ⟨by rw [hok];rfl,hS.sub (List.nil_sublist _)⟩
  |some a=>
   simp only [hf] at hfi2
   obtain ⟨pg,n,prot,z⟩:=a
   cases z with
   |true=>
    have ha:a6p A S.page=false:=by unfold a6p;rw [hf];rfl
    rw [ha,Bool.false_and] at hok
    repeat' (first|(first|((with_reducible apply d6 c8);exact rfl;exact rfl)|((with_reducible apply d9);exact rfl;(first|((with_reducible apply Loads.sc c8);exact rfl;((exact hS.blkC 0 rfl rfl)))|((with_reducible apply Loads.sl c8);exact rfl;((exact hS.blkC 1 rfl rfl)))|((with_reducible apply Loads.st c8);exact rfl;((exact hS.roR (by assumption) (by assumption)));exact rfl));exact rfl)|((with_reducible apply p8 c8);(iterate 3 exact rfl);((exact rfl));((omega));exact rfl)|((with_reducible apply j7 hS c8);(iterate 3 exact rfl);intro g w' hS';clear hS;have hS:=hS';clear hS')|(((with_reducible apply i7 hS c8 (i:=0));(iterate 8 exact rfl);(first|exact (rfl:_=[_,_,_])|exact (rfl:_=[_,_,_,_]));intro w' hS';simp only [List.set] at hS';clear hS;have hS:=hS';clear hS'))|(first|((with_reducible apply p9);(iterate 4 exact rfl);(exact rfl))|((with_reducible apply a0f);(iterate 4 exact rfl);((exact rfl));exact rfl)|((with_reducible apply m9);exact rfl;((exact rfl));exact rfl;exact rfl)|((with_reducible apply n0);exact rfl;((exact rfl));exact rfl;exact rfl)))|(first|(with_reducible first|apply d8|apply c9|apply d7|apply d5|apply g8|apply e7|apply j5|apply e6|apply j8))|(first|((with_reducible apply k9);exact rfl;(exact rfl))|((with_reducible apply k6);exact rfl;all_goals (intro hb hp;try (exfalso;omega))))|((with_reducible apply e8);exact rfl;exact rfl;exact hfi2 _ (hA.now hS);exact rfl;rintro _ w' ⟨rfl,hS'⟩;replace hS:=hS.transA hS';simp only [k7] at hS;clear hS'))
    (apply j6);(repeat (first|exact ResL.nil|(apply ResL.tmp;exact rfl)))
    exact ⟨by rw [hok];rfl,hS.sub (List.nil_sublist _)⟩
   |false=>
    have ha:a6p A S.page=true:=by unfold a6p;rw [hf];rfl
    rw [ha,Bool.true_and] at hok
    cases hR:a0b S with
    |false=>
     simp only [hR] at hrt
     rw [hR,Bool.false_and] at hok
     repeat' (first|(first|((with_reducible apply d6 c8);exact rfl;exact rfl)|((with_reducible apply d9);exact rfl;(first|((with_reducible apply Loads.sc c8);exact rfl;((exact hS.blkC 0 rfl rfl)))|((with_reducible apply Loads.sl c8);exact rfl;((exact hS.blkC 1 rfl rfl)))|((with_reducible apply Loads.st c8);exact rfl;(first|exact hS.blkR 1 rfl|exact hS.roR (by assumption) (by assumption));exact rfl));exact rfl)|((with_reducible apply p8 c8);(iterate 3 exact rfl);((exact rfl));((omega));exact rfl)|((with_reducible apply j7 hS c8);(iterate 3 exact rfl);intro g w' hS';clear hS;have hS:=hS';clear hS')|(((with_reducible apply i7 hS c8 (i:=0));(iterate 8 exact rfl);(first|exact (rfl:_=[_,_,_])|exact (rfl:_=[_,_,_,_]));intro w' hS';simp only [List.set] at hS';clear hS;have hS:=hS';clear hS'))|(first|((with_reducible apply p9);(iterate 4 exact rfl);(exact rfl))|((with_reducible apply a0f);(iterate 4 exact rfl);((exact rfl));exact rfl)|((with_reducible apply m9);exact rfl;((exact rfl));exact rfl;exact rfl)|((with_reducible apply n0);exact rfl;((exact rfl));exact rfl;exact rfl)))|(first|(with_reducible first|apply d8|apply c9|apply d7|apply d5|apply g8|apply e7|apply j5|apply e6|apply j8))|(first|((with_reducible apply k9);exact rfl;(exact rfl))|((with_reducible apply k6);exact rfl;all_goals (intro hb hp;try (exfalso;omega))))|((with_reducible apply e8);exact rfl;exact rfl;exact hfi2 _ (hA.now hS);exact rfl;rintro _ w' ⟨rfl,hS'⟩;replace hS:=hS.transA hS';simp only [k7] at hS;clear hS')|((with_reducible apply e8);exact rfl;exact rfl;exact hrt _ (hfx.now hS);exact rfl;rintro _ w' ⟨rfl,hS'⟩;replace hS:=hS.transA hS';simp only [k7] at hS;clear hS'))
     (apply j6);(repeat (first|exact ResL.nil|(apply ResL.tmp;exact rfl)))
     exact ⟨by rw [hok];rfl,hS.sub (List.nil_sublist _)⟩
    |true=>
     simp only [hR] at hrt
     rw [hR,Bool.true_and] at hok
     by_cases hlp:last < S.page
     ·rw [decide_eq_true hlp,Bool.true_and] at hok
      repeat' (first|(first|((with_reducible apply m0);exact rfl;exact rfl;omega;omega;exact rfl)|((with_reducible apply d6 c8);exact rfl;exact rfl)|((with_reducible apply d9);exact rfl;(first|((with_reducible apply Loads.sc c8);exact rfl;(first|exact hS.blkC 0 rfl rfl|exact hS.blkC 1 rfl rfl))|((with_reducible apply Loads.sl c8);exact rfl;((exact hS.blkC 1 rfl rfl)))|((with_reducible apply Loads.st c8);exact rfl;(first|exact hS.blkR 1 rfl|exact hS.roR (by assumption) (by assumption));exact rfl));exact rfl)|((with_reducible apply p8 c8);(iterate 3 exact rfl);((exact rfl));((omega));exact rfl)|((with_reducible apply j7 hS c8);(iterate 3 exact rfl);intro g w' hS';clear hS;have hS:=hS';clear hS')|(((with_reducible apply i7 hS c8 (i:=0));(iterate 8 exact rfl);(first|exact (rfl:_=[_,_,_])|exact (rfl:_=[_,_,_,_]));intro w' hS';simp only [List.set] at hS';clear hS;have hS:=hS';clear hS'))|(first|((with_reducible apply p9);(iterate 4 exact rfl);(exact rfl))|((with_reducible apply n0);exact rfl;((exact rfl));exact rfl;exact rfl)))|(first|(with_reducible first|apply d8|apply c9|apply d7|apply d5|apply g8|apply e7|apply k8))|(((with_reducible apply k6);exact rfl;all_goals (intro hb hp;try (exfalso;omega))))|((with_reducible apply e8);exact rfl;exact rfl;exact hfi2 _ (hA.now hS);exact rfl;rintro _ w' ⟨rfl,hS'⟩;replace hS:=hS.transA hS';simp only [k7] at hS;clear hS')|((with_reducible apply e8);exact rfl;exact rfl;exact hrt _ (hfx.now hS);exact rfl;rintro _ w' ⟨rfl,hS'⟩;replace hS:=hS.transA hS';simp only [k7] at hS;clear hS'))
      exact m6 (i + 1,S.page) (by repeat (first|exact Fr.sub_nil _|(apply Fr.sub_cons;exact rfl))) ⟨by show i + 1≤Lp.length;omega,hok⟩ (hS.reorder [2] (by decide) rfl) (by show Lp.length - (i + 1) < Lp.length - i;omega)
     ·rw [decide_eq_false hlp,Bool.false_and] at hok
      repeat' (first|(first|((with_reducible apply d6 c8);exact rfl;exact rfl)|((with_reducible apply d9);exact rfl;(first|((with_reducible apply Loads.sc c8);exact rfl;(first|exact hS.blkC 0 rfl rfl|exact hS.blkC 1 rfl rfl))|((with_reducible apply Loads.sl c8);exact rfl;((exact hS.blkC 1 rfl rfl)))|((with_reducible apply Loads.st c8);exact rfl;(first|exact hS.blkR 1 rfl|exact hS.roR (by assumption) (by assumption));exact rfl));exact rfl)|((with_reducible apply p8 c8);(iterate 3 exact rfl);((exact rfl));((omega));exact rfl)|((with_reducible apply j7 hS c8);(iterate 3 exact rfl);intro g w' hS';clear hS;have hS:=hS';clear hS')|(((with_reducible apply i7 hS c8 (i:=0));(iterate 8 exact rfl);(first|exact (rfl:_=[_,_,_])|exact (rfl:_=[_,_,_,_]));intro w' hS';simp only [List.set] at hS';clear hS;have hS:=hS';clear hS'))|(first|((with_reducible apply p9);(iterate 4 exact rfl);(exact rfl))|((with_reducible apply n0);exact rfl;((exact rfl));exact rfl;exact rfl)))|(first|(with_reducible first|apply d8|apply c9|apply d7|apply d5|apply g8|apply e7|apply j5|apply e6|apply j8))|(((with_reducible apply k6);exact rfl;all_goals (intro hb hp;try (exfalso;omega))))|((with_reducible apply e8);exact rfl;exact rfl;exact hfi2 _ (hA.now hS);exact rfl;rintro _ w' ⟨rfl,hS'⟩;replace hS:=hS.transA hS';simp only [k7] at hS;clear hS')|((with_reducible apply e8);exact rfl;exact rfl;exact hrt _ (hfx.now hS);exact rfl;rintro _ w' ⟨rfl,hS'⟩;replace hS:=hS.transA hS';simp only [k7] at hS;clear hS'))
      (apply j6);(repeat (first|exact ResL.nil|(apply ResL.tmp;exact rfl)))
      exact ⟨by rw [hok];rfl,hS.sub (List.nil_sublist _)⟩
 rw [List.drop_of_length_le (by rw [a2J];omega)] at hok
 have hrv:(if (a6l A 0 (shs Lp) && a6e A en)=true then (0:Int) else 1)=if a6e A en=true then 0 else 1:=by
  simp only [hok,a6l,Bool.true_and]
 rw [hrv]
 have hfe:=fun w h=>hfnd w (en.tdiv 16) h
 by_cases he:0≤en∧en.tmod 8=0
 rotate_left
 ·have hE:a6e A en=false:=by unfold a6e;rw [decide_eq_false he];rfl
  rw [hE]
  have hrv2:(if false=true then (0:Int) else 1)=1:=rfl
  repeat' (first|(first|((with_reducible apply d6 c8);exact rfl;exact rfl)|((with_reducible apply d9);exact rfl;(((with_reducible apply Loads.sc c8);exact rfl;((exact hS.blkC 0 rfl rfl))));exact rfl)|(first|((with_reducible apply p9);(iterate 4 exact rfl);(assumption))|((with_reducible apply a0f);(iterate 4 exact rfl);((assumption));exact rfl)|((with_reducible apply r6);(iterate 3 exact rfl);all_goals (intro hb hp;try (exfalso;omega)))|((with_reducible apply m9);exact rfl;((assumption));exact rfl;exact rfl)|((with_reducible apply n0);exact rfl;((assumption));exact rfl;exact rfl)))|(first|(with_reducible first|apply d8|apply c9|apply d7|apply d5|apply n5|apply j5|apply j4|apply e6|apply i9))|(first|((with_reducible apply k9);exact rfl;(exact rfl))|((with_reducible apply k6);exact rfl;all_goals (intro hb hp;try (exfalso;omega)))|((with_reducible apply a1e);exact rfl;all_goals (intro hb hp;try (exfalso;omega))))|((with_reducible apply a24);exact rfl;exact rfl;omega;exact rfl))
  all_goals (((apply j6);(repeat (first|exact ResL.nil|(apply ResL.tmp;exact rfl))));exact ⟨rfl,hS.sub (List.nil_sublist _)⟩)
 cases hf:v7 A (en.tdiv 16) with
 |none=>
  simp only [hf] at hfe
  have hE:a6e A en=false:=by unfold a6e;rw [hf];simp
  rw [hE]
  repeat' (first|(first|((with_reducible apply d6 c8);exact rfl;exact rfl)|((with_reducible apply d9);exact rfl;(first|((with_reducible apply Loads.sc c8);exact rfl;((exact hS.blkC 0 rfl rfl)))|((with_reducible apply Loads.sl c8);exact rfl;((exact hS.blkC 0 rfl rfl))));exact rfl)|((with_reducible apply j7 hS c8);(iterate 3 exact rfl);intro g w' hS';clear hS;have hS:=hS';clear hS')|(((with_reducible apply i7 hS c8 (i:=0));(iterate 8 exact rfl);((exact (rfl:_=[_,_,_,_])));intro w' hS';simp only [List.set] at hS';clear hS;have hS:=hS';clear hS'))|(first|((with_reducible apply p9);(iterate 4 exact rfl);(assumption))|((with_reducible apply a0f);(iterate 4 exact rfl);((exact rfl));exact rfl)|((with_reducible apply r6);(iterate 3 exact rfl);all_goals (intro hb hp;try (exfalso;omega)))|((with_reducible apply m9);exact rfl;((exact rfl));exact rfl;exact rfl)|((with_reducible apply n0);exact rfl;((assumption));exact rfl;exact rfl)))|(first|(with_reducible first|apply d8|apply c9|apply d7|apply d5|apply g8|apply n5|apply j5|apply j4|apply e6|apply i9))|(first|((with_reducible apply k9);exact rfl;(exact rfl))|((with_reducible apply k6);exact rfl;all_goals (intro hb hp;try (exfalso;omega)))|((with_reducible apply a1e);exact rfl;all_goals (intro hb hp;try (exfalso;omega))))|((with_reducible apply a24);exact rfl;exact rfl;omega;exact rfl)|((with_reducible apply a0s);exact rfl;exact rfl;omega;omega;omega;exact rfl)|((with_reducible apply e8);exact rfl;exact rfl;exact hfe _ (hA.now hS);exact rfl;rintro _ w' ⟨rfl,hS'⟩;replace hS:=hS.transA hS';simp only [k7] at hS;clear hS'))
  (apply j6);(repeat (first|exact ResL.nil|(apply ResL.tmp;exact rfl)))
  exact ⟨rfl,hS.sub (List.nil_sublist _)⟩
 |some a=>
  simp only [hf] at hfe
  have hok2:=(a0F hc hf).1
  unfold Ar.ok at hok2
  obtain ⟨pg,n,prot,z⟩:=a
  dsimp only at hok2
  have ha2:=b5M (p:=prot) (by omega) (by omega)
  by_cases h2:2≤prot
  ·have hE:a6e A en=true:=by unfold a6e;rw [hf,decide_eq_true he];simp [h2]
   rw [hE]
   rw [if_pos h2] at ha2
   repeat' (first|(first|((with_reducible apply d6 c8);exact rfl;exact rfl)|((with_reducible apply d9);exact rfl;(first|((with_reducible apply Loads.sc c8);exact rfl;((exact hS.blkC 0 rfl rfl)))|((with_reducible apply Loads.sl c8);exact rfl;((exact hS.blkC 0 rfl rfl))));exact rfl)|((with_reducible apply j7 hS c8);(iterate 3 exact rfl);intro g w' hS';clear hS;have hS:=hS';clear hS')|(((with_reducible apply i7 hS c8 (i:=0));(iterate 8 exact rfl);((exact (rfl:_=[_,_,_,_])));intro w' hS';simp only [List.set] at hS';clear hS;have hS:=hS';clear hS'))|(first|((with_reducible apply p9);(iterate 4 exact rfl);first|exact rfl|assumption)|((with_reducible apply r6);(iterate 3 exact rfl);all_goals (intro hb hp;try (exfalso;omega)))|((with_reducible apply n0);exact rfl;(first|exact rfl|assumption);exact rfl;exact rfl)))|(first|(with_reducible first|apply d8|apply c9|apply d7|apply d5|apply g8|apply n5|apply j5|apply j4|apply i9))|(first|((with_reducible apply l6);exact rfl;(exact rfl))|((with_reducible apply k6);exact rfl;all_goals (intro hb hp;try (exfalso;omega)))|((with_reducible apply a1e);exact rfl;all_goals (intro hb hp;try (exfalso;omega))))|((with_reducible apply a24);exact rfl;exact rfl;omega;exact rfl)|((with_reducible apply a0s);exact rfl;exact rfl;omega;omega;omega;exact rfl)|((with_reducible apply e8);exact rfl;exact rfl;exact hfe _ (hA.now hS);exact rfl;rintro _ w' ⟨rfl,hS'⟩;replace hS:=hS.transA hS';simp only [k7] at hS;clear hS')|((with_reducible apply a6I);exact rfl;exact rfl;exact ha2;exact rfl))
   (apply j6);(repeat (first|exact ResL.nil|(apply ResL.tmp;exact rfl)))
   exact ⟨rfl,hS.sub (List.nil_sublist _)⟩
  ·have hE:a6e A en=false:=by unfold a6e;rw [hf];simp [h2]
   rw [hE]
   rw [if_neg h2] at ha2
   repeat' (first|(first|((with_reducible apply d6 c8);exact rfl;exact rfl)|((with_reducible apply d9);exact rfl;(first|((with_reducible apply Loads.sc c8);exact rfl;((exact hS.blkC 0 rfl rfl)))|((with_reducible apply Loads.sl c8);exact rfl;((exact hS.blkC 0 rfl rfl))));exact rfl)|((with_reducible apply j7 hS c8);(iterate 3 exact rfl);intro g w' hS';clear hS;have hS:=hS';clear hS')|(((with_reducible apply i7 hS c8 (i:=0));(iterate 8 exact rfl);((exact (rfl:_=[_,_,_,_])));intro w' hS';simp only [List.set] at hS';clear hS;have hS:=hS';clear hS'))|(first|((with_reducible apply p9);(iterate 4 exact rfl);first|exact rfl|assumption)|((with_reducible apply r6);(iterate 3 exact rfl);all_goals (intro hb hp;try (exfalso;omega)))|((with_reducible apply n0);exact rfl;(first|exact rfl|assumption);exact rfl;exact rfl)))|(first|(with_reducible first|apply d8|apply c9|apply d7|apply d5|apply g8|apply n5|apply j5|apply j4|apply e6|apply i9))|(first|((with_reducible apply k9);exact rfl;(exact rfl))|((with_reducible apply k6);exact rfl;all_goals (intro hb hp;try (exfalso;omega)))|((with_reducible apply a1e);exact rfl;all_goals (intro hb hp;try (exfalso;omega))))|((with_reducible apply a24);exact rfl;exact rfl;omega;exact rfl)|((with_reducible apply a0s);exact rfl;exact rfl;omega;omega;omega;exact rfl)|((with_reducible apply e8);exact rfl;exact rfl;exact hfe _ (hA.now hS);exact rfl;rintro _ w' ⟨rfl,hS'⟩;replace hS:=hS.transA hS';simp only [k7] at hS;clear hS')|((with_reducible apply a6I);exact rfl;exact rfl;exact ha2;exact rfl))
   (apply j6);(repeat (first|exact ResL.nil|(apply ResL.tmp;exact rfl)))
   exact ⟨rfl,hS.sub (List.nil_sublist _)⟩
end Go.Proofs.Ytejnpppejalhfac
/- The reference's sheetsRise and CheckLinked. -/
namespace Go.Proofs.Ytejnpppejalhfac
open Go.RowKit Go.Sort
theorem a9H {l:List Sh} {i:Nat} {s:Sh} {last:Int} (h:l[i]?=some s):a0W last (l.drop i)=(a0b s && (decide (last < s.page) && a0W s.page (l.drop (i + 1)))):=by
 rw [a2b h];rfl
theorem a6j {S:Sh} (h:a0b S=true):1≤S.page∧S.page≤255:=by
 unfold a0b at h
 simp only [Bool.and_eq_true,decide_eq_true_eq] at h
 exact h.1.1
end Go.Proofs.Ytejnpppejalhfac
/- Binary search in sheets and in entries; what a page is filled with. -/
namespace Go.Proofs.Ytejnpppejalhfac
open Go.RowKit Go.Sort
theorem b1m (S:Sh) (u:Value) (t:Int) (w:World) (ho:u.oneCell'=true) (h1:-9223372036854775808≤S.page - t) (h2:S.page - t≤9223372036854775807):Fn Try.prog 50 [.agg (shC S u).toArray,.int .i64 t] w (RBf (.int .i64 (S.page - t)) w):=by
 unfold shC
 refine j0 (fn:=Try.f50) ⟨Try.func50,by kernel_rfl,by kernel_rfl⟩ (by exact rfl) Try.ntmps50 (by exact rfl) ?_
 have hS:=St.start w
 repeat' (first|(first|((with_reducible apply a1X);exact rfl;exact rfl;omega;omega;exact rfl)|((with_reducible apply d6 c8);exact rfl;exact rfl)|((with_reducible apply d9);exact rfl;(((with_reducible apply Loads.sc c8);exact rfl;((exact hS.blkC 0 rfl rfl))));exact rfl)|((with_reducible apply p7 hS);(iterate 3 exact rfl);intro g w' hS';clear hS;have hS:=hS';clear hS'))|(first|(with_reducible first|apply d8|apply c9|apply d7|apply d5|apply j5)))
 (apply j6);(repeat (first|exact ResL.nil|(apply ResL.tmp;exact rfl)))
 exact ⟨rfl,hS.sub (List.nil_sublist _)⟩
theorem b1k (e:En) (t:Int) (w:World) (h1:-9223372036854775808≤e.page - t) (h2:e.page - t≤9223372036854775807):Fn Try.prog 48 [.agg (enC e).toArray,.int .i64 t] w (RBf (.int .i64 (e.page - t)) w):=by
 unfold enC
 refine j0 (fn:=Try.f48) ⟨Try.func48,by kernel_rfl,by kernel_rfl⟩ (by exact rfl) Try.ntmps48 (by exact rfl) ?_
 have hS:=St.start w
 repeat' (first|(first|((with_reducible apply a1X);exact rfl;exact rfl;omega;omega;exact rfl)|((with_reducible apply d6 c8);exact rfl;exact rfl)|((with_reducible apply d9);exact rfl;(((with_reducible apply Loads.sc c8);exact rfl;((exact hS.blkC 0 rfl rfl))));exact rfl)|((with_reducible apply p7 hS);(iterate 3 exact rfl);intro g w' hS';clear hS;have hS:=hS';clear hS'))|(first|(with_reducible first|apply d8|apply c9|apply d7|apply d5|apply j5)))
 (apply j6);(repeat (first|exact ResL.nil|(apply ResL.tmp;exact rfl)))
 exact ⟨rfl,hS.sub (List.nil_sublist _)⟩
def BsV (l:List Int) (t:Int):Value:=.tuple #[.int .i64 (lbd l t:Nat),.bool (decide (t ∈ l))]
set_option maxRecDepth 100000 in
set_option maxHeartbeats 8000000 in
theorem b3H {L:List (Sh×Value)} {w:World} {v:Value} {t:Int} (hL:Sl nF w 3 v (L.map fun p=>shC p.1 p.2)) (hr:Rises (L.map fun p=>p.1.page)) (hb:∀ q ∈ L.map fun p=>p.1.page,-9223372036854775808≤q - t∧q - t≤9223372036854775807) (ho:∀ p ∈ L,p.2.oneCell'=true) :
  Fn Try.prog 49 [v,.int .i64 t,.func (.func 50) #[] #[]] w (RBf (BsV (L.map fun p=>p.1.page) t) w):=by
 have hc:=fun (x:Sh×Value) (hx:x ∈ L) w=>b1m x.1 x.2 t w (ho x hx)
 have bnd:=hL.bound
 obtain ⟨p,c,rfl⟩:=hL.len
 refine j0 (fn:=Try.f49) ⟨Try.func49,by kernel_rfl,by kernel_rfl⟩ (by exact rfl) Try.ntmps49 (by exact rfl) ?_
 have hS:=St.start w
 repeat' (first|(((with_reducible apply d6 c8);exact rfl;exact rfl))|(first|(with_reducible first|apply d8|apply c9|apply d7|apply d5|apply e7)))
 refine o6 (X:=Nat×Nat) (fun x=>[(9,.int .i64 (x.1:Nat)),(10,.int .i64 (x.2:Nat))]) [0,1,2,8] rfl (fun _=>[]) (fun x=>x.1≤x.2∧x.2≤L.length∧(∀ (j:Nat) (q:Int),j < x.1→(L.map (fun p=>p.1.page))[j]?=some q→q < t)∧(∀ (j:Nat) (q:Int),x.2≤j→(L.map (fun p=>p.1.page))[j]?=some q→t≤q)) (fun x=>x.2 - x.1) (0,L.length) (by repeat (first|exact Fr.sub_nil _|(apply Fr.sub_cons;exact rfl))) ⟨Nat.zero_le _,Nat.le_refl _,fun j q h=>by omega,fun j q h hq=>by have:=j3 hq;rw [List.length_map] at this;omega⟩ hS ?_
 clear hS
 rintro ⟨i,j⟩ w1 ⟨hij,hj,hlo,hhi⟩ hS
 dsimp only [List.cons_append,List.nil_append] at hij hj hlo hhi hS ⊢
 by_cases hlt:i < j
 ·obtain ⟨hm0,hm1⟩:i≤(i + j) / 2∧(i + j) / 2 < j:=by omega
  obtain ⟨h,hh⟩:∃ h,h=(i + j) / 2:=⟨_,rfl⟩
  rw [← hh] at hm0 hm1
  have ehi:((i:Int) + (j:Int)) / 2=(h:Nat):=by omega
  obtain ⟨x,hx⟩:=l8 (l:=L) (i:=h) (by omega)
  have hrow:=j9 (f:=(fun p=>shC p.1 p.2)) hx
  have hpx:=j9 (f:=(fun p=>p.1.page)) hx
  have hbx:=hb _ (List.mem_of_getElem? hpx)
  obtain ⟨b,off,rfl,hro⟩:=hL.at_ (i:=h) (by omega)
  have hcmp:=hc x (List.mem_of_getElem? hx)
  repeat' (first|(((with_reducible apply d6 c8);exact rfl;exact rfl))|(first|(with_reducible first|apply d8|apply c9|apply d7|apply d5|apply g8|apply e7))|(((with_reducible apply k6);exact rfl;all_goals (intro hb hp;try (exfalso;omega))))|((with_reducible apply b2M);(iterate 3 exact rfl)))
  rw [a6B (by omega) (by omega) ehi (by omega)]
  by_cases hp:x.1.page < t
  ·have hd:decide (x.1.page - t < 0)=true:=decide_eq_true (by omega)
   repeat' (first|(first|((with_reducible apply m0);exact rfl;exact rfl;omega;omega;exact rfl)|((with_reducible apply d6 c8);exact rfl;exact rfl)|((with_reducible apply d9);exact rfl;(((with_reducible apply Loads.st c8);exact rfl;((exact hS.roR (by assumption) (by assumption)));exact rfl));exact rfl)|((with_reducible apply p8 c8);(iterate 3 exact rfl);((exact rfl));((omega));exact rfl))|(first|(with_reducible first|apply c9|apply d7|apply d5|apply k8))|(((with_reducible apply k9);exact rfl;(assumption)))|((with_reducible apply e8);exact rfl;exact rfl;exact hcmp _ (by omega) (by omega);exact rfl;rintro _ w' ⟨rfl,hS'⟩;replace hS:=hS.transA hS';simp only [k7] at hS;clear hS'))
   refine m6 (h + 1,j) (by repeat (first|exact Fr.sub_nil _|(apply Fr.sub_cons;exact rfl))) ⟨by show h + 1≤j;omega,hj,fun k q hk hq=>?_,hhi⟩ hS (by show j - (h + 1) < j - i;omega)
   rcases Nat.lt_or_ge k h with h1|h1
   ·exact Int.lt_trans (hr.at_ h1 hq hpx) hp
   ·obtain rfl:k=h:=by have:k < h + 1:=hk;omega
    rw [hpx] at hq
    cases hq
    exact hp
  ·have hd:decide (x.1.page - t < 0)=false:=decide_eq_false (by omega)
   repeat' (first|(first|((with_reducible apply d6 c8);exact rfl;exact rfl)|((with_reducible apply d9);exact rfl;(((with_reducible apply Loads.st c8);exact rfl;((exact hS.roR (by assumption) (by assumption)));exact rfl));exact rfl)|((with_reducible apply p8 c8);(iterate 3 exact rfl);((exact rfl));((omega));exact rfl))|(first|(with_reducible first|apply c9|apply d7|apply d5|apply k8))|(((with_reducible apply l6);exact rfl;(assumption)))|((with_reducible apply e8);exact rfl;exact rfl;exact hcmp _ (by omega) (by omega);exact rfl;rintro _ w' ⟨rfl,hS'⟩;replace hS:=hS.transA hS';simp only [k7] at hS;clear hS'))
   refine m6 (i,h) (by repeat (first|exact Fr.sub_nil _|(apply Fr.sub_cons;exact rfl))) ⟨by show i≤h;omega,by show h≤_;omega,hlo,fun k q hk hq=>?_⟩ hS (by show h - i < j - i;omega)
   rcases Nat.lt_or_ge h k with h1|h1
   ·have:=hr.at_ h1 hpx hq
    have hp':¬ x.1.page < t:=hp
    omega
   ·obtain rfl:k=h:=by have:h≤k:=hk;omega
    rw [hpx] at hq
    cases hq
    have hp':¬ x.1.page < t:=hp
    omega
 ·obtain rfl:i=j:=by omega
  have hlb:lbd (L.map (fun p=>p.1.page)) t=i:=a9z (by rw [List.length_map];omega) hlo (fun q hq=>hhi i q (Nat.le_refl _) hq)
  unfold BsV
  rw [hlb]
  by_cases hil:i < L.length
  ·obtain ⟨x,hx⟩:=l8 (l:=L) (i:=i) (by omega)
   have hrow:=j9 (f:=(fun p=>shC p.1 p.2)) hx
   have hpx:=j9 (f:=(fun p=>p.1.page)) hx
   have hbx:=hb _ (List.mem_of_getElem? hpx)
   obtain ⟨b,off,rfl,hro⟩:=hL.at_ (i:=i) (by omega)
   have hcmp:=hc x (List.mem_of_getElem? hx)
   have hiff:=a01 hr t
   rw [hlb,hpx] at hiff
   have hdm:decide (t ∈ L.map (fun p=>p.1.page))=decide (x.1.page - t=0):=by
    rw [decide_eq_decide,← hiff]
    constructor
    ·intro h
     have h2:x.1.page=t:=Option.some.inj h
     omega
    ·intro h
     have h2:x.1.page=t:=by omega
     rw [h2]
   rw [hdm]
   repeat' (first|(first|((with_reducible apply d6 c8);exact rfl;exact rfl)|((with_reducible apply d9);exact rfl;(((with_reducible apply Loads.st c8);exact rfl;((exact hS.roR (by assumption) (by assumption)));exact rfl));exact rfl)|((with_reducible apply p8 c8);(iterate 3 exact rfl);((exact rfl));((omega));exact rfl)|(first|((with_reducible apply p9);(iterate 4 exact rfl);(assumption))|((with_reducible apply r6);(iterate 3 exact rfl);all_goals (intro hb hp;try (exfalso;omega)))|((with_reducible apply m9);exact rfl;((assumption));exact rfl;exact rfl)))|(first|(with_reducible first|apply d8|apply c9|apply d7|apply d5|apply n5|apply j5|apply j4|apply i9))|(((with_reducible apply k6);exact rfl;all_goals (intro hb hp;try (exfalso;omega))))|((with_reducible apply e8);exact rfl;exact rfl;exact hcmp _ (by omega) (by omega);exact rfl;rintro _ w' ⟨rfl,hS'⟩;replace hS:=hS.transA hS';simp only [k7] at hS;clear hS'))
   trace_state
   (apply s9);(repeat (first|exact ResL.nil|(apply ResL.tmp;exact rfl)))
   exact ⟨rfl,hS.sub (List.nil_sublist _)⟩
  ·have hdm:decide (t ∈ L.map (fun p=>p.1.page))=false:=by
    rw [decide_eq_false_iff_not,← a01 hr t,hlb,List.getElem?_eq_none (by rw [List.length_map];omega)]
    simp
   rw [hdm]
   repeat' (first|(first|((with_reducible apply d6 c8);exact rfl;exact rfl)|(first|((with_reducible apply a0f);(iterate 4 exact rfl);((assumption));exact rfl)|((with_reducible apply r6);(iterate 3 exact rfl);all_goals (intro hb hp;try (exfalso;omega)))|((with_reducible apply n0);exact rfl;((assumption));exact rfl;exact rfl)))|(first|(with_reducible first|apply d8|apply c9|apply d7|apply d5|apply n5|apply j5|apply j4|apply i9))|(((with_reducible apply k6);exact rfl;all_goals (intro hb hp;try (exfalso;omega)))))
   (apply s9);(repeat (first|exact ResL.nil|(apply ResL.tmp;exact rfl)))
   exact ⟨rfl,hS.sub (List.nil_sublist _)⟩
set_option maxRecDepth 100000 in
set_option maxHeartbeats 8000000 in
theorem b0p {L:List En} {w:World} {v:Value} {t:Int} (hL:Sl nF w 3 v (L.map enC)) (hr:Rises (L.map fun e=>e.page)) (hb:∀ q ∈ L.map fun e=>e.page,-9223372036854775808≤q - t∧q - t≤9223372036854775807) :
  Fn Try.prog 47 [v,.int .i64 t,.func (.func 48) #[] #[]] w (RBf (BsV (L.map fun e=>e.page) t) w):=by
 have hc:=fun (x:En) (_:x ∈ L) w=>b1k x t w
 have bnd:=hL.bound
 obtain ⟨p,c,rfl⟩:=hL.len
 refine j0 (fn:=Try.f47) ⟨Try.func47,by kernel_rfl,by kernel_rfl⟩ (by exact rfl) Try.ntmps47 (by exact rfl) ?_
 have hS:=St.start w
 repeat' (first|(((with_reducible apply d6 c8);exact rfl;exact rfl))|(first|(with_reducible first|apply d8|apply c9|apply d7|apply d5|apply e7)))
 refine o6 (X:=Nat×Nat) (fun x=>[(9,.int .i64 (x.1:Nat)),(10,.int .i64 (x.2:Nat))]) [0,1,2,8] rfl (fun _=>[]) (fun x=>x.1≤x.2∧x.2≤L.length∧(∀ (j:Nat) (q:Int),j < x.1→(L.map (fun e=>e.page))[j]?=some q→q < t)∧(∀ (j:Nat) (q:Int),x.2≤j→(L.map (fun e=>e.page))[j]?=some q→t≤q)) (fun x=>x.2 - x.1) (0,L.length) (by repeat (first|exact Fr.sub_nil _|(apply Fr.sub_cons;exact rfl))) ⟨Nat.zero_le _,Nat.le_refl _,fun j q h=>by omega,fun j q h hq=>by have:=j3 hq;rw [List.length_map] at this;omega⟩ hS ?_
 clear hS
 rintro ⟨i,j⟩ w1 ⟨hij,hj,hlo,hhi⟩ hS
 dsimp only [List.cons_append,List.nil_append] at hij hj hlo hhi hS ⊢
 by_cases hlt:i < j
 ·obtain ⟨hm0,hm1⟩:i≤(i + j) / 2∧(i + j) / 2 < j:=by omega
  obtain ⟨h,hh⟩:∃ h,h=(i + j) / 2:=⟨_,rfl⟩
  rw [← hh] at hm0 hm1
  have ehi:((i:Int) + (j:Int)) / 2=(h:Nat):=by omega
  obtain ⟨x,hx⟩:=l8 (l:=L) (i:=h) (by omega)
  have hrow:=j9 (f:=enC) hx
  have hpx:=j9 (f:=(fun e=>e.page)) hx
  have hbx:=hb _ (List.mem_of_getElem? hpx)
  obtain ⟨b,off,rfl,hro⟩:=hL.at_ (i:=h) (by omega)
  have hcmp:=hc x (List.mem_of_getElem? hx)
  repeat' (first|(((with_reducible apply d6 c8);exact rfl;exact rfl))|(first|(with_reducible first|apply d8|apply c9|apply d7|apply d5|apply g8|apply e7))|(((with_reducible apply k6);exact rfl;all_goals (intro hb hp;try (exfalso;omega))))|((with_reducible apply b2M);(iterate 3 exact rfl)))
  rw [a6B (by omega) (by omega) ehi (by omega)]
  by_cases hp:x.page < t
  ·have hd:decide (x.page - t < 0)=true:=decide_eq_true (by omega)
   repeat' (first|(first|((with_reducible apply m0);exact rfl;exact rfl;omega;omega;exact rfl)|((with_reducible apply d6 c8);exact rfl;exact rfl)|((with_reducible apply d9);exact rfl;(((with_reducible apply Loads.st c8);exact rfl;((exact hS.roR (by assumption) (by assumption)));exact rfl));exact rfl)|((with_reducible apply p8 c8);(iterate 3 exact rfl);((exact rfl));((omega));exact rfl))|(first|(with_reducible first|apply c9|apply d7|apply d5|apply k8))|(((with_reducible apply k9);exact rfl;(assumption)))|((with_reducible apply e8);exact rfl;exact rfl;exact hcmp _ (by omega) (by omega);exact rfl;rintro _ w' ⟨rfl,hS'⟩;replace hS:=hS.transA hS';simp only [k7] at hS;clear hS'))
   refine m6 (h + 1,j) (by repeat (first|exact Fr.sub_nil _|(apply Fr.sub_cons;exact rfl))) ⟨by show h + 1≤j;omega,hj,fun k q hk hq=>?_,hhi⟩ hS (by show j - (h + 1) < j - i;omega)
   rcases Nat.lt_or_ge k h with h1|h1
   ·exact Int.lt_trans (hr.at_ h1 hq hpx) hp
   ·obtain rfl:k=h:=by have:k < h + 1:=hk;omega
    rw [hpx] at hq
    cases hq
    exact hp
  ·have hd:decide (x.page - t < 0)=false:=decide_eq_false (by omega)
   repeat' (first|(first|((with_reducible apply d6 c8);exact rfl;exact rfl)|((with_reducible apply d9);exact rfl;(((with_reducible apply Loads.st c8);exact rfl;((exact hS.roR (by assumption) (by assumption)));exact rfl));exact rfl)|((with_reducible apply p8 c8);(iterate 3 exact rfl);((exact rfl));((omega));exact rfl))|(first|(with_reducible first|apply c9|apply d7|apply d5|apply k8))|(((with_reducible apply l6);exact rfl;(assumption)))|((with_reducible apply e8);exact rfl;exact rfl;exact hcmp _ (by omega) (by omega);exact rfl;rintro _ w' ⟨rfl,hS'⟩;replace hS:=hS.transA hS';simp only [k7] at hS;clear hS'))
   refine m6 (i,h) (by repeat (first|exact Fr.sub_nil _|(apply Fr.sub_cons;exact rfl))) ⟨by show i≤h;omega,by show h≤_;omega,hlo,fun k q hk hq=>?_⟩ hS (by show h - i < j - i;omega)
   rcases Nat.lt_or_ge h k with h1|h1
   ·have:=hr.at_ h1 hpx hq
    have hp':¬ x.page < t:=hp
    omega
   ·obtain rfl:k=h:=by have:h≤k:=hk;omega
    rw [hpx] at hq
    cases hq
    have hp':¬ x.page < t:=hp
    omega
 ·obtain rfl:i=j:=by omega
  have hlb:lbd (L.map (fun e=>e.page)) t=i:=a9z (by rw [List.length_map];omega) hlo (fun q hq=>hhi i q (Nat.le_refl _) hq)
  unfold BsV
  rw [hlb]
  by_cases hil:i < L.length
  ·obtain ⟨x,hx⟩:=l8 (l:=L) (i:=i) (by omega)
   have hrow:=j9 (f:=enC) hx
   have hpx:=j9 (f:=(fun e=>e.page)) hx
   have hbx:=hb _ (List.mem_of_getElem? hpx)
   obtain ⟨b,off,rfl,hro⟩:=hL.at_ (i:=i) (by omega)
   have hcmp:=hc x (List.mem_of_getElem? hx)
   have hiff:=a01 hr t
   rw [hlb,hpx] at hiff
   have hdm:decide (t ∈ L.map (fun e=>e.page))=decide (x.page - t=0):=by
    rw [decide_eq_decide,← hiff]
    constructor
    ·intro h
     have h2:x.page=t:=Option.some.inj h
     omega
    ·intro h
     have h2:x.page=t:=by omega
     rw [h2]
   rw [hdm]
   repeat' (first|(first|((with_reducible apply d6 c8);exact rfl;exact rfl)|((with_reducible apply d9);exact rfl;(((with_reducible apply Loads.st c8);exact rfl;((exact hS.roR (by assumption) (by assumption)));exact rfl));exact rfl)|((with_reducible apply p8 c8);(iterate 3 exact rfl);((exact rfl));((omega));exact rfl)|(first|((with_reducible apply p9);(iterate 4 exact rfl);(assumption))|((with_reducible apply r6);(iterate 3 exact rfl);all_goals (intro hb hp;try (exfalso;omega)))|((with_reducible apply m9);exact rfl;((assumption));exact rfl;exact rfl)))|(first|(with_reducible first|apply d8|apply c9|apply d7|apply d5|apply n5|apply j5|apply j4|apply i9))|(((with_reducible apply k6);exact rfl;all_goals (intro hb hp;try (exfalso;omega))))|((with_reducible apply e8);exact rfl;exact rfl;exact hcmp _ (by omega) (by omega);exact rfl;rintro _ w' ⟨rfl,hS'⟩;replace hS:=hS.transA hS';simp only [k7] at hS;clear hS'))
   trace_state
   (apply s9);(repeat (first|exact ResL.nil|(apply ResL.tmp;exact rfl)))
   exact ⟨rfl,hS.sub (List.nil_sublist _)⟩
  ·have hdm:decide (t ∈ L.map (fun e=>e.page))=false:=by
    rw [decide_eq_false_iff_not,← a01 hr t,hlb,List.getElem?_eq_none (by rw [List.length_map];omega)]
    simp
   rw [hdm]
   repeat' (first|(first|((with_reducible apply d6 c8);exact rfl;exact rfl)|(first|((with_reducible apply a0f);(iterate 4 exact rfl);((assumption));exact rfl)|((with_reducible apply r6);(iterate 3 exact rfl);all_goals (intro hb hp;try (exfalso;omega)))|((with_reducible apply n0);exact rfl;((assumption));exact rfl;exact rfl)))|(first|(with_reducible first|apply d8|apply c9|apply d7|apply d5|apply n5|apply j5|apply j4|apply i9))|(((with_reducible apply k6);exact rfl;all_goals (intro hb hp;try (exfalso;omega)))))
   (apply s9);(repeat (first|exact ResL.nil|(apply ResL.tmp;exact rfl)))
   exact ⟨rfl,hS.sub (List.nil_sublist _)⟩
end Go.Proofs.Ytejnpppejalhfac
/- Objects of a link, in plain Lean. -/
namespace Go.Proofs.Ytejnpppejalhfac
open Go.RowKit Go.Sort
structure Ob where
 im:Im
 vn:Value
 vs:Value
 vy:Value
 vr:Value
 at_:Int
def imC (I:Im) (vn vs vy vr:Value):List Value:=[.string ⟨I.name.toArray⟩,vn,vs,vy,vr,.int .i64 I.entry]
def obC (o:Ob):List Value:=[.string ⟨o.im.name.toArray⟩,o.vn,o.vs,o.vy,o.vr,.int .i64 o.im.entry,.int .i64 o.at_]
abbrev ObV (w:World) (o:Ob):Prop:=ImV w o.im o.vn o.vs o.vy o.vr
def a6O (ys:List Sy) (nm:List UInt8):Option Int:=(ys.find? (fun s=>decide (s.name=nm))).map (·.at_)
def adr:List (Im×Int)→List UInt8→Option Int
 |[],_=>none
 |o::r,nm=>match a6O o.1.syms nm with
  |some a=>some (o.2 + a)
  |none=>adr r nm
def obP (os:List Ob):List (Im×Int):=os.map fun o=>(o.im,o.at_)
theorem b44 {os:List Ob} {i:Nat} {o:Ob} (h:os[i]?=some o):(obP os)[i]?=some (o.im,o.at_):=by unfold obP;rw [List.getElem?_map,h];rfl
theorem b4g (os:List Ob):(obP os).length=os.length:=by unfold obP;simp
theorem b0V {ys:List Sy} {nm:List UInt8} {k:Nat} {s:Sy} (h:(ys.take k).all (fun s=>!decide (s.name=nm))=true) (hs:ys[k]?=some s) (hn:s.name=nm):a6O ys nm=some s.at_:=by
 unfold a6O
 have e:ys=ys.take k++s::ys.drop (k + 1):=by
  obtain ⟨h1,rfl⟩:=List.getElem?_eq_some_iff.1 hs
  rw [List.getElem_cons_drop,List.take_append_drop]
 rw [e,List.find?_append]
 have:(ys.take k).find? (fun s=>decide (s.name=nm))=none:=by
  rw [List.find?_eq_none]
  intro t ht
  have:=List.all_eq_true.1 h t ht
  simpa using this
 rw [this,Option.none_or,List.find?_cons,decide_eq_true hn]
 rfl
theorem a9h {ys:List Sy} {nm:List UInt8} {k:Nat} (h:(ys.take k).all (fun s=>!decide (s.name=nm))=true) (hk:ys.length≤k):a6O ys nm=none:=by
 unfold a6O
 rw [List.take_of_length_le hk] at h
 have:ys.find? (fun s=>decide (s.name=nm))=none:=by
  rw [List.find?_eq_none]
  intro t ht
  have:=List.all_eq_true.1 h t ht
  simpa using this
 rw [this];rfl
theorem b3d {l:List (Im×Int)} {nm:List UInt8} {i:Nat} {o:Im×Int} (h:l[i]?=some o):adr (l.drop i) nm=match a6O o.1.syms nm with
  |some a=>some (o.2 + a)
  |none=>adr (l.drop (i + 1)) nm:=by
 have:l.drop i=o::l.drop (i + 1):=by
  obtain ⟨h1,rfl⟩:=List.getElem?_eq_some_iff.1 h
  exact List.drop_eq_getElem_cons h1
 rw [this];rfl
def b5p (o:Option Int):Value:=.tuple #[.int .i64 (o.getD 0),.bool o.isSome]
end Go.Proofs.Ytejnpppejalhfac
/- The linker's rights and address. -/
namespace Go.Proofs.Ytejnpppejalhfac
open Go.RowKit Go.Sort
def rgt (s:Sg):Int:=(if s.wr then 1 else 0) + (if s.ex then 2 else 0)
theorem b1z (s:Sg) (w:World):Fn Try.prog 81 [.agg (sgC s).toArray] w (RBf (.int .i64 (rgt s)) w):=by
 have o1:∀ a b:Int,bits .or .i64 0 1=1:=fun _ _=>by decide
 have o2:bits .or .i64 0 2=2:=by decide
 have o3:bits .or .i64 1 2=3:=by decide
 obtain ⟨pg,n,d,wr,ex⟩:=s
 refine j0 (fn:=Try.f81) ⟨Try.func81,by kernel_rfl,by kernel_rfl⟩ (by exact rfl) Try.ntmps81 (by exact rfl) ?_
 have hS:=St.start w
 unfold sgC
 cases wr <;> cases ex
 all_goals (repeat' (first|(first|((with_reducible apply d6 c8);exact rfl;exact rfl)|((with_reducible apply d9);exact rfl;(((with_reducible apply Loads.sc c8);exact rfl;((exact hS.blkC 0 rfl rfl))));exact rfl)|((with_reducible apply p7 hS);(iterate 3 exact rfl);intro g w' hS';clear hS;have hS:=hS';clear hS'))|(first|(with_reducible first|apply d8|apply c9|apply d7|apply d5|apply g8|apply j5))|(first|((with_reducible apply k9);exact rfl;(exact rfl))|((with_reducible apply l6);exact rfl;(exact rfl)))|((with_reducible apply b6g);exact rfl;exact rfl;(first|exact o1 0 0|exact o2|exact o3);exact rfl)))
 all_goals ((apply j6);(repeat (first|exact ResL.nil|(apply ResL.tmp;exact rfl))))
 all_goals exact ⟨rfl,hS.sub (List.nil_sublist _)⟩
set_option maxRecDepth 100000 in
set_option maxHeartbeats 8000000 in
theorem a9A {os:List Ob} {w:World} {gw:Nat} {lv:Value} (nm:List UInt8) (hc:Bs nF w ⟨gw,2,none⟩ lv) (hl:Sl nF w 7 lv (os.map obC)) (hO:∀ o ∈ os,ObV w o) (hr:∀ o ∈ os,∀ s ∈ o.im.syms,-9223372036854775808≤o.at_ + s.at_∧o.at_ + s.at_≤9223372036854775807):Fn Try.prog 78 [.pointer (some ⟨gw,0,none⟩),.string ⟨nm.toArray⟩] w (RBf (b5p (adr (obP os) nm)) w):=by
 have bnd:=hl.bound
 obtain ⟨p,c,rfl⟩:=hl.len
 refine j0 (fn:=Try.f78) ⟨Try.func78,by kernel_rfl,by kernel_rfl⟩ (by exact rfl) Try.ntmps78 (by exact rfl) ?_
 have hS:=St.start w
 have hc0:Bs nF w ⟨gw,0 + 2,none⟩ _:=hc
 repeat' (first|(first|((with_reducible apply d6 c8);exact rfl;exact rfl)|((with_reducible apply d9);exact rfl;(((with_reducible apply Loads.sl c8);exact rfl;((exact hS.bs (by assumption)))));exact rfl))|(first|(with_reducible first|apply d8|apply c9|apply d7|apply d5|apply e7)))
 refine o6 (X:=Nat) (fun x=>[(15,.int .i64 (x:Nat))]) [0,1,13,14] rfl (fun _=>[]) (fun x=>x≤os.length∧adr (obP os) nm=adr ((obP os).drop x) nm) (fun x=>os.length - x) 0 (by repeat (first|exact Fr.sub_nil _|(apply Fr.sub_cons;exact rfl))) (by simp) hS ?_
 clear hS
 intro i w1 hI hS
 obtain ⟨hi,had⟩:=hI
 dsimp only [List.cons_append,List.nil_append] at hi had hS ⊢
 by_cases hlt:i < os.length
 rotate_left
 ·rw [List.drop_of_length_le (by rw [b4g];omega)] at had
  repeat' (first|(((with_reducible apply d6 c8);exact rfl;exact rfl))|(first|(with_reducible first|apply d8|apply c9|apply d7|apply d5|apply n5|apply j5|apply j4|apply i9))|(((with_reducible apply k6);exact rfl;all_goals (intro hb hp;try (exfalso;omega)))))
  (apply s9);(repeat (first|exact ResL.nil|(apply ResL.tmp;exact rfl)))
  exact ⟨by rw [had];rfl,hS.sub (List.nil_sublist _)⟩
 obtain ⟨o,ho⟩:=l8 (l:=os) (i:=i) (by omega)
 have hrow:=j9 (f:=obC) ho
 obtain ⟨b,off,rfl,hro⟩:=hl.at_ (i:=i) hlt
 have hst:=b3d (nm:=nm) (b44 ho)
 have hov:=hO o (List.mem_of_getElem? ho)
 have hor:=hr o (List.mem_of_getElem? ho)
 rw [hst] at had
 obtain ⟨I,vn,vs,vy,vr,at_⟩:=o
 dsimp only at had hor
 replace hov:ImV w I vn vs vy vr:=hov
 have by_:=hov.syms.bound
 have hsy:=hov.syms
 obtain ⟨pn,cn,rfl⟩:=hov.needs.len
 obtain ⟨ps,cs,rfl⟩:=hov.segs.len
 obtain ⟨py,cy,rfl⟩:=hov.syms.len
 obtain ⟨pr,cr,rfl⟩:=hov.rels.len
 unfold obC at hrow
 repeat' (first|(first|((with_reducible apply d6 c8);exact rfl;exact rfl)|((with_reducible apply d9);exact rfl;(first|((with_reducible apply Loads.sl c8);exact rfl;((exact hS.blkC 0 rfl rfl)))|((with_reducible apply Loads.st c8);exact rfl;((exact hS.roR (by assumption) (by assumption)));exact rfl));exact rfl)|((with_reducible apply p8 c8);(iterate 3 exact rfl);((exact rfl));((omega));exact rfl)|((with_reducible apply j7 hS c8);(iterate 3 exact rfl);intro g w' hS';clear hS;have hS:=hS';clear hS')|(((with_reducible apply i7 hS c8 (i:=0));(iterate 8 exact rfl);((exact rfl));intro w' hS';simp only [List.set] at hS';clear hS;have hS:=hS';clear hS')))|(first|(with_reducible first|apply d8|apply c9|apply d7|apply d5|apply g8|apply e7))|(((with_reducible apply k6);exact rfl;all_goals (intro hb hp;try (exfalso;omega)))))
 rename Nat=>g7
 refine o6 (X:=Nat) (fun x=>[(23,.int .i64 (x:Nat))]) [0,1,13,14,15,7,21,22] rfl (fun _=>[]) (fun x=>x≤I.syms.length∧(I.syms.take x).all (fun s=>!decide (s.name=nm))=true) (fun x=>I.syms.length - x) 0 (by repeat (first|exact Fr.sub_nil _|(apply Fr.sub_cons;exact rfl))) (by simp) hS ?_
 clear hS
 intro k w2 hK hS
 obtain ⟨hk,hall⟩:=hK
 dsimp only [List.cons_append,List.nil_append] at hk hall hS ⊢
 by_cases hkt:k < I.syms.length
 ·obtain ⟨y,hy⟩:=l8 (l:=I.syms) (i:=k) (by omega)
  have hrow2:=j9 (f:=syC) hy
  obtain ⟨b2,off2,rfl,hro2⟩:=hsy.at_ (i:=k) hkt
  have hyr:=hor y (List.mem_of_getElem? hy)
  by_cases hn:y.name=nm
  ·have hd:decide (y.name=nm)=true:=decide_eq_true hn
   rw [b0V hall hy hn] at had
   repeat' (first|(first|((with_reducible apply m0);exact rfl;exact rfl;omega;omega;exact rfl)|((with_reducible apply d6 c8);exact rfl;exact rfl)|((with_reducible apply d9);exact rfl;(first|((with_reducible apply Loads.sc c8);exact rfl;(first|exact hS.blkC 0 rfl rfl|exact hS.blkC 1 rfl rfl))|((with_reducible apply Loads.st c8);exact rfl;((exact hS.roR (by assumption) (by assumption)));exact rfl));exact rfl)|((with_reducible apply p8 c8);(iterate 3 exact rfl);((exact rfl));((omega));exact rfl)|((with_reducible apply j7 hS c8);(iterate 3 exact rfl);intro g w' hS';clear hS;have hS:=hS';clear hS')|(((with_reducible apply i7 hS c8 (i:=0));(iterate 8 exact rfl);((exact (rfl:_=[_,_])));intro w' hS';simp only [List.set] at hS';clear hS;have hS:=hS';clear hS')))|(first|(with_reducible first|apply d8|apply c9|apply d7|apply d5|apply g8|apply e7|apply j5|apply e6|apply j8))|(first|((with_reducible apply k9);exact rfl;(assumption))|((with_reducible apply k6);exact rfl;all_goals (intro hb hp;try (exfalso;omega)))))
   (apply s9);(repeat (first|exact ResL.nil|(apply ResL.tmp;exact rfl)))
   exact ⟨by rw [had];rfl,hS.sub (List.nil_sublist _)⟩
  ·have hd:decide (y.name=nm)=false:=decide_eq_false hn
   repeat' (first|(first|((with_reducible apply m0);exact rfl;exact rfl;omega;omega;exact rfl)|((with_reducible apply d6 c8);exact rfl;exact rfl)|((with_reducible apply d9);exact rfl;(first|((with_reducible apply Loads.sc c8);exact rfl;((exact hS.blkC 0 rfl rfl)))|((with_reducible apply Loads.st c8);exact rfl;((exact hS.roR (by assumption) (by assumption)));exact rfl));exact rfl)|((with_reducible apply p8 c8);(iterate 3 exact rfl);((exact rfl));((omega));exact rfl)|((with_reducible apply j7 hS c8);(iterate 3 exact rfl);intro g w' hS';clear hS;have hS:=hS';clear hS')|(((with_reducible apply i7 hS c8 (i:=0));(iterate 8 exact rfl);((exact (rfl:_=[_,_])));intro w' hS';simp only [List.set] at hS';clear hS;have hS:=hS';clear hS')))|(first|(with_reducible first|apply d8|apply c9|apply d7|apply d5|apply g8|apply e7|apply k8))|(first|((with_reducible apply l6);exact rfl;(assumption))|((with_reducible apply k6);exact rfl;all_goals (intro hb hp;try (exfalso;omega)))))
   exact m6 (k + 1) (by repeat (first|exact Fr.sub_nil _|(apply Fr.sub_cons;exact rfl))) ⟨by show k + 1≤I.syms.length;omega,t0 hall hy (by simp [hn])⟩ hS.drop (by show I.syms.length - (k + 1) < I.syms.length - k;omega)
 ·rw [a9h hall (by omega)] at had
  repeat' (first|(first|((with_reducible apply m0);exact rfl;exact rfl;omega;omega;exact rfl)|((with_reducible apply d6 c8);exact rfl;exact rfl))|(first|(with_reducible first|apply d8|apply c9|apply d7|apply d5|apply n5|apply j4|apply k8|apply i9))|(((with_reducible apply k6);exact rfl;all_goals (intro hb hp;try (exfalso;omega)))))
  exact m6 (i + 1) (by repeat (first|exact Fr.sub_nil _|(apply Fr.sub_cons;exact rfl))) ⟨by show i + 1≤os.length;omega,had⟩ hS.drop (by show os.length - (i + 1) < os.length - i;omega)
end Go.Proofs.Ytejnpppejalhfac
/- The linker places an image. -/
namespace Go.Proofs.Ytejnpppejalhfac
open Go.RowKit Go.Sort
def stK (l:List UInt8):Value:=.string ⟨l.toArray⟩
def PlI (es:Array MapEntry) (os:List Ob):Prop:=∃ L,MapG .string es L∧L.map (·.1)=os.map fun o=>stK o.im.name
abbrev LkS (gw rb rp:Nat) (p:Option Addr) (c:Nat) (next:Int) (es:Array MapEntry) (cc:Nat) (os:List Ob):List Asr :=
 [.blk gw [.map (some rb),.map (some rp),.slice p os.length c,.int .i64 next],.obj rp (.map es cc),.row 153 7 (.slice p os.length c) (os.map obC)]
theorem PlI.mem {es:Array MapEntry} {os:List Ob} {L:List (Value×Value)} (h:L.map (·.1)=os.map fun o=>stK o.im.name) (nm:List UInt8):(∃ v,(stK nm,v) ∈ L) ↔ ∃ o ∈ os,o.im.name=nm:=by
 constructor
 ·rintro ⟨v,hv⟩
  have:stK nm ∈ L.map (·.1):=List.mem_map.2 ⟨_,hv,rfl⟩
  rw [h] at this
  obtain ⟨o,ho,e⟩:=List.mem_map.1 this
  unfold stK at e
  exact ⟨o,ho,by simpa using e⟩
 ·rintro ⟨o,ho,rfl⟩
  have:stK o.im.name ∈ L.map (·.1):=by rw [h];exact List.mem_map.2 ⟨o,ho,rfl⟩
  obtain ⟨p,hp,e⟩:=List.mem_map.1 this
  exact ⟨p.2,by rw [← e];exact hp⟩
theorem Sl.atF {F:Nat→Prop} {w:World} {sz:Nat} {α:Type} {f:α→List Value} {l:List α} {p:Option Addr} {n c i:Nat} (h:Sl F w sz (.slice p n c) (l.map f)) (hi:i < l.length):∃ b off,p=some ⟨b,off,none⟩∧RoAt F w b off sz (l.map f):=by
 rcases h.parts.2 with h2|⟨b,off,rfl,_,_,hro⟩
 ·have:=congrArg List.length h2
  rw [List.length_map,List.length_nil] at this
  omega
 ·exact ⟨b,off,rfl,hro⟩
def a7D (os:List Ob) (nm:List UInt8):Bool:=os.any fun o=>decide (o.im.name=nm)
theorem a4d {os:List Ob} {nm:List UInt8}:a7D os nm=true ↔ ∃ o ∈ os,o.im.name=nm:=by unfold a7D;simp
def a1q (I:Im):Int:=match I.segs.getLast? with
 |some s=>s.pg + s.n
 |none=>0
def a6o (os:List Ob) (next:Int) (I:Im) (vn vs vy vr:Value):List Ob:=if a7D os I.name=true then os else os++[⟨I,vn,vs,vy,vr,next * 16⟩]
def a3Z (os:List Ob) (next:Int) (I:Im):Int:=if a7D os I.name=true then next else next + a1q I
theorem a4N:(Try.prog).underlying 146=some (.map 9 3):=by kernel_rfl
theorem a1j:(Try.prog).underlying 9=some .string:=by kernel_rfl
theorem b5o:((Try.prog).info? 3).bind (·.zero)=some (.int .i64 0):=by kernel_rfl
set_option maxRecDepth 100000 in
set_option maxHeartbeats 8000000 in
theorem a8x {F:Nat→Prop} {w0 w:World} {Γ:List Asr} {gw rb rp c cc:Nat} {p:Option Addr} {next:Int} {es:Array MapEntry} {os:List Ob} {I:Im} {vn vs vy vr:Value} (hS0:St F w0 w (LkS gw rb rp p c next es cc os++Γ)) (hP:PlI es os) (hI:ImV w I vn vs vy vr) (hIs:Sl (fps (LkS gw rb rp p c next es cc os)) w 5 vs (I.segs.map sgC)) (hs1:1≤I.segs.length) (hs2:I.segs.all a2m=true) (hs3:I.segs.length≤6) (hn0:0≤next) (hn1:next≤100000) (hol:os.length≤1000) :
  Fn Try.prog 76 [.pointer (some ⟨gw,0,none⟩),imA I vn vs vy vr] w (fun v w'=>v=.int .i64 0∧∃ p' c' es' cc',PlI es' (a6o os next I vn vs vy vr)∧St (fps (LkS gw rb rp p c next es cc os)) w w' (LkS gw rb rp p' c' (a3Z os next I) es' cc' (a6o os next I vn vs vy vr))):=by
 obtain ⟨L,hL,hLk⟩:=hP
 have hmem:=PlI.mem (es:=es) hLk I.name
 unfold a6o a3Z
 obtain ⟨pn,cn,rfl⟩:=hI.needs.len
 obtain ⟨ps,cs,rfl⟩:=hI.segs.len
 obtain ⟨py,cy,rfl⟩:=hI.syms.len
 obtain ⟨pr,cr,rfl⟩:=hI.rels.len
 refine j0 (fn:=Try.f76) ⟨Try.func76,by kernel_rfl,by kernel_rfl⟩ (by exact rfl) Try.ntmps76 (by exact rfl) ?_
 have hS:=St.startM hS0
 simp only [LkS] at hS
 by_cases hpl:a7D os I.name=true
 ·obtain ⟨v,hv⟩:=hmem.2 (a4d.1 hpl)
  rw [if_pos hpl,if_pos hpl]
  repeat' (first|(first|((with_reducible apply d6 c8);exact rfl;exact rfl)|((with_reducible apply p7 hS);(iterate 3 exact rfl);intro g w' hS';clear hS;have hS:=hS';clear hS'))|(first|(with_reducible first|apply d8|apply c9|apply d7|apply d5)))
  (focus ((with_reducible apply m7 _ _ _ (by kernel_rfl) (by kernel_rfl) hS);(repeat' (first|(first|((with_reducible apply o5 c8);exact rfl;exact rfl)|((with_reducible apply n6);exact rfl;(intro wd hd;replace hd:St _ _ wd _:=hd;(((with_reducible apply Loads.sc c8);exact rfl;(first|exact hd.blkC 0 rfl rfl|exact hd.blkC 1 rfl rfl))));exact rfl))|((with_reducible apply b25);exact rfl;exact rfl;exact b2F 2 a4N a1j rfl hL (k:=stK I.name) trivial hv true;exact rfl)));all_goals ((with_reducible apply r5);intro w' hS';clear hS;have hS:=hS';clear hS')))
  repeat' (first|(((with_reducible apply d6 c8);exact rfl;exact rfl))|(first|(with_reducible first|apply d8|apply c9|apply d7|apply d5|apply j5|apply e6))|(((with_reducible apply k9);exact rfl;(exact rfl))))
  (apply j6);(repeat (first|exact ResL.nil|(apply ResL.tmp;exact rfl)))
  exact ⟨rfl,p,c,es,cc,⟨L,hL,hLk⟩,hS.drop⟩
 ·rw [if_neg hpl,if_neg hpl]
  have hno:∀ v,(stK I.name,v) ∉ L:=fun v hv=>hpl (a4d.2 (hmem.1 ⟨v,hv⟩))
  repeat' (first|(first|((with_reducible apply d6 c8);exact rfl;exact rfl)|((with_reducible apply p7 hS);(iterate 3 exact rfl);intro g w' hS';clear hS;have hS:=hS';clear hS'))|(first|(with_reducible first|apply d8|apply c9|apply d7|apply d5)))
  rename Nat=>g3
  (focus ((with_reducible apply m7 _ _ _ (by kernel_rfl) (by kernel_rfl) hS);(repeat' (first|(first|((with_reducible apply o5 c8);exact rfl;exact rfl)|((with_reducible apply n6);exact rfl;(intro wd hd;replace hd:St _ _ wd _:=hd;(((with_reducible apply Loads.sc c8);exact rfl;(first|exact hd.blkC 0 rfl rfl|exact hd.blkC 1 rfl rfl))));exact rfl))|((with_reducible apply b25);exact rfl;exact rfl;exact b0Z 2 a4N a1j b5o rfl hL (k:=stK I.name) trivial hno true;exact rfl)));all_goals ((with_reducible apply r5);intro w' hS';clear hS;have hS:=hS';clear hS')))
  obtain ⟨k,hk⟩:∃ k,I.segs.length=k + 1:=⟨I.segs.length - 1,by omega⟩
  have hix:((k:Nat):Int)=(I.segs.length:Int) - 1:=by omega
  have hlt:k < I.segs.length:=by omega
  obtain ⟨y,hy⟩:=l8 (l:=I.segs) (i:=k) (by omega)
  have hrow:(I.segs.map sgC)[k]?=some [.int .i64 y.pg,.int .i64 y.n,.string ⟨y.data.toArray⟩,.bool y.wr,.bool y.ex]:=j9 (f:=sgC) hy
  obtain ⟨b,off,rfl,hro⟩:=hIs.atF (i:=k) hlt
  have hle:a1q I=y.pg + y.n:=by
   unfold a1q
   rw [List.getLast?_eq_getElem?,show I.segs.length - 1=k by omega,hy]
  have hyo:=List.all_eq_true.1 hs2 y (List.mem_of_getElem? hy)
  unfold a2m at hyo
  replace hyo:=of_decide_eq_true hyo
  obtain ⟨y1,y2,y3,y4,-⟩:=hyo
  rw [hle]
  repeat' (first|(first|((with_reducible apply a1X);exact rfl;exact rfl;omega;omega;exact rfl)|((with_reducible apply d6 c8);exact rfl;exact rfl)|((with_reducible apply d9);exact rfl;(first|((with_reducible apply Loads.sl c8);exact rfl;((exact hS.blkC 0 rfl rfl)))|((with_reducible apply Loads.st c8);exact rfl;((exact hS.roR (by assumption) (by assumption)));exact rfl));exact rfl)|((with_reducible apply p8 c8);(iterate 3 exact rfl);((assumption));((omega));exact rfl)|((with_reducible apply j7 hS c8);(iterate 3 exact rfl);intro g w' hS';clear hS;have hS:=hS';clear hS')|(((with_reducible apply i7 hS c8 (i:=0));(iterate 8 exact rfl);((exact (rfl:_=[_,_,_,_,_])));intro w' hS';simp only [List.set] at hS';clear hS;have hS:=hS';clear hS')))|(first|(with_reducible first|apply d8|apply c9|apply d7|apply d5|apply g8))|(((with_reducible apply l6);exact rfl;(exact rfl))))
  (focus ((with_reducible apply a0X _ _ _ 11 (by kernel_rfl) (by kernel_rfl) hS);(simp only [List.take_succ_cons,List.take_zero,List.drop_succ_cons,List.drop_zero]);(repeat' ((first|((with_reducible apply o5 c8);exact rfl;exact rfl)|((with_reducible apply n6);exact rfl;(intro wd hd;replace hd:St _ _ wd _:=hd;(first|((with_reducible apply Loads.sc c8);exact rfl;(first|exact hd.blkC 1 rfl rfl|exact hd.blkC 2 rfl rfl))|((with_reducible apply Loads.sl c8);exact rfl;((exact hd.blkC 2 rfl rfl)))));exact rfl))));all_goals ((with_reducible apply r5);intro w' hS';clear hS;have hS:=hS';clear hS')))
  refine a1M (a7E hS (i:=3) a4N a1j rfl rfl rfl rfl hL (k:=stK I.name) trivial hno) ?_
  rintro - w9 ⟨es',cc',hL',hS'⟩
  simp only [List.set] at hS'
  clear hS;have hS:=hS';clear hS'
  repeat' ((first|(with_reducible first|apply d8|apply d7|apply d5)))
  refine a3o (fun w'=>(Asr.blk gw [.map (some rb),.map (some rp),.slice p os.length c,.int .i64 next]).holds w'∧(Asr.blk g3 [.string ⟨I.name.toArray⟩,.slice pn I.needs.length cn,.slice (some ⟨b,off,none⟩) I.segs.length cs,.slice py I.syms.length cy,.slice pr I.rels.length cr,.int .i64 I.entry]).holds w') 16 17 rfl hS (by kernel_rfl) ?_
  intro w10 hS'
  clear hS;have hS:=hS';clear hS'
  have hH:=And.intro (hS.at_ (i:=2) rfl) (hS.at_ (i:=1) rfl)
  ((with_reducible apply l4 0 c8);exact rfl;kernel_rfl;kernel_rfl;kernel_rfl;exact rfl;exact (fun _ _ _ h=>h);exact Or.inr hH;exact rfl;exact rfl)
  ((with_reducible apply l4 1 c8);exact rfl;kernel_rfl;kernel_rfl;kernel_rfl;exact rfl;exact (fun _ _ _ h=>h);exact Or.inr hH;exact rfl;exact rfl)
  ((with_reducible apply l4 2 c8);exact rfl;kernel_rfl;kernel_rfl;kernel_rfl;exact rfl;exact (fun _ _ _ h=>h);exact Or.inr hH;exact rfl;exact rfl)
  ((with_reducible apply l4 3 c8);exact rfl;kernel_rfl;kernel_rfl;kernel_rfl;exact rfl;exact (fun _ _ _ h=>h);exact Or.inr hH;exact rfl;exact rfl)
  ((with_reducible apply r7 4);exact rfl;kernel_rfl;kernel_rfl;kernel_rfl;kernel_rfl;exact rfl;exact rfl;exact (fun _ _ _ h=>h);exact hH;exact rfl;(intro w2 hw2;((with_reducible apply Loads.sl c8);exact rfl;exact a2P hw2.1 rfl));exact rfl)
  ((with_reducible apply r7 5);exact rfl;kernel_rfl;kernel_rfl;kernel_rfl;kernel_rfl;exact rfl;exact rfl;exact (fun _ _ _ h=>h);exact hH;exact rfl;(intro w2 hw2;((with_reducible apply Loads.st c8);exact rfl;(exact fun j v hj=>by rw [Nat.zero_add];exact a2P hw2.2 hj);exact rfl));exact rfl)
  ((with_reducible apply l4 6 c8);exact rfl;kernel_rfl;kernel_rfl;kernel_rfl;exact rfl;exact (fun _ _ _ h=>h);exact Or.inr hH;exact rfl;exact rfl)
  ((with_reducible apply l4 7 c8);exact rfl;kernel_rfl;kernel_rfl;kernel_rfl;exact rfl;exact (fun _ _ _ h=>h);exact Or.inr hH;exact rfl;exact rfl)
  ((with_reducible apply l4 8 c8);exact rfl;kernel_rfl;kernel_rfl;kernel_rfl;exact rfl;exact (fun _ _ _ h=>h);exact Or.inr hH;exact rfl;exact rfl)
  ((with_reducible apply r7 9);exact rfl;kernel_rfl;kernel_rfl;kernel_rfl;kernel_rfl;exact rfl;exact rfl;exact (fun _ _ _ h=>h);exact hH;exact rfl;(intro w2 hw2;((with_reducible apply Loads.sc c8);exact rfl;exact a2P hw2.1 rfl));exact rfl)
  refine s7 (i:=10) (by kernel_rfl) ?_
  refine t5 rfl (Gets.of_runs fun a ha=>b4Z rfl rfl (by omega) (by omega) a ha _) rfl ?_
  rintro _ _ ⟨rfl,rfl⟩
  refine ⟨Or.inr (Or.inr hH),?_⟩
  refine s7 (i:=11) (by kernel_rfl) ?_
  ((with_reducible apply b0x c8);(iterate 3 exact rfl);((exact rfl));exact rfl)
  refine ⟨Or.inr (Or.inr hH),?_⟩
  refine s7 (i:=12) (by kernel_rfl) ?_
  refine t5 rfl (y8 hS c8 rfl rfl rfl rfl rfl rfl) rfl ?_
  rintro _ w' ⟨g9,rfl,hS'⟩
  clear hS;have hS:=hS';clear hS'
  refine ⟨Or.inr (Or.inr ⟨hS.at_ (i:=3) rfl,hS.at_ (i:=2) rfl⟩),?_⟩
  refine s7 (i:=13) (by kernel_rfl) ?_
  refine t5 rfl (a0z hS c8 (i:=5) rfl rfl rfl rfl (hS.rowRo 0 rfl) rfl (by simp only [List.length_map];omega)) rfl ?_
  rintro _ w' ⟨p',c',rfl,hS'⟩
  simp only [List.set] at hS'
  clear hS;have hS:=hS';clear hS'
  have hH:=And.intro (hS.at_ (i:=3) rfl) (hS.at_ (i:=2) rfl)
  refine ⟨Or.inr (Or.inr hH),?_⟩
  ((with_reducible apply l4 14 c8);exact rfl;kernel_rfl;kernel_rfl;kernel_rfl;exact rfl;exact (fun _ _ _ h=>h);exact Or.inr hH;exact rfl;exact rfl)
  ((with_reducible apply l4 15 c8);exact rfl;kernel_rfl;kernel_rfl;kernel_rfl;exact rfl;exact (fun _ _ _ h=>h);exact Or.inr hH;exact rfl;exact rfl)
  refine s7 (i:=16) (by kernel_rfl) ?_
  refine a0L (Φ:=fun _ w'=>St _ _ w' _) rfl (o8 hS c8 (i:=3) rfl rfl rfl rfl rfl (Nat.le_of_ble_eq_true rfl) (by intro u hu;simp [Value.cells] at hu;subst hu;rfl)) ?_
  intro _ w' hS'
  simp only [List.set] at hS'
  clear hS;have hS:=hS';clear hS'
  refine ⟨Or.inl rfl,?_⟩
  refine a1a (by kernel_rfl) ?_
  repeat' ((first|(with_reducible first|apply d8|apply d5)))
  (focus ((with_reducible apply a0X _ _ _ 12 (by kernel_rfl) (by kernel_rfl) hS);(simp only [List.take_succ_cons,List.take_zero,List.drop_succ_cons,List.drop_zero]);(repeat' ((first|((with_reducible apply a1v);exact rfl;exact rfl;omega;omega;exact rfl)|((with_reducible apply o5 c8);exact rfl;exact rfl)|((with_reducible apply n6);exact rfl;(intro wd hd;replace hd:St _ _ wd _:=hd;(((with_reducible apply Loads.sc c8);exact rfl;(first|exact hd.blkC 1 rfl rfl|exact hd.blkC 3 rfl rfl))));exact rfl))));all_goals ((with_reducible apply r5);intro w' hS';clear hS;have hS:=hS';clear hS')))
  repeat' (first|(first|((with_reducible apply d6 c8);exact rfl;exact rfl)|(((with_reducible apply i7 hS c8 (i:=3));(iterate 8 exact rfl);((exact (rfl:_=[_,_,_,_])));intro w' hS';simp only [List.set] at hS';clear hS;have hS:=hS';clear hS')))|(first|(with_reducible first|apply d8|apply c9|apply d7|apply d5|apply j5)))
  (apply j6);(repeat (first|exact ResL.nil|(apply ResL.tmp;exact rfl)))
  have hS2:=hS.drop.drop.drop
  clear hS
  refine ⟨rfl,p',c',es',cc',⟨_,hL',?_⟩,?_⟩
  ·rw [List.map_append,hLk,List.map_append]
   rfl
  ·unfold LkS
   rw [List.length_append,List.map_append]
   rw [List.length_map] at hS2
   exact hS2
end Go.Proofs.Ytejnpppejalhfac
/- Which images a link places, in plain Lean. -/
namespace Go.Proofs.Ytejnpppejalhfac
open Go.RowKit Go.Sort
structure ImF (F:Nat→Prop) (w:World) (o:Ob):Prop where
 needs:Sl F w 1 o.vn (o.im.needs.map stC)
 segs:Sl F w 5 o.vs (o.im.segs.map sgC)
 syms:Sl F w 2 o.vy (o.im.syms.map syC)
 rels:Sl F w 3 o.vr (o.im.rels.map rlC)
theorem ImF.now {F:Nat→Prop} {w w':World} {Γ:List Asr} {o:Ob} (h:ImF F w o) (hS:St F w w' Γ):ObV w' o:=⟨h.needs.now hS,h.segs.now hS,h.syms.now hS,h.rels.now hS⟩
def a6u (o:Ob):Value:=.agg (imC o.im o.vn o.vs o.vy o.vr).toArray
def OfB (B:List Ob) (o:Ob):Prop:=∃ a:Int,{ o with at_:=a } ∈ B
structure a9l (I:Im):Prop where
 s1:1≤I.segs.length
 s2:I.segs.all a2m=true
 s3:I.segs.length≤6
def v9 (s:List Ob×Int) (o:Ob):List Ob×Int:=(a6o s.1 s.2 o.im o.vn o.vs o.vy o.vr,a3Z s.1 s.2 o.im)
def a4W (B:List Ob) (nm:List UInt8):Option Ob:=B.find? fun o=>decide (o.im.name=nm)
def a1h (B:List Ob):List (List UInt8)→List Ob×Int→Option (List Ob×Int)
 |[],s=>some s
 |nm::r,s=>match a4W B nm with
  |none=>none
  |some o=>a1h B r (v9 s o)
def a3l (B:List Ob):Nat→Nat→List Ob×Int→Option (List Ob×Int)
 |0,_,s=>some s
 |f + 1,n,s=>match s.1[n]? with
  |none=>some s
  |some o=>match a1h B o.im.needs s with
   |none=>none
   |some s'=>a3l B f (n + 1) s'
structure AllI (B:List Ob) (s:List Ob×Int):Prop where
 sub:∀ o ∈ s.1,OfB B o
 nd:(s.1.map fun o=>o.im.name).Nodup
 lo:1≤s.2
 hi:s.2≤1 + 255 * s.1.length
theorem a4M {α:Type} [DecidableEq α]:∀ {l m:List α},l.Nodup→(∀ x ∈ l,x ∈ m)→l.length≤m.length
 |[],_,_,_=>by simp
 |a::l,m,h,hs=>by
  rw [List.nodup_cons] at h
  have ha:=hs a (by simp)
  have:=a4M (l:=l) (m:=m.erase a) h.2 fun x hx=>by
   refine (List.mem_erase_of_ne ?_).2 (hs x (List.mem_cons_of_mem _ hx))
   rintro rfl
   exact h.1 hx
  rw [List.length_erase_of_mem ha] at this
  have hm:0 < m.length:=List.length_pos_of_mem ha
  rw [List.length_cons]
  omega
theorem AllI.len {B:List Ob} {s:List Ob×Int} (h:AllI B s):s.1.length≤B.length:=by
 have:=a4M (m:=B.map fun o=>o.im.name) h.nd fun x hx=>by
  obtain ⟨o,ho,rfl⟩:=List.mem_map.1 hx
  obtain ⟨a,ha⟩:=h.sub o ho
  exact List.mem_map.2 ⟨_,ha,rfl⟩
 simpa using this
theorem a5Y {I:Im} (h:a9l I):0≤a1q I∧a1q I≤255:=by
 unfold a1q
 split
 ·rename_i s hs
  have:=List.all_eq_true.1 h.s2 s (List.mem_of_getLast? hs)
  unfold a2m at this
  have:=of_decide_eq_true this
  omega
 ·omega
theorem AllI.step {B:List Ob} {s:List Ob×Int} {o:Ob} (h:AllI B s) (ho:o ∈ B) (hI:a9l o.im):AllI B (v9 s o):=by
 unfold v9 a6o a3Z
 by_cases hp:a7D s.1 o.im.name=true
 ·rw [if_pos hp,if_pos hp];exact h
 ·rw [if_neg hp,if_neg hp]
  have hl:=a5Y hI
  refine ⟨fun x hx=>?_,?_,?_,?_⟩
  ·rcases List.mem_append.1 hx with h1|h1
   ·exact h.sub x h1
   ·have:x=⟨o.im,o.vn,o.vs,o.vy,o.vr,s.2 * 16⟩:=by simpa using h1
    exact ⟨o.at_,by rw [this];exact ho⟩
  ·rw [List.map_append,List.nodup_append]
   refine ⟨h.nd,by simp,fun a ha b hb=>?_⟩
   have:b=o.im.name:=by simpa using hb
   subst this
   rintro rfl
   obtain ⟨x,hx,e⟩:=List.mem_map.1 ha
   exact hp (a4d.2 ⟨x,hx,e⟩)
  ·have:=h.lo
   show 1≤s.2 + a1q o.im
   omega
  ·have:=h.hi
   show s.2 + a1q o.im≤1 + 255 * ((s.1++[_]).length:Int)
   rw [List.length_append]
   simp only [List.length_cons,List.length_nil]
   omega
theorem a6z {B:List Ob} {nm:List UInt8} {o:Ob} (h:a4W B nm=some o):o ∈ B∧o.im.name=nm:=by
 unfold a4W at h
 exact ⟨List.mem_of_find?_eq_some h,by simpa using List.find?_some h⟩
theorem a9D {B:List Ob} {nm:List UInt8} (h:a4W B nm=none):∀ o ∈ B,o.im.name≠nm:=by
 unfold a4W at h
 rw [List.find?_eq_none] at h
 exact fun o ho=>by simpa using h o ho
theorem a8q {B:List Ob} {l:List (List UInt8)} {k:Nat} {nm:List UInt8} {s:List Ob×Int} (h:l[k]?=some nm):a1h B (l.drop k) s=match a4W B nm with
  |none=>none
  |some o=>a1h B (l.drop (k + 1)) (v9 s o):=by
 have:l.drop k=nm::l.drop (k + 1):=by
  obtain ⟨h1,rfl⟩:=List.getElem?_eq_some_iff.1 h
  exact List.drop_eq_getElem_cons h1
 rw [this];rfl
end Go.Proofs.Ytejnpppejalhfac
