/- Texts that the proof stands on, one behind the other: Im6, Im7, Im8, Lk12, Lk14, Lk15, Im9, Im10, Lk16, PlOf, PlRd, Im21, Lk17, Lk18, Ke2, Lk19. -/
import Derived.Test.YtejnpppejalhfacPKernelEmpty6
/- An image: what lies apart. -/
namespace Go.Proofs.Ytejnpppejalhfac
open Go.RowKit Go.Sort
theorem b3G {I:Im} (h1:Ch I.segs) (h2:¬ Dup (I.syms.map (·.name))) (h3:¬ Dup I.needs):a6q I=true:=a35 ⟨h1,h2,h3⟩
theorem b5v {I:Im} (h1:¬ Ch I.segs):a6q I=false:=a2Y fun h=>h1 h.1
theorem b5u {I:Im} (h2:Dup (I.syms.map (·.name))):a6q I=false:=a2Y fun h=>h.2.1 h2
theorem b47 {I:Im} (h2:Dup I.needs):a6q I=false:=a2Y fun h=>h.2.2 h2
def syN (I:Im) (i:Nat):List (List UInt8):=(I.syms.take i).map (·.name)
theorem b28 {I:Im} {i:Nat} {x:Sy} (hx:I.syms[i]?=some x):(syN I i).map stC++[stC x.name]=(syN I (i + 1)).map stC:=by
 unfold syN;rw [a2v hx];simp
theorem b4D {I:Im} (h:ImB I) (i:Nat):((syN I i).map stC).length≤1048576:=by
 have h2:=h.syms
 simp only [syN,List.length_map,List.length_take];omega
theorem b3M {I:Im} {i:Nat} (h:I.syms.length≤i):syN I i=I.syms.map (·.name):=by unfold syN;rw [List.take_of_length_le h]
set_option maxRecDepth 100000 in
set_option maxHeartbeats 2000000 in
theorem a56 {I:Im} {w:World} {vn vs vy vr:Value} (hI:ImV w I vn vs vy vr) (hB:ImB I) (hok:a4F I=true):Fn Try.prog 74 [imA I vn vs vy vr] w (RBf (.int .i64 (if a6q I=true then 0 else 5)) w):=by
 have bn:=hI.needs.bound;have bs:=hI.segs.bound;have by_:=hI.syms.bound;have br:=hI.rels.bound;obtain ⟨pn,cn,rfl⟩:=hI.needs.len;obtain ⟨ps,cs,rfl⟩:=hI.segs.len;obtain ⟨py,cy,rfl⟩:=hI.syms.len;obtain ⟨pr,cr,rfl⟩:=hI.rels.len
 refine j0 (fn:=Try.f74) ⟨Try.func74,by kernel_rfl,by kernel_rfl⟩ (by exact rfl) Try.ntmps74 (by exact rfl) ?_
 have hS:=St.start w
 have hb2:=hB.syms
 repeat' (first|(first|((with_reducible apply d6 c8);exact rfl;exact rfl)|((with_reducible apply p7 hS);(iterate 3 exact rfl);intro g w' hS';clear hS;have hS:=hS';clear hS'))|(first|(with_reducible first|apply d8|apply c9|apply d7|apply d5|apply e7)))
 refine a1f hS 3 [1] rfl (I.segs.length + 1) (fun i=>1≤i∧∀ (j:Nat) (a b:Sg),j + 1 < i→I.segs[j]?=some a→I.segs[j + 1]?=some b→a.pg + a.n≤b.pg) 1 rfl (by omega) ⟨Nat.le_refl _,by intros;omega⟩ ?_
 rintro i w1 hi ⟨hi1,hall⟩ hS'
 clear hS;have hS:=hS';clear hS'
 by_cases hlt:i < I.segs.length
 ·obtain ⟨x,hx⟩:=l8 (l:=I.segs) (i:=i) (by omega)
  have hrow:=j9 (f:=sgC) hx
  obtain ⟨b,off,rfl,hro⟩:=(hI.segs).at_ hlt
  obtain ⟨y,hy⟩:=l8 (l:=I.segs) (i:=i - 1) (by omega)
  have hrow2:=j9 (f:=sgC) hy
  have hix:((i - 1:Nat):Int)=(i:Int) - 1:=by omega
  obtain ⟨o1,o2,o3,o4,-⟩:=a6C hok hx
  obtain ⟨u1,u2,u3,u4,-⟩:=a6C hok hy
  repeat' (first|(first|((with_reducible apply m0);exact rfl;exact rfl;omega;omega;exact rfl)|((with_reducible apply d6 c8);exact rfl;exact rfl)|((with_reducible apply d9);exact rfl;(((with_reducible apply Loads.sl c8);exact rfl;((exact hS.blkC 0 rfl rfl))));exact rfl))|(first|(with_reducible first|apply d8|apply c9|apply d7|apply d5|apply g8|apply e7|apply j5|apply e6|apply k8|apply j8))|(((with_reducible apply k6);exact rfl;all_goals (intro hb hp;try (exfalso;omega))))|(focus ((with_reducible apply m7 nF _ _ (by kernel_rfl) (by kernel_rfl) hS);(repeat' ((first|((with_reducible apply a1v);exact rfl;exact rfl;omega;omega;exact rfl)|((with_reducible apply a3G);exact rfl;exact rfl;omega;omega;exact rfl)|((with_reducible apply o5 c8);exact rfl;exact rfl)|((with_reducible apply n6);exact rfl;(intro wd hd;replace hd:St _ _ wd _:=hd;(first|((with_reducible apply Loads.sc c8);exact rfl;(first|exact hd.roC0 (by assumption) (by assumption) rfl|exact hd.roC (by assumption) (by assumption) rfl))|((with_reducible apply Loads.sl c8);exact rfl;((exact hd.blkC 0 rfl rfl)))));exact rfl)|((with_reducible apply a05 c8);(iterate 3 exact rfl);(first|exact rfl|assumption);((omega));exact rfl))));all_goals ((with_reducible apply r5);intro w' hS';clear hS;have hS:=hS';clear hS'))))
  ·(apply j6);(repeat (first|exact ResL.nil|(apply ResL.tmp;exact rfl)))
   refine ⟨?_,hS.sub (List.nil_sublist _)⟩
   rw [if_neg (by rw [b5v (fun h=>by have:=h (i - 1) y x hy (by rw [show i - 1 + 1=i by omega];exact hx);omega)];simp)]
  ·refine a02 (i + 1) (by repeat (first|exact Fr.sub_nil _|(apply Fr.sub_cons;exact rfl))) (by omega) ⟨by omega,fun j a b h1 h2 h3=>?_⟩ (by omega) hS
   by_cases e:j=i - 1
   ·subst e
    rw [show i - 1 + 1=i by omega] at h3
    rw [hy] at h2
    rw [hx] at h3
    cases h2
    cases h3
    omega
   ·exact hall j a b (by omega) h2 h3
 have hch:Ch I.segs:=fun j a b h1 h2=>hall j a b (by have:=j3 h2;omega) h1 h2
 repeat' (first|(first|((with_reducible apply d6 c8);exact rfl;exact rfl)|((with_reducible apply d9);exact rfl;(((with_reducible apply Loads.sl c8);exact rfl;((exact hS.blkC 0 rfl rfl))));exact rfl))|(first|(with_reducible first|apply d8|apply c9|apply d7|apply d5|apply e7|apply n5|apply j4|apply i9))|(((with_reducible apply k6);exact rfl;all_goals (intro hb hp;try (exfalso;omega)))))
 replace hS:=hS.addNil 9 1
 rw [show ([]:List (List Value))=(syN I 0).map stC from rfl] at hS
 refine o6 (X:=Nat×Option Addr×Nat×Nat) (fun x=>[(39,.int .i64 (x.1:Nat)),(4,.slice x.2.1 x.2.2.1 x.2.2.2)]) [1,37,38] rfl (fun x=>[.row 9 1 (.slice x.2.1 x.2.2.1 x.2.2.2) ((syN I x.1).map stC)]) (fun x=>x.1≤I.syms.length) (fun x=>I.syms.length - x.1) (0,none,0,0) (by repeat (first|exact Fr.sub_nil _|(apply Fr.sub_cons;exact rfl))) (by exact Nat.zero_le _) hS ?_
 clear hi hlt hb hp hall hi1 hS
 rintro ⟨j,q1,q2,q3⟩ w1 hi hS
 simp only [List.cons_append,List.nil_append] at hi hS ⊢
 by_cases hlt:j < I.syms.length
 ·obtain ⟨x,hx⟩:=l8 (l:=I.syms) (i:=j) (by omega)
  have hrow:=j9 (f:=syC) hx
  obtain ⟨b,off,rfl,hro⟩:=hI.syms.at_ hlt
  have hl1:=b4D hB j
  repeat' (first|(first|((with_reducible apply m0);exact rfl;exact rfl;omega;omega;exact rfl)|((with_reducible apply d6 c8);exact rfl;exact rfl)|((with_reducible apply d9);exact rfl;(first|((with_reducible apply Loads.sc c8);exact rfl;((exact hS.blkC 0 rfl rfl)))|((with_reducible apply Loads.st c8);exact rfl;((exact hS.roR (by assumption) (by assumption)));exact rfl));exact rfl)|((with_reducible apply p8 c8);(iterate 3 exact rfl);((exact rfl));((omega));exact rfl)|((with_reducible apply j7 hS c8);(iterate 3 exact rfl);intro g w' hS';clear hS;have hS:=hS';clear hS')|(((with_reducible apply i7 hS c8 (i:=0));(iterate 8 exact rfl);((exact (rfl:_=[_,_])));intro w' hS';simp only [List.set] at hS';clear hS;have hS:=hS';clear hS'))|((with_reducible apply a0v hS c8);(iterate 7 exact rfl);intro g w' hS';clear hS;have hS:=hS';clear hS'))|(first|(with_reducible first|apply d8|apply c9|apply d7|apply d5|apply g8|apply e7|apply k8))|(((with_reducible apply k6);exact rfl;all_goals (intro hb hp;try (exfalso;omega))))|((with_reducible apply a26 hS c8 2);(iterate 4 exact rfl);exact hS.rowRo 0 rfl;exact rfl;((omega));exact rfl;intro p' cap' w' hS';simp only [List.set] at hS';clear hS;have hS:=hS';clear hS'))
  rw [show [[.string ⟨x.name.toArray⟩]]=[stC x.name] from rfl,b28 hx] at hS
  refine m6 (j + 1,p',_,cap') (by repeat (first|exact Fr.sub_nil _|(apply Fr.sub_cons;exact rfl))) (by show j + 1≤I.syms.length;omega) ?_ (by show I.syms.length - (j + 1) < I.syms.length - j;omega)
  exact (hS.drop.drop)
 rw [b3M (by omega)] at hS
 repeat' (first|(first|((with_reducible apply d6 c8);exact rfl;exact rfl)|((with_reducible apply d9);exact rfl;(((with_reducible apply Loads.sl c8);exact rfl;((exact hS.blkC 1 rfl rfl))));exact rfl)|(first|((with_reducible apply p9);(iterate 4 exact rfl);(assumption))|((with_reducible apply a0f);(iterate 4 exact rfl);((assumption));exact rfl)|((with_reducible apply r6);(iterate 3 exact rfl);all_goals (intro hb hp;try (exfalso;omega)))|((with_reducible apply m9);exact rfl;((assumption));exact rfl;exact rfl)|((with_reducible apply n0);exact rfl;((assumption));exact rfl;exact rfl)))|(first|(with_reducible first|apply d8|apply c9|apply d7|apply d5|apply g8|apply n5|apply j5|apply j4|apply e6|apply i9))|(first|((with_reducible apply k9);exact rfl;(exact rfl))|((with_reducible apply k6);exact rfl;all_goals (intro hb hp;try (exfalso;omega))))|((with_reducible apply e8);exact rfl;exact rfl;exact a8J (hS.rowSl 0 rfl);exact rfl;rintro _ w' ⟨rfl,hS'⟩;replace hS:=hS.transA hS';simp only [k7] at hS;clear hS')|((with_reducible apply e8);exact rfl;exact rfl;exact a8J (hI.needs.now hS);exact rfl;rintro _ w' ⟨rfl,hS'⟩;replace hS:=hS.transA hS';simp only [k7] at hS;clear hS'))
 all_goals (apply j6);(repeat (first|exact ResL.nil|(apply ResL.tmp;exact rfl)))
 all_goals refine ⟨?_,hS.sub (List.nil_sublist _)⟩
 ·rw [if_neg (by rw [b5u hp];simp)]
 ·rw [if_neg (by rw [b47 hp];simp)]
 ·rw [if_pos (b3G hch (by assumption) hp)]
end Go.Proofs.Ytejnpppejalhfac
/- An image: places. -/
namespace Go.Proofs.Ytejnpppejalhfac
open Go.RowKit Go.Sort
theorem b4U {I:Im} {w:World} {vn vs vy vr:Value} {x0:Int} {o:Option Sg} (e:own I.segs x0=o) (hI:ImV w I vn vs vy vr) (hok:a4F I=true):Fn Try.prog 86 [imA I vn vs vy vr,.int .i64 x0] w (RBf (.tuple #[.agg (sgC (o.getD b3r)).toArray,.bool o.isSome]) w):=by
 subst e
 exact a97 x0 hI hok
theorem b4A {I:Im} (hok:a4F I=true) {x:Int} {s:Sg} (h:own I.segs x=some s):0≤x:=by
 have h1:=List.find?_some h
 have h2:=List.mem_of_find?_eq_some h
 obtain ⟨k,hk⟩:=List.mem_iff_getElem?.1 h2
 obtain ⟨o1,o2,o3,o4,-⟩:=a6C hok hk
 unfold a6a at h1
 rw [decide_eq_true_eq] at h1
 omega
structure PlR (I:Im) (i:Nat):Prop where
 rels:∀ (k:Nat) (r:Rl),k < i→I.rels[k]?=some r→(0≤r.at_∧r.at_≤4080)∧∀ b:Int,0≤b→b < 8→(own I.segs (r.at_ + b)).isSome=true
 step:∀ (k:Nat) (q r:Rl),k + 1 < i→I.rels[k]?=some q→I.rels[k + 1]?=some r→q.at_ + 8≤r.at_
theorem PlR.zero (I:Im):PlR I 0:=⟨by intros;omega,by intros;omega⟩
theorem PlR.succ {I:Im} {i:Nat} {x:Rl} (h:PlR I i) (hx:I.rels[i]?=some x) (h1:0≤x.at_∧x.at_≤4080) (h2:∀ b:Int,0≤b→b < 8→(own I.segs (x.at_ + b)).isSome=true) (h3:∀ q,0 < i→I.rels[i - 1]?=some q→q.at_ + 8≤x.at_):PlR I (i + 1) where
 rels k r hk hr:=by
  by_cases e:k=i
  ·subst e;rw [hx] at hr;cases hr;exact ⟨h1,h2⟩
  ·exact h.rels k r (by omega) hr
 step k q r hk hq hr:=by
  by_cases e:k + 1=i
  ·subst e;rw [hx] at hr;cases hr;exact h3 q (by omega) (by simpa using hq)
  ·exact h.step k q r (by omega) hq hr
theorem a3K {α:Type} {o:Option α} (h:(!o.isSome)=false):o.isSome=true:=by simpa using h
set_option maxRecDepth 100000 in
set_option maxHeartbeats 4000000 in
theorem a6S {I:Im} {w:World} {vn vs vy vr:Value} (hI:ImV w I vn vs vy vr) (hok:a4F I=true):Fn Try.prog 75 [imA I vn vs vy vr] w (RBf (.int .i64 (if a8e I=true then 0 else 6)) w):=by
 have bn:=hI.needs.bound;have bs:=hI.segs.bound;have by_:=hI.syms.bound;have br:=hI.rels.bound;obtain ⟨pn,cn,rfl⟩:=hI.needs.len;obtain ⟨ps,cs,rfl⟩:=hI.segs.len;obtain ⟨py,cy,rfl⟩:=hI.syms.len;obtain ⟨pr,cr,rfl⟩:=hI.rels.len
 refine j0 (fn:=Try.f75) ⟨Try.func75,by kernel_rfl,by kernel_rfl⟩ (by exact rfl) Try.ntmps75 (by exact rfl) ?_
 have hS:=St.start w
 have no:¬ Plc I→(if a8e I=true then (0:Int) else 6)=6:=fun h=>if_neg (by rw [a8e,a2Y h];simp)
 repeat' (first|(first|((with_reducible apply d6 c8);exact rfl;exact rfl)|((with_reducible apply d9);exact rfl;(((with_reducible apply Loads.sl c8);exact rfl;((exact hS.blkC 0 rfl rfl))));exact rfl)|((with_reducible apply p7 hS);(iterate 3 exact rfl);intro g w' hS';clear hS;have hS:=hS';clear hS'))|(first|(with_reducible first|apply d8|apply c9|apply d7|apply d5|apply e7)))
 refine a1f hS 17 [1,15,16] rfl (I.syms.length) (fun i=>(I.syms.take i).all (fun s=>(own I.segs s.at_).isSome)=true) 0 rfl (Nat.zero_le _) (by (rfl)) ?_
 rintro i w1 hi hall hS'
 clear hS;have hS:=hS';clear hS'
 by_cases hlt:i < I.syms.length
 ·obtain ⟨x,hx⟩:=l8 (l:=I.syms) (i:=i) (by omega)
  have hrow:=j9 (f:=syC) hx
  obtain ⟨b,off,rfl,hro⟩:=(hI.syms).at_ hlt
  repeat' (first|(first|((with_reducible apply m0);exact rfl;exact rfl;omega;omega;exact rfl)|((with_reducible apply d6 c8);exact rfl;exact rfl)|((with_reducible apply d9);exact rfl;(first|((with_reducible apply Loads.sc c8);exact rfl;((exact hS.blkC 0 rfl rfl)))|((with_reducible apply Loads.st c8);exact rfl;(first|exact hS.blkR 1 rfl|exact hS.roR (by assumption) (by assumption));exact rfl));exact rfl)|((with_reducible apply p8 c8);(iterate 3 exact rfl);((exact rfl));((omega));exact rfl)|((with_reducible apply j7 hS c8);(iterate 3 exact rfl);intro g w' hS';clear hS;have hS:=hS';clear hS')|(((with_reducible apply i7 hS c8 (i:=0));(iterate 8 exact rfl);(first|exact (rfl:_=[_,_])|exact (rfl:_=[_,_,_,_,_]));intro w' hS';simp only [List.set] at hS';clear hS;have hS:=hS';clear hS')))|(first|(with_reducible first|apply d8|apply c9|apply d7|apply d5|apply g8|apply e7|apply j5|apply e6|apply k8|apply j8))|(first|((with_reducible apply k6);exact rfl;all_goals (intro hb hp;try (exfalso;omega)))|((with_reducible apply a8i);exact rfl;all_goals (intro hb hp;try (exfalso;omega))))|((with_reducible apply e8);exact rfl;exact rfl;exact a97 x.at_ (hI.now hS) hok;exact rfl;rintro _ w' ⟨rfl,hS'⟩;replace hS:=hS.transA hS';simp only [k7] at hS;clear hS'))
  ·(apply j6);(repeat (first|exact ResL.nil|(apply ResL.tmp;exact rfl)))
   refine ⟨?_,hS.sub (List.nil_sublist _)⟩
   rw [no fun h=>by have:=h.syms x (List.mem_of_getElem? hx);rw [this] at hb;cases hb]
  ·exact a02 (i + 1) (by repeat (first|exact Fr.sub_nil _|(apply Fr.sub_cons;exact rfl))) (by omega) (t0 hall hx (a3K hb)) (by omega) hS.drop.drop
 have hsy:=a1J hall (by omega)
 repeat' (first|(first|((with_reducible apply d6 c8);exact rfl;exact rfl)|((with_reducible apply d9);exact rfl;(((with_reducible apply Loads.sl c8);exact rfl;((exact hS.blkC 0 rfl rfl))));exact rfl))|(first|(with_reducible first|apply d8|apply c9|apply d7|apply d5|apply e7|apply n5|apply j4|apply i9))|(((with_reducible apply k6);exact rfl;all_goals (intro hb hp;try (exfalso;omega)))))
 clear hall hi hlt hb hp
 refine a1f hS 34 [1,32,33] rfl I.rels.length (fun i=>PlR I i) 0 rfl (Nat.zero_le _) (PlR.zero I) ?_
 rintro i w1 hi hall hS'
 clear hS;have hS:=hS';clear hS'
 by_cases hlt:i < I.rels.length
 ·obtain ⟨x,hx⟩:=l8 (l:=I.rels) (i:=i) (by omega)
  have hrow:=j9 (f:=rlC) hx
  obtain ⟨b,off,rfl,hro⟩:=(hI.rels).at_ hlt
  by_cases hk0:i=0
  ·repeat' (first|(first|((with_reducible apply d6 c8);exact rfl;exact rfl)|((with_reducible apply d9);exact rfl;(((with_reducible apply Loads.st c8);exact rfl;((exact hS.roR (by assumption) (by assumption)));exact rfl));exact rfl)|((with_reducible apply p8 c8);(iterate 3 exact rfl);((exact rfl));((omega));exact rfl)|((with_reducible apply j7 hS c8);(iterate 3 exact rfl);intro g w' hS';clear hS;have hS:=hS';clear hS')|(((with_reducible apply i7 hS c8 (i:=0));(iterate 8 exact rfl);((exact (rfl:_=[_,_,_])));intro w' hS';simp only [List.set] at hS';clear hS;have hS:=hS';clear hS')))|(first|(with_reducible first|apply d8|apply c9|apply d7|apply d5|apply g8|apply e7|apply j5|apply e6|apply j8))|(first|((with_reducible apply k9);exact rfl;(exact rfl))|((with_reducible apply l6);exact rfl;(exact rfl))|((with_reducible apply k6);exact rfl;all_goals (intro hb hp;try (exfalso;omega))))|(focus ((with_reducible apply m7 nF _ _ (by kernel_rfl) (by kernel_rfl) hS);(repeat' ((first|((with_reducible apply o5 c8);exact rfl;exact rfl)|((with_reducible apply n6);exact rfl;(intro wd hd;replace hd:St _ _ wd _:=hd;(((with_reducible apply Loads.sc c8);exact rfl;((exact hd.blkC 0 rfl rfl)))));exact rfl)|(first|((with_reducible apply a3H);(iterate 4 exact rfl);(assumption))|((with_reducible apply a7A);(iterate 4 exact rfl);(first|exact rfl|assumption);exact rfl)|((with_reducible apply a7S);(iterate 5 exact rfl))|((with_reducible apply a1K);(iterate 3 exact rfl);all_goals (intro hb hp;try (exfalso;omega)))|((with_reducible apply a1b);exact rfl;(first|exact rfl|assumption);exact rfl;exact rfl)|((with_reducible apply a1L);exact rfl;((assumption));exact rfl;exact rfl)))));all_goals ((with_reducible apply r5);intro w' hS';clear hS;have hS:=hS';clear hS'))))
   ·(apply j6);(repeat (first|exact ResL.nil|(apply ResL.tmp;exact rfl)))
    refine ⟨?_,hS.sub (List.nil_sublist _)⟩
    rw [no fun h=>by have:=(h.rels i x hx).1;omega]
   ·(apply j6);(repeat (first|exact ResL.nil|(apply ResL.tmp;exact rfl)))
    refine ⟨?_,hS.sub (List.nil_sublist _)⟩
    rw [no fun h=>by have:=(h.rels i x hx).1;omega]
   ·have hst:∀ q,0 < i→I.rels[i - 1]?=some q→q.at_ + 8≤x.at_:=fun q h=>by omega
    refine a1f hS 64 [1,8,34,32,33] rfl 8 (fun b=>∀ c:Int,0≤c→c < b→(own I.segs (x.at_ + c)).isSome=true) 0 rfl (by omega) (by intros;omega) ?_
    rintro b2 w1 hi2 hall2 hS'
    clear hS;have hS:=hS';clear hS'
    by_cases hlt2:b2 < 8
    ·repeat' (first|(first|((with_reducible apply m0);exact rfl;exact rfl;omega;omega;exact rfl)|((with_reducible apply d6 c8);exact rfl;exact rfl)|((with_reducible apply d9);exact rfl;(first|((with_reducible apply Loads.sc c8);exact rfl;((exact hS.blkC 0 rfl rfl)))|((with_reducible apply Loads.st c8);exact rfl;((exact hS.blkR 1 rfl));exact rfl));exact rfl)|((with_reducible apply j7 hS c8);(iterate 3 exact rfl);intro g w' hS';clear hS;have hS:=hS';clear hS')|(((with_reducible apply i7 hS c8 (i:=0));(iterate 8 exact rfl);((exact (rfl:_=[_,_,_,_,_])));intro w' hS';simp only [List.set] at hS';clear hS;have hS:=hS';clear hS')))|(first|(with_reducible first|apply d8|apply c9|apply d7|apply d5|apply g8|apply e7|apply j5|apply e6|apply k8|apply j8))|(first|((with_reducible apply k6);exact rfl;all_goals (intro hb hp;try (exfalso;omega)))|((with_reducible apply a8i);exact rfl;all_goals (intro hb hp;try (exfalso;omega))))|((with_reducible apply e8);exact rfl;exact rfl;exact a97 (x.at_ + b2) (hI.now hS) hok;exact rfl;rintro _ w' ⟨rfl,hS'⟩;replace hS:=hS.transA hS';simp only [k7] at hS;clear hS'))
     ·(apply j6);(repeat (first|exact ResL.nil|(apply ResL.tmp;exact rfl)))
      refine ⟨?_,hS.sub (List.nil_sublist _)⟩
      rw [no fun h=>by have:=(h.rels i x hx).2 b2 (by omega) (by omega);rw [this] at hb;cases hb]
     ·refine a02 (b2 + 1) (by repeat (first|exact Fr.sub_nil _|(apply Fr.sub_cons;exact rfl))) (by omega) (fun c h1 h2=>?_) (by omega) hS.drop
      by_cases e:c=b2
      ·subst e;exact a3K hb
      ·exact hall2 c h1 (by omega)
    ·repeat' (first|(first|((with_reducible apply m0);exact rfl;exact rfl;omega;omega;exact rfl)|((with_reducible apply d6 c8);exact rfl;exact rfl))|(first|(with_reducible first|apply d8|apply c9|apply d7|apply d5|apply n5|apply j4|apply k8|apply i9))|(((with_reducible apply k6);exact rfl;all_goals (intro hb hp;try (exfalso;omega)))))
     exact a02 (i + 1) (by repeat (first|exact Fr.sub_nil _|(apply Fr.sub_cons;exact rfl))) (by omega) (hall.succ hx (by omega) (fun c h1 h2=>hall2 c h1 (by omega)) hst) (by omega) hS.drop
  ·obtain ⟨y,hy⟩:=l8 (l:=I.rels) (i:=i - 1) (by omega)
   have hrow2:=j9 (f:=rlC) hy
   have hix:((i - 1:Nat):Int)=(i:Int) - 1:=by omega
   obtain ⟨⟨y1,y2⟩,-⟩:=hall.rels (i - 1) y (by omega) hy
   repeat' (first|(first|((with_reducible apply d6 c8);exact rfl;exact rfl)|((with_reducible apply d9);exact rfl;(((with_reducible apply Loads.st c8);exact rfl;((exact hS.roR (by assumption) (by assumption)));exact rfl));exact rfl)|((with_reducible apply p8 c8);(iterate 3 exact rfl);((exact rfl));((omega));exact rfl)|((with_reducible apply j7 hS c8);(iterate 3 exact rfl);intro g w' hS';clear hS;have hS:=hS';clear hS')|(((with_reducible apply i7 hS c8 (i:=0));(iterate 8 exact rfl);((exact (rfl:_=[_,_,_])));intro w' hS';simp only [List.set] at hS';clear hS;have hS:=hS';clear hS')))|(first|(with_reducible first|apply d8|apply c9|apply d7|apply d5|apply g8|apply e7|apply j5|apply e6|apply j8))|(first|((with_reducible apply k9);exact rfl;(exact rfl))|((with_reducible apply k6);exact rfl;all_goals (intro hb hp;try (exfalso;omega))))|(focus ((with_reducible apply m7 nF _ _ (by kernel_rfl) (by kernel_rfl) hS);(repeat' ((first|((with_reducible apply a1v);exact rfl;exact rfl;omega;omega;exact rfl)|((with_reducible apply a3G);exact rfl;exact rfl;omega;omega;exact rfl)|((with_reducible apply o5 c8);exact rfl;exact rfl)|((with_reducible apply n6);exact rfl;(intro wd hd;replace hd:St _ _ wd _:=hd;(first|((with_reducible apply Loads.sc c8);exact rfl;(first|exact hd.blkC 0 rfl rfl|exact hd.roC0 (by assumption) (by assumption) rfl))|((with_reducible apply Loads.sl c8);exact rfl;((exact hd.blkC 1 rfl rfl)))));exact rfl)|((with_reducible apply a05 c8);(iterate 3 exact rfl);((assumption));((omega));exact rfl)|(first|((with_reducible apply a3H);(iterate 4 exact rfl);(assumption))|((with_reducible apply a7A);(iterate 4 exact rfl);(first|exact rfl|assumption);exact rfl)|((with_reducible apply a7S);(iterate 5 exact rfl))|((with_reducible apply a1K);(iterate 3 exact rfl);all_goals (intro hb hp;try (exfalso;omega)))|((with_reducible apply a1b);exact rfl;(first|exact rfl|assumption);exact rfl;exact rfl)|((with_reducible apply a1L);exact rfl;((assumption));exact rfl;exact rfl)))));all_goals ((with_reducible apply r5);intro w' hS';clear hS;have hS:=hS';clear hS'))))
   ·(apply j6);(repeat (first|exact ResL.nil|(apply ResL.tmp;exact rfl)))
    refine ⟨?_,hS.sub (List.nil_sublist _)⟩
    rw [no fun h=>by have:=(h.rels i x hx).1;omega]
   ·(apply j6);(repeat (first|exact ResL.nil|(apply ResL.tmp;exact rfl)))
    refine ⟨?_,hS.sub (List.nil_sublist _)⟩
    rw [no fun h=>by have:=(h.rels i x hx).1;omega]
   ·(apply j6);(repeat (first|exact ResL.nil|(apply ResL.tmp;exact rfl)))
    refine ⟨?_,hS.sub (List.nil_sublist _)⟩
    rw [no fun h=>by have:=h.step (i - 1) y x hy (by rw [show i - 1 + 1=i by omega];exact hx);omega]
   ·have hst:∀ q,0 < i→I.rels[i - 1]?=some q→q.at_ + 8≤x.at_:=fun q _ h=>by rw [hy] at h;cases h;omega
    refine a1f hS 64 [1,8,34,32,33] rfl 8 (fun b=>∀ c:Int,0≤c→c < b→(own I.segs (x.at_ + c)).isSome=true) 0 rfl (by omega) (by intros;omega) ?_
    rintro b2 w1 hi2 hall2 hS'
    clear hS;have hS:=hS';clear hS'
    by_cases hlt2:b2 < 8
    ·repeat' (first|(first|((with_reducible apply m0);exact rfl;exact rfl;omega;omega;exact rfl)|((with_reducible apply d6 c8);exact rfl;exact rfl)|((with_reducible apply d9);exact rfl;(first|((with_reducible apply Loads.sc c8);exact rfl;((exact hS.blkC 0 rfl rfl)))|((with_reducible apply Loads.st c8);exact rfl;((exact hS.blkR 1 rfl));exact rfl));exact rfl)|((with_reducible apply j7 hS c8);(iterate 3 exact rfl);intro g w' hS';clear hS;have hS:=hS';clear hS')|(((with_reducible apply i7 hS c8 (i:=0));(iterate 8 exact rfl);((exact (rfl:_=[_,_,_,_,_])));intro w' hS';simp only [List.set] at hS';clear hS;have hS:=hS';clear hS')))|(first|(with_reducible first|apply d8|apply c9|apply d7|apply d5|apply g8|apply e7|apply j5|apply e6|apply k8|apply j8))|(first|((with_reducible apply k6);exact rfl;all_goals (intro hb hp;try (exfalso;omega)))|((with_reducible apply a8i);exact rfl;all_goals (intro hb hp;try (exfalso;omega))))|((with_reducible apply e8);exact rfl;exact rfl;exact a97 (x.at_ + b2) (hI.now hS) hok;exact rfl;rintro _ w' ⟨rfl,hS'⟩;replace hS:=hS.transA hS';simp only [k7] at hS;clear hS'))
     ·(apply j6);(repeat (first|exact ResL.nil|(apply ResL.tmp;exact rfl)))
      refine ⟨?_,hS.sub (List.nil_sublist _)⟩
      rw [no fun h=>by have:=(h.rels i x hx).2 b2 (by omega) (by omega);rw [this] at hb;cases hb]
     ·refine a02 (b2 + 1) (by repeat (first|exact Fr.sub_nil _|(apply Fr.sub_cons;exact rfl))) (by omega) (fun c h1 h2=>?_) (by omega) hS.drop
      by_cases e:c=b2
      ·subst e;exact a3K hb
      ·exact hall2 c h1 (by omega)
    ·repeat' (first|(first|((with_reducible apply m0);exact rfl;exact rfl;omega;omega;exact rfl)|((with_reducible apply d6 c8);exact rfl;exact rfl))|(first|(with_reducible first|apply d8|apply c9|apply d7|apply d5|apply n5|apply j4|apply k8|apply i9))|(((with_reducible apply k6);exact rfl;all_goals (intro hb hp;try (exfalso;omega)))))
     exact a02 (i + 1) (by repeat (first|exact Fr.sub_nil _|(apply Fr.sub_cons;exact rfl))) (by omega) (hall.succ hx (by omega) (fun c h1 h2=>hall2 c h1 (by omega)) hst) (by omega) hS.drop
 ·have hall':PlR I I.rels.length:=by rw [show I.rels.length=i by omega];exact hall
  cases ho:own I.segs I.entry with
  |none=>
   repeat' (first|(first|((with_reducible apply d6 c8);exact rfl;exact rfl)|((with_reducible apply d9);exact rfl;(first|((with_reducible apply Loads.sc c8);exact rfl;((exact hS.blkC 0 rfl rfl)))|((with_reducible apply Loads.st c8);exact rfl;((exact hS.blkR 0 rfl));exact rfl));exact rfl)|((with_reducible apply j7 hS c8);(iterate 3 exact rfl);intro g w' hS';clear hS;have hS:=hS';clear hS')|(((with_reducible apply i7 hS c8 (i:=0));(iterate 8 exact rfl);((exact (rfl:_=[_,_,_,_,_])));intro w' hS';simp only [List.set] at hS';clear hS;have hS:=hS';clear hS'))|(first|((with_reducible apply a0f);(iterate 4 exact rfl);((exact rfl));exact rfl)|((with_reducible apply m9);exact rfl;((exact rfl));exact rfl;exact rfl)))|(first|(with_reducible first|apply d8|apply c9|apply d7|apply d5|apply n5|apply j5|apply j4|apply e6|apply i9))|(first|((with_reducible apply k9);exact rfl;(exact rfl))|((with_reducible apply k6);exact rfl;all_goals (intro hb hp;try (exfalso;omega))))|((with_reducible apply e8);exact rfl;exact rfl;exact b4U ho (hI.now hS) hok;exact rfl;rintro _ w' ⟨rfl,hS'⟩;replace hS:=hS.transA hS';simp only [k7] at hS;clear hS'))
   (apply j6);(repeat (first|exact ResL.nil|(apply ResL.tmp;exact rfl)))
   refine ⟨?_,hS.sub (List.nil_sublist _)⟩
   rw [no fun h=>by obtain ⟨s,hs,_⟩:=h.entry;rw [ho] at hs;cases hs]
  |some s=>
   have hpos:=b4A hok ho
   repeat' (first|(first|((with_reducible apply d6 c8);exact rfl;exact rfl)|((with_reducible apply d9);exact rfl;(first|((with_reducible apply Loads.sc c8);exact rfl;(first|exact hS.blkC 0 rfl rfl|exact hS.blkC 1 rfl rfl))|((with_reducible apply Loads.st c8);exact rfl;((exact hS.blkR 0 rfl));exact rfl));exact rfl)|((with_reducible apply j7 hS c8);(iterate 3 exact rfl);intro g w' hS';clear hS;have hS:=hS';clear hS')|(((with_reducible apply i7 hS c8 (i:=0));(iterate 8 exact rfl);((exact (rfl:_=[_,_,_,_,_])));intro w' hS';simp only [List.set] at hS';clear hS;have hS:=hS';clear hS'))|(first|((with_reducible apply p9);(iterate 4 exact rfl);first|exact rfl|assumption)|((with_reducible apply a0f);(iterate 4 exact rfl);((assumption));exact rfl)|((with_reducible apply b0q);(iterate 3 exact rfl);all_goals (intro hb hp;try (exfalso;omega)))|((with_reducible apply m9);exact rfl;((assumption));exact rfl;exact rfl)|((with_reducible apply n0);exact rfl;(first|exact rfl|assumption);exact rfl;exact rfl)))|(first|(with_reducible first|apply d8|apply c9|apply d7|apply d5|apply g8|apply n5|apply j5|apply j4|apply e6|apply i9))|(first|((with_reducible apply k9);exact rfl;(exact rfl))|((with_reducible apply k6);exact rfl;all_goals (intro hb hp;try (exfalso;omega)))|((with_reducible apply a1e);exact rfl;all_goals (intro hb hp;try (exfalso;omega))))|((with_reducible apply e8);exact rfl;exact rfl;exact b4U ho (hI.now hS) hok;exact rfl;rintro _ w' ⟨rfl,hS'⟩;replace hS:=hS.transA hS';simp only [k7] at hS;clear hS')|((with_reducible apply a24);exact rfl;exact rfl;omega;exact rfl))
   ·(apply j6);(repeat (first|exact ResL.nil|(apply ResL.tmp;exact rfl)))
    refine ⟨?_,hS.sub (List.nil_sublist _)⟩
    rw [no fun h=>by obtain ⟨s',hs,he⟩:=h.entry;rw [ho] at hs;cases hs;have hb':(!s.ex)=true:=hb;rw [he] at hb';cases hb']
   ·(apply j6);(repeat (first|exact ResL.nil|(apply ResL.tmp;exact rfl)))
    refine ⟨?_,hS.sub (List.nil_sublist _)⟩
    rw [no fun h=>hp h.by8]
   ·(apply j6);(repeat (first|exact ResL.nil|(apply ResL.tmp;exact rfl)))
    refine ⟨?_,hS.sub (List.nil_sublist _)⟩
    rw [if_pos]
    refine a35 ⟨fun s hs=>List.all_eq_true.1 hsy s hs,fun k r hr=>hall'.rels k r (j3 hr) hr,fun k q r hq hr=>hall'.step k q r (j3 hr) hq hr,⟨s,ho,?_⟩,hp⟩
    rename_i hb1 hp1
    have hb2:(!s.ex)=false:=hb1
    simpa using hb2
end Go.Proofs.Ytejnpppejalhfac
/- image.Check, and the reference's. -/
namespace Go.Proofs.Ytejnpppejalhfac
open Go.RowKit Go.Sort
theorem Fn.eqv {P:Program} {f:FuncId} {args:List Value} {x y:Value} {w:World} (e:x=y) (h:Fn P f args w (RBf x w)):Fn P f args w (RBf y w):=e ▸ h
theorem a06 {p:Bool} {a b:Int} (h:p=true):Value.int .i64 (if p=true then a else b)=.int .i64 a:=by rw [if_pos h]
theorem a5B {p:Bool} {a b:Int} (h:p=false):Value.int .i64 (if p=true then a else b)=.int .i64 b:=by rw [if_neg (by rw [h];simp)]
def ImD (I:Im):Prop:=∀ s ∈ I.segs,(s.data.length:Int)≤9223372036854775807
set_option maxRecDepth 100000 in
set_option maxHeartbeats 4000000 in
theorem a8w {I:Im} {w:World} {vn vs vy vr:Value} (hI:ImV w I vn vs vy vr) (hB:ImB I) (hD:ImD I):Fn Try.prog 61 [imA I vn vs vy vr] w (RBf (.int .i64 (t9 I)) w):=by
 refine j0 (fn:=Try.f61) ⟨Try.func61,by kernel_rfl,by kernel_rfl⟩ (by exact rfl) Try.ntmps61 (by exact rfl) ?_
 have hS:=St.start w
 repeat' (first|(first|((with_reducible apply d6 c8);exact rfl;exact rfl)|((with_reducible apply p7 hS);(iterate 3 exact rfl);intro g w' hS';clear hS;have hS:=hS';clear hS')|((with_reducible apply a0v hS c8);(iterate 7 exact rfl);intro g w' hS';clear hS;have hS:=hS';clear hS'))|(first|(with_reducible first|apply d8|apply c9|apply d7|apply d5|apply e7)))
 refine a55 6 ?_
 cases h1:a8h I
 ·repeat' (first|(first|((with_reducible apply d6 c8);exact rfl;exact rfl)|((with_reducible apply d9);exact rfl;(((with_reducible apply Loads.st c8);exact rfl;((exact hS.blkR 1 rfl));exact rfl));exact rfl)|((with_reducible apply p8 c8);(iterate 3 exact rfl);((exact rfl));((simp only [List.length_map,List.length_cons,List.length_nil,List.length_append];omega));exact rfl))|(first|(with_reducible first|apply d8|apply c9|apply d7|apply d5|apply g8|apply e7|apply j5|apply e6|apply j8))|(((with_reducible apply k9);exact rfl;(exact rfl)))|(with_reducible apply a2d)|((with_reducible apply d9);exact rfl;((with_reducible apply Loads.sc c8);exact rfl;(exact hS.rowC0 0 rfl rfl rfl));exact rfl)|((with_reducible apply e8);exact rfl;exact rfl;exact Fn.eqv (a5B h1) (a2u (hI.now hS) hB);exact rfl;rintro _ w' ⟨rfl,hS'⟩;replace hS:=hS.transA hS';simp only [k7] at hS;clear hS'))
  (apply j6);(repeat (first|exact ResL.nil|(apply ResL.tmp;exact rfl)))
  exact ⟨by rw [t9,if_pos h1],hS.sub (List.nil_sublist _)⟩
 cases h2:a8B I
 ·repeat' (first|(first|((with_reducible apply m0);exact rfl;exact rfl;omega;omega;exact rfl)|((with_reducible apply d6 c8);exact rfl;exact rfl)|((with_reducible apply d9);exact rfl;(((with_reducible apply Loads.st c8);exact rfl;((exact hS.blkR 1 rfl));exact rfl));exact rfl)|((with_reducible apply p8 c8);(iterate 3 exact rfl);((exact rfl));((simp only [List.length_map,List.length_cons,List.length_nil,List.length_append];omega));exact rfl))|(first|(with_reducible first|apply d8|apply c9|apply d7|apply d5|apply g8|apply e7|apply j5|apply e6|apply k8|apply j8))|(first|((with_reducible apply k9);exact rfl;(exact rfl))|((with_reducible apply l6);exact rfl;(exact rfl)))|with_reducible apply a1U|(with_reducible apply a2d)|((with_reducible apply d9);exact rfl;((with_reducible apply Loads.sc c8);exact rfl;(exact hS.rowC0 0 rfl rfl rfl));exact rfl)|((with_reducible apply e8);exact rfl;exact rfl;exact Fn.eqv (a06 h1) (a2u (hI.now hS) hB);exact rfl;rintro _ w' ⟨rfl,hS'⟩;replace hS:=hS.transA hS';simp only [k7] at hS;clear hS')|((with_reducible apply e8);exact rfl;exact rfl;exact Fn.eqv (a5B h2) (a2r (hI.now hS));exact rfl;rintro _ w' ⟨rfl,hS'⟩;replace hS:=hS.transA hS';simp only [k7] at hS;clear hS'))
  (apply j6);(repeat (first|exact ResL.nil|(apply ResL.tmp;exact rfl)))
  exact ⟨by simp [t9,h1,h2],hS.sub (List.nil_sublist _)⟩
 cases h3:a4F I
 ·repeat' (first|(first|((with_reducible apply m0);exact rfl;exact rfl;omega;omega;exact rfl)|((with_reducible apply d6 c8);exact rfl;exact rfl)|((with_reducible apply d9);exact rfl;(((with_reducible apply Loads.st c8);exact rfl;((exact hS.blkR 1 rfl));exact rfl));exact rfl)|((with_reducible apply p8 c8);(iterate 3 exact rfl);((exact rfl));((simp only [List.length_map,List.length_cons,List.length_nil,List.length_append];omega));exact rfl))|(first|(with_reducible first|apply d8|apply c9|apply d7|apply d5|apply g8|apply e7|apply j5|apply e6|apply k8|apply j8))|(first|((with_reducible apply k9);exact rfl;(exact rfl))|((with_reducible apply l6);exact rfl;(exact rfl)))|with_reducible apply a1U|(with_reducible apply a2d)|((with_reducible apply d9);exact rfl;((with_reducible apply Loads.sc c8);exact rfl;(exact hS.rowC0 0 rfl rfl rfl));exact rfl)|((with_reducible apply e8);exact rfl;exact rfl;exact Fn.eqv (a06 h1) (a2u (hI.now hS) hB);exact rfl;rintro _ w' ⟨rfl,hS'⟩;replace hS:=hS.transA hS';simp only [k7] at hS;clear hS')|((with_reducible apply e8);exact rfl;exact rfl;exact Fn.eqv (a06 h2) (a2r (hI.now hS));exact rfl;rintro _ w' ⟨rfl,hS'⟩;replace hS:=hS.transA hS';simp only [k7] at hS;clear hS')|((with_reducible apply e8);exact rfl;exact rfl;exact Fn.eqv (a5B h3) (a17 (hI.now hS) hD);exact rfl;rintro _ w' ⟨rfl,hS'⟩;replace hS:=hS.transA hS';simp only [k7] at hS;clear hS'))
  (apply j6);(repeat (first|exact ResL.nil|(apply ResL.tmp;exact rfl)))
  exact ⟨by simp [t9,h1,h2,h3],hS.sub (List.nil_sublist _)⟩
 cases h4:a6q I
 ·repeat' (first|(first|((with_reducible apply m0);exact rfl;exact rfl;omega;omega;exact rfl)|((with_reducible apply d6 c8);exact rfl;exact rfl)|((with_reducible apply d9);exact rfl;(((with_reducible apply Loads.st c8);exact rfl;((exact hS.blkR 1 rfl));exact rfl));exact rfl)|((with_reducible apply p8 c8);(iterate 3 exact rfl);((exact rfl));((simp only [List.length_map,List.length_cons,List.length_nil,List.length_append];omega));exact rfl))|(first|(with_reducible first|apply d8|apply c9|apply d7|apply d5|apply g8|apply e7|apply j5|apply e6|apply k8|apply j8))|(first|((with_reducible apply k9);exact rfl;(exact rfl))|((with_reducible apply l6);exact rfl;(exact rfl)))|with_reducible apply a1U|(with_reducible apply a2d)|((with_reducible apply d9);exact rfl;((with_reducible apply Loads.sc c8);exact rfl;(exact hS.rowC0 0 rfl rfl rfl));exact rfl)|((with_reducible apply e8);exact rfl;exact rfl;exact Fn.eqv (a06 h1) (a2u (hI.now hS) hB);exact rfl;rintro _ w' ⟨rfl,hS'⟩;replace hS:=hS.transA hS';simp only [k7] at hS;clear hS')|((with_reducible apply e8);exact rfl;exact rfl;exact Fn.eqv (a06 h2) (a2r (hI.now hS));exact rfl;rintro _ w' ⟨rfl,hS'⟩;replace hS:=hS.transA hS';simp only [k7] at hS;clear hS')|((with_reducible apply e8);exact rfl;exact rfl;exact Fn.eqv (a06 h3) (a17 (hI.now hS) hD);exact rfl;rintro _ w' ⟨rfl,hS'⟩;replace hS:=hS.transA hS';simp only [k7] at hS;clear hS')|((with_reducible apply e8);exact rfl;exact rfl;exact Fn.eqv (a5B h4) (a56 (hI.now hS) hB h3);exact rfl;rintro _ w' ⟨rfl,hS'⟩;replace hS:=hS.transA hS';simp only [k7] at hS;clear hS'))
  (apply j6);(repeat (first|exact ResL.nil|(apply ResL.tmp;exact rfl)))
  exact ⟨by simp [t9,h1,h2,h3,h4],hS.sub (List.nil_sublist _)⟩
 cases h5:a8e I
 ·repeat' (first|(first|((with_reducible apply m0);exact rfl;exact rfl;omega;omega;exact rfl)|((with_reducible apply d6 c8);exact rfl;exact rfl)|((with_reducible apply d9);exact rfl;(((with_reducible apply Loads.st c8);exact rfl;((exact hS.blkR 1 rfl));exact rfl));exact rfl)|((with_reducible apply p8 c8);(iterate 3 exact rfl);((exact rfl));((simp only [List.length_map,List.length_cons,List.length_nil,List.length_append];omega));exact rfl))|(first|(with_reducible first|apply d8|apply c9|apply d7|apply d5|apply g8|apply e7|apply j5|apply e6|apply k8|apply j8))|(first|((with_reducible apply k9);exact rfl;(exact rfl))|((with_reducible apply l6);exact rfl;(exact rfl)))|with_reducible apply a1U|(with_reducible apply a2d)|((with_reducible apply d9);exact rfl;((with_reducible apply Loads.sc c8);exact rfl;(exact hS.rowC0 0 rfl rfl rfl));exact rfl)|((with_reducible apply e8);exact rfl;exact rfl;exact Fn.eqv (a06 h1) (a2u (hI.now hS) hB);exact rfl;rintro _ w' ⟨rfl,hS'⟩;replace hS:=hS.transA hS';simp only [k7] at hS;clear hS')|((with_reducible apply e8);exact rfl;exact rfl;exact Fn.eqv (a06 h2) (a2r (hI.now hS));exact rfl;rintro _ w' ⟨rfl,hS'⟩;replace hS:=hS.transA hS';simp only [k7] at hS;clear hS')|((with_reducible apply e8);exact rfl;exact rfl;exact Fn.eqv (a06 h3) (a17 (hI.now hS) hD);exact rfl;rintro _ w' ⟨rfl,hS'⟩;replace hS:=hS.transA hS';simp only [k7] at hS;clear hS')|((with_reducible apply e8);exact rfl;exact rfl;exact Fn.eqv (a06 h4) (a56 (hI.now hS) hB h3);exact rfl;rintro _ w' ⟨rfl,hS'⟩;replace hS:=hS.transA hS';simp only [k7] at hS;clear hS')|((with_reducible apply e8);exact rfl;exact rfl;exact Fn.eqv (a5B h5) (a6S (hI.now hS) h3);exact rfl;rintro _ w' ⟨rfl,hS'⟩;replace hS:=hS.transA hS';simp only [k7] at hS;clear hS'))
  (apply j6);(repeat (first|exact ResL.nil|(apply ResL.tmp;exact rfl)))
  exact ⟨by simp [t9,h1,h2,h3,h4,h5],hS.sub (List.nil_sublist _)⟩
 ·repeat' (first|(first|((with_reducible apply m0);exact rfl;exact rfl;omega;omega;exact rfl)|((with_reducible apply d6 c8);exact rfl;exact rfl)|((with_reducible apply d9);exact rfl;(((with_reducible apply Loads.st c8);exact rfl;((exact hS.blkR 1 rfl));exact rfl));exact rfl)|((with_reducible apply p8 c8);(iterate 3 exact rfl);((exact rfl));((simp only [List.length_map,List.length_cons,List.length_nil,List.length_append];omega));exact rfl))|(first|(with_reducible first|apply d8|apply c9|apply d7|apply d5|apply g8|apply e7|apply n5|apply j5|apply j4|apply k8|apply i9))|(first|((with_reducible apply k9);exact rfl;(exact rfl))|((with_reducible apply l6);exact rfl;(exact rfl)))|with_reducible apply a1U|(with_reducible apply a2d)|((with_reducible apply d9);exact rfl;((with_reducible apply Loads.sc c8);exact rfl;(exact hS.rowC0 0 rfl rfl rfl));exact rfl)|((with_reducible apply e8);exact rfl;exact rfl;exact Fn.eqv (a06 h1) (a2u (hI.now hS) hB);exact rfl;rintro _ w' ⟨rfl,hS'⟩;replace hS:=hS.transA hS';simp only [k7] at hS;clear hS')|((with_reducible apply e8);exact rfl;exact rfl;exact Fn.eqv (a06 h2) (a2r (hI.now hS));exact rfl;rintro _ w' ⟨rfl,hS'⟩;replace hS:=hS.transA hS';simp only [k7] at hS;clear hS')|((with_reducible apply e8);exact rfl;exact rfl;exact Fn.eqv (a06 h3) (a17 (hI.now hS) hD);exact rfl;rintro _ w' ⟨rfl,hS'⟩;replace hS:=hS.transA hS';simp only [k7] at hS;clear hS')|((with_reducible apply e8);exact rfl;exact rfl;exact Fn.eqv (a06 h4) (a56 (hI.now hS) hB h3);exact rfl;rintro _ w' ⟨rfl,hS'⟩;replace hS:=hS.transA hS';simp only [k7] at hS;clear hS')|((with_reducible apply e8);exact rfl;exact rfl;exact Fn.eqv (a06 h5) (a6S (hI.now hS) h3);exact rfl;rintro _ w' ⟨rfl,hS'⟩;replace hS:=hS.transA hS';simp only [k7] at hS;clear hS'))
  (apply j6);(repeat (first|exact ResL.nil|(apply ResL.tmp;exact rfl)))
  exact ⟨by simp [t9,h1,h2,h3,h4,h5],hS.sub (List.nil_sublist _)⟩
end Go.Proofs.Ytejnpppejalhfac
/- link.Link. -/
namespace Go.Proofs.Ytejnpppejalhfac
open Go.RowKit Go.Sort
def b41 (M:Ob) (Lb:List Ob) (v:Value) (w w':World):Prop :=
 (a4s M Lb≠0∧v=.tuple #[lkA (.slice none 0 0) (.slice none 0 0) 0,.int .i64 (a4s M Lb)]∧St nF w w' []) ∨
 (a4s M Lb=0∧∃ (s:List Ob×Int) (va vs:Value) (N:List (Sh×Value)),a3l (M::Lb) 8 0 (v9 ([],1) M)=some s∧N.map (·.1)=a4D (obP s.1) s.1∧v=.tuple #[lkA va vs (16 + M.im.entry),.int .i64 0]∧St nF w w' (.row 71 4 va ((a3e s.1).map arC)::.row 97 3 vs (N.map fun p=>shC p.1 p.2)::N.map a2N))
def kvI (o:Ob):Value×Value:=(stK o.im.name,a6u o)
def MapB (B:List Ob) (i:Nat) (L:List (Value×Value)):Prop:=(((B.take i).map fun o=>o.im.name).Nodup→L=(B.take i).map kvI)∧(¬ ((B.take i).map fun o=>o.im.name).Nodup→L.length < i)∧L.length≤i
theorem MapB.start (B:List Ob):MapB B 0 []:=⟨fun _=>rfl,fun h=>absurd (by simp) h,Nat.le_refl _⟩
theorem MapB.mem {B:List Ob} {i:Nat} {L:List (Value×Value)} (h:L=(B.take i).map kvI) (nm:List UInt8):(∃ v,(stK nm,v) ∈ L) ↔ nm ∈ (B.take i).map fun o=>o.im.name:=by
 rw [h]
 constructor
 ·rintro ⟨v,hv⟩
  obtain ⟨o,ho,e⟩:=List.mem_map.1 hv
  have e1:=congrArg Prod.fst e
  unfold kvI stK at e1
  exact List.mem_map.2 ⟨o,ho,by simpa using e1⟩
 ·intro hn
  obtain ⟨o,ho,rfl⟩:=List.mem_map.1 hn
  exact ⟨a6u o,List.mem_map.2 ⟨o,ho,rfl⟩⟩
theorem b0i {α:Type} {l:List α} {x:α}:(l++[x]).Nodup ↔ l.Nodup∧x ∉ l:=by
 rw [List.nodup_append]
 constructor
 ·rintro ⟨h1,-,h3⟩
  exact ⟨h1,fun h=>h3 x h x (by simp) rfl⟩
 ·rintro ⟨h1,h2⟩
  refine ⟨h1,by simp,fun a ha b hb=>?_⟩
  have:b=x:=by simpa using hb
  subst this
  rintro rfl
  exact h2 ha
theorem MapB.new {B:List Ob} {i:Nat} {L:List (Value×Value)} {o:Ob} (h:MapB B i L) (ho:B[i]?=some o) (hn:∀ v,(stK o.im.name,v) ∉ L):MapB B (i + 1) (L++[kvI o]):=by
 unfold MapB
 rw [List.take_add_one,ho]
 simp only [Option.toList_some,List.map_append,List.map_cons,List.map_nil,List.length_append,List.length_cons,List.length_nil]
 rw [b0i]
 refine ⟨fun ⟨h1,h2⟩=>by rw [h.1 h1],fun hno=>?_,by have:=h.2.2;omega⟩
 by_cases h1:((B.take i).map fun o=>o.im.name).Nodup
 ·exfalso
  have hin:o.im.name ∈ (B.take i).map fun o=>o.im.name:=Classical.byContradiction fun hc=>hno ⟨h1,hc⟩
  obtain ⟨v,hv⟩:=(MapB.mem (h.1 h1) o.im.name).2 hin
  exact hn v hv
 ·have:=h.2.1 h1
  omega
theorem MapB.old {B:List Ob} {i j:Nat} {L:List (Value×Value)} {o:Ob} {u:Value} {x:Value×Value} (h:MapB B i L) (ho:B[i]?=some o) (hu:(stK o.im.name,u) ∈ L):MapB B (i + 1) (L.set j x):=by
 unfold MapB
 rw [List.take_add_one,ho]
 simp only [Option.toList_some,List.map_append,List.map_cons,List.map_nil,List.length_set]
 rw [b0i]
 refine ⟨fun ⟨h1,h2⟩=>absurd ((MapB.mem (h.1 h1) o.im.name).1 ⟨u,hu⟩) h2,fun hno=>?_,by have:=h.2.2;omega⟩
 have:=h.2.2
 omega
theorem a7v:∀ {l:List Ob},(∀ o ∈ l,a9l o.im)→0≤a1x l∧a1x l≤255 * l.length
 |[],_=>by simp [a1x]
 |o::l,h=>by
  have h1:=a5Y (h o (by simp))
  have h2:=a7v (l:=l) fun x hx=>h x (List.mem_cons_of_mem _ hx)
  simp only [a1x,List.length_cons]
  omega
theorem b5I {α:Type} (A B C:List α) (x y z:α):((A++B)++(x::y::z::C)).Perm (x::y::z::(A++(C++B))):=by
 refine List.perm_append_comm.trans ?_
 simp only [List.cons_append]
 exact (((List.perm_append_comm_assoc C A B).cons _).cons _).cons _
theorem a9N {B:List Ob} {i:Nat} {o:Ob} {p:Ob→Bool} (h:∀ x ∈ B.take i,p x=false) (ho:B[i]?=some o) (hp:p o=true):B.find? p=some o:=by
 have e:B=B.take i++o::B.drop (i + 1):=by
  conv=>lhs;rw [← List.take_append_drop i B,a2b ho]
 rw [e,List.find?_append]
 have:(B.take i).find? p=none:=by
  rw [List.find?_eq_none]
  intro t ht
  rw [h t ht]
  simp
 rw [this,Option.none_or,List.find?_cons,hp]
set_option maxRecDepth 100000 in
set_option maxHeartbeats 8000000 in
theorem b4b {w:World} {M:Ob} {Lb:List Ob} {vl:Value} (hM:ObV w M) (hL:Sl nF w 6 vl (Lb.map imR)) (hLo:∀ o ∈ Lb,ObV w o) (hB:∀ o ∈ M::Lb,ImB o.im∧ImD o.im):Fn Try.prog 37 [a6u M,vl] w (fun v w'=>b41 M Lb v w w'):=by
 have hbl:=hL.bound
 obtain ⟨pl,cl,rfl⟩:=hL.len
 have hall:∀ o ∈ M::Lb,ObV w o:=fun o ho=>by
  rcases List.mem_cons.1 ho with rfl|h
  ·exact hM
  ·exact hLo o h
 have hM1:=hM
 obtain ⟨I,vn,vs,vy,vr,a0⟩:=M
 replace hM1:ImV w I vn vs vy vr:=hM1
 obtain ⟨pn,cn,rfl⟩:=hM1.needs.len
 obtain ⟨ps,cs,rfl⟩:=hM1.segs.len
 obtain ⟨py,cy,rfl⟩:=hM1.syms.len
 obtain ⟨pr,cr,rfl⟩:=hM1.rels.len
 refine j0 (fn:=Try.f37) ⟨Try.func37,by kernel_rfl,by kernel_rfl⟩ (by exact rfl) Try.ntmps37 (by exact rfl) ?_
 have hS:=St.start w
 show WC _ _ _ _ _ [(0,.agg [.string ⟨I.name.toArray⟩,.slice pn I.needs.length cn,.slice ps I.segs.length cs,.slice py I.syms.length cy,.slice pr I.rels.length cr,.int .i64 I.entry].toArray),(1,.slice pl Lb.length cl)] _
 by_cases h6:6 < Lb.length
 ·repeat' (first|(first|((with_reducible apply d6 c8);exact rfl;exact rfl)|((with_reducible apply n7 c8);exact rfl;exact rfl;((exact (rfl:_=some [_,_,_])));exact rfl)|((with_reducible apply p7 hS);(iterate 3 exact rfl);intro g w' hS';clear hS;have hS:=hS';clear hS')|((with_reducible apply j7 hS c8);(iterate 3 exact rfl);intro g w' hS';clear hS;have hS:=hS';clear hS')|(((with_reducible apply i7 hS c8 (i:=0));(iterate 8 exact rfl);((exact (rfl:_=[_,_,_])));intro w' hS';simp only [List.set] at hS';clear hS;have hS:=hS';clear hS')))|(first|(with_reducible first|apply d8|apply c9|apply d7|apply d5|apply j5|apply e6))|(((with_reducible apply k6);exact rfl;all_goals (intro hb hp;try (exfalso;omega)))))
  (apply s9);(repeat (first|exact ResL.nil|(apply ResL.tmp;exact rfl)|(apply ResL.cell;exact rfl;(((with_reducible apply Loads.st c8);exact rfl;((exact hS.blkR 0 rfl));exact rfl)))))
  refine Or.inl ⟨?_,?_,hS.sub (List.nil_sublist _)⟩
  ·unfold a4s
   rw [if_pos h6]
   decide
  ·unfold a4s
   rw [if_pos h6]
   rfl
 repeat' (first|(first|((with_reducible apply d6 c8);exact rfl;exact rfl)|((with_reducible apply d9);exact rfl;(((with_reducible apply Loads.st c8);exact rfl;((exact hS.blkR 4 rfl));exact rfl));exact rfl)|((with_reducible apply n7 c8);exact rfl;exact rfl;((exact (rfl:_=some [_,_,_,_])));exact rfl)|((with_reducible apply p7 hS);(iterate 3 exact rfl);intro g w' hS';clear hS;have hS:=hS';clear hS')|((with_reducible apply j7 hS c8);(iterate 3 exact rfl);intro g w' hS';clear hS;have hS:=hS';clear hS')|((with_reducible apply a0v hS c8);(iterate 7 exact rfl);intro g w' hS';clear hS;have hS:=hS';clear hS'))|(first|(with_reducible first|apply d8|apply c9|apply d7|apply d5|apply g8))|(((with_reducible apply k6);exact rfl;all_goals (intro hb hp;try (exfalso;omega))))|((with_reducible apply y7);exact rfl;exact a6D hS;rintro _ w' ⟨r,rfl,hS'⟩;clear hS;have hS:=hS';clear hS'))
 rename_i g2 w1 g4 w2 w3 rb w4 gw w5 g1 w6
 obtain ⟨B,hBe⟩:∃ B,B=(⟨I,.slice pn I.needs.length cn,.slice ps I.segs.length cs,.slice py I.syms.length cy,.slice pr I.rels.length cr,a0⟩:Ob)::Lb:=⟨_,rfl⟩
 have hBl:B.length=Lb.length + 1:=by rw [hBe];rfl
 ((with_reducible apply e8);exact rfl;exact rfl;exact b3J (hS.rowRo 0 rfl) (hS.rowSl 1 rfl) (hL.now hS) (by simp) (by rw [List.length_map];omega);exact rfl;rintro u w' hS';replace hS:=hS.transA hS';simp only [k7] at hS;clear hS')
 replace hS:=St.reorder [5,0,3,4,6,7] hS (by decide) rfl
 replace hS:St nF w w' (.obj rb (.map #[] 0)::[.row 116 6 u (B.map imR),.blk gw [.map (some rb),.map (some r),.slice none 0 0,.int .i64 1],.obj r (.map #[] 0),.blk g4 [.slice none 0 0,.slice none 0 0,.int .i64 0],.blk g2 [.string ⟨I.name.toArray⟩,.slice pn I.needs.length cn,.slice ps I.segs.length cs,.slice py I.syms.length cy,.slice pr I.rels.length cr,.int .i64 I.entry]]):=by rw [hBe];exact hS
 obtain ⟨pu,cu,rfl⟩:=hS.rowSlice 1 rfl
 rw [List.length_map] at hS ⊢
 have hallB:∀ o ∈ B,ObV w o:=by rw [hBe];exact hall
 have hBB:∀ o ∈ B,ImB o.im∧ImD o.im:=by rw [hBe];exact hB
 have hcode:a4s ⟨I,.slice pn I.needs.length cn,.slice ps I.segs.length cs,.slice py I.syms.length cy,.slice pr I.rels.length cr,a0⟩ Lb=match B.find? (fun o=>!decide (t9 o.im=0)) with
  |some o=>t9 o.im
  |none=>if (B.map fun o=>o.im.name).Nodup then
    match a3l B 8 0 (v9 ([],1) ⟨I,.slice pn I.needs.length cn,.slice ps I.segs.length cs,.slice py I.syms.length cy,.slice pr I.rels.length cr,a0⟩) with
    |none=>6
    |some s=>if s.2 > 256 then 3 else if a5a (obP s.1) s.1=true then 0 else 7
   else 5:=by
  unfold a4s
  rw [if_neg h6,hBe]
  rfl
 unfold b41
 rw [hcode,← hBe]
 have hB7:B.length≤7:=by omega
 have hMB0:(⟨I,.slice pn I.needs.length cn,.slice ps I.segs.length cs,.slice py I.syms.length cy,.slice pr I.rels.length cr,a0⟩:Ob) ∈ B:=by rw [hBe];exact List.mem_cons_self
 clear hcode hall hLo hL hM hM1 hB h6
 repeat' (first|(((with_reducible apply d6 c8);exact rfl;exact rfl))|(first|(with_reducible first|apply d8|apply c9|apply d7|apply d5|apply e7)))
 refine o6 (X:=Nat×Array MapEntry×Nat×List (Value×Value)) (fun x=>[(31,.int .i64 (x.1:Nat))]) [2,4,6,7,29,30] rfl (fun x=>[.obj rb (.map x.2.1 x.2.2.1)]) (fun x=>x.1≤B.length∧MapG .string x.2.1 x.2.2.2∧MapB B x.1 x.2.2.2∧∀ o ∈ B.take x.1,(!decide (t9 o.im=0))=false) (fun x=>B.length - x.1) (0,#[],0,[]) (by repeat (first|exact Fr.sub_nil _|(apply Fr.sub_cons;exact rfl))) ⟨Nat.zero_le _,MapG.nil _,MapB.start B,by simp⟩ hS ?_
 clear hS
 rintro ⟨i,es,c,L⟩ w7 ⟨hi,hG,hMB,hck⟩ hS
 dsimp only [List.cons_append,List.nil_append] at hi hG hMB hck hS ⊢
 by_cases hlt:i < B.length
 rotate_left
 ·obtain rfl:i=B.length:=by omega
  rw [List.take_of_length_le (Nat.le_refl _)] at hck
  unfold MapB at hMB
  rw [List.take_of_length_le (Nat.le_refl _)] at hMB
  have hfn:B.find? (fun o=>!decide (t9 o.im=0))=none:=by
   rw [List.find?_eq_none]
   intro x hx
   rw [hck x hx]
   simp
  have hsz:=hG.size
  rw [hfn]
  dsimp only
  by_cases hnd:(B.map fun o=>o.im.name).Nodup
  rotate_left
  ·have hlt2:=hMB.2.1 hnd
   rw [if_neg hnd]
   repeat' (first|(first|((with_reducible apply d6 c8);exact rfl;exact rfl)|((with_reducible apply d9);exact rfl;(((with_reducible apply Loads.sc c8);exact rfl;((exact hS.blkC 2 rfl rfl))));exact rfl)|((with_reducible apply n7 c8);exact rfl;exact rfl;((exact (rfl:_=some [_,_,_])));exact rfl)|(((with_reducible apply i7 hS c8 (i:=4));(iterate 8 exact rfl);((exact (rfl:_=[_,_,_])));intro w' hS';simp only [List.set] at hS';clear hS;have hS:=hS';clear hS')))|(first|(with_reducible first|apply d8|apply c9|apply d7|apply d5|apply n5|apply j5|apply j4|apply e6|apply i9))|(((with_reducible apply k6);exact rfl;all_goals (intro hb hp;try (exfalso;omega))))|((with_reducible apply y7);exact rfl;exact a75 hS (i:=0) a1R rfl rfl;rintro _ _ ⟨rfl,rfl⟩))
   (apply s9);(repeat (first|exact ResL.nil|(apply ResL.tmp;exact rfl)|(apply ResL.cell;exact rfl;(((with_reducible apply Loads.st c8);exact rfl;((exact hS.blkR 4 rfl));exact rfl)))))
   exact Or.inl ⟨by decide,rfl,hS.sub (List.nil_sublist _)⟩
  rw [if_pos hnd]
  obtain rfl:=hMB.1 hnd
  rw [List.length_map] at hsz
  repeat' (first|(first|((with_reducible apply d6 c8);exact rfl;exact rfl)|((with_reducible apply d9);exact rfl;(first|((with_reducible apply Loads.sc c8);exact rfl;((exact hS.blkC 2 rfl rfl)))|((with_reducible apply Loads.st c8);exact rfl;((exact hS.blkR 5 rfl));exact rfl));exact rfl))|(first|(with_reducible first|apply d8|apply c9|apply d7|apply d5|apply g8|apply n5|apply j4|apply i9))|(((with_reducible apply k6);exact rfl;all_goals (intro hb hp;try (exfalso;omega))))|((with_reducible apply y7);exact rfl;exact a75 hS (i:=0) a1R rfl rfl;rintro _ _ ⟨rfl,rfl⟩))
  replace hS:=hS.addNil 153 7
  replace hS:=St.reorder [3,4,0,1,5,6] hS (by decide) rfl
  have hckB:∀ o ∈ B,t9 o.im=0:=fun o ho=>by
   have:=hck o ho
   exact Classical.byContradiction fun hc=>by rw [decide_eq_false hc] at this;cases this
  have hcall:=b5A (p:=none) (c:=0) (es:=#[]) (cc:=0) (rb:=rb) (rp:=r) (gw:=gw) (B:=B) (Γ:=[_,_]) hS ⟨[],MapG.nil _,rfl⟩ hG (fun o ho=>⟨(hallB o ho).needs.nowM (Γ:=[_,_]) hS,(hallB o ho).segs.nowM (Γ:=[_,_]) hS,(hallB o ho).syms.nowM (Γ:=[_,_]) hS,(hallB o ho).rels.nowM (Γ:=[_,_]) hS⟩) (fun o ho=>(a1z (hckB o ho)).1) hMB0 hB7
  have hPk:∀ s,a3l B 8 0 (v9 ([],1) ⟨I,.slice pn I.needs.length cn,.slice ps I.segs.length cs,.slice py I.syms.length cy,.slice pr I.rels.length cr,a0⟩)=some s→PkI s∧Fst ⟨I,.slice pn I.needs.length cn,.slice ps I.segs.length cs,.slice py I.syms.length cy,.slice pr I.rels.length cr,a0⟩ s:=fun s hs=>⟨a8F (Inv:=PkI) (fun s o h _=>h.step o) hs (PkI.start.step _),a8F (Inv:=Fst _) (fun s o h _=>b2G o h) hs (b1E _)⟩
  generalize hR:a3l B 8 0 (v9 ([],1) ⟨I,.slice pn I.needs.length cn,.slice ps I.segs.length cs,.slice py I.syms.length cy,.slice pr I.rels.length cr,a0⟩)=R at hcall hPk ⊢
  clear hR hG hck hsz hMB hMB0 hlt
  ((with_reducible apply e8);exact rfl;exact rfl;exact hcall;exact rfl;rintro _ w' ⟨rfl,p',c',es',cc',s,hP,hA,hs,hS'⟩)
  replace hS:=St.transM (Θ:=LkM gw rb r none 0 #[] 0 ([],1)++[.obj rb (.map es c)]) (Γ:=[_,_]) hS hS'
  clear hS' hcall
  simp only [LkM,LkS,List.cons_append,List.nil_append] at hS
  cases R with
  |none=>
   simp only [b5j]
   repeat' (first|(first|((with_reducible apply d6 c8);exact rfl;exact rfl)|((with_reducible apply n7 c8);exact rfl;exact rfl;((exact (rfl:_=some [_,_,_])));exact rfl)|(((with_reducible apply i7 hS c8 (i:=4));(iterate 8 exact rfl);((exact (rfl:_=[_,_,_])));intro w' hS';simp only [List.set] at hS';clear hS;have hS:=hS';clear hS')))|(first|(with_reducible first|apply d8|apply c9|apply d7|apply d5|apply j5|apply e6))|(((with_reducible apply k9);exact rfl;(exact rfl))))
   (apply s9);(repeat (first|exact ResL.nil|(apply ResL.tmp;exact rfl)|(apply ResL.cell;exact rfl;(((with_reducible apply Loads.st c8);exact rfl;((exact hS.blkR 4 rfl));exact rfl)))))
   exact Or.inl ⟨by decide,rfl,hS.sub (List.nil_sublist _)⟩
  |some s'=>
   obtain rfl:=hs s' rfl
   obtain ⟨hPk,hFs⟩:=hPk s rfl
   simp only [b5j]
   by_cases h256:s.2 > 256
   ·rw [if_pos h256,if_pos h256]
    repeat' (first|(first|((with_reducible apply d6 c8);exact rfl;exact rfl)|((with_reducible apply n7 c8);exact rfl;exact rfl;((exact (rfl:_=some [_,_,_])));exact rfl)|(((with_reducible apply i7 hS c8 (i:=4));(iterate 8 exact rfl);((exact (rfl:_=[_,_,_])));intro w' hS';simp only [List.set] at hS';clear hS;have hS:=hS';clear hS')))|(first|(with_reducible first|apply d8|apply c9|apply d7|apply d5|apply j5|apply e6))|(((with_reducible apply k9);exact rfl;(exact rfl))))
    (apply s9);(repeat (first|exact ResL.nil|(apply ResL.tmp;exact rfl)|(apply ResL.cell;exact rfl;(((with_reducible apply Loads.st c8);exact rfl;((exact hS.blkR 4 rfl));exact rfl)))))
    exact Or.inl ⟨by decide,rfl,hS.sub (List.nil_sublist _)⟩
   rw [if_neg h256,if_neg h256]
   repeat' (first|(((with_reducible apply d6 c8);exact rfl;exact rfl))|(first|(with_reducible first|apply d8|apply c9|apply d7|apply d5|apply g8))|(((with_reducible apply l6);exact rfl;(exact rfl))))
   obtain ⟨os,nx⟩:=s
   dsimp only at hP hA hPk hFs h256 hS ⊢
   obtain ⟨rs,hrs⟩:=hFs
   dsimp only at hrs
   have hAs:=hA.sub
   have hAl:=hA.len
   dsimp only at hAs hAl
   have hosB:∀ o ∈ os,ImF nF w o∧t9 o.im=0:=fun o ho=>by
    obtain ⟨a,ha⟩:=hAs o ho
    have h1:=hallB { o with at_:=a } ha
    have h2:t9 o.im=0:=hckB { o with at_:=a } ha
    exact ⟨⟨h1.needs,h1.segs,h1.syms,h1.rels⟩,h2⟩
   have hpos:0 < os.length:=by rw [hrs];simp
   obtain ⟨gos,rfl⟩:=hS.rowSome 2 rfl hpos
   have hrow:(os.map obC)[0]?=some [.string ⟨I.name.toArray⟩,.slice pn I.needs.length cn,.slice ps I.segs.length cs,.slice py I.syms.length cy,.slice pr I.rels.length cr,.int .i64 I.entry,.int .i64 16]:=by rw [hrs];rfl
   have hent:0≤I.entry∧I.entry < 4096:=by
    have h1:=a1z (hosB _ (by rw [hrs];exact List.mem_cons_self)).2
    obtain ⟨se,hse,-⟩:=h1.2.2.2.entry
    exact a66 h1.1.s2 hse
   refine a7w 13 rfl hS (by kernel_rfl) ?_
   intro wh hh
   clear hS
   have hS:=hh
   clear hh
   ((with_reducible apply n8 0 c8);exact rfl;kernel_rfl;kernel_rfl;kernel_rfl;exact (fun _ _ _ h=>h);exact hS;exact rfl;exact rfl)
   ((with_reducible apply n8 1 c8);exact rfl;kernel_rfl;kernel_rfl;kernel_rfl;exact (fun _ _ _ h=>h);exact hS;exact rfl;exact rfl)
   ((with_reducible apply n8 2 c8);exact rfl;kernel_rfl;kernel_rfl;kernel_rfl;exact (fun _ _ _ h=>h);exact hS;exact rfl;exact rfl)
   ((with_reducible apply v6 3);exact rfl;kernel_rfl;kernel_rfl;kernel_rfl;exact (fun _ _ _ h=>h);exact hS;exact rfl;(intro wd hd;replace hd:St _ _ wd _:=hd;(((with_reducible apply Loads.sl c8);exact rfl;((exact hd.blkC 0 rfl rfl)))));exact rfl)
   ((with_reducible apply b6f 4 c8);exact rfl;kernel_rfl;kernel_rfl;kernel_rfl;exact (fun _ _ _ _ h=>h);exact hS;(iterate 3 exact rfl);((exact rfl));((omega));exact rfl)
   ((with_reducible apply n8 5 c8);exact rfl;kernel_rfl;kernel_rfl;kernel_rfl;exact (fun _ _ _ h=>h);exact hS;exact rfl;exact rfl)
   ((with_reducible apply v6 6);exact rfl;kernel_rfl;kernel_rfl;kernel_rfl;exact (fun _ _ _ h=>h);exact hS;exact rfl;(intro wd hd;replace hd:St _ _ wd _:=hd;(((with_reducible apply Loads.sc c8);exact rfl;((exact hd.rowCj 2 rfl (by assumption) rfl)))));exact rfl)
   ((with_reducible apply n8 7 c8);exact rfl;kernel_rfl;kernel_rfl;kernel_rfl;exact (fun _ _ _ h=>h);exact hS;exact rfl;exact rfl)
   ((with_reducible apply v6 8);exact rfl;kernel_rfl;kernel_rfl;kernel_rfl;exact (fun _ _ _ h=>h);exact hS;exact rfl;(intro wd hd;replace hd:St _ _ wd _:=hd;(((with_reducible apply Loads.sc c8);exact rfl;((exact hd.blkC 5 rfl rfl)))));exact rfl)
   refine a1P 9 rfl (by kernel_rfl) (by kernel_rfl) (by kernel_rfl) (fun _ _ _ h=>h) hS (fun a ha=>a7X rfl rfl (by omega) (by omega) a ha _) rfl ?_
   ((with_reducible apply x6 10 c8);exact rfl;kernel_rfl;kernel_rfl;kernel_rfl;exact (fun _ _ _ _ h=>h);exact hS;exact rfl;exact rfl;((exact (rfl:_=some [_,_,_])));exact rfl)
   refine o9 (i:=11) (by kernel_rfl) ?_
   refine o7 rfl (a0r hS c8 rfl rfl) rfl ?_
   rintro _ w' ⟨g,rfl,hS'⟩
   clear hS;have hS:=hS';clear hS'
   refine ⟨hS.drop,?_⟩
   refine o9 (i:=12) (by kernel_rfl) ?_
   refine q9 (Φ:=fun _ w'=>St _ _ w' _) rfl (o8 hS c8 (i:=0) rfl rfl rfl rfl rfl (Nat.le_of_ble_eq_true rfl) (List.all_eq_true.1 rfl)) ?_
   intro _ w' hS'
   simp only [List.set] at hS'
   clear hS;have hS:=hS';clear hS'
   refine ⟨hS.drop,?_⟩
   refine y0 (by kernel_rfl) ?_
   repeat' (first|(first|((with_reducible apply d6 c8);exact rfl;exact rfl)|((with_reducible apply d9);exact rfl;(((with_reducible apply Loads.sl c8);exact rfl;((exact hS.blkC 1 rfl rfl))));exact rfl))|(first|(with_reducible first|apply d8|apply c9|apply d7|apply d5|apply e7)))
   obtain ⟨g12,hg12⟩:∃ g12,g12=g:=⟨_,rfl⟩
   rw [← hg12] at hS ⊢
   clear hg12
   replace hS:=(hS.addNil 97 3).addNil 71 4
   replace hS:=St.reorder [5,3,7,2,0,1] hS (by decide) rfl
   clear hrow
   refine o6 (Γ:=[]) (X:=Nat×(Option Addr×Nat)×(Option Addr×Nat)×List Ar×List (Sh×Value)) (fun x=>[(81,.int .i64 (x.1:Nat))]) [4,6,12,79,80] rfl (fun x=>.row 153 7 (.slice (some ⟨gos,0,none⟩) os.length c') (os.map obC)::.blk gw [.map (some rb),.map (some r),.slice (some ⟨gos,0,none⟩) os.length c',.int .i64 nx]::.blk g4 [.slice none 0 0,.slice none 0 0,.int .i64 0]::(LyS g12 x.2.1.1 x.2.1.2 x.2.2.1.1 x.2.2.1.2 (16 + I.entry) x.2.2.2.1 x.2.2.2.2++x.2.2.2.2.map a2N)) (fun x=>x.1≤os.length∧x.2.2.2.1=a3e (os.take x.1)∧x.2.2.2.2.map (·.1)=a4D (obP os) (os.take x.1)∧AOk x.2.2.2.1∧x.2.2.2.1.length≤6 * x.1∧x.2.2.2.2.length≤1530 * x.1∧a5a (obP os) (os.take x.1)=true) (fun x=>os.length - x.1) (0,(none,0),(none,0),[],[]) (by repeat (first|exact Fr.sub_nil _|(apply Fr.sub_cons;exact rfl))) ⟨Nat.zero_le _,rfl,rfl,(fun _ h=>nomatch h),Nat.le_refl _,Nat.le_refl _,rfl⟩ hS ?_
   clear hS
   rintro ⟨j,⟨qa,da⟩,⟨qs,dq⟩,A,Lp⟩ w8 ⟨hj,hA1,hL1,hAo,hAn,hLn,hsy⟩ hS
   dsimp only [] at hj hA1 hL1 hAo hAn hLn hsy hS ⊢
   simp only [LyS,List.cons_append,List.nil_append,List.append_nil] at hS
   by_cases hjt:j < os.length
   rotate_left
   ·rw [List.take_of_length_le (by omega)] at hA1 hL1 hsy
    rw [if_pos hsy]
    repeat' (first|(first|((with_reducible apply d6 c8);exact rfl;exact rfl)|((with_reducible apply d9);exact rfl;(((with_reducible apply Loads.st c8);exact rfl;((exact hS.blkR 3 rfl));exact rfl));exact rfl)|(((with_reducible apply i7 hS c8 (i:=2));(iterate 8 exact rfl);((exact (rfl:_=[_,_,_])));intro w' hS';simp only [List.set] at hS';clear hS;have hS:=hS';clear hS')))|(first|(with_reducible first|apply d8|apply c9|apply d7|apply d5|apply n5|apply j5|apply j4|apply i9))|(((with_reducible apply k6);exact rfl;all_goals (intro hb hp;try (exfalso;omega)))))
    (apply s9);(repeat (first|exact ResL.nil|(apply ResL.tmp;exact rfl)|(apply ResL.cell;exact rfl;(((with_reducible apply Loads.st c8);exact rfl;((exact hS.blkR 2 rfl));exact rfl)))))
    refine Or.inr ⟨rfl,(os,nx),.slice qa A.length da,.slice qs Lp.length dq,Lp,rfl,hL1,rfl,?_⟩
    rw [← hA1]
    exact hS.drop.drop.drop.drop
   obtain ⟨o,ho⟩:=l8 (l:=os) (i:=j) (by omega)
   have hom:=List.mem_of_getElem? ho
   have hrow:(os.map obC)[j]?=some [.string ⟨o.im.name.toArray⟩,o.vn,o.vs,o.vy,o.vr,.int .i64 o.im.entry,.int .i64 o.at_]:=j9 (f:=obC) ho
   obtain ⟨hof,hoc⟩:=hosB o hom
   obtain ⟨z1,z2,z3,z4⟩:=a1z hoc
   have hos0:∀ x ∈ os,a9l x.im:=fun x hx=>(a1z (hosB x hx).2).1
   have hat:o.at_=(1 + a1x (os.take j)) * 16:=hPk.at_ j o ho
   have hen:=a7v (l:=os.take j) fun x hx=>hos0 x (List.mem_of_mem_take hx)
   rw [List.length_take] at hen
   obtain ⟨b0,hb0⟩:∃ b0,b0=1 + a1x (os.take j):=⟨_,rfl⟩
   rw [← hb0] at hat
   have hb1:1≤b0∧b0≤3000:=by omega
   have hdiv:o.at_ / 16=b0:=by omega
   have hsyr:∀ x ∈ os,∀ s ∈ x.im.syms,-9223372036854775808≤x.at_ + s.at_∧x.at_ + s.at_≤9223372036854775807:=fun x hx s hs=>by
    obtain ⟨q,hq⟩:=List.mem_iff_getElem?.1 hx
    have q1:x.at_=(1 + a1x (os.take q)) * 16:=hPk.at_ q x hq
    have q2:=a7v (l:=os.take q) fun x hx=>hos0 x (List.mem_of_mem_take hx)
    rw [List.length_take] at q2
    obtain ⟨y,hy⟩:=Option.isSome_iff_exists.1 ((a1z (hosB x hx).2).2.2.2.syms s hs)
    have q3:=a66 (hos0 x hx).s2 hy
    omega
   have hshl:(shO (obP os) o.im b0).length≤1530:=by
    have h1:=a5M (b0:=b0) z1.s2
    have h2:=z1.s3
    unfold shO
    rw [List.length_map]
    omega
   have hov:ObV w o:=⟨hof.needs,hof.segs,hof.syms,hof.rels⟩
   obtain ⟨A',hA'⟩:∃ A',A'=a43 A b0 o.im.segs:=⟨_,rfl⟩
   have hA2:A'=a3e (os.take (j + 1)):=by rw [hA',a8Q ho,hdiv,hA1]
   have hA3:=b3L hAo hb1.1 (by omega) z1.s2
   rw [← hA'] at hA3
   have z5:=z1.s3
   obtain ⟨J,un,us,uy,ur,at_⟩:=o
   dsimp only at hrow hat hdiv hshl z1 z2 z3 z4 z5 hA'
   replace hA3:AOk A'∧A'.length≤A.length + J.segs.length:=hA3
   replace hov:ImV w J un us uy ur:=hov
   obtain ⟨qn,en,rfl⟩:=hov.needs.len
   obtain ⟨qs',es_,rfl⟩:=hov.segs.len
   obtain ⟨qy,ey,rfl⟩:=hov.syms.len
   obtain ⟨qr,er,rfl⟩:=hov.rels.len
   repeat' (first|(first|((with_reducible apply d6 c8);exact rfl;exact rfl)|((with_reducible apply d9);exact rfl;(((with_reducible apply Loads.st c8);exact rfl;(first|exact hS.blkR 0 rfl|exact hS.rowR 0 rfl (by assumption));exact rfl));exact rfl)|((with_reducible apply p8 c8);(iterate 3 exact rfl);((exact rfl));((omega));exact rfl)|((with_reducible apply j7 hS c8);(iterate 3 exact rfl);intro g w' hS';clear hS;have hS:=hS';clear hS')|(((with_reducible apply i7 hS c8 (i:=0));(iterate 8 exact rfl);((exact rfl));intro w' hS';simp only [List.set] at hS';clear hS;have hS:=hS';clear hS')))|(first|(with_reducible first|apply d8|apply c9|apply d7|apply d5|apply g8|apply e7))|(((with_reducible apply k6);exact rfl;all_goals (intro hb hp;try (exfalso;omega)))))
   replace hS:=St.reorderT 7 [4,5,6,1,2,3] hS (by decide) rfl
   simp only [k7,List.drop_succ_cons,List.drop_zero] at hS
   have hcall:=b5y (go:=g12) (gw:=gw) (qa:=qa) (da:=da) (qs:=qs) (dq:=dq) (en:=16 + I.entry) (A:=A) (Lp:=Lp) (os:=os) (b0:=b0) (Γ:=_::_::_::Lp.map a2N) hS (St.ownBs (Θ:=LyS g12 qa da qs dq (16 + I.entry) A Lp) (Γ:=_::_::_::Lp.map a2N) hS 1 rfl rfl) (St.ownSl (Θ:=LyS g12 qa da qs dq (16 + I.entry) A Lp) (Γ:=_::_::_::Lp.map a2N) hS 0 rfl) (fun x hx=>⟨(hosB x hx).1.needs.nowM (Γ:=_::_::_::Lp.map a2N) hS,(hosB x hx).1.segs.nowM (Γ:=_::_::_::Lp.map a2N) hS,(hosB x hx).1.syms.nowM (Γ:=_::_::_::Lp.map a2N) hS,(hosB x hx).1.rels.nowM (Γ:=_::_::_::Lp.map a2N) hS⟩) hsyr hom hat hb1.1 (by omega) z1.s2 z3 z4 z2 z1.s3 hAo (by omega) (by omega)
   ((with_reducible apply e8);exact rfl;exact rfl;exact hcall;exact rfl;rintro v w' hv)
   clear hcall
   rcases hv with ⟨hsf,rfl,hS'⟩|⟨hst,rfl,qa',da',qs',dq',N,hN,hS'⟩
   ·replace hS:=St.transM (Θ:=LyS g12 qa da qs dq (16 + I.entry) A Lp) (Γ:=_::_::_::Lp.map a2N) hS hS'
    clear hS'
    simp only [List.nil_append] at hS
    have hsn:a5a (obP os) os=false:=a5T ho hsf
    rw [if_neg (by rw [hsn];simp)]
    repeat' (first|(first|((with_reducible apply d6 c8);exact rfl;exact rfl)|((with_reducible apply n7 c8);exact rfl;exact rfl;((exact (rfl:_=some [_,_,_])));exact rfl)|(((with_reducible apply i7 hS c8 (i:=2));(iterate 8 exact rfl);((exact (rfl:_=[_,_,_])));intro w' hS';simp only [List.set] at hS';clear hS;have hS:=hS';clear hS')))|(first|(with_reducible first|apply d8|apply c9|apply d7|apply d5|apply j5|apply e6|apply j8))|(((with_reducible apply k9);exact rfl;(exact rfl))))
    (apply s9);(repeat (first|exact ResL.nil|(apply ResL.tmp;exact rfl)|(apply ResL.cell;exact rfl;(((with_reducible apply Loads.st c8);exact rfl;((exact hS.blkR 2 rfl));exact rfl)))))
    exact Or.inl ⟨by decide,rfl,hS.sub (List.nil_sublist _)⟩
   ·replace hS:=(St.transM (Θ:=LyS g12 qa da qs dq (16 + I.entry) A Lp) (Γ:=_::_::_::Lp.map a2N) hS hS').perm (b5I _ _ _ _ _ _)
    clear hS'
    rw [← hA',← List.map_append] at hS
    replace hN:N.map (·.1)=shO (obP os) J b0:=hN
    have hNl:N.length≤1530:=by
     have:=congrArg List.length hN
     rw [List.length_map] at this
     omega
    simp only [LyS,List.cons_append,List.nil_append] at hS
    repeat' (first|(first|((with_reducible apply m0);exact rfl;exact rfl;omega;omega;exact rfl)|((with_reducible apply d6 c8);exact rfl;exact rfl))|(first|(with_reducible first|apply d8|apply c9|apply d7|apply d5|apply g8|apply k8))|(((with_reducible apply l6);exact rfl;(exact rfl))))
    refine m6 (j + 1,(qa',da'),(qs',dq'),A',Lp++N) (by repeat (first|exact Fr.sub_nil _|(apply Fr.sub_cons;exact rfl))) ⟨by show j + 1≤_;omega,hA2,?_,hA3.1,by show A'.length≤6 * (j + 1);omega,by show (Lp++N).length≤1530 * (j + 1);rw [List.length_append];omega,t0 hsy ho hst⟩ (by simpa only [LyS,List.cons_append,List.nil_append,List.append_nil] using hS) (by show _ - (j + 1) < _ - j;omega)
    show (Lp++N).map (·.1)=a4D (obP os) (os.take (j + 1))
    rw [List.map_append,hL1,hN,a77 ho,hdiv]
 obtain ⟨o,ho⟩:=l8 (l:=B) (i:=i) (by omega)
 have hrow:(B.map imR)[i]?=some [.string ⟨o.im.name.toArray⟩,o.vn,o.vs,o.vy,o.vr,.int .i64 o.im.entry]:=j9 (f:=imR) ho
 have hov:=hallB o (List.mem_of_getElem? ho)
 have hob:=hBB o (List.mem_of_getElem? ho)
 obtain ⟨gu,rfl⟩:=hS.rowSome 1 rfl (by omega)
 obtain ⟨J,un,us,uy,ur,a1⟩:=o
 replace hov:ImV w J un us uy ur:=hov
 replace hob:ImB J∧ImD J:=hob
 dsimp only at hrow
 obtain ⟨qn,en,rfl⟩:=hov.needs.len
 obtain ⟨qs,es_,rfl⟩:=hov.segs.len
 obtain ⟨qy,ey,rfl⟩:=hov.syms.len
 obtain ⟨qr,er,rfl⟩:=hov.rels.len
 by_cases hc0:t9 J=0
 rotate_left
 ·have hd:(!decide (t9 J=0))=true:=by rw [decide_eq_false hc0];rfl
  have hfind:=a9N (p:=fun o=>!decide (t9 o.im=0)) hck ho hd
  repeat' (first|(first|((with_reducible apply d6 c8);exact rfl;exact rfl)|((with_reducible apply d9);exact rfl;(((with_reducible apply Loads.st c8);exact rfl;(first|exact hS.blkR 0 rfl|exact hS.rowR 1 rfl (by assumption));exact rfl));exact rfl)|((with_reducible apply p8 c8);(iterate 3 exact rfl);((exact rfl));((omega));exact rfl)|((with_reducible apply n7 c8);exact rfl;exact rfl;((exact (rfl:_=some [_,_,_])));exact rfl)|((with_reducible apply j7 hS c8);(iterate 3 exact rfl);intro g w' hS';clear hS;have hS:=hS';clear hS')|(((with_reducible apply i7 hS c8 (i:=0));(iterate 8 exact rfl);((exact (rfl:_=[_,_,_,_,_,_])));intro w' hS';simp only [List.set] at hS';clear hS;have hS:=hS';clear hS')))|(first|(with_reducible first|apply d8|apply c9|apply d7|apply d5|apply g8|apply e7|apply j5|apply e6|apply j8))|(first|((with_reducible apply k9);exact rfl;(assumption))|((with_reducible apply k6);exact rfl;all_goals (intro hb hp;try (exfalso;omega))))|((with_reducible apply e8);exact rfl;exact rfl;exact a8w (hov.now hS) hob.1 hob.2;exact rfl;rintro _ w' ⟨rfl,hS'⟩;replace hS:=hS.transA hS';simp only [k7] at hS;clear hS')|((with_reducible apply i7 hS c8 (i:=5));(iterate 8 exact rfl);((exact (rfl:_=[_,_,_])));intro w' hS';simp only [List.set] at hS';clear hS;have hS:=hS';clear hS'))
  (apply s9);(repeat (first|exact ResL.nil|(apply ResL.tmp;exact rfl)|(apply ResL.cell;exact rfl;(((with_reducible apply Loads.st c8);exact rfl;((exact hS.blkR 5 rfl));exact rfl)))))
  refine Or.inl ⟨?_,?_,hS.sub (List.nil_sublist _)⟩
  ·rw [hfind];exact hc0
  ·rw [hfind];rfl
 have hd:(!decide (t9 J=0))=false:=by rw [decide_eq_true hc0];rfl
 repeat' (first|(first|((with_reducible apply d6 c8);exact rfl;exact rfl)|((with_reducible apply d9);exact rfl;(((with_reducible apply Loads.st c8);exact rfl;(first|exact hS.blkR 0 rfl|exact hS.rowR 1 rfl (by assumption));exact rfl));exact rfl)|((with_reducible apply p8 c8);(iterate 3 exact rfl);((exact rfl));((omega));exact rfl)|((with_reducible apply j7 hS c8);(iterate 3 exact rfl);intro g w' hS';clear hS;have hS:=hS';clear hS')|(((with_reducible apply i7 hS c8 (i:=0));(iterate 8 exact rfl);((exact (rfl:_=[_,_,_,_,_,_])));intro w' hS';simp only [List.set] at hS';clear hS;have hS:=hS';clear hS')))|(first|(with_reducible first|apply d8|apply c9|apply d7|apply d5|apply g8|apply e7))|(first|((with_reducible apply l6);exact rfl;(assumption))|((with_reducible apply k6);exact rfl;all_goals (intro hb hp;try (exfalso;omega))))|((with_reducible apply e8);exact rfl;exact rfl;exact a8w (hov.now hS) hob.1 hob.2;exact rfl;rintro _ w' ⟨rfl,hS'⟩;replace hS:=hS.transA hS';simp only [k7] at hS;clear hS'))
 (focus ((with_reducible apply a0X _ _ _ 7 (by kernel_rfl) (by kernel_rfl) hS);(simp only [List.take_succ_cons,List.take_zero,List.drop_succ_cons,List.drop_zero]);(repeat' ((first|((with_reducible apply o5 c8);exact rfl;exact rfl)|((with_reducible apply n6);exact rfl;(intro wd hd;replace hd:St _ _ wd _:=hd;(first|((with_reducible apply Loads.sc c8);exact rfl;(first|exact hd.blkC 0 rfl rfl|exact hd.blkC 3 rfl rfl))|((with_reducible apply Loads.st c8);exact rfl;((exact hd.blkR 0 rfl));exact rfl)));exact rfl))));all_goals ((with_reducible apply r5);intro w' hS';clear hS;have hS:=hS';clear hS')))
 have hck2:∀ x ∈ B.take (i + 1),(!decide (t9 x.im=0))=false:=by
  rw [List.take_add_one,ho]
  intro x hx
  rcases List.mem_append.1 hx with h|h
  ·exact hck x h
  ·have:x=⟨J,.slice qn J.needs.length en,.slice qs J.segs.length es_,.slice qy J.syms.length ey,.slice qr J.rels.length er,a1⟩:=by simpa using h
   rw [this]
   exact hd
 by_cases hin:∃ v,(stK J.name,v) ∈ L
 ·obtain ⟨v0,hv0⟩:=hin
  refine a1M (b48 hS (i:=1) a1R a1j rfl rfl rfl rfl hG (k:=stK J.name) trivial hv0) ?_
  rintro - w9 ⟨es',c',j,u',-,hG',hS'⟩
  simp only [List.set] at hS'
  clear hS;have hS:=hS';clear hS'
  repeat' (first|(first|((with_reducible apply m0);exact rfl;exact rfl;omega;omega;exact rfl)|((with_reducible apply d6 c8);exact rfl;exact rfl))|(first|(with_reducible first|apply c9|apply d7|apply d5|apply k8)))
  replace hS:=St.reorder [1,2,3,4,5,6] hS (by decide) rfl
  exact m6 (i + 1,es',c',_) (by repeat (first|exact Fr.sub_nil _|(apply Fr.sub_cons;exact rfl))) ⟨by show i + 1≤_;omega,hG',hMB.old ho hv0,hck2⟩ hS (by show _ - (i + 1) < _ - i;omega)
 ·have hno:∀ v,(stK J.name,v) ∉ L:=fun v hv=>hin ⟨v,hv⟩
  refine a1M (a7E hS (i:=1) a1R a1j rfl rfl rfl rfl hG (k:=stK J.name) trivial hno) ?_
  rintro - w9 ⟨es',c',hG',hS'⟩
  simp only [List.set] at hS'
  clear hS;have hS:=hS';clear hS'
  repeat' (first|(first|((with_reducible apply m0);exact rfl;exact rfl;omega;omega;exact rfl)|((with_reducible apply d6 c8);exact rfl;exact rfl))|(first|(with_reducible first|apply c9|apply d7|apply d5|apply k8)))
  replace hS:=St.reorder [1,2,3,4,5,6] hS (by decide) rfl
  exact m6 (i + 1,es',c',_) (by repeat (first|exact Fr.sub_nil _|(apply Fr.sub_cons;exact rfl))) ⟨by show i + 1≤_;omega,hG',hMB.new ho hno,hck2⟩ hS (by show _ - (i + 1) < _ - i;omega)
end Go.Proofs.Ytejnpppejalhfac
/- The reference's find and address of a link. -/
namespace Go.Proofs.Ytejnpppejalhfac
open Go.RowKit Go.Sort
end Go.Proofs.Ytejnpppejalhfac
/- The reference's objects. -/
namespace Go.Proofs.Ytejnpppejalhfac
open Go.RowKit Go.Sort
structure OrdI (B:List Ob) (ord:List Nat) (s:List Ob×Int):Prop where
 len:s.1.length=ord.length
 at_:∀ (i k:Nat),ord[i]?=some k→∃ (o:Ob) (a:Int),B[k]?=some o∧s.1[i]?=some { o with at_:=a }
theorem b2Q {B:List Ob} (h:(B.map fun o=>o.im.name).Nodup) {i j:Nat} {a b:Ob} (ha:B[i]?=some a) (hb:B[j]?=some b) (he:a.im.name=b.im.name):i=j:=by
 obtain ⟨h1,rfl⟩:=List.getElem?_eq_some_iff.1 ha
 obtain ⟨h2,rfl⟩:=List.getElem?_eq_some_iff.1 hb
 unfold List.Nodup at h
 rw [List.pairwise_iff_getElem] at h
 rcases Nat.lt_trichotomy i j with hlt|heq|hlt
 ·exact absurd (by rw [List.getElem_map,List.getElem_map];exact he) (h i j (by simpa using h1) (by simpa using h2) hlt)
 ·exact heq
 ·exact absurd (by rw [List.getElem_map,List.getElem_map];exact he.symm) (h j i (by simpa using h2) (by simpa using h1) hlt)
theorem OrdI.mem {B:List Ob} {ord:List Nat} {s:List Ob×Int} {k:Nat} {o:Ob} (h:OrdI B ord s) (hn:(B.map fun o=>o.im.name).Nodup) (hk:B[k]?=some o):k ∈ ord ↔ a7D s.1 o.im.name=true:=by
 rw [a4d]
 constructor
 ·intro hm
  obtain ⟨i,hi⟩:=List.mem_iff_getElem?.1 hm
  obtain ⟨o',a,h1,h2⟩:=h.at_ i k hi
  rw [hk] at h1
  cases h1
  exact ⟨_,List.mem_of_getElem? h2,rfl⟩
 ·rintro ⟨x,hx,hxn⟩
  obtain ⟨i,hi⟩:=List.mem_iff_getElem?.1 hx
  have hil:i < ord.length:=by have:=j3 hi;have:=h.len;omega
  obtain ⟨k',hk'⟩:=l8 (l:=ord) (i:=i) (by omega)
  obtain ⟨o',a,h1,h2⟩:=h.at_ i k' hk'
  rw [hi] at h2
  cases h2
  have:=b2Q hn hk h1 hxn.symm
  subst this
  exact List.mem_of_getElem? hk'
theorem OrdI.old {B:List Ob} {ord:List Nat} {s:List Ob×Int} {k:Nat} {o:Ob} (h:OrdI B ord s) (hn:(B.map fun o=>o.im.name).Nodup) (hk:B[k]?=some o) (hm:k ∈ ord):OrdI B ord (v9 s o):=by
 have:=(h.mem hn hk).1 hm
 unfold v9 a6o a3Z
 rw [if_pos this,if_pos this]
 exact h
theorem OrdI.new {B:List Ob} {ord:List Nat} {s:List Ob×Int} {k:Nat} {o:Ob} (h:OrdI B ord s) (hn:(B.map fun o=>o.im.name).Nodup) (hk:B[k]?=some o) (hm:k ∉ ord):OrdI B (ord++[k]) (v9 s o):=by
 have hp:¬ a7D s.1 o.im.name=true:=fun hc=>hm ((h.mem hn hk).2 hc)
 unfold v9 a6o a3Z
 rw [if_neg hp,if_neg hp]
 refine ⟨by simp [h.len],fun i j hj=>?_⟩
 rcases Nat.lt_or_ge i ord.length with hi|hi
 ·rw [List.getElem?_append_left hi] at hj
  obtain ⟨o',a,h1,h2⟩:=h.at_ i j hj
  exact ⟨o',a,h1,by rw [List.getElem?_append_left (by rw [h.len];exact hi)];exact h2⟩
 ·rw [List.getElem?_append_right hi] at hj
  obtain ⟨h1,h2⟩:=List.getElem?_eq_some_iff.1 hj
  simp only [List.length_singleton] at h1
  obtain rfl:i=ord.length:=by omega
  simp only [Nat.sub_self,List.getElem_cons_zero] at h2
  subst h2
  exact ⟨o,s.2 * 16,hk,by rw [← h.len,List.getElem?_append_right (by omega)];simp⟩
theorem OrdI.start {B:List Ob} {M:Ob} (h:B[0]?=some M):OrdI B [0] (v9 ([],1) M):=by
 refine ⟨rfl,fun i k hk=>?_⟩
 cases i with
 |zero=>
  obtain rfl:0=k:=by simpa using hk
  exact ⟨M,16,h,rfl⟩
 |succ i=>simp at hk
end Go.Proofs.Ytejnpppejalhfac
/- An image: the reference's places, and its check. -/
namespace Go.Proofs.Ytejnpppejalhfac
open Go.RowKit Go.Sort
end Go.Proofs.Ytejnpppejalhfac
/- The reference's check of an image. -/
namespace Go.Proofs.Ytejnpppejalhfac
open Go.RowKit Go.Sort
theorem eb (b:Bool) {c:Bool} (h:b=c):Value.bool b=.bool c:=by rw [h]
end Go.Proofs.Ytejnpppejalhfac
/- The reference's LinkError. -/
namespace Go.Proofs.Ytejnpppejalhfac
open Go.RowKit Go.Sort
structure ObsI (w:World) (os:List Ob):Prop where
 v:∀ o ∈ os,ObV w o
 b:∀ o ∈ os,∃ b:Int,o.at_=b * 16∧1≤b∧b≤1800
 y:∀ o ∈ os,∀ s ∈ o.im.syms,-9223372036854775808≤o.at_ + s.at_∧o.at_ + s.at_≤9223372036854775807
 n:os.length≤7
 k:∀ o ∈ os,t9 o.im=0
theorem ObsI.now {w w':World} {os:List Ob} {Γ:List Asr} (h:ObsI w os) (hS:St nF w w' Γ):ObsI w' os:=⟨fun o ho=>(h.v o ho).now hS,h.b,h.y,h.n,h.k⟩
end Go.Proofs.Ytejnpppejalhfac
/- The board of a link, in plain Lean. -/
namespace Go.Proofs.Ytejnpppejalhfac
open Go.RowKit Go.Sort
end Go.Proofs.Ytejnpppejalhfac
/- Reading an image's bytes, in plain Lean. -/
namespace Go.Proofs.Ytejnpppejalhfac
open Go.RowKit Go.Sort
abbrev Bs8:=List UInt8
section
variable {α:Type} {one:Bs8→Option (α×Bs8)}
end
/-! what is written is read as it was -/
theorem wrap64_in {m:Int} (h1:-9223372036854775808≤m) (h2:m≤9223372036854775807):wrap64 m=m:=by unfold wrap64;omega
end Go.Proofs.Ytejnpppejalhfac
/- tiny. -/
namespace Go.Proofs.Ytejnpppejalhfac
open Go.RowKit Go.Sort
theorem a8f (n:Int) (k:Nat) (w:World) (hk:k≤8):Fn Try.prog 64 [.int .i64 n,.int .i64 k] w (RBf (.string ⟨(leB n k).toArray⟩) w) :=
 Fn.of_rb ⟨Try.func64,by kernel_rfl,by kernel_rfl⟩ (a5t (b03 n k w hk))
def b5G (op a b c imm:Int):List UInt8:=leB op 1++leB a 1++leB b 1++leB c 1++leB imm 4
set_option maxRecDepth 100000 in
theorem a6n (op a b c imm:Int) (w:World):Fn Try.prog 38 [.agg [.int .i64 op,.int .i64 a,.int .i64 b,.int .i64 c,.int .i64 imm].toArray] w (RBf (.string ⟨(b5G op a b c imm).toArray⟩) w):=by
 refine j0 (fn:=Try.f38) ⟨Try.func38,by kernel_rfl,by kernel_rfl⟩ (by exact rfl) Try.ntmps38 (by exact rfl) ?_
 have hS:=St.start w
 repeat' (first|(first|((with_reducible apply d6 c8);exact rfl;exact rfl)|((with_reducible apply p7 hS);(iterate 3 exact rfl);intro g w' hS';clear hS;have hS:=hS';clear hS'))|(first|(with_reducible first|apply d8|apply c9|apply d7|apply d5)))
 (focus ((with_reducible apply m7 _ _ _ (by kernel_rfl) (by kernel_rfl) hS);(repeat' (first|(first|((with_reducible apply o5 c8);exact rfl;exact rfl)|((with_reducible apply n6);exact rfl;(intro wd hd;replace hd:St _ _ wd _:=hd;(((with_reducible apply Loads.sc c8);exact rfl;((exact hd.blkC 0 rfl rfl)))));exact rfl))|((with_reducible apply a0A);exact rfl;exact rfl;(intro wd hd;replace hd:St _ _ wd _:=hd;exact a8f _ 1 _ (by decide));exact rfl)|((with_reducible apply a0A);exact rfl;exact rfl;(intro wd hd;replace hd:St _ _ wd _:=hd;exact a8f _ 4 _ (by decide));exact rfl)|((with_reducible apply a1k);intro a ha;exact b6e (by exact rfl) (by exact rfl) (by simp only [List.length_append,leB_length];omega) a ha _;exact rfl)));all_goals ((with_reducible apply r5);intro w' hS';clear hS;have hS:=hS';clear hS')))
 repeat' ((first|(with_reducible first|apply d7|apply d5|apply j5)))
 (apply j6);(repeat (first|exact ResL.nil|(apply ResL.tmp;exact rfl)))
 exact ⟨rfl,hS.sub (List.nil_sublist _)⟩
end Go.Proofs.Ytejnpppejalhfac
/- The reference's fixesOf. -/
namespace Go.Proofs.Ytejnpppejalhfac
open Go.RowKit Go.Sort
end Go.Proofs.Ytejnpppejalhfac
/- The reference's LinkedOf. -/
namespace Go.Proofs.Ytejnpppejalhfac
open Go.RowKit Go.Sort
section
variable {P:Program} {n:Nat} {ds:List Deferred} {E:Fr} {w:World} {dst:Option Nat} {ty:TypeId} {pos:String} {after:Array Edge} {F:Nat→Prop} {w0:World} {Γ:List Asr} {T:Tab}
theorem b4B (hS:St F w0 w Γ) (hT:TabOk P T) {t u e i sz2 g m cap:Nat} {z2:Value} {x:Operand} {l:List UInt8} (ht:T.get t=some (.sl e 1 1 false [.int .u8 0])) (he:T.get e=some (.sc (.int .u8) 1 (.int .u8 0))) (hu2:T.get u=some (.sc .string sz2 z2)) (hx:E.ev x=some (.slice (some ⟨g,0,none⟩) m cap)) (hm:m=l.length) (hi:Γ[i]?=some (.row e 1 (.slice (some ⟨g,0,none⟩) m cap) (bR l))) :
  Gets P ⟨dst,.convert t u x,ty,pos,after,none⟩ n ds E w (fun v' w'=>v'=.string ⟨l.toArray⟩∧w'=w):=by
 refine Gets.of_at fun a ha=>?_
 obtain ⟨ji,zv,hu,hinfo,_⟩:=hT.sl ht
 obtain ⟨_,hus,_⟩:=hT.sc hu2
 obtain ⟨_,hue,_⟩:=hT.sc he
 subst hm
 have hrun:=run_convert_bytes_back (P:=P) w t u e ⟨g,0,none⟩ cap l hu hue hus (fun j hj=>by
   rw [a2Z]
   have:=hS.rowC i hi (k:=j) (j:=0) (r:=[.int .u8 l[j].toNat]) (u:=.int .u8 l[j].toNat) (by unfold bR;simp [hj]) rfl
   simpa using this)
 simp only [execOp,ha.ev hx,Sem.run_bind,hrun,Result.andThen_ok,Sem.run_pure]
end
section
variable {P:Program} {n:Nat} {ds:List Deferred} {E:Fr} {w:World} {Q:Exit→Act→World→Prop} {ops:Array Oper} {S:World→Prop} {q fuel:Nat} {li:Array Bool} {d:Nat} {op:Op} {ty:TypeId} {pos:String} {after:Array Edge} {T:Tab}
theorem a2E (i:Nat) {v:Value} (hi:ops[i]?=some ⟨some d,op,ty,pos,after,none⟩) (hs:Region.noSelect ops=true) (hf:Region.free .any ops li i=true) (hr:(Region.ready .any ops li).contains i=true) (hqi:Nat.beq q i=false)
  (hQ:∀ c (a:Act) w,Q (.panic c) (a.put (some d) v) w→Q (.panic c) a w) (hS:li.getD q false=true∨S w) (h:∀ a,Has n ds a E→a0I P ⟨some d,op,ty,pos,after,none⟩ a v) (hd:Nat.blt d n=true) (k:WT P ops Q S q fuel (li.setIfInBounds i true) n ds ((d,v)::E) w):WT P ops Q S q (fuel + 1) li n ds E w:=fun a ha=>
 a6G hi (Region.noSelect_spec hs) hQ (fun e=>by subst e;rw [Nat.beq_refl] at hqi;cases hqi) fuel li a w (Region.free_spec hi hf) (by simpa using hr) hS (Or.inl ⟨rfl,fun w _=>h a ha w⟩) (k _ (ha.put d v hd))
theorem a7l (i:Nat) (hT:TabOk P T) {t s:Nat} {fs:List (Nat×Nat×Bool)} {z L:List Value} {parts:Array (Nat×Operand)} {ps:List (Nat×Value)} (hi:ops[i]?=some ⟨some d,.build t parts,ty,pos,after,none⟩) (hs:Region.noSelect ops=true) (hf:Region.free .any ops li i=true) (hr:(Region.ready .any ops li).contains i=true) (hqi:Nat.beq q i=false)
  (hQ:∀ c (a:Act) w v,Q (.panic c) (a.put (some d) v) w→Q (.panic c) a w) (hS:li.getD q false=true∨S w) (ht:T.get t=some (.st s fs z)) (hp:evP E parts.toList=some ps) (hL:a2a (fun i=>(fs[i]?).map fun f=>(f.1,f.2.1)) z ps=some L) (hd:Nat.blt d n=true) (k:WT P ops Q S q fuel (li.setIfInBounds i true) n ds ((d,.agg L.toArray)::E) w):WT P ops Q S q (fuel + 1) li n ds E w :=
 a2E i hi hs hf hr hqi (fun c a w=>hQ c a w _) hS (fun a ha=>a3A hT ht hp hL a ha) hd k
end
section
variable {P:Program} {n:Nat} {ds:List Deferred} {E E':Fr} {w:World} {F:Nat→Prop} {w0:World} {Γ:List Asr}
end
end Go.Proofs.Ytejnpppejalhfac
/- What a mapped page is filled with; sheets of a kernel. -/
namespace Go.Proofs.Ytejnpppejalhfac
open Go.RowKit Go.Sort
def a6w (o:Option (List UInt8)):Value:=.tuple #[.string ⟨(o.getD []).toArray⟩,.bool o.isSome]
theorem a2s:∀ {l:List Sh} {last:Int},a0W last l=true→(∀ s ∈ l,a0b s=true∧last < s.page)∧Rises (l.map fun s=>s.page)
 |[],_,_=>⟨by simp,List.Pairwise.nil⟩
 |s::l,last,h=>by
  replace h:(a0b s && (decide (last < s.page) && a0W s.page l))=true:=h
  simp only [Bool.and_eq_true,decide_eq_true_eq] at h
  obtain ⟨h1,h2,h3⟩:=h
  obtain ⟨i1,i2⟩:=a2s h3
  refine ⟨fun x hx=>?_,List.Pairwise.cons (fun p hp=>?_) i2⟩
  ·rcases List.mem_cons.1 hx with rfl|hx
   ·exact ⟨h1,h2⟩
   ·exact ⟨(i1 x hx).1,by have:=(i1 x hx).2;omega⟩
  ·obtain ⟨x,hx,rfl⟩:=List.mem_map.1 hp
   exact (i1 x hx).2
theorem a3w (l:List (Sh×Value)):(l.map fun p=>p.1.page)=(shs l).map fun s=>s.page:=by unfold shs;rw [List.map_map];rfl
theorem b0P {l:List Sh} {p:Int} (h:p ∉ l.map fun s=>s.page):b0U l p=none:=by
 unfold b0U
 rw [List.find?_eq_none]
 intro x hx hp
 exact h (List.mem_map.2 ⟨x,hx,by simpa using hp⟩)
theorem b1r {l:List Sh} {p:Int} {i:Nat} {s:Sh} (hr:Rises (l.map fun s=>s.page)) (hi:l[i]?=some s) (hp:s.page=p):b0U l p=some s:=by
 unfold b0U
 rw [List.find?_eq_some_iff_getElem]
 obtain ⟨h1,rfl⟩:=List.getElem?_eq_some_iff.1 hi
 refine ⟨by simpa using hp,i,h1,rfl,fun j hj=>?_⟩
 have hjl:j < l.length:=by omega
 have:=hr.at_ hj (j9 (f:=fun s:Sh=>s.page) (List.getElem?_eq_getElem hjl)) (j9 (f:=fun s:Sh=>s.page) hi)
 simp
 omega
theorem ShsV.one {w:World} {l:List (Sh×Value)} {v:Value} (h:ShsV w l v):∀ p ∈ l,p.2.oneCell'=true:=fun p hp=>by
 obtain ⟨a,c,hpc⟩:=(h.fx p hp).len
 rw [hpc]
 rfl
set_option maxRecDepth 100000 in
set_option maxHeartbeats 8000000 in
theorem a2H {F:Nat→Prop} {w:World} {l:List (Sh×Value)} {g o:Nat} {vsh:Value} {a:Ar} {p:Int} (hc:Bs nF w ⟨g,o,none⟩ vsh) (hL:ShsV w l vsh) (hr:a0W 0 (shs l)=true) (hp:-1000000≤p∧p≤1000000):Fn Try.prog 21 [.pointer (some ⟨g,o,none⟩),.agg (arC a).toArray,.int .i64 p] w (RBf (a6w (a09 (shs l) a.z p)) w):=by
 obtain ⟨r1,r2⟩:=a2s hr
 have hone:=hL.one
 have bnd:=hL.sl.bound
 obtain ⟨pv,cv,rfl⟩:=hL.sl.len
 have hbs:=fun w (h:Sl nF w 3 (.slice pv l.length cv) (l.map fun p=>shC p.1 p.2))=>b3H (t:=p) h (by rw [a3w];exact r2) (fun q hq=>by
  rw [a3w] at hq
  obtain ⟨s,hs,rfl⟩:=List.mem_map.1 hq
  have:=a6j (r1 s hs).1
  omega) hone
 unfold arC
 by_cases hz:a.z=true
 ·unfold a09
  rw [if_pos hz,hz]
  refine j0 (fn:=Try.f21) ⟨Try.func21,by kernel_rfl,by kernel_rfl⟩ (by exact rfl) Try.ntmps21 (by exact rfl) ?_
  have hS:=St.start w
  repeat' (first|(first|((with_reducible apply d6 c8);exact rfl;exact rfl)|((with_reducible apply d9);exact rfl;(((with_reducible apply Loads.sc c8);exact rfl;((exact hS.blkC 0 rfl rfl))));exact rfl)|((with_reducible apply p7 hS);(iterate 3 exact rfl);intro g w' hS';clear hS;have hS:=hS';clear hS'))|(first|(with_reducible first|apply d8|apply c9|apply d7|apply d5))|(((with_reducible apply k9);exact rfl;(exact rfl)))|((with_reducible apply a7B hS c8 (m:=16));(iterate 5 exact rfl);omega;omega;exact rfl;exact rfl;intro gz w' hS';clear hS;have hS:=hS';clear hS'))
  ((with_reducible apply y7);exact rfl;exact b4B hS c8 (i:=0) (l:=List.replicate 16 0) rfl rfl rfl rfl (by rw [List.length_replicate]) (by unfold bR;rw [List.map_replicate];rfl);rintro _ _ ⟨rfl,rfl⟩)
  repeat' (first|(((with_reducible apply d6 c8);exact rfl;exact rfl))|(first|(with_reducible first|apply d7|apply d5|apply j5|apply e6)))
  (apply s9);(repeat (first|exact ResL.nil|(apply ResL.tmp;exact rfl)))
  exact ⟨rfl,hS.sub (List.nil_sublist _)⟩
 have hzf:a.z=false:=by simpa using hz
 unfold a09
 rw [if_neg hz,hzf]
 unfold BsV at hbs
 by_cases hm:p ∈ l.map fun x=>x.1.page
 ·have hdm:decide (p ∈ l.map fun x=>x.1.page)=true:=decide_eq_true hm
  have hlb:=(a01 (by rw [a3w];exact r2) p).2 hm
  rw [hdm] at hbs
  generalize lbd (l.map fun x=>x.1.page) p=i at hbs hlb
  rw [List.getElem?_map] at hlb
  obtain ⟨x,hx,hxp⟩:∃ x,l[i]?=some x∧x.1.page=p:=by
   cases hq:l[i]? with
   |none=>rw [hq] at hlb;cases hlb
   |some x=>rw [hq] at hlb;exact ⟨x,rfl,Option.some.inj hlb⟩
  have hil:=j3 hx
  have hrow:=j9 (f:=fun p:Sh×Value=>shC p.1 p.2) hx
  have hfx:=hL.fx x (List.mem_of_getElem? hx)
  have hsa:=b1r r2 (a5Z hx) hxp
  have hrt:=(r1 x.1 (List.mem_of_getElem? (a5Z hx))).1
  rw [hsa]
  obtain ⟨S,u⟩:=x
  dsimp only [shC] at hrow hfx hrt
  obtain ⟨pu,cu,rfl⟩:=hfx.len
  have hfi:∀ w1,ShV w1 S (.slice pu S.fixes.length cu)→Fn Try.prog 51 [.agg [.int .i64 S.page,.string ⟨S.data.toArray⟩,.slice pu S.fixes.length cu].toArray] w1 (RBf (.tuple #[.string ⟨(a7d S).toArray⟩,.int .i64 0]) w1):=fun w1 h=>by
   have h3:=a91 h
   rw [if_pos hrt,if_pos hrt] at h3
   exact h3
  have hsl:=hL.sl
  refine j0 (fn:=Try.f21) ⟨Try.func21,by kernel_rfl,by kernel_rfl⟩ (by exact rfl) Try.ntmps21 (by exact rfl) ?_
  have hS:=St.start w
  repeat' (first|(first|((with_reducible apply d6 c8);exact rfl;exact rfl)|((with_reducible apply d9);exact rfl;(first|((with_reducible apply Loads.sc c8);exact rfl;((exact hS.blkC 0 rfl rfl)))|((with_reducible apply Loads.sl c8);exact rfl;((exact hS.bs (by assumption)))));exact rfl)|((with_reducible apply p7 hS);(iterate 3 exact rfl);intro g w' hS';clear hS;have hS:=hS';clear hS'))|(first|(with_reducible first|apply d8|apply c9|apply d7|apply d5|apply g8))|(((with_reducible apply l6);exact rfl;(exact rfl)))|((with_reducible apply e8);exact rfl;exact rfl;exact hbs _ (hsl.now hS);exact rfl;rintro _ w' ⟨rfl,hS'⟩;replace hS:=hS.transA hS';simp only [k7] at hS;clear hS'))
  obtain ⟨b,off,hpe,hro⟩:=hsl.at_ (i:=i) hil
  subst hpe
  repeat' (first|(first|((with_reducible apply d6 c8);exact rfl;exact rfl)|((with_reducible apply d9);exact rfl;(((with_reducible apply Loads.st c8);exact rfl;((exact hS.roR (by assumption) (by assumption)));exact rfl));exact rfl)|((with_reducible apply p8 c8);(iterate 3 exact rfl);((exact rfl));((omega));exact rfl))|(first|(with_reducible first|apply d8|apply c9|apply d7|apply d5|apply j5))|((with_reducible apply e8);exact rfl;exact rfl;exact hfi _ (hfx.now hS);exact rfl;rintro _ w' ⟨rfl,hS'⟩;replace hS:=hS.transA hS';simp only [k7] at hS;clear hS'))
  (apply s9);(repeat (first|exact ResL.nil|(apply ResL.tmp;exact rfl)))
  exact ⟨rfl,hS.sub (List.nil_sublist _)⟩
 ·have hdm:decide (p ∈ l.map fun x=>x.1.page)=false:=decide_eq_false hm
  rw [hdm] at hbs
  rw [b0P (by rw [← a3w];exact hm)]
  have hsl:=hL.sl
  refine j0 (fn:=Try.f21) ⟨Try.func21,by kernel_rfl,by kernel_rfl⟩ (by exact rfl) Try.ntmps21 (by exact rfl) ?_
  have hS:=St.start w
  repeat' (first|(first|((with_reducible apply d6 c8);exact rfl;exact rfl)|((with_reducible apply d9);exact rfl;(first|((with_reducible apply Loads.sc c8);exact rfl;((exact hS.blkC 0 rfl rfl)))|((with_reducible apply Loads.sl c8);exact rfl;((exact hS.bs (by assumption)))));exact rfl)|((with_reducible apply p7 hS);(iterate 3 exact rfl);intro g w' hS';clear hS;have hS:=hS';clear hS'))|(first|(with_reducible first|apply d8|apply c9|apply d7|apply d5|apply g8|apply j5|apply e6))|(first|((with_reducible apply k9);exact rfl;(exact rfl))|((with_reducible apply l6);exact rfl;(exact rfl)))|((with_reducible apply e8);exact rfl;exact rfl;exact hbs _ (hsl.now hS);exact rfl;rintro _ w' ⟨rfl,hS'⟩;replace hS:=hS.transA hS';simp only [k7] at hS;clear hS'))
  (apply s9);(repeat (first|exact ResL.nil|(apply ResL.tmp;exact rfl)))
  exact ⟨rfl,hS.sub (List.nil_sublist _)⟩
end Go.Proofs.Ytejnpppejalhfac
/- The reference's SameSheets and SameLinked, of what is the same. -/
namespace Go.Proofs.Ytejnpppejalhfac
open Go.RowKit Go.Sort
end Go.Proofs.Ytejnpppejalhfac
