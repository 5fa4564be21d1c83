/- Texts that the proof stands on, one behind the other: Ke3, Ke4, Ke5, PlKer2, Ke6, Sc24. -/
import Derived.Test.YtejnpppejalhfacPKernelEmpty7
/- A kernel's sheets; namers; frames held against who names them. -/
namespace Go.Proofs.Ytejnpppejalhfac
open Go.RowKit Go.Sort
set_option maxRecDepth 100000 in
set_option maxHeartbeats 8000000 in
theorem a9G {Lp:List (Sh×Value)} {w:World} {vs:Value} (hL:ShsV w Lp vs):Fn Try.prog 24 [vs] w (RBf (.bool (a0W 0 (shs Lp))) w):=by
 have bnd:=hL.sl.bound
 have hsl:=hL.sl
 obtain ⟨p,c,rfl⟩:=hL.sl.len
 refine j0 (fn:=Try.f24) ⟨Try.func24,by kernel_rfl,by kernel_rfl⟩ (by exact rfl) Try.ntmps24 (by exact rfl) ?_
 have hS:=St.start w
 repeat' (first|(((with_reducible apply d6 c8);exact rfl;exact rfl))|(first|(with_reducible first|apply d8|apply c9|apply d7|apply d5|apply e7)))
 refine o6 (X:=Nat×Int) (fun x=>[(9,.int .i64 (x.1:Nat))]) [0,7,8] rfl (fun _=>[]) (fun x=>x.1≤Lp.length∧((x.1=0∧x.2=0)∨(0 < x.1∧∃ y,Lp[x.1 - 1]?=some y∧x.2=y.1.page))∧a0W 0 (shs Lp)=a0W x.2 ((shs Lp).drop x.1)) (fun x=>Lp.length - x.1) (0,0) (by repeat (first|exact Fr.sub_nil _|(apply Fr.sub_cons;exact rfl))) (by simp) hS ?_
 clear hS
 rintro ⟨i,last⟩ w1 ⟨hi,hlast,hok⟩ hS
 dsimp only [List.cons_append,List.nil_append] at hi hlast hok hS ⊢
 by_cases hlt:i < Lp.length
 rotate_left
 ·rw [List.drop_of_length_le (by rw [a2J];omega)] at hok
  repeat' (first|(((with_reducible apply d6 c8);exact rfl;exact rfl))|(first|(with_reducible first|apply d8|apply c9|apply d7|apply d5|apply n5|apply j5|apply j4|apply i9))|(((with_reducible apply k6);exact rfl;all_goals (intro hb hp;try (exfalso;omega)))))
  (apply j6);(repeat (first|exact ResL.nil|(apply ResL.tmp;exact rfl)))
  exact ⟨by rw [hok];rfl,hS.sub (List.nil_sublist _)⟩
 obtain ⟨x,hx⟩:=l8 (l:=Lp) (i:=i) (by omega)
 have hrow:=j9 (f:=fun p=>shC p.1 p.2) hx
 obtain ⟨b,off,rfl,hro⟩:=hsl.at_ (i:=i) hlt
 have hst:=a9H (last:=last) (a5Z hx)
 have hfx:=hL.fx x (List.mem_of_getElem? hx)
 obtain ⟨S,u⟩:=x
 dsimp only [shC] at hrow hst hfx
 obtain ⟨pu,cu,rfl⟩:=hfx.len
 have hfi:=fun w (h:ShV w S (.slice pu S.fixes.length cu))=>a91 h
 rw [hst] at hok
 cases hR:a0b S with
 |false=>
  simp only [hR,Bool.false_eq_true,if_false] at hfi
  rw [hR,Bool.false_and] at hok
  repeat' (first|(first|((with_reducible apply d6 c8);exact rfl;exact rfl)|((with_reducible apply d9);exact rfl;(((with_reducible apply Loads.st c8);exact rfl;(first|exact hS.blkR 0 rfl|exact hS.roR (by assumption) (by assumption));exact rfl));exact rfl)|((with_reducible apply p8 c8);(iterate 3 exact rfl);((exact rfl));((omega));exact rfl)|((with_reducible apply j7 hS c8);(iterate 3 exact rfl);intro g w' hS';clear hS;have hS:=hS';clear hS')|(((with_reducible apply i7 hS c8 (i:=0));(iterate 8 exact rfl);((exact (rfl:_=[_,_,_])));intro w' hS';simp only [List.set] at hS';clear hS;have hS:=hS';clear hS')))|(first|(with_reducible first|apply d8|apply c9|apply d7|apply d5|apply g8|apply e7))|(((with_reducible apply k6);exact rfl;all_goals (intro hb hp;try (exfalso;omega))))|((with_reducible apply e8);exact rfl;exact rfl;exact hfi _ (hfx.now hS);exact rfl;rintro _ w' ⟨rfl,hS'⟩;replace hS:=hS.transA hS';simp only [k7] at hS;clear hS'))
  (focus ((with_reducible apply m7 _ _ _ (by kernel_rfl) (by kernel_rfl) hS);(repeat' ((first|((with_reducible apply o5 c8);exact rfl;exact rfl)|(first|((with_reducible apply a7A);(iterate 4 exact rfl);((exact rfl));exact rfl)|((with_reducible apply a7S);(iterate 5 exact rfl))|((with_reducible apply a1b);exact rfl;((exact rfl));exact rfl;exact rfl)))));all_goals ((with_reducible apply r5);intro w' hS';clear hS;have hS:=hS';clear hS')))
  repeat' (first|(((with_reducible apply d6 c8);exact rfl;exact rfl))|(first|(with_reducible first|apply d8|apply c9|apply d7|apply d5|apply j5|apply e6|apply j8))|(((with_reducible apply k9);exact rfl;(exact rfl))))
  (apply j6);(repeat (first|exact ResL.nil|(apply ResL.tmp;exact rfl)))
  exact ⟨by rw [hok],hS.sub (List.nil_sublist _)⟩
 |true=>
  simp only [hR,if_true] at hfi
  rw [hR,Bool.true_and] at hok
  have hpg:=a6j hR
  rcases hlast with ⟨rfl,rfl⟩|⟨hi0,y,hy,rfl⟩
  ·rw [decide_eq_true (show (0:Int) < S.page by omega),Bool.true_and] at hok
   repeat' (first|(first|((with_reducible apply d6 c8);exact rfl;exact rfl)|((with_reducible apply d9);exact rfl;(((with_reducible apply Loads.st c8);exact rfl;(first|exact hS.blkR 0 rfl|exact hS.roR (by assumption) (by assumption));exact rfl));exact rfl)|((with_reducible apply p8 c8);(iterate 3 exact rfl);((exact rfl));((omega));exact rfl)|((with_reducible apply j7 hS c8);(iterate 3 exact rfl);intro g w' hS';clear hS;have hS:=hS';clear hS')|(((with_reducible apply i7 hS c8 (i:=0));(iterate 8 exact rfl);((exact (rfl:_=[_,_,_])));intro w' hS';simp only [List.set] at hS';clear hS;have hS:=hS';clear hS')))|(first|(with_reducible first|apply d8|apply c9|apply d7|apply d5|apply g8|apply e7))|(((with_reducible apply k6);exact rfl;all_goals (intro hb hp;try (exfalso;omega))))|((with_reducible apply e8);exact rfl;exact rfl;exact hfi _ (hfx.now hS);exact rfl;rintro _ w' ⟨rfl,hS'⟩;replace hS:=hS.transA hS';simp only [k7] at hS;clear hS'))
   (focus ((with_reducible apply m7 _ _ _ (by kernel_rfl) (by kernel_rfl) hS);(repeat' ((first|((with_reducible apply o5 c8);exact rfl;exact rfl)|(first|((with_reducible apply a3H);(iterate 4 exact rfl);(exact rfl))|((with_reducible apply a7A);(iterate 4 exact rfl);((exact rfl));exact rfl)|((with_reducible apply a1L);exact rfl;((exact rfl));exact rfl;exact rfl)))));all_goals ((with_reducible apply r5);intro w' hS';clear hS;have hS:=hS';clear hS')))
   repeat' (first|(first|((with_reducible apply m0);exact rfl;exact rfl;omega;omega;exact rfl)|((with_reducible apply d6 c8);exact rfl;exact rfl))|(first|(with_reducible first|apply c9|apply d7|apply d5|apply g8|apply k8))|(((with_reducible apply l6);exact rfl;(exact rfl))))
   exact m6 (1,S.page) (by repeat (first|exact Fr.sub_nil _|(apply Fr.sub_cons;exact rfl))) ⟨by show 1≤Lp.length;omega,Or.inr ⟨by show 0 < 1;omega,_,hx,rfl⟩,hok⟩ hS.drop (by show Lp.length - 1 < Lp.length - 0;omega)
  ·have e1:((i:Int) - 1).toNat=i - 1:=by omega
   have hrow2:(Lp.map fun p=>shC p.1 p.2)[((i:Int) - 1).toNat]?=some (shC y.1 y.2):=by rw [e1];exact j9 (f:=fun p=>shC p.1 p.2) hy
   obtain ⟨S2,u2⟩:=y
   dsimp only [shC] at hrow2 hok
   by_cases hlp:S2.page < S.page
   ·rw [decide_eq_true hlp,Bool.true_and] at hok
    have hd1:decide (S.page≤S2.page)=false:=decide_eq_false (by omega)
    repeat' (first|(first|((with_reducible apply d6 c8);exact rfl;exact rfl)|((with_reducible apply d9);exact rfl;(((with_reducible apply Loads.st c8);exact rfl;(first|exact hS.blkR 0 rfl|exact hS.roR (by assumption) (by assumption));exact rfl));exact rfl)|((with_reducible apply p8 c8);(iterate 3 exact rfl);((exact rfl));((omega));exact rfl)|((with_reducible apply j7 hS c8);(iterate 3 exact rfl);intro g w' hS';clear hS;have hS:=hS';clear hS')|(((with_reducible apply i7 hS c8 (i:=0));(iterate 8 exact rfl);((exact (rfl:_=[_,_,_])));intro w' hS';simp only [List.set] at hS';clear hS;have hS:=hS';clear hS')))|(first|(with_reducible first|apply d8|apply c9|apply d7|apply d5|apply g8|apply e7))|(((with_reducible apply k6);exact rfl;all_goals (intro hb hp;try (exfalso;omega))))|((with_reducible apply e8);exact rfl;exact rfl;exact hfi _ (hfx.now hS);exact rfl;rintro _ w' ⟨rfl,hS'⟩;replace hS:=hS.transA hS';simp only [k7] at hS;clear hS'))
    (focus ((with_reducible apply m7 _ _ _ (by kernel_rfl) (by kernel_rfl) hS);(repeat' ((first|((with_reducible apply a3G);exact rfl;exact rfl;omega;omega;exact rfl)|((with_reducible apply o5 c8);exact rfl;exact rfl)|((with_reducible apply n6);exact rfl;(intro wd hd;replace hd:St _ _ wd _:=hd;(((with_reducible apply Loads.sc c8);exact rfl;(first|exact hd.blkC 0 rfl rfl|exact hd.roC0 (by assumption) (by assumption) rfl))));exact rfl)|((with_reducible apply a05 c8);(iterate 3 exact rfl);((exact Int.toNat_of_nonneg (by omega)));((omega));exact rfl)|(first|((with_reducible apply a3H);(iterate 4 exact rfl);first|exact rfl|assumption)|((with_reducible apply a1K);(iterate 3 exact rfl);all_goals (intro hb hp;try (exfalso;omega)))|((with_reducible apply a1b);exact rfl;((assumption));exact rfl;exact rfl)|((with_reducible apply a1L);exact rfl;((exact rfl));exact rfl;exact rfl)))));all_goals ((with_reducible apply r5);intro w' hS';clear hS;have hS:=hS';clear hS')))
    repeat' (first|(first|((with_reducible apply m0);exact rfl;exact rfl;omega;omega;exact rfl)|((with_reducible apply d6 c8);exact rfl;exact rfl))|(first|(with_reducible first|apply c9|apply d7|apply d5|apply g8|apply k8))|(((with_reducible apply l6);exact rfl;(assumption))))
    exact m6 (i + 1,S.page) (by repeat (first|exact Fr.sub_nil _|(apply Fr.sub_cons;exact rfl))) ⟨by show i + 1≤Lp.length;omega,Or.inr ⟨by show 0 < i + 1;omega,_,hx,rfl⟩,hok⟩ hS.drop (by show Lp.length - (i + 1) < Lp.length - i;omega)
   ·rw [decide_eq_false hlp,Bool.false_and] at hok
    have hd1:decide (S.page≤S2.page)=true:=decide_eq_true (by omega)
    repeat' (first|(first|((with_reducible apply d6 c8);exact rfl;exact rfl)|((with_reducible apply d9);exact rfl;(((with_reducible apply Loads.st c8);exact rfl;(first|exact hS.blkR 0 rfl|exact hS.roR (by assumption) (by assumption));exact rfl));exact rfl)|((with_reducible apply p8 c8);(iterate 3 exact rfl);((exact rfl));((omega));exact rfl)|((with_reducible apply j7 hS c8);(iterate 3 exact rfl);intro g w' hS';clear hS;have hS:=hS';clear hS')|(((with_reducible apply i7 hS c8 (i:=0));(iterate 8 exact rfl);((exact (rfl:_=[_,_,_])));intro w' hS';simp only [List.set] at hS';clear hS;have hS:=hS';clear hS')))|(first|(with_reducible first|apply d8|apply c9|apply d7|apply d5|apply g8|apply e7))|(((with_reducible apply k6);exact rfl;all_goals (intro hb hp;try (exfalso;omega))))|((with_reducible apply e8);exact rfl;exact rfl;exact hfi _ (hfx.now hS);exact rfl;rintro _ w' ⟨rfl,hS'⟩;replace hS:=hS.transA hS';simp only [k7] at hS;clear hS'))
    (focus ((with_reducible apply m7 _ _ _ (by kernel_rfl) (by kernel_rfl) hS);(repeat' ((first|((with_reducible apply a3G);exact rfl;exact rfl;omega;omega;exact rfl)|((with_reducible apply o5 c8);exact rfl;exact rfl)|((with_reducible apply n6);exact rfl;(intro wd hd;replace hd:St _ _ wd _:=hd;(((with_reducible apply Loads.sc c8);exact rfl;(first|exact hd.blkC 0 rfl rfl|exact hd.roC0 (by assumption) (by assumption) rfl))));exact rfl)|((with_reducible apply a05 c8);(iterate 3 exact rfl);((exact Int.toNat_of_nonneg (by omega)));((omega));exact rfl)|(first|((with_reducible apply a3H);(iterate 4 exact rfl);first|exact rfl|assumption)|((with_reducible apply a1K);(iterate 3 exact rfl);all_goals (intro hb hp;try (exfalso;omega)))|((with_reducible apply a1b);exact rfl;((assumption));exact rfl;exact rfl)|((with_reducible apply a1L);exact rfl;((exact rfl));exact rfl;exact rfl)))));all_goals ((with_reducible apply r5);intro w' hS';clear hS;have hS:=hS';clear hS')))
    repeat' (first|(((with_reducible apply d6 c8);exact rfl;exact rfl))|(first|(with_reducible first|apply d8|apply c9|apply d7|apply d5|apply j5|apply e6|apply j8))|(((with_reducible apply k9);exact rfl;(assumption))))
    (apply j6);(repeat (first|exact ResL.nil|(apply ResL.tmp;exact rfl)))
    exact ⟨by rw [hok],hS.sub (List.nil_sublist _)⟩
theorem b6j (a b:Fm):a9X Try.prog 43 (fmC a) (fmC b) (decide (a=b)):=by
 refine ⟨fun w=>?_,by kernel_rfl⟩
 cases a
 cases b
 unfold fmC
 simp [go_sem]
 repeat' split
 all_goals simp_all
theorem b5V (a b:Sw):a9X Try.prog 45 (swC a) (swC b) (decide (a=b)):=by
 refine ⟨fun w=>?_,by kernel_rfl⟩
 cases a
 cases b
 unfold swC
 simp [go_sem]
 repeat' split
 all_goals simp_all
end Go.Proofs.Ytejnpppejalhfac
/- slices.IndexFunc and ContainsFunc over predicates that only read; namers that are alike. -/
namespace Go.Proofs.Ytejnpppejalhfac
open Go.RowKit Go.Sort
set_option maxRecDepth 100000 in
set_option maxHeartbeats 8000000 in
theorem b3h {l:List Nm} {w:World} {v:Value} {p:Nm→Bool} {k:FuncId} {caps:List Value} (hL:Sl nF w 7 v (l.map nmC)) (hf:∀ x ∈ l,∀ w',(∃ Γ,St nF w w' Γ)→Fn Try.prog k ([.agg (nmC x).toArray]++caps) w' (RBf (.bool (p x)) w')) :
  Fn Try.prog 69 [v,.func (.func k) #[] caps.toArray] w (RBf (.int .i64 (a2h p l)) w):=by
 have bnd:=hL.bound
 obtain ⟨pp,c,rfl⟩:=hL.len
 refine j0 (fn:=Try.f69) ⟨Try.func69,by kernel_rfl,by kernel_rfl⟩ (by exact rfl) Try.ntmps69 (by exact rfl) ?_
 have hS:=St.start w
 repeat' (first|(((with_reducible apply d6 c8);exact rfl;exact rfl))|(first|(with_reducible first|apply d8|apply c9|apply d7|apply d5|apply e7)))
 refine o6 (X:=Nat) (fun x=>[(8,.int .i64 (x:Nat))]) [0,1,7] rfl (fun _=>[]) (fun x=>x≤l.length∧(l.take x).all (fun y=>!p y)=true) (fun x=>l.length - x) 0 (by repeat (first|exact Fr.sub_nil _|(apply Fr.sub_cons;exact rfl))) (by simp) hS ?_
 clear hS
 rintro i w1 ⟨hi,hall⟩ hS
 dsimp only [List.cons_append,List.nil_append] at hi hall hS ⊢
 by_cases hlt:i < l.length
 ·obtain ⟨x,hx⟩:=l8 (l:=l) (i:=i) (by omega)
  have hrow:=j9 (f:=nmC) hx
  obtain ⟨b,off,rfl,hro⟩:=hL.at_ (i:=i) hlt
  have hcall:=fun w' h=>hf x (List.mem_of_getElem? hx) w' h
  cases hpx:p x with
  |true=>
   rw [hpx] at hcall
   rw [a2V hall hx hpx]
   repeat' (first|(first|((with_reducible apply d6 c8);exact rfl;exact rfl)|((with_reducible apply d9);exact rfl;(((with_reducible apply Loads.st c8);exact rfl;((exact hS.roR (by assumption) (by assumption)));exact rfl));exact rfl)|((with_reducible apply p8 c8);(iterate 3 exact rfl);((exact rfl));((omega));exact rfl))|(first|(with_reducible first|apply d8|apply c9|apply d7|apply d5|apply g8|apply e7|apply j5|apply e6|apply j8))|(first|((with_reducible apply k9);exact rfl;(exact rfl))|((with_reducible apply k6);exact rfl;all_goals (intro hb hp;try (exfalso;omega))))|((with_reducible apply e8);exact rfl;exact rfl;exact hcall _ ⟨_,hS⟩;exact rfl;rintro _ w' ⟨rfl,hS'⟩;replace hS:=hS.transA hS';simp only [k7] at hS;clear hS'))
   (apply j6);(repeat (first|exact ResL.nil|(apply ResL.tmp;exact rfl)))
   exact ⟨rfl,hS.sub (List.nil_sublist _)⟩
  |false=>
   rw [hpx] at hcall
   repeat' (first|(first|((with_reducible apply m0);exact rfl;exact rfl;omega;omega;exact rfl)|((with_reducible apply d6 c8);exact rfl;exact rfl)|((with_reducible apply d9);exact rfl;(((with_reducible apply Loads.st c8);exact rfl;((exact hS.roR (by assumption) (by assumption)));exact rfl));exact rfl)|((with_reducible apply p8 c8);(iterate 3 exact rfl);((exact rfl));((omega));exact rfl))|(first|(with_reducible first|apply d8|apply c9|apply d7|apply d5|apply g8|apply e7|apply k8))|(first|((with_reducible apply l6);exact rfl;(exact rfl))|((with_reducible apply k6);exact rfl;all_goals (intro hb hp;try (exfalso;omega))))|((with_reducible apply e8);exact rfl;exact rfl;exact hcall _ ⟨_,hS⟩;exact rfl;rintro _ w' ⟨rfl,hS'⟩;replace hS:=hS.transA hS';simp only [k7] at hS;clear hS'))
   exact m6 (i + 1) (by repeat (first|exact Fr.sub_nil _|(apply Fr.sub_cons;exact rfl))) ⟨by show i + 1≤_;omega,t0 hall hx (by simp [hpx])⟩ hS (by show _ - (i + 1) < _ - i;omega)
 ·rw [a2q hall (by omega)]
  repeat' (first|(((with_reducible apply d6 c8);exact rfl;exact rfl))|(first|(with_reducible first|apply d8|apply c9|apply d7|apply d5|apply n5|apply j5|apply j4|apply i9))|(((with_reducible apply k6);exact rfl;all_goals (intro hb hp;try (exfalso;omega)))))
  (apply j6);(repeat (first|exact ResL.nil|(apply ResL.tmp;exact rfl)))
  exact ⟨rfl,hS.sub (List.nil_sublist _)⟩
set_option maxRecDepth 100000 in
set_option maxHeartbeats 8000000 in
theorem b2p {l:List Fm} {w:World} {v:Value} {p:Fm→Bool} {k:FuncId} {caps:List Value} (hL:Sl nF w 4 v (l.map fmC)) (hf:∀ x ∈ l,∀ w',(∃ Γ,St nF w w' Γ)→Fn Try.prog k ([.agg (fmC x).toArray]++caps) w' (RBf (.bool (p x)) w')) :
  Fn Try.prog 88 [v,.func (.func k) #[] caps.toArray] w (RBf (.int .i64 (a2h p l)) w):=by
 have bnd:=hL.bound
 obtain ⟨pp,c,rfl⟩:=hL.len
 refine j0 (fn:=Try.f88) ⟨Try.func88,by kernel_rfl,by kernel_rfl⟩ (by exact rfl) Try.ntmps88 (by exact rfl) ?_
 have hS:=St.start w
 repeat' (first|(((with_reducible apply d6 c8);exact rfl;exact rfl))|(first|(with_reducible first|apply d8|apply c9|apply d7|apply d5|apply e7)))
 refine o6 (X:=Nat) (fun x=>[(8,.int .i64 (x:Nat))]) [0,1,7] rfl (fun _=>[]) (fun x=>x≤l.length∧(l.take x).all (fun y=>!p y)=true) (fun x=>l.length - x) 0 (by repeat (first|exact Fr.sub_nil _|(apply Fr.sub_cons;exact rfl))) (by simp) hS ?_
 clear hS
 rintro i w1 ⟨hi,hall⟩ hS
 dsimp only [List.cons_append,List.nil_append] at hi hall hS ⊢
 by_cases hlt:i < l.length
 ·obtain ⟨x,hx⟩:=l8 (l:=l) (i:=i) (by omega)
  have hrow:=j9 (f:=fmC) hx
  obtain ⟨b,off,rfl,hro⟩:=hL.at_ (i:=i) hlt
  have hcall:=fun w' h=>hf x (List.mem_of_getElem? hx) w' h
  cases hpx:p x with
  |true=>
   rw [hpx] at hcall
   rw [a2V hall hx hpx]
   repeat' (first|(first|((with_reducible apply d6 c8);exact rfl;exact rfl)|((with_reducible apply d9);exact rfl;(((with_reducible apply Loads.st c8);exact rfl;((exact hS.roR (by assumption) (by assumption)));exact rfl));exact rfl)|((with_reducible apply p8 c8);(iterate 3 exact rfl);((exact rfl));((omega));exact rfl))|(first|(with_reducible first|apply d8|apply c9|apply d7|apply d5|apply g8|apply e7|apply j5|apply e6|apply j8))|(first|((with_reducible apply k9);exact rfl;(exact rfl))|((with_reducible apply k6);exact rfl;all_goals (intro hb hp;try (exfalso;omega))))|((with_reducible apply e8);exact rfl;exact rfl;exact hcall _ ⟨_,hS⟩;exact rfl;rintro _ w' ⟨rfl,hS'⟩;replace hS:=hS.transA hS';simp only [k7] at hS;clear hS'))
   (apply j6);(repeat (first|exact ResL.nil|(apply ResL.tmp;exact rfl)))
   exact ⟨rfl,hS.sub (List.nil_sublist _)⟩
  |false=>
   rw [hpx] at hcall
   repeat' (first|(first|((with_reducible apply m0);exact rfl;exact rfl;omega;omega;exact rfl)|((with_reducible apply d6 c8);exact rfl;exact rfl)|((with_reducible apply d9);exact rfl;(((with_reducible apply Loads.st c8);exact rfl;((exact hS.roR (by assumption) (by assumption)));exact rfl));exact rfl)|((with_reducible apply p8 c8);(iterate 3 exact rfl);((exact rfl));((omega));exact rfl))|(first|(with_reducible first|apply d8|apply c9|apply d7|apply d5|apply g8|apply e7|apply k8))|(first|((with_reducible apply l6);exact rfl;(exact rfl))|((with_reducible apply k6);exact rfl;all_goals (intro hb hp;try (exfalso;omega))))|((with_reducible apply e8);exact rfl;exact rfl;exact hcall _ ⟨_,hS⟩;exact rfl;rintro _ w' ⟨rfl,hS'⟩;replace hS:=hS.transA hS';simp only [k7] at hS;clear hS'))
   exact m6 (i + 1) (by repeat (first|exact Fr.sub_nil _|(apply Fr.sub_cons;exact rfl))) ⟨by show i + 1≤_;omega,t0 hall hx (by simp [hpx])⟩ hS (by show _ - (i + 1) < _ - i;omega)
 ·rw [a2q hall (by omega)]
  repeat' (first|(((with_reducible apply d6 c8);exact rfl;exact rfl))|(first|(with_reducible first|apply d8|apply c9|apply d7|apply d5|apply n5|apply j5|apply j4|apply i9))|(((with_reducible apply k6);exact rfl;all_goals (intro hb hp;try (exfalso;omega)))))
  (apply j6);(repeat (first|exact ResL.nil|(apply ResL.tmp;exact rfl)))
  exact ⟨rfl,hS.sub (List.nil_sublist _)⟩
set_option maxRecDepth 100000 in
set_option maxHeartbeats 8000000 in
theorem b12 {l:List Sw} {w:World} {v:Value} {p:Sw→Bool} {k:FuncId} {caps:List Value} (hL:Sl nF w 2 v (l.map swC)) (hf:∀ x ∈ l,∀ w',(∃ Γ,St nF w w' Γ)→Fn Try.prog k ([.agg (swC x).toArray]++caps) w' (RBf (.bool (p x)) w')) :
  Fn Try.prog 97 [v,.func (.func k) #[] caps.toArray] w (RBf (.int .i64 (a2h p l)) w):=by
 have bnd:=hL.bound
 obtain ⟨pp,c,rfl⟩:=hL.len
 refine j0 (fn:=Try.f97) ⟨Try.func97,by kernel_rfl,by kernel_rfl⟩ (by exact rfl) Try.ntmps97 (by exact rfl) ?_
 have hS:=St.start w
 repeat' (first|(((with_reducible apply d6 c8);exact rfl;exact rfl))|(first|(with_reducible first|apply d8|apply c9|apply d7|apply d5|apply e7)))
 refine o6 (X:=Nat) (fun x=>[(8,.int .i64 (x:Nat))]) [0,1,7] rfl (fun _=>[]) (fun x=>x≤l.length∧(l.take x).all (fun y=>!p y)=true) (fun x=>l.length - x) 0 (by repeat (first|exact Fr.sub_nil _|(apply Fr.sub_cons;exact rfl))) (by simp) hS ?_
 clear hS
 rintro i w1 ⟨hi,hall⟩ hS
 dsimp only [List.cons_append,List.nil_append] at hi hall hS ⊢
 by_cases hlt:i < l.length
 ·obtain ⟨x,hx⟩:=l8 (l:=l) (i:=i) (by omega)
  have hrow:=j9 (f:=swC) hx
  obtain ⟨b,off,rfl,hro⟩:=hL.at_ (i:=i) hlt
  have hcall:=fun w' h=>hf x (List.mem_of_getElem? hx) w' h
  cases hpx:p x with
  |true=>
   rw [hpx] at hcall
   rw [a2V hall hx hpx]
   repeat' (first|(first|((with_reducible apply d6 c8);exact rfl;exact rfl)|((with_reducible apply d9);exact rfl;(((with_reducible apply Loads.st c8);exact rfl;((exact hS.roR (by assumption) (by assumption)));exact rfl));exact rfl)|((with_reducible apply p8 c8);(iterate 3 exact rfl);((exact rfl));((omega));exact rfl))|(first|(with_reducible first|apply d8|apply c9|apply d7|apply d5|apply g8|apply e7|apply j5|apply e6|apply j8))|(first|((with_reducible apply k9);exact rfl;(exact rfl))|((with_reducible apply k6);exact rfl;all_goals (intro hb hp;try (exfalso;omega))))|((with_reducible apply e8);exact rfl;exact rfl;exact hcall _ ⟨_,hS⟩;exact rfl;rintro _ w' ⟨rfl,hS'⟩;replace hS:=hS.transA hS';simp only [k7] at hS;clear hS'))
   (apply j6);(repeat (first|exact ResL.nil|(apply ResL.tmp;exact rfl)))
   exact ⟨rfl,hS.sub (List.nil_sublist _)⟩
  |false=>
   rw [hpx] at hcall
   repeat' (first|(first|((with_reducible apply m0);exact rfl;exact rfl;omega;omega;exact rfl)|((with_reducible apply d6 c8);exact rfl;exact rfl)|((with_reducible apply d9);exact rfl;(((with_reducible apply Loads.st c8);exact rfl;((exact hS.roR (by assumption) (by assumption)));exact rfl));exact rfl)|((with_reducible apply p8 c8);(iterate 3 exact rfl);((exact rfl));((omega));exact rfl))|(first|(with_reducible first|apply d8|apply c9|apply d7|apply d5|apply g8|apply e7|apply k8))|(first|((with_reducible apply l6);exact rfl;(exact rfl))|((with_reducible apply k6);exact rfl;all_goals (intro hb hp;try (exfalso;omega))))|((with_reducible apply e8);exact rfl;exact rfl;exact hcall _ ⟨_,hS⟩;exact rfl;rintro _ w' ⟨rfl,hS'⟩;replace hS:=hS.transA hS';simp only [k7] at hS;clear hS'))
   exact m6 (i + 1) (by repeat (first|exact Fr.sub_nil _|(apply Fr.sub_cons;exact rfl))) ⟨by show i + 1≤_;omega,t0 hall hx (by simp [hpx])⟩ hS (by show _ - (i + 1) < _ - i;omega)
 ·rw [a2q hall (by omega)]
  repeat' (first|(((with_reducible apply d6 c8);exact rfl;exact rfl))|(first|(with_reducible first|apply d8|apply c9|apply d7|apply d5|apply n5|apply j5|apply j4|apply i9))|(((with_reducible apply k6);exact rfl;all_goals (intro hb hp;try (exfalso;omega)))))
  (apply j6);(repeat (first|exact ResL.nil|(apply ResL.tmp;exact rfl)))
  exact ⟨rfl,hS.sub (List.nil_sublist _)⟩
set_option maxRecDepth 100000 in
set_option maxHeartbeats 8000000 in
theorem b3o {l:List En} {w:World} {v:Value} {p:En→Bool} {k:FuncId} {caps:List Value} (hL:Sl nF w 3 v (l.map enC)) (hf:∀ x ∈ l,∀ w',(∃ Γ,St nF w w' Γ)→Fn Try.prog k ([.agg (enC x).toArray]++caps) w' (RBf (.bool (p x)) w')) :
  Fn Try.prog 68 [v,.func (.func k) #[] caps.toArray] w (RBf (.int .i64 (a2h p l)) w):=by
 have bnd:=hL.bound
 obtain ⟨pp,c,rfl⟩:=hL.len
 refine j0 (fn:=Try.f68) ⟨Try.func68,by kernel_rfl,by kernel_rfl⟩ (by exact rfl) Try.ntmps68 (by exact rfl) ?_
 have hS:=St.start w
 repeat' (first|(((with_reducible apply d6 c8);exact rfl;exact rfl))|(first|(with_reducible first|apply d8|apply c9|apply d7|apply d5|apply e7)))
 refine o6 (X:=Nat) (fun x=>[(8,.int .i64 (x:Nat))]) [0,1,7] rfl (fun _=>[]) (fun x=>x≤l.length∧(l.take x).all (fun y=>!p y)=true) (fun x=>l.length - x) 0 (by repeat (first|exact Fr.sub_nil _|(apply Fr.sub_cons;exact rfl))) (by simp) hS ?_
 clear hS
 rintro i w1 ⟨hi,hall⟩ hS
 dsimp only [List.cons_append,List.nil_append] at hi hall hS ⊢
 by_cases hlt:i < l.length
 ·obtain ⟨x,hx⟩:=l8 (l:=l) (i:=i) (by omega)
  have hrow:=j9 (f:=enC) hx
  obtain ⟨b,off,rfl,hro⟩:=hL.at_ (i:=i) hlt
  have hcall:=fun w' h=>hf x (List.mem_of_getElem? hx) w' h
  cases hpx:p x with
  |true=>
   rw [hpx] at hcall
   rw [a2V hall hx hpx]
   repeat' (first|(first|((with_reducible apply d6 c8);exact rfl;exact rfl)|((with_reducible apply d9);exact rfl;(((with_reducible apply Loads.st c8);exact rfl;((exact hS.roR (by assumption) (by assumption)));exact rfl));exact rfl)|((with_reducible apply p8 c8);(iterate 3 exact rfl);((exact rfl));((omega));exact rfl))|(first|(with_reducible first|apply d8|apply c9|apply d7|apply d5|apply g8|apply e7|apply j5|apply e6|apply j8))|(first|((with_reducible apply k9);exact rfl;(exact rfl))|((with_reducible apply k6);exact rfl;all_goals (intro hb hp;try (exfalso;omega))))|((with_reducible apply e8);exact rfl;exact rfl;exact hcall _ ⟨_,hS⟩;exact rfl;rintro _ w' ⟨rfl,hS'⟩;replace hS:=hS.transA hS';simp only [k7] at hS;clear hS'))
   (apply j6);(repeat (first|exact ResL.nil|(apply ResL.tmp;exact rfl)))
   exact ⟨rfl,hS.sub (List.nil_sublist _)⟩
  |false=>
   rw [hpx] at hcall
   repeat' (first|(first|((with_reducible apply m0);exact rfl;exact rfl;omega;omega;exact rfl)|((with_reducible apply d6 c8);exact rfl;exact rfl)|((with_reducible apply d9);exact rfl;(((with_reducible apply Loads.st c8);exact rfl;((exact hS.roR (by assumption) (by assumption)));exact rfl));exact rfl)|((with_reducible apply p8 c8);(iterate 3 exact rfl);((exact rfl));((omega));exact rfl))|(first|(with_reducible first|apply d8|apply c9|apply d7|apply d5|apply g8|apply e7|apply k8))|(first|((with_reducible apply l6);exact rfl;(exact rfl))|((with_reducible apply k6);exact rfl;all_goals (intro hb hp;try (exfalso;omega))))|((with_reducible apply e8);exact rfl;exact rfl;exact hcall _ ⟨_,hS⟩;exact rfl;rintro _ w' ⟨rfl,hS'⟩;replace hS:=hS.transA hS';simp only [k7] at hS;clear hS'))
   exact m6 (i + 1) (by repeat (first|exact Fr.sub_nil _|(apply Fr.sub_cons;exact rfl))) ⟨by show i + 1≤_;omega,t0 hall hx (by simp [hpx])⟩ hS (by show _ - (i + 1) < _ - i;omega)
 ·rw [a2q hall (by omega)]
  repeat' (first|(((with_reducible apply d6 c8);exact rfl;exact rfl))|(first|(with_reducible first|apply d8|apply c9|apply d7|apply d5|apply n5|apply j5|apply j4|apply i9))|(((with_reducible apply k6);exact rfl;all_goals (intro hb hp;try (exfalso;omega)))))
  (apply j6);(repeat (first|exact ResL.nil|(apply ResL.tmp;exact rfl)))
  exact ⟨rfl,hS.sub (List.nil_sublist _)⟩
set_option maxRecDepth 100000 in
set_option maxHeartbeats 8000000 in
theorem b1H {l:List Nm} {w:World} {v:Value} {p:Nm→Bool} {k:FuncId} {caps:List Value} (hL:Sl nF w 7 v (l.map nmC)) (hf:∀ x ∈ l,∀ w',(∃ Γ,St nF w w' Γ)→Fn Try.prog k ([.agg (nmC x).toArray]++caps) w' (RBf (.bool (p x)) w')) :
  Fn Try.prog 55 [v,.func (.func k) #[] caps.toArray] w (RBf (.bool (l.any p)) w):=by
 refine j0 (fn:=Try.f55) ⟨Try.func55,by kernel_rfl,by kernel_rfl⟩ (by exact rfl) Try.ntmps55 (by exact rfl) ?_
 have hS:=St.start w
 have hi:=b3h hL hf
 repeat' (first|(((with_reducible apply d6 c8);exact rfl;exact rfl))|(first|(with_reducible first|apply d8|apply c9|apply d7|apply d5|apply j5))|((with_reducible apply e8);exact rfl;exact rfl;exact hi;exact rfl;rintro _ w' ⟨rfl,hS'⟩;replace hS:=hS.transA hS';simp only [k7] at hS;clear hS'))
 (apply j6);(repeat (first|exact ResL.nil|(apply ResL.tmp;exact rfl)))
 exact ⟨by rw [a8L],hS.sub (List.nil_sublist _)⟩
def a3M (n m:Nm):Bool:=(!decide (m.1.page=n.1.page))||(!decide (m.2.z=n.2.z))
theorem b1p {n:Nm} {r:List Nm}:a2k (n::r)=!((n::r).any (a3M n)):=by
 show (r.all fun m=>decide (m.1.page=n.1.page∧m.2.z=n.2.z))=_
 rw [List.any_cons,show a3M n n=false by simp [a3M],Bool.false_or]
 induction r with
 |nil=>rfl
 |cons m r ih=>
  rw [List.all_cons,List.any_cons,ih,Bool.not_or]
  congr 1
  unfold a3M
  by_cases h1:m.1.page=n.1.page <;> by_cases h2:m.2.z=n.2.z <;> simp [h1,h2]
set_option maxRecDepth 100000 in
set_option maxHeartbeats 8000000 in
theorem b1j {l:List Nm} {w:World} {g:Nat} {v:Value} {n m:Nm} {r:List Nm} (hc:Bs nF w ⟨g,0,none⟩ v) (hL:Sl nF w 7 v (l.map nmC)) (hl:l=n::r):Fn Try.prog 56 [.agg (nmC m).toArray,.pointer (some ⟨g,0,none⟩)] w (RBf (.bool (a3M n m)) w):=by
 have hrow:(l.map nmC)[0]?=some (nmC n):=by rw [hl];rfl
 obtain ⟨pp,c,rfl⟩:=hL.len
 obtain ⟨b,off,rfl,hro⟩:=hL.at_ (i:=0) (by rw [hl];simp)
 have hlen:0 < l.length:=by rw [hl];simp
 unfold nmC at hrow ⊢
 unfold a3M
 refine j0 (fn:=Try.f56) ⟨Try.func56,by kernel_rfl,by kernel_rfl⟩ (by exact rfl) Try.ntmps56 (by exact rfl) ?_
 have hS:=St.start w
 by_cases hp:m.1.page=n.1.page
 ·have hd:(!decide (m.1.page=n.1.page))=false:=by rw [decide_eq_true hp];rfl
  rw [hd,Bool.false_or]
  repeat' (first|(first|((with_reducible apply d6 c8);exact rfl;exact rfl)|((with_reducible apply p7 hS);(iterate 3 exact rfl);intro g w' hS';clear hS;have hS:=hS';clear hS'))|(first|(with_reducible first|apply d8|apply c9|apply d7|apply d5)))
  (focus ((with_reducible apply m7 _ _ _ (by kernel_rfl) (by kernel_rfl) hS);(repeat' ((first|((with_reducible apply o5 c8);exact rfl;exact rfl)|((with_reducible apply b5X c8);(iterate 4 exact rfl))|((with_reducible apply n6);exact rfl;(intro wd hd;replace hd:St _ _ wd _:=hd;(first|((with_reducible apply Loads.sc c8);exact rfl;(first|exact hd.blkC 0 rfl rfl|exact hd.roC0 (by assumption) (by assumption) rfl|exact hd.roC2 (by assumption) (by assumption) rfl))|((with_reducible apply Loads.sl c8);exact rfl;((exact hd.bs (by assumption))))));exact rfl)|((with_reducible apply a05 c8);(iterate 3 exact rfl);((exact rfl));((omega));exact rfl)|(first|((with_reducible apply a3H);(iterate 4 exact rfl);(assumption))|((with_reducible apply a1L);exact rfl;((assumption));exact rfl;exact rfl)))));all_goals ((with_reducible apply r5);intro w' hS';clear hS;have hS:=hS';clear hS')))
  repeat' ((first|(with_reducible first|apply d7|apply d5|apply j5)))
  (apply j6);(repeat (first|exact ResL.nil|(apply ResL.tmp;exact rfl)))
  exact ⟨rfl,hS.sub (List.nil_sublist _)⟩
 ·have hd:(!decide (m.1.page=n.1.page))=true:=by rw [decide_eq_false hp];rfl
  rw [hd,Bool.true_or]
  repeat' (first|(first|((with_reducible apply d6 c8);exact rfl;exact rfl)|((with_reducible apply p7 hS);(iterate 3 exact rfl);intro g w' hS';clear hS;have hS:=hS';clear hS'))|(first|(with_reducible first|apply d8|apply c9|apply d7|apply d5)))
  (focus ((with_reducible apply m7 _ _ _ (by kernel_rfl) (by kernel_rfl) hS);(repeat' ((first|((with_reducible apply o5 c8);exact rfl;exact rfl)|((with_reducible apply n6);exact rfl;(intro wd hd;replace hd:St _ _ wd _:=hd;(first|((with_reducible apply Loads.sc c8);exact rfl;(first|exact hd.blkC 0 rfl rfl|exact hd.roC0 (by assumption) (by assumption) rfl))|((with_reducible apply Loads.sl c8);exact rfl;((exact hd.bs (by assumption))))));exact rfl)|((with_reducible apply a05 c8);(iterate 3 exact rfl);((exact rfl));((omega));exact rfl)|(first|((with_reducible apply a7A);(iterate 4 exact rfl);((assumption));exact rfl)|((with_reducible apply a1b);exact rfl;((assumption));exact rfl;exact rfl)))));all_goals ((with_reducible apply r5);intro w' hS';clear hS;have hS:=hS';clear hS')))
  repeat' ((first|(with_reducible first|apply d7|apply d5|apply j5)))
  (apply j6);(repeat (first|exact ResL.nil|(apply ResL.tmp;exact rfl)))
  exact ⟨rfl,hS.sub (List.nil_sublist _)⟩
set_option maxRecDepth 100000 in
set_option maxHeartbeats 8000000 in
theorem a6P {l:List Nm} {w:World} {v:Value} {n:Nm} {r:List Nm} (hL:Sl nF w 7 v (l.map nmC)) (hl:l=n::r):Fn Try.prog 29 [v] w (RBf (.bool (a2k l)) w):=by
 obtain ⟨pp,c,rfl⟩:=hL.len
 refine j0 (fn:=Try.f29) ⟨Try.func29,by kernel_rfl,by kernel_rfl⟩ (by exact rfl) Try.ntmps29 (by exact rfl) ?_
 have hS:=St.start w
 repeat' (first|(first|((with_reducible apply d6 c8);exact rfl;exact rfl)|((with_reducible apply d9);exact rfl;(((with_reducible apply Loads.sl c8);exact rfl;((exact hS.blkC 0 rfl rfl))));exact rfl)|((with_reducible apply p7 hS);(iterate 3 exact rfl);intro g w' hS';clear hS;have hS:=hS';clear hS'))|(first|(with_reducible first|apply d8|apply c9|apply d7|apply d5)))
 rename Nat=>g
 have hco:=b1H (caps:=[.pointer (some ⟨g,0,none⟩)]) (p:=a3M n) (k:=56) (hL.now hS) (fun x hx w2 ⟨Γ,h2⟩=>b1j (Bs.of (h2.bs (Bs.of (hS.blkC 0 rfl rfl)))) ((hL.now hS).now h2) hl)
 repeat' (first|(((with_reducible apply d6 c8);exact rfl;exact rfl))|(first|(with_reducible first|apply d7|apply d5|apply j5))|((with_reducible apply e8);exact rfl;exact rfl;exact hco;exact rfl;rintro _ w' ⟨rfl,hS'⟩;replace hS:=hS.transA hS';simp only [k7] at hS;clear hS'))
 (apply j6);(repeat (first|exact ResL.nil|(apply ResL.tmp;exact rfl)))
 refine ⟨?_,hS.sub (List.nil_sublist _)⟩
 subst hl
 rw [b1p]
end Go.Proofs.Ytejnpppejalhfac
/- A frame, a slot, held against who names it. -/
namespace Go.Proofs.Ytejnpppejalhfac
open Go.RowKit Go.Sort
set_option maxRecDepth 100000 in
set_option maxHeartbeats 8000000 in
theorem a7h {w:World} {l:List (Sh×Value)} {gl gk:Nat} {vsh vb:Value} {f:Fm} {by_:List Nm} (hl:Bs nF w ⟨gl,0,none⟩ (.pointer (some ⟨gk,0,none⟩))) (hk:Bs nF w ⟨gk,0,none⟩ vsh) (hL:ShsV w l vsh) (hr:a0W 0 (shs l)=true) (hby:Sl nF w 7 vb (by_.map nmC)) (hpg:∀ n ∈ by_,-1000000≤n.1.page∧n.1.page≤1000000):Fn Try.prog 28 [.pointer (some ⟨gl,0,none⟩),.agg (fmC f).toArray,vb] w (RBf (.bool (a1Y (shs l) f by_)) w):=by
 have bnd:=hby.bound
 unfold fmC
 cases by_ with
 |nil=>
  obtain ⟨pp,c,rfl⟩:=hby.len
  refine j0 (fn:=Try.f28) ⟨Try.func28,by kernel_rfl,by kernel_rfl⟩ (by exact rfl) Try.ntmps28 (by exact rfl) ?_
  have hS:=St.start w
  repeat' (first|(first|((with_reducible apply d6 c8);exact rfl;exact rfl)|((with_reducible apply d9);exact rfl;(((with_reducible apply Loads.st c8);exact rfl;((exact hS.blkR 0 rfl));exact rfl));exact rfl)|((with_reducible apply n7 c8);exact rfl;exact rfl;((exact (rfl:_=some [_,_,_,_])));exact rfl)|((with_reducible apply p7 hS);(iterate 3 exact rfl);intro g w' hS';clear hS;have hS:=hS';clear hS'))|(first|(with_reducible first|apply d8|apply c9|apply d7|apply d5|apply j5|apply e6))|(((with_reducible apply k9);exact rfl;(exact rfl)))|((with_reducible apply b4N);exact rfl;exact rfl;exact b6j f fm0;exact rfl))
  (apply j6);(repeat (first|exact ResL.nil|(apply ResL.tmp;exact rfl)))
  exact ⟨rfl,hS.sub (List.nil_sublist _)⟩
 |cons n r=>
  have hal:=fun w1 (h:Sl nF w1 7 vb ((n::r).map nmC))=>a6P h rfl
  have hn:=hpg n List.mem_cons_self
  have hfill:∀ w1 Γ,St nF w w1 Γ→Fn Try.prog 21 [.pointer (some ⟨gk,0,none⟩),.agg [.int .i64 n.2.pg,.int .i64 n.2.n,.int .i64 n.2.prot,.bool n.2.z].toArray,.int .i64 n.1.page] w1 (RBf (a6w (a09 (shs l) n.2.z n.1.page)) w1):=fun w1 Γ h=>a2H (F:=nF) (Bs.of (h.bs hk)) (hL.now h) hr hn
  unfold a6w at hfill
  unfold a1Y
  dsimp only
  generalize hlen:(n::r).length=m
  have hm:0 < m:=by rw [← hlen];simp
  obtain ⟨pp,c,rfl⟩:=hby.len
  rw [hlen] at hby bnd hal ⊢
  have hrow:((n::r).map nmC)[0]?=some [.int .i64 n.1.page,.int .i64 n.1.kind,.int .i64 n.1.at_,.int .i64 n.2.pg,.int .i64 n.2.n,.int .i64 n.2.prot,.bool n.2.z]:=rfl
  obtain ⟨b,off,hpe,hro⟩:=hby.parts.2.resolve_left (fun h=>by simp at h)
  subst hpe
  replace hro:=hro.2.2
  by_cases h1:f.refs=(m:Int)
  rotate_left
  ·have hd:(!decide (f.refs=(m:Int)))=true:=by rw [decide_eq_false h1];rfl
   rw [decide_eq_false (fun h=>h1 h.1),Bool.false_and]
   refine j0 (fn:=Try.f28) ⟨Try.func28,by kernel_rfl,by kernel_rfl⟩ (by exact rfl) Try.ntmps28 (by exact rfl) ?_
   have hS:=St.start w
   repeat' (first|(first|((with_reducible apply d6 c8);exact rfl;exact rfl)|((with_reducible apply d9);exact rfl;(((with_reducible apply Loads.sc c8);exact rfl;((exact hS.blkC 0 rfl rfl))));exact rfl)|((with_reducible apply p7 hS);(iterate 3 exact rfl);intro g w' hS';clear hS;have hS:=hS';clear hS')|(first|((with_reducible apply a0f);(iterate 4 exact rfl);(first|exact rfl|assumption);exact rfl)|((with_reducible apply m9);exact rfl;(first|exact rfl|assumption);exact rfl;exact rfl)))|(first|(with_reducible first|apply d8|apply c9|apply d7|apply d5|apply g8|apply j5|apply e6))|(first|((with_reducible apply k9);exact rfl;(exact rfl))|((with_reducible apply k6);exact rfl;all_goals (intro hb hp;try (exfalso;omega)))))
   (apply j6);(repeat (first|exact ResL.nil|(apply ResL.tmp;exact rfl)))
   exact ⟨rfl,hS.sub (List.nil_sublist _)⟩
  have hd:(!decide (f.refs=(m:Int)))=false:=by rw [decide_eq_true h1];rfl
  by_cases h2:f.data.length=16
  rotate_left
  ·have hd2:(!decide ((f.data.length:Int)=16))=true:=by rw [decide_eq_false (by omega)];rfl
   rw [decide_eq_false (fun h=>h2 h.2),Bool.false_and]
   refine j0 (fn:=Try.f28) ⟨Try.func28,by kernel_rfl,by kernel_rfl⟩ (by exact rfl) Try.ntmps28 (by exact rfl) ?_
   have hS:=St.start w
   repeat' (first|(first|((with_reducible apply d6 c8);exact rfl;exact rfl)|((with_reducible apply d9);exact rfl;(((with_reducible apply Loads.sc c8);exact rfl;((exact hS.blkC 0 rfl rfl))));exact rfl)|((with_reducible apply p7 hS);(iterate 3 exact rfl);intro g w' hS';clear hS;have hS:=hS';clear hS')|(first|((with_reducible apply p9);(iterate 4 exact rfl);(assumption))|((with_reducible apply a0f);(iterate 4 exact rfl);((assumption));exact rfl)|((with_reducible apply m9);exact rfl;((assumption));exact rfl;exact rfl)|((with_reducible apply n0);exact rfl;((assumption));exact rfl;exact rfl)))|(first|(with_reducible first|apply d8|apply c9|apply d7|apply d5|apply g8|apply j5|apply e6))|(first|((with_reducible apply k9);exact rfl;(exact rfl))|((with_reducible apply k6);exact rfl;all_goals (intro hb hp;try (exfalso;omega)))))
   (apply j6);(repeat (first|exact ResL.nil|(apply ResL.tmp;exact rfl)))
   exact ⟨rfl,hS.sub (List.nil_sublist _)⟩
  have hd2:(!decide ((f.data.length:Int)=16))=false:=by rw [decide_eq_true (by omega)];rfl
  rw [decide_eq_true ⟨h1,h2⟩,Bool.true_and]
  cases ha:a2k (n::r) with
  |false=>
   rw [ha] at hal
   rw [Bool.false_and]
   refine j0 (fn:=Try.f28) ⟨Try.func28,by kernel_rfl,by kernel_rfl⟩ (by exact rfl) Try.ntmps28 (by exact rfl) ?_
   have hS:=St.start w
   repeat' (first|(first|((with_reducible apply d6 c8);exact rfl;exact rfl)|((with_reducible apply d9);exact rfl;(((with_reducible apply Loads.sc c8);exact rfl;((exact hS.blkC 0 rfl rfl))));exact rfl)|((with_reducible apply p7 hS);(iterate 3 exact rfl);intro g w' hS';clear hS;have hS:=hS';clear hS')|(first|((with_reducible apply p9);(iterate 4 exact rfl);(assumption))|((with_reducible apply n0);exact rfl;((assumption));exact rfl;exact rfl)))|(first|(with_reducible first|apply d8|apply c9|apply d7|apply d5|apply g8|apply j5|apply e6))|(first|((with_reducible apply k9);exact rfl;(exact rfl))|((with_reducible apply k6);exact rfl;all_goals (intro hb hp;try (exfalso;omega))))|((with_reducible apply e8);exact rfl;exact rfl;exact hal _ (hby.now hS);exact rfl;rintro _ w' ⟨rfl,hS'⟩;replace hS:=hS.transA hS';simp only [k7] at hS;clear hS'))
   (apply j6);(repeat (first|exact ResL.nil|(apply ResL.tmp;exact rfl)))
   exact ⟨rfl,hS.sub (List.nil_sublist _)⟩
  |true=>
   rw [ha] at hal
   rw [Bool.true_and]
   refine j0 (fn:=Try.f28) ⟨Try.func28,by kernel_rfl,by kernel_rfl⟩ (by exact rfl) Try.ntmps28 (by exact rfl) ?_
   have hS:=St.start w
   repeat' (first|(first|((with_reducible apply d6 c8);exact rfl;exact rfl)|((with_reducible apply d9);exact rfl;(((with_reducible apply Loads.sc c8);exact rfl;((exact hS.blkC 0 rfl rfl))));exact rfl)|((with_reducible apply p7 hS);(iterate 3 exact rfl);intro g w' hS';clear hS;have hS:=hS';clear hS')|(first|((with_reducible apply p9);(iterate 4 exact rfl);(assumption))|((with_reducible apply n0);exact rfl;((assumption));exact rfl;exact rfl)))|(first|(with_reducible first|apply d8|apply c9|apply d7|apply d5|apply g8))|(first|((with_reducible apply l6);exact rfl;(exact rfl))|((with_reducible apply k6);exact rfl;all_goals (intro hb hp;try (exfalso;omega))))|((with_reducible apply e8);exact rfl;exact rfl;exact hal _ (hby.now hS);exact rfl;rintro _ w' ⟨rfl,hS'⟩;replace hS:=hS.transA hS';simp only [k7] at hS;clear hS'))
   (focus ((with_reducible apply m7 _ _ _ (by kernel_rfl) (by kernel_rfl) hS);(repeat' (first|(first|((with_reducible apply o5 c8);exact rfl;exact rfl)|((with_reducible apply n6);exact rfl;(intro wd hd;replace hd:St _ _ wd _:=hd;(((with_reducible apply Loads.sc c8);exact rfl;(first|exact hd.bs (by assumption)|exact hd.roC0 (by assumption) (by assumption) rfl))));exact rfl)|((with_reducible apply a05 c8);(iterate 3 exact rfl);((exact rfl));((omega));exact rfl))|((with_reducible apply n6);exact rfl;(intro wd hd;replace hd:St _ _ wd _:=hd;((with_reducible apply Loads.st c8);exact rfl;exact hd.roRs hro 3 4 hrow;exact rfl));exact rfl)|((with_reducible apply a0A);exact rfl;exact rfl;(intro wd hd;replace hd:St _ _ wd _:=hd;exact hfill _ _ hd);exact rfl)));all_goals ((with_reducible apply r5);intro w' hS';clear hS;have hS:=hS';clear hS')))
   have hdd:f.dirty=false→decide (f.data=(a09 (shs l) n.2.z n.1.page).getD [])=(f.dirty||decide (some f.data=a09 (shs l) n.2.z n.1.page)):=fun h=>by
    rw [h,Bool.false_or]
    cases hq:a09 (shs l) n.2.z n.1.page with
    |none=>
     rw [decide_eq_false (fun hh:some f.data=none=>by cases hh)]
     refine decide_eq_false fun hh=>?_
     rw [hh] at h2
     simp at h2
    |some x=>exact decide_eq_decide.2 ⟨fun hh=>congrArg some hh,fun hh=>Option.some.inj hh⟩
   repeat' (first|(first|((with_reducible apply d6 c8);exact rfl;exact rfl)|((with_reducible apply d9);exact rfl;(((with_reducible apply Loads.sc c8);exact rfl;((exact hS.blkC 0 rfl rfl))));exact rfl)|(first|((with_reducible apply p9);(iterate 4 exact rfl);(assumption))|((with_reducible apply a0f);(iterate 4 exact rfl);((assumption));exact rfl)|((with_reducible apply b0q);(iterate 3 exact rfl);all_goals (intro hb hp;try (exfalso;omega)))|((with_reducible apply m9);exact rfl;((assumption));exact rfl;exact rfl)|((with_reducible apply n0);exact rfl;((assumption));exact rfl;exact rfl)))|(first|(with_reducible first|apply d8|apply c9|apply d7|apply d5|apply j5)))
   ·(apply j6);(repeat (first|exact ResL.nil|(apply ResL.tmp;exact rfl)))
    exact ⟨by rw [hb];rfl,hS.sub (List.nil_sublist _)⟩
   ·(apply j6);(repeat (first|exact ResL.nil|(apply ResL.tmp;exact rfl)))
    exact ⟨by rw [hdd hb],hS.sub (List.nil_sublist _)⟩
end Go.Proofs.Ytejnpppejalhfac
/- Namers gathered, frame by frame and slot by slot. -/
namespace Go.Proofs.Ytejnpppejalhfac
open Go.RowKit Go.Sort
abbrev NL:=List (Value×List Nm)
def nlC (l:NL):List (List Value):=l.map fun x=>[x.1]
def nsA (x:Value×List Nm):Asr:=.row 137 7 x.1 (x.2.map nmC)
def nlR (l:NL):List Asr:=l.map nsA
theorem b15 {l m:NL} (h:l.Perm m):(nlR l).Perm (nlR m):=h.map nsA
theorem a5j {l:NL} {k:Nat} {x:Value×List Nm} (h:l[k]?=some x):(nlR l).Perm (nsA x::nlR (l.eraseIdx k)):=b15 (a03 h)
theorem b0u {l:NL} {k:Nat} {x y:Value×List Nm} (h:l[k]?=some x):(nsA y::nlR (l.eraseIdx k)).Perm (nlR (l.set k y)):=by
 have h1:=a5j (l:=l.set k y) (k:=k) (x:=y) (by rw [List.getElem?_set];simp [(List.getElem?_eq_some_iff.1 h).1])
 rw [a1Q] at h1
 exact h1.symm
theorem a99 (l:NL) (k:Nat) (x:Value×List Nm):nlC (l.set k x)=(nlC l).set k [x.1]:=by unfold nlC;rw [List.map_set]
def lkS (g:Nat) (k vF vS:Value) (room:Int) (NF NS:NL):List Asr:=.blk g [k,vF,vS,.int .i64 room]::.row 90 1 vF (nlC NF)::.row 90 1 vS (nlC NS)::(nlR NF++nlR NS)
def Grown (A B:NL) (kind:Int) (ns:List Nm):Prop:=B.length=A.length∧∀ (i:Nat) x,A[i]?=some x→∃ v,B[i]?=some (v,x.2++ns.filter fun (n:Nm)=>decide (n.1.kind=kind∧n.1.at_=((i:Nat):Int)))
theorem Grown.refl (A:NL) (kind:Int):Grown A A kind []:=⟨rfl,fun i x h=>⟨x.1,by simpa using h⟩⟩
theorem Grown.skip {A B:NL} {kind:Int} {ns:List Nm} {n:Nm} (h:Grown A B kind ns) (hn:n.1.kind≠kind):Grown A B kind (ns++[n]):=⟨h.1,fun i x hx=>by
 obtain ⟨v,hv⟩:=h.2 i x hx
 refine ⟨v,?_⟩
 rw [hv,List.filter_append,List.filter_cons_of_neg (by simp [hn]),List.filter_nil,List.append_nil]⟩
theorem Grown.put {A B:NL} {kind:Int} {ns:List Nm} {n:Nm} {j:Nat} {y:Value×List Nm} {v:Value} (h:Grown A B kind ns) (hn:n.1.kind=kind) (hj:n.1.at_=(j:Nat)) (hy:B[j]?=some y):Grown A (B.set j (v,y.2++[n])) kind (ns++[n]):=⟨by rw [List.length_set];exact h.1,fun i x hx=>by
 obtain ⟨u,hu⟩:=h.2 i x hx
 by_cases e:j=i
 ·subst e
  rw [hy] at hu
  cases hu
  refine ⟨v,?_⟩
  rw [List.getElem?_set]
  simp [(List.getElem?_eq_some_iff.1 hy).1,List.filter_append,hn,hj]
 ·refine ⟨u,?_⟩
  rw [List.getElem?_set_ne e,hu,List.filter_append,List.filter_cons_of_neg (by rw [hn,hj];simp;omega),List.filter_nil,List.append_nil]⟩
theorem Grown.trans {A B C:NL} {kind:Int} {ns ms:List Nm} (h:Grown A B kind ns) (h2:Grown B C kind ms):Grown A C kind (ns++ms):=⟨h2.1.trans h.1,fun i x hx=>by
 obtain ⟨v,hv⟩:=h.2 i x hx
 obtain ⟨u,hu⟩:=h2.2 i _ hv
 exact ⟨u,by rw [hu,List.filter_append,List.append_assoc]⟩⟩
structure ShsF (F:Nat→Prop) (w:World) (Lp:List (Sh×Value)) (vs:Value):Prop where
 sl:Sl F w 3 vs (Lp.map fun p=>shC p.1 p.2)
 fx:∀ p ∈ Lp,Sl F w 2 p.2 (p.1.fixes.map fxC)
theorem ShsF.now {F:Nat→Prop} {w w':World} {Γ:List Asr} {l:List (Sh×Value)} {v:Value} (h:ShsF F w l v) (hS:St F w w' Γ):ShsV w' l v:=⟨h.sl.now hS,fun p hp=>(h.fx p hp).now hS⟩
theorem ShsF.nowM {F:Nat→Prop} {w w':World} {Θ Γ:List Asr} {l:List (Sh×Value)} {v:Value} (h:ShsF F w l v) (hS:St F w w' (Θ++Γ)):ShsF (fps Θ) w' l v:=⟨h.sl.nowM hS,fun p hp=>(h.fx p hp).nowM hS⟩
theorem ShsF.of {w:World} {l:List (Sh×Value)} {v:Value} (h:ShsV w l v):ShsF nF w l v:=⟨h.sl,fun p hp=>h.fx p hp⟩
/-! the pages of a space -/
def a22 (l:List Sh) (a:Ar) (j:Nat):Bool:=(a09 l a.z (a.pg + (j:Nat))).isSome
theorem a7q {l:List Sh} {A:List Ar} {i j:Nat} {a:Ar} (ha:A[i]?=some a) (hj:(j:Int) < a.n) (h:a22 l a j=false):a2L l A=false:=by
 unfold a2L
 rw [List.all_eq_false]
 refine ⟨a,List.mem_of_getElem? ha,?_⟩
 rw [Bool.not_eq_true,List.all_eq_false]
 exact ⟨j,by rw [List.mem_range];omega,by unfold a22 at h;rw [h];simp⟩
theorem a8G {l:List Sh} {A:List Ar} (h:∀ (i:Nat) a,A[i]?=some a→∀ j:Nat,(j:Int) < a.n→a22 l a j=true):a2L l A=true:=by
 unfold a2L
 rw [List.all_eq_true]
 intro a ha
 obtain ⟨i,hi⟩:=List.mem_iff_getElem?.1 ha
 rw [List.all_eq_true]
 intro j hj
 exact h i a hi j (by rw [List.mem_range] at hj;omega)
/-! the entries of a space -/
theorem b02 {A:List Ar} {nf ns last:Int} {l:List En} {i:Nat} {e:En} (h:l[i]?=some e):a1u A nf ns last (l.drop i)=(a4x A nf ns last e && a1u A nf ns e.page (l.drop (i + 1))):=by
 rw [a2b h];rfl
theorem a89 (s:Sc) (kind:Int) (i:Nat):(s.entries.map (a0H s)).filter (fun (n:Nm)=>decide (n.1.kind=kind∧n.1.at_=((i:Nat):Int)))=m8 [s] kind i:=by
 unfold m8
 rw [List.flatMap_cons,List.flatMap_nil,List.append_nil,List.filter_map]
 rfl
end Go.Proofs.Ytejnpppejalhfac
/- A space, gone through: what it must hold, and who names what. -/
namespace Go.Proofs.Ytejnpppejalhfac
open Go.RowKit Go.Sort
theorem a2D {P:Program} {n:Nat} {ds:List Deferred} {E:Fr} {w:World} {Q:Exit→Act→World→Prop} {F:Nat→Prop} {w0:World} {Γ:List Asr} (k q:Nat) {id:Nat} {l:List Oper} (m:Nat) (hl:l.length=m) (hS:St F w0 w Γ) (hm:P.follows .mixedOrders=true) (h:∀ w1,St F w0 w1 Γ→WT P l.toArray Q (fun w'=>St F w0 w' (Γ.take k)) q m (Array.replicate m false) n ds E w1):WC P (.region id l.toArray true) Q n ds E w:=a3o _ q m hl hS hm h
theorem b2o {α β:Type} (A:List α) (B:List β) (hA:(A.length:Int)≤9223372036854775807) (hB:(B.length:Int)≤9223372036854775807):decide (IntKind.i64.wrap ((A.length:Int) + (B.length:Int))=0)=decide (A=[]∧B=[]):=by
 refine decide_eq_decide.2 ⟨fun h=>?_,fun ⟨h1,h2⟩=>by rw [h1,h2];rfl⟩
 have h2:A.length=0∧B.length=0:=by
  simp only [IntKind.wrap,IntKind.signed,IntKind.bits] at h
  omega
 exact ⟨List.eq_nil_of_length_eq_zero h2.1,List.eq_nil_of_length_eq_zero h2.2⟩
theorem b3E (l:NL):(nlC l).length=l.length:=by unfold nlC;simp
theorem a0S {α:Type} {l:List α} {i:Nat} {x:α} (h:l[i]?=some x):l.take (i + 1)=l.take i++[x]:=by
 obtain ⟨h1,rfl⟩:=List.getElem?_eq_some_iff.1 h
 rw [List.take_add_one,List.getElem?_eq_getElem h1]
 rfl
set_option maxRecDepth 100000 in
set_option maxHeartbeats 8000000 in
theorem b21 {F:Nat→Prop} {w0 w:World} {Γ:List Asr} {gl gk:Nat} {vsh vF vS:Value} {room:Int} {l:List (Sh×Value)} {NF NS:NL} {p:Sp}
  (hS0:St F w0 w (lkS gl (.pointer (some ⟨gk,0,none⟩)) vF vS room NF NS++Γ)) (hk:Bs (fps (lkS gl (.pointer (some ⟨gk,0,none⟩)) vF vS room NF NS)) w ⟨gk,0,none⟩ vsh) (hL:ShsF (fps (lkS gl (.pointer (some ⟨gk,0,none⟩)) vF vS room NF NS)) w l vsh) (hr:a0W 0 (shs l)=true)
  (har:Sl (fps (lkS gl (.pointer (some ⟨gk,0,none⟩)) vF vS room NF NS)) w 4 p.va (p.s.areas.map arC)) (hen:Sl (fps (lkS gl (.pointer (some ⟨gk,0,none⟩)) vF vS room NF NS)) w 3 p.ve (p.s.entries.map enC)) (hrm:0≤room∧room≤1000000) (hF:∀ x ∈ NF,x.2.length≤1000) (hSl:∀ x ∈ NS,x.2.length≤1000) :
  Fn Try.prog 27 [.pointer (some ⟨gl,0,none⟩),.agg (spC p).toArray] w (fun v w'=>v=.bool (z6 (shs l) NF.length NS.length p.s)∧∃ NF' NS' room',St (fps (lkS gl (.pointer (some ⟨gk,0,none⟩)) vF vS room NF NS)) w w' (lkS gl (.pointer (some ⟨gk,0,none⟩)) vF vS room' NF' NS')∧(z6 (shs l) NF.length NS.length p.s=true→room'=room + y6 p.s.areas∧Grown NF NF' 1 (p.s.entries.map (a0H p.s))∧Grown NS NS' 2 (p.s.entries.map (a0H p.s)))):=by
 obtain ⟨s,va,ve⟩:=p
 obtain ⟨live,A,es⟩:=s
 dsimp only at har hen ⊢
 have hSs:=St.startM hS0
 generalize hG:fps (lkS gl (.pointer (some ⟨gk,0,none⟩)) vF vS room NF NS)=G at hSs hk hL har hen ⊢
 clear hG hS0
 have bA:=(har.now hSs).bound
 have bE:=(hen.now hSs).bound
 obtain ⟨pa,ca,rfl⟩:=(har.now hSs).len
 obtain ⟨pe,ce,rfl⟩:=(hen.now hSs).len
 have hS:=hSs
 unfold lkS at hS
 obtain ⟨pF,cF,hvF⟩:=hS.rowSlice 1 rfl
 obtain ⟨pS,cS,hvS⟩:=hS.rowSlice 2 rfl
 rw [b3E] at hvF hvS
 subst hvF hvS
 unfold spC z6
 dsimp only
 cases live with
 |false=>
  simp only [Bool.false_eq_true,if_false]
  have hd:=b2o A es bA bE
  refine j0 (fn:=Try.f27) ⟨Try.func27,by kernel_rfl,by kernel_rfl⟩ (by exact rfl) Try.ntmps27 (by exact rfl) ?_
  repeat' (first|(first|((with_reducible apply d6 c8);exact rfl;exact rfl)|((with_reducible apply d9);exact rfl;(first|((with_reducible apply Loads.sc c8);exact rfl;((exact hS.blkC 0 rfl rfl)))|((with_reducible apply Loads.sl c8);exact rfl;((exact hS.blkC 0 rfl rfl))));exact rfl)|((with_reducible apply p7 hS);(iterate 3 exact rfl);intro g w' hS';clear hS;have hS:=hS';clear hS'))|(first|(with_reducible first|apply d8|apply c9|apply d7|apply d5|apply j5|apply e6))|(((with_reducible apply k9);exact rfl;(exact rfl))))
  (apply j6);(repeat (first|exact ResL.nil|(apply ResL.tmp;exact rfl)))
  refine ⟨by rw [hd],NF,NS,room,hS.drop,fun h=>?_⟩
  obtain ⟨rfl,rfl⟩:=of_decide_eq_true h
  exact ⟨by simp [y6],Grown.refl _ _,Grown.refl _ _⟩
 |true=>
  simp only [if_true]
  have hchk:=fun w1 (h:Sl nF w1 4 (.slice pa A.length ca) (A.map arC))=>a6b h
  by_cases hc:q7 A=0
  rotate_left
  ·have hd:(!decide (q7 A=0))=true:=by rw [decide_eq_false hc];rfl
   have hbad:(decide (q7 A=0) && (a2L (shs l) A && a1u A NF.length NS.length 0 es))=false:=by rw [decide_eq_false hc,Bool.false_and]
   refine j0 (fn:=Try.f27) ⟨Try.func27,by kernel_rfl,by kernel_rfl⟩ (by exact rfl) Try.ntmps27 (by exact rfl) ?_
   repeat' (first|(first|((with_reducible apply d6 c8);exact rfl;exact rfl)|((with_reducible apply d9);exact rfl;(first|((with_reducible apply Loads.sc c8);exact rfl;((exact hS.blkC 0 rfl rfl)))|((with_reducible apply Loads.sl c8);exact rfl;((exact hS.blkC 0 rfl rfl))));exact rfl)|((with_reducible apply p7 hS);(iterate 3 exact rfl);intro g w' hS';clear hS;have hS:=hS';clear hS'))|(first|(with_reducible first|apply d8|apply c9|apply d7|apply d5|apply g8|apply j5|apply e6))|(first|((with_reducible apply k9);exact rfl;(assumption))|((with_reducible apply l6);exact rfl;(exact rfl)))|((with_reducible apply e8);exact rfl;exact rfl;exact hchk _ (har.now hS);exact rfl;rintro _ w' ⟨rfl,hS'⟩;replace hS:=hS.transA hS';simp only [k7] at hS;clear hS'))
   (apply j6);(repeat (first|exact ResL.nil|(apply ResL.tmp;exact rfl)))
   refine ⟨by rw [hbad],_,_,_,hS.sub (by repeat (first|exact List.Sublist.refl _|apply List.Sublist.cons)),fun h=>?_⟩
   rw [hbad] at h
   cases h
  have hd:(!decide (q7 A=0))=false:=by rw [decide_eq_true hc];rfl
  have htot:=fun w1 (h:Sl nF w1 4 (.slice pa A.length ca) (A.map arC))=>a29 h
  rw [if_pos hc] at htot
  obtain ⟨hAl,hgood⟩:=a0h.1 hc
  have hok:=a1t hgood
  have hsum:=a7i hok A.length
  rw [List.take_length] at hsum
  rw [decide_eq_true hc,Bool.true_and]
  refine j0 (fn:=Try.f27) ⟨Try.func27,by kernel_rfl,by kernel_rfl⟩ (by exact rfl) Try.ntmps27 (by exact rfl) ?_
  repeat' (first|(first|((with_reducible apply d6 c8);exact rfl;exact rfl)|((with_reducible apply d9);exact rfl;(first|((with_reducible apply Loads.sc c8);exact rfl;((exact hS.blkC 0 rfl rfl)))|((with_reducible apply Loads.sl c8);exact rfl;((exact hS.blkC 0 rfl rfl))));exact rfl)|((with_reducible apply p7 hS);(iterate 3 exact rfl);intro g w' hS';clear hS;have hS:=hS';clear hS'))|(first|(with_reducible first|apply d8|apply c9|apply d7|apply d5|apply g8))|(((with_reducible apply l6);exact rfl;first|exact rfl|assumption))|((with_reducible apply e8);exact rfl;exact rfl;exact hchk _ (har.now hS);exact rfl;rintro _ w' ⟨rfl,hS'⟩;replace hS:=hS.transA hS';simp only [k7] at hS;clear hS'))
  (focus ((with_reducible apply a0X _ _ _ 10 (by kernel_rfl) (by kernel_rfl) hS);(simp only [List.take_succ_cons,List.take_zero,List.drop_succ_cons,List.drop_zero]);(repeat' (first|(first|((with_reducible apply a1v);exact rfl;exact rfl;omega;omega;exact rfl)|((with_reducible apply o5 c8);exact rfl;exact rfl)|((with_reducible apply n6);exact rfl;(intro wd hd;replace hd:St _ _ wd _:=hd;(first|((with_reducible apply Loads.sc c8);exact rfl;((exact hd.blkC 1 rfl rfl)))|((with_reducible apply Loads.sl c8);exact rfl;((exact hd.blkC 0 rfl rfl)))));exact rfl))|((with_reducible apply a0A);exact rfl;exact rfl;(intro wd hd;replace hd:St _ _ wd _:=hd;exact htot _ (har.now hd));exact rfl)));all_goals ((with_reducible apply r5);intro w' hS';clear hS;have hS:=hS';clear hS')))
  repeat' (first|(first|((with_reducible apply d6 c8);exact rfl;exact rfl)|((with_reducible apply d9);exact rfl;(((with_reducible apply Loads.sl c8);exact rfl;((exact hS.blkC 0 rfl rfl))));exact rfl)|(((with_reducible apply i7 hS c8 (i:=1));(iterate 8 exact rfl);((exact (rfl:_=[_,_,_,_])));intro w' hS';simp only [List.set] at hS';clear hS;have hS:=hS';clear hS')))|(first|(with_reducible first|apply d8|apply c9|apply d7|apply d5|apply e7)))
  refine o6 (X:=Nat) (fun x=>[(44,.int .i64 (x:Nat))]) [0,3,42,43] rfl (fun _=>[]) (fun x=>x≤A.length∧∀ (i:Nat) a,i < x→A[i]?=some a→∀ j:Nat,(j:Int) < a.n→a22 (shs l) a j=true) (fun x=>A.length - x) 0 (by repeat (first|exact Fr.sub_nil _|(apply Fr.sub_cons;exact rfl))) ⟨by omega,fun i a h=>by omega⟩ hS ?_
  clear hS
  rintro i w1 ⟨hi,hall⟩ hS
  dsimp only [List.cons_append,List.nil_append] at hi hall hS ⊢
  by_cases hlt:i < A.length
  ·obtain ⟨a,ha⟩:=l8 (l:=A) (i:=i) (by omega)
   have hrow:=j9 (f:=arC) ha
   obtain ⟨b,off,rfl,hro⟩:=har.atF (i:=i) hlt
   have hak:=hok i a ha
   unfold Ar.ok at hak
   unfold arC at hrow
   have hfill:=fun w1 Γ (h:St G w w1 Γ) (q:Int) (hq:-1000000≤q∧q≤1000000)=>a2H (a:=a) (F:=nF) (Bs.of (h.bs hk)) (hL.now h) hr hq
   unfold a6w arC at hfill
   repeat' (first|(first|((with_reducible apply d6 c8);exact rfl;exact rfl)|((with_reducible apply d9);exact rfl;(first|((with_reducible apply Loads.sc c8);exact rfl;((exact hS.blkC 0 rfl rfl)))|((with_reducible apply Loads.st c8);exact rfl;((exact hS.roR (by assumption) (by assumption)));exact rfl));exact rfl)|((with_reducible apply p8 c8);(iterate 3 exact rfl);((exact rfl));((omega));exact rfl)|((with_reducible apply j7 hS c8);(iterate 3 exact rfl);intro g w' hS';clear hS;have hS:=hS';clear hS')|(((with_reducible apply i7 hS c8 (i:=0));(iterate 8 exact rfl);((exact (rfl:_=[_,_,_,_])));intro w' hS';simp only [List.set] at hS';clear hS;have hS:=hS';clear hS')))|(first|(with_reducible first|apply d8|apply c9|apply d7|apply d5|apply g8|apply e7))|(((with_reducible apply k6);exact rfl;all_goals (intro hb hp;try (exfalso;omega)))))
   refine o6 (X:=Nat×Int) (fun x=>[(7,.int .i64 x.2)]) [0,3,6,42,43,44] rfl (fun _=>[]) (fun x=>(x.1:Int)≤a.n∧x.2=a.pg + (x.1:Nat)∧∀ j:Nat,j < x.1→a22 (shs l) a j=true) (fun x=>a.n.toNat - x.1) (0,a.pg) (by repeat (first|exact Fr.sub_nil _|(apply Fr.sub_cons;exact rfl))) ⟨by show ((0:Nat):Int)≤a.n;omega,by show a.pg=a.pg + ((0:Nat):Int);omega,fun j h=>by omega⟩ hS ?_
   clear hS
   rintro ⟨j,q⟩ w1 ⟨hj,hq,hpj⟩ hS
   dsimp only [List.cons_append,List.nil_append] at hj hq hpj hS ⊢
   by_cases hjl:q < a.pg + a.n
   rotate_left
   ·repeat' (first|(first|((with_reducible apply m0);exact rfl;exact rfl;omega;omega;exact rfl)|((with_reducible apply d6 c8);exact rfl;exact rfl)|((with_reducible apply d9);exact rfl;(((with_reducible apply Loads.sc c8);exact rfl;((exact hS.blkC 0 rfl rfl))));exact rfl))|(first|(with_reducible first|apply d8|apply c9|apply d7|apply d5|apply n5|apply j4|apply k8|apply i9))|(((with_reducible apply k6);exact rfl;all_goals (intro hb hp;try (exfalso;omega)))))
    refine m6 (i + 1) (by repeat (first|exact Fr.sub_nil _|(apply Fr.sub_cons;exact rfl))) ⟨by omega,fun i' a' hi' ha' j' hj'=>?_⟩ hS.drop (by omega)
    rcases Nat.lt_succ_iff_lt_or_eq.1 hi' with h|h
    ·exact hall i' a' h ha' j' hj'
    ·subst h
     rw [ha] at ha'
     cases ha'
     exact hpj j' (by omega)
   ·cases hpk:a22 (shs l) a j with
    |false=>
     have hbad:(a2L (shs l) A && a1u A NF.length NS.length 0 es)=false:=by rw [a7q ha (by omega) hpk,Bool.false_and]
     unfold a22 at hpk
     rw [← hq] at hpk
     have hd:(!(a09 (shs l) a.z q).isSome)=true:=by rw [hpk];rfl
     repeat' (first|(first|((with_reducible apply m0);exact rfl;exact rfl;omega;omega;exact rfl)|((with_reducible apply d6 c8);exact rfl;exact rfl)|((with_reducible apply d9);exact rfl;(((with_reducible apply Loads.sc c8);exact rfl;((exact hS.blkC 0 rfl rfl))));exact rfl))|(first|(with_reducible first|apply d8|apply c9|apply d7|apply d5|apply g8|apply e7))|(((with_reducible apply k6);exact rfl;all_goals (intro hb hp;try (exfalso;omega)))))
     (focus ((with_reducible apply m7 _ _ _ (by kernel_rfl) (by kernel_rfl) hS);(repeat' (first|(first|((with_reducible apply o5 c8);exact rfl;exact rfl)|((with_reducible apply n6);exact rfl;(intro wd hd;replace hd:St _ _ wd _:=hd;(first|((with_reducible apply Loads.sc c8);exact rfl;((exact hd.blkC 2 rfl rfl)))|((with_reducible apply Loads.st c8);exact rfl;((exact hd.blkR 0 rfl));exact rfl)));exact rfl))|((with_reducible apply a0A);exact rfl;exact rfl;(intro wd hd;replace hd:St _ _ wd _:=hd;exact hfill _ _ hd _ (by omega));exact rfl)));all_goals ((with_reducible apply r5);intro w' hS';clear hS;have hS:=hS';clear hS')))
     repeat' (first|(((with_reducible apply d6 c8);exact rfl;exact rfl))|(first|(with_reducible first|apply d8|apply c9|apply d7|apply d5|apply j5|apply e6|apply j8))|(((with_reducible apply k9);exact rfl;(assumption))))
     (apply j6);(repeat (first|exact ResL.nil|(apply ResL.tmp;exact rfl)))
     refine ⟨by rw [hbad],_,_,_,hS.sub (by repeat (first|exact List.Sublist.refl _|apply List.Sublist.cons)),fun h=>?_⟩
     rw [hbad] at h
     cases h
    |true=>
     have hpk':=hpk
     unfold a22 at hpk'
     rw [← hq] at hpk'
     have hd:(!(a09 (shs l) a.z q).isSome)=false:=by rw [hpk'];rfl
     repeat' (first|(first|((with_reducible apply m0);exact rfl;exact rfl;omega;omega;exact rfl)|((with_reducible apply d6 c8);exact rfl;exact rfl)|((with_reducible apply d9);exact rfl;(((with_reducible apply Loads.sc c8);exact rfl;((exact hS.blkC 0 rfl rfl))));exact rfl))|(first|(with_reducible first|apply d8|apply c9|apply d7|apply d5|apply g8|apply e7))|(((with_reducible apply k6);exact rfl;all_goals (intro hb hp;try (exfalso;omega)))))
     (focus ((with_reducible apply m7 _ _ _ (by kernel_rfl) (by kernel_rfl) hS);(repeat' (first|(first|((with_reducible apply o5 c8);exact rfl;exact rfl)|((with_reducible apply n6);exact rfl;(intro wd hd;replace hd:St _ _ wd _:=hd;(first|((with_reducible apply Loads.sc c8);exact rfl;((exact hd.blkC 2 rfl rfl)))|((with_reducible apply Loads.st c8);exact rfl;((exact hd.blkR 0 rfl));exact rfl)));exact rfl))|((with_reducible apply a0A);exact rfl;exact rfl;(intro wd hd;replace hd:St _ _ wd _:=hd;exact hfill _ _ hd _ (by omega));exact rfl)));all_goals ((with_reducible apply r5);intro w' hS';clear hS;have hS:=hS';clear hS')))
     repeat' (first|(first|((with_reducible apply m0);exact rfl;exact rfl;omega;omega;exact rfl)|((with_reducible apply d6 c8);exact rfl;exact rfl))|(first|(with_reducible first|apply d8|apply c9|apply d7|apply d5|apply g8|apply k8))|(((with_reducible apply l6);exact rfl;(assumption))))
     refine m6 (j + 1,q + 1) (by repeat (first|exact Fr.sub_nil _|(apply Fr.sub_cons;exact rfl))) ⟨by show ((j + 1:Nat):Int)≤a.n;omega,by show q + 1=a.pg + ((j + 1:Nat):Int);omega,fun j' hj'=>?_⟩ hS (by show a.n.toNat - (j + 1) < a.n.toNat - j;omega)
     rcases Nat.lt_succ_iff_lt_or_eq.1 hj' with h|h
     ·exact hpj j' h
     ·subst h;exact hpk
  obtain rfl:i=A.length:=by omega
  rw [a8G (fun i a ha=>hall i a (j3 ha) ha),Bool.true_and]
  clear hall
  repeat' (first|(first|((with_reducible apply d6 c8);exact rfl;exact rfl)|((with_reducible apply d9);exact rfl;(((with_reducible apply Loads.sl c8);exact rfl;((exact hS.blkC 0 rfl rfl))));exact rfl))|(first|(with_reducible first|apply d8|apply c9|apply d7|apply d5|apply e7|apply n5|apply j4|apply i9))|(((with_reducible apply k6);exact rfl;all_goals (intro hb hp;try (exfalso;omega)))))
  rename Nat=>g
  replace hS:St G w w1 (.blk g [.bool true,.slice pa A.length ca,.slice pe es.length ce]::lkS gl (.pointer (some ⟨gk,0,none⟩)) (.slice pF NF.length cF) (.slice pS NS.length cS) (room + y6 A) NF NS):=hS
  refine o6 (Γ:=[]) (X:=Nat×Int×NL×NL) (fun x=>[(75,.int .i64 (x.1:Nat)),(10,.int .i64 x.2.1)]) [0,3,73,74] rfl (fun x=>.blk g [.bool true,.slice pa A.length ca,.slice pe es.length ce]::lkS gl (.pointer (some ⟨gk,0,none⟩)) (.slice pF NF.length cF) (.slice pS NS.length cS) (room + y6 A) x.2.2.1 x.2.2.2) (fun x=>x.1≤es.length∧((x.1:Nat):Int)≤x.2.1∧x.2.1≤255∧a1u A NF.length NS.length 0 es=a1u A NF.length NS.length x.2.1 (es.drop x.1)∧Grown NF x.2.2.1 1 ((es.take x.1).map (a0H ⟨true,A,es⟩))∧Grown NS x.2.2.2 2 ((es.take x.1).map (a0H ⟨true,A,es⟩))) (fun x=>es.length - x.1) (0,0,NF,NS) (by repeat (first|exact Fr.sub_nil _|(apply Fr.sub_cons;exact rfl))) ⟨Nat.zero_le _,Int.le_refl _,by show (0:Int)≤255;omega,by simp,Grown.refl _ _,Grown.refl _ _⟩ (by simpa only [List.append_nil] using hS) ?_
  clear hS hi hlt
  rintro ⟨i,last,MF,MS⟩ w1 ⟨hi,hil,hl5,hents,hGF,hGS⟩ hS
  dsimp only at hi hil hl5 hents hGF hGS hS ⊢
  rw [List.append_nil] at hS
  unfold lkS at hS
  rw [hents]
  by_cases hlt:i < es.length
  rotate_left
  ·obtain rfl:i=es.length:=by omega
   repeat' (first|(((with_reducible apply d6 c8);exact rfl;exact rfl))|(first|(with_reducible first|apply d8|apply c9|apply d7|apply d5|apply n5|apply j5|apply j4|apply i9))|(((with_reducible apply k6);exact rfl;all_goals (intro hb hp;try (exfalso;omega)))))
   (apply j6);(repeat (first|exact ResL.nil|(apply ResL.tmp;exact rfl)))
   rw [List.drop_length]
   rw [List.take_length] at hGF hGS
   exact ⟨rfl,MF,MS,_,hS.drop,fun _=>⟨rfl,hGF,hGS⟩⟩
  obtain ⟨e,he⟩:=l8 (l:=es) (i:=i) (by omega)
  have hrow:=j9 (f:=enC) he
  obtain ⟨b,off,rfl,hro⟩:=hen.atF (i:=i) hlt
  have hfind:=fun w1 (h:Sl nF w1 4 (.slice pa A.length ca) (A.map arC))=>a4a e.page h
  rw [a1g hc] at hfind
  unfold a3b arC at hfind
  have hstep:=b02 (A:=A) (nf:=NF.length) (ns:=NS.length) (last:=last) he
  rw [hstep]
  unfold a4x
  have hnm:a0H ⟨true,A,es⟩ e=(e,(v7 A e.page).getD a52):=rfl
  have htk:=a0S he
  cases hsm:(v7 A e.page).isSome with
  |false=>
   rw [hsm] at hfind
   have hbad:((false && decide (last < e.page∧((e.kind=1∧0≤e.at_∧e.at_ < (NF.length:Int))∨(e.kind=2∧0≤e.at_∧e.at_ < (NS.length:Int))))) && a1u A NF.length NS.length e.page (es.drop (i + 1)))=false:=rfl
   obtain ⟨epg,ekd,eat⟩:=e
   unfold enC at hrow
   dsimp only at hrow hfind hbad ⊢
   repeat' (first|(first|((with_reducible apply d6 c8);exact rfl;exact rfl)|((with_reducible apply d9);exact rfl;(first|((with_reducible apply Loads.sc c8);exact rfl;(first|exact hS.blkC 0 rfl rfl|exact hS.blkC 1 rfl rfl))|((with_reducible apply Loads.sl c8);exact rfl;(first|exact hS.blkC 1 rfl rfl|exact hS.blkC 3 rfl rfl))|((with_reducible apply Loads.st c8);exact rfl;((exact hS.roR (by assumption) (by assumption)));exact rfl));exact rfl)|((with_reducible apply p8 c8);(iterate 3 exact rfl);((exact rfl));((omega));exact rfl)|((with_reducible apply j7 hS c8);(iterate 3 exact rfl);intro g w' hS';clear hS;have hS:=hS';clear hS')|(((with_reducible apply i7 hS c8 (i:=0));(iterate 8 exact rfl);(first|exact (rfl:_=[_,_,_])|exact (rfl:_=[_,_,_,_]));intro w' hS';simp only [List.set] at hS';clear hS;have hS:=hS';clear hS'))|(first|((with_reducible apply a0f);(iterate 4 exact rfl);((exact rfl));exact rfl)|((with_reducible apply a4m);(iterate 5 exact rfl))|((with_reducible apply m9);exact rfl;((exact rfl));exact rfl;exact rfl)))|(first|(with_reducible first|apply d8|apply c9|apply d7|apply d5|apply g8|apply e7|apply j5|apply e6|apply j8))|(first|((with_reducible apply k9);exact rfl;(exact rfl))|((with_reducible apply k6);exact rfl;all_goals (intro hb hp;try (exfalso;omega))))|((with_reducible apply e8);exact rfl;exact rfl;exact hfind _ (har.now hS);exact rfl;rintro _ w' ⟨rfl,hS'⟩;replace hS:=hS.transA hS';simp only [k7] at hS;clear hS'))
   all_goals (((apply j6);(repeat (first|exact ResL.nil|(apply ResL.tmp;exact rfl)));(refine ⟨by rw [hbad],_,_,_,hS.sub (by repeat (first|exact List.Sublist.refl _|apply List.Sublist.cons)),fun h=>?_⟩);(rw [hbad] at h);cases h))
  |true=>
   rw [hsm] at hfind
   have hpg5:e.page≤255:=by
    obtain ⟨a,ha⟩:=Option.isSome_iff_exists.1 hsm
    have h1:=List.find?_some ha
    have h2:=(a0F hc ha).1
    unfold a0K at h1
    rw [decide_eq_true_eq] at h1
    unfold Ar.ok at h2
    unfold Ar.fin at h1
    omega
   obtain ⟨a,hag⟩:∃ a,(v7 A e.page).getD a52=a:=⟨_,rfl⟩
   rw [hag] at hfind hnm
   obtain ⟨epg,ekd,eat⟩:=e
   unfold enC at hrow
   dsimp only at hrow hfind hpg5 hnm ⊢
   by_cases hk9:last < epg∧((ekd=1∧0≤eat∧eat < (NF.length:Int))∨(ekd=2∧0≤eat∧eat < (NS.length:Int)))
   rotate_left
   ·have hbad:((true && decide (last < epg∧((ekd=1∧0≤eat∧eat < (NF.length:Int))∨(ekd=2∧0≤eat∧eat < (NS.length:Int))))) && a1u A NF.length NS.length epg (es.drop (i + 1)))=false:=by rw [decide_eq_false hk9];rfl
    repeat' (first|(first|((with_reducible apply d6 c8);exact rfl;exact rfl)|((with_reducible apply d9);exact rfl;(first|((with_reducible apply Loads.sc c8);exact rfl;(first|exact hS.blkC 0 rfl rfl|exact hS.blkC 1 rfl rfl))|((with_reducible apply Loads.sl c8);exact rfl;(first|exact hS.blkC 1 rfl rfl|exact hS.blkC 3 rfl rfl))|((with_reducible apply Loads.st c8);exact rfl;((exact hS.roR (by assumption) (by assumption)));exact rfl));exact rfl)|((with_reducible apply p8 c8);(iterate 3 exact rfl);((exact rfl));((omega));exact rfl)|((with_reducible apply j7 hS c8);(iterate 3 exact rfl);intro g w' hS';clear hS;have hS:=hS';clear hS')|(((with_reducible apply i7 hS c8 (i:=0));(iterate 8 exact rfl);(first|exact (rfl:_=[_,_,_])|exact (rfl:_=[_,_,_,_]));intro w' hS';simp only [List.set] at hS';clear hS;have hS:=hS';clear hS'))|(first|((with_reducible apply p9);(iterate 4 exact rfl);first|exact rfl|assumption)|((with_reducible apply a0f);(iterate 4 exact rfl);(first|exact rfl|assumption);exact rfl)|((with_reducible apply a4m);(iterate 5 exact rfl))|((with_reducible apply r6);(iterate 3 exact rfl);all_goals (intro hb hp;try (exfalso;omega)))|((with_reducible apply b4o);(iterate 3 exact rfl);all_goals (intro hb hp;try (exfalso;omega)))|((with_reducible apply m9);exact rfl;(first|exact rfl|assumption);exact rfl;exact rfl)|((with_reducible apply n0);exact rfl;(first|exact rfl|assumption);exact rfl;exact rfl)))|(first|(with_reducible first|apply d8|apply c9|apply d7|apply d5|apply g8|apply e7|apply j5|apply e6|apply j8))|(first|((with_reducible apply k9);exact rfl;(exact rfl))|((with_reducible apply k6);exact rfl;all_goals (intro hb hp;try (exfalso;omega))))|((with_reducible apply e8);exact rfl;exact rfl;exact hfind _ (har.now hS);exact rfl;rintro _ w' ⟨rfl,hS'⟩;replace hS:=hS.transA hS';simp only [k7] at hS;clear hS'))
    all_goals (((apply j6);(repeat (first|exact ResL.nil|(apply ResL.tmp;exact rfl)));(refine ⟨by rw [hbad],_,_,_,hS.sub (by repeat (first|exact List.Sublist.refl _|apply List.Sublist.cons)),fun h=>?_⟩);(rw [hbad] at h);cases h))
   rw [decide_eq_true hk9,Bool.true_and,Bool.true_and]
   obtain ⟨hk1,hk2⟩:=hk9
   rcases hk2 with ⟨rfl,h0,h1⟩|⟨rfl,h0,h1⟩
   ·obtain ⟨j,rfl⟩:=Int.eq_ofNat_of_zero_le h0
    obtain ⟨y,hy⟩:∃ y,MF[j]?=some y:=l8 (by rw [hGF.1];omega)
    have hyl:y.2.length≤2000:=by
     obtain ⟨x0,hx0⟩:=l8 (l:=NF) (i:=j) (by omega)
     obtain ⟨v0,hv0⟩:=hGF.2 j x0 hx0
     rw [hy] at hv0
     cases hv0
     have h8:=hF x0 (List.mem_of_getElem? hx0)
     have h9:=List.length_filter_le (fun (n:Nm)=>decide (n.1.kind=1∧n.1.at_=((j:Nat):Int))) ((es.take i).map (a0H ⟨true,A,es⟩))
     rw [List.length_map,List.length_take] at h9
     rw [List.length_append]
     omega
    replace hS:=hS.perm ((((((a5j hy).append_right (nlR MS)).cons _).cons _).cons _).cons _)
    have hrowF:(nlC MF)[j]?=some [y.1]:=j9 (f:=fun (x:Value×List Nm)=>[x.1]) hy
    have hput:=fun v=>hGF.put (n:=((⟨epg,1,(j:Nat)⟩:En),a)) (v:=v) rfl rfl hy
    have hskip:=hGS.skip (n:=((⟨epg,1,(j:Nat)⟩:En),a)) (by show ¬(1:Int)=_;omega)
    obtain ⟨vy,ny⟩:=y
    unfold nsA at hS
    dsimp only [List.cons_append] at hS hrowF hyl hput
    obtain ⟨py,cy,rfl⟩:=hS.rowSlice 4 rfl
    rw [List.length_map] at hS hrowF
    obtain ⟨gF,rfl⟩:=hS.rowSome 2 rfl (by omega)
    repeat' (first|(first|((with_reducible apply d6 c8);exact rfl;exact rfl)|((with_reducible apply d9);exact rfl;(first|((with_reducible apply Loads.sc c8);exact rfl;(first|exact hS.blkC 0 rfl rfl|exact hS.blkC 1 rfl rfl))|((with_reducible apply Loads.sl c8);exact rfl;(first|exact hS.blkC 1 rfl rfl|exact hS.blkC 3 rfl rfl))|((with_reducible apply Loads.st c8);exact rfl;((exact hS.roR (by assumption) (by assumption)));exact rfl));exact rfl)|((with_reducible apply p8 c8);(iterate 3 exact rfl);((exact rfl));((omega));exact rfl)|((with_reducible apply j7 hS c8);(iterate 3 exact rfl);intro g w' hS';clear hS;have hS:=hS';clear hS')|(((with_reducible apply i7 hS c8 (i:=0));(iterate 8 exact rfl);(first|exact (rfl:_=[_,_,_])|exact (rfl:_=[_,_,_,_]));intro w' hS';simp only [List.set] at hS';clear hS;have hS:=hS';clear hS'))|(first|((with_reducible apply p9);(iterate 4 exact rfl);first|exact rfl|assumption)|((with_reducible apply a0f);(iterate 4 exact rfl);((exact rfl));exact rfl)|((with_reducible apply r6);(iterate 3 exact rfl);all_goals (intro hb hp;try (exfalso;omega)))|((with_reducible apply n0);exact rfl;(first|exact rfl|assumption);exact rfl;exact rfl)))|(first|(with_reducible first|apply d8|apply c9|apply d7|apply d5|apply g8|apply e7))|(first|((with_reducible apply l6);exact rfl;(exact rfl))|((with_reducible apply k6);exact rfl;all_goals (intro hb hp;try (exfalso;omega))))|((with_reducible apply e8);exact rfl;exact rfl;exact hfind _ (har.now hS);exact rfl;rintro _ w' ⟨rfl,hS'⟩;replace hS:=hS.transA hS';simp only [k7] at hS;clear hS'))
    refine a2D 6 14 15 rfl hS (by kernel_rfl) ?_
    intro w10 hS'
    clear hS;have hS:=hS';clear hS'
    simp only [List.take_succ_cons,List.take_zero]
    have hH:=hS.sub (List.sublist_append_left [_,_,_,_,_,_] _)
    ((with_reducible apply l4 0 c8);exact rfl;kernel_rfl;kernel_rfl;kernel_rfl;exact rfl;exact (fun _ _ _ h=>h);exact Or.inr hH;exact rfl;exact rfl)
    ((with_reducible apply l4 1 c8);exact rfl;kernel_rfl;kernel_rfl;kernel_rfl;exact rfl;exact (fun _ _ _ h=>h);exact Or.inr hH;exact rfl;exact rfl)
    ((with_reducible apply r7 2);exact rfl;kernel_rfl;kernel_rfl;kernel_rfl;kernel_rfl;exact rfl;exact rfl;exact (fun _ _ _ h=>h);exact hH;exact rfl;(intro w2 hw2;(replace hw2:St _ _ w2 _:=hw2;(((with_reducible apply Loads.sc c8);exact rfl;((exact hw2.blkC 1 rfl rfl))))));exact rfl)
    ((with_reducible apply l4 3 c8);exact rfl;kernel_rfl;kernel_rfl;kernel_rfl;exact rfl;exact (fun _ _ _ h=>h);exact Or.inr hH;exact rfl;exact rfl)
    ((with_reducible apply l4 4 c8);exact rfl;kernel_rfl;kernel_rfl;kernel_rfl;exact rfl;exact (fun _ _ _ h=>h);exact Or.inr hH;exact rfl;exact rfl)
    ((with_reducible apply r7 5);exact rfl;kernel_rfl;kernel_rfl;kernel_rfl;kernel_rfl;exact rfl;exact rfl;exact (fun _ _ _ h=>h);exact hH;exact rfl;(intro w2 hw2;(replace hw2:St _ _ w2 _:=hw2;(((with_reducible apply Loads.sc c8);exact rfl;((exact hw2.blkC 1 rfl rfl))))));exact rfl)
    ((with_reducible apply a2E 6);exact rfl;kernel_rfl;kernel_rfl;kernel_rfl;exact rfl;exact (fun _ _ _ h=>h);exact Or.inr hH;(intro a ha;exact a7T c8 (j:=j) rfl rfl rfl rfl (by omega) a ha _);exact rfl)
    ((with_reducible apply r7 7);exact rfl;kernel_rfl;kernel_rfl;kernel_rfl;kernel_rfl;exact rfl;exact rfl;exact (fun _ _ _ h=>h);exact hH;exact rfl;(intro w2 hw2;(replace hw2:St _ _ w2 _:=hw2;(with_reducible apply Loads.sl c8);exact rfl;exact hw2.rowC0 4 rfl hrowF rfl));exact rfl)
    ((with_reducible apply r7 8);exact rfl;kernel_rfl;kernel_rfl;kernel_rfl;kernel_rfl;exact rfl;exact rfl;exact (fun _ _ _ h=>h);exact hH;exact rfl;(intro w2 hw2;(replace hw2:St _ _ w2 _:=hw2;(((with_reducible apply Loads.st c8);exact rfl;((exact hw2.blkR 1 rfl));exact rfl))));exact rfl)
    ((with_reducible apply r7 9);exact rfl;kernel_rfl;kernel_rfl;kernel_rfl;kernel_rfl;exact rfl;exact rfl;exact (fun _ _ _ h=>h);exact hH;exact rfl;(intro w2 hw2;(replace hw2:St _ _ w2 _:=hw2;(((with_reducible apply Loads.st c8);exact rfl;((exact hw2.blkR 0 rfl));exact rfl))));exact rfl)
    ((with_reducible apply a7l 10 c8);exact rfl;kernel_rfl;kernel_rfl;kernel_rfl;exact rfl;exact (fun _ _ _ _ h=>h);exact Or.inr hH;exact rfl;exact rfl;((exact (rfl:_=some [_,_,_,_,_,_,_])));exact rfl)
    refine s7 (i:=11) (by kernel_rfl) ?_
    refine t5 rfl (y8 hS c8 rfl rfl rfl rfl rfl rfl) rfl ?_
    rintro _ w' ⟨g9,rfl,hS'⟩
    clear hS;have hS:=hS';clear hS'
    have hH:=hS.drop.sub (List.sublist_append_left [_,_,_,_,_,_] _)
    refine ⟨Or.inr (Or.inr hH),?_⟩
    refine s7 (i:=12) (by kernel_rfl) ?_
    refine t5 rfl (a0z hS c8 (i:=7) rfl rfl rfl rfl (hS.rowRo 0 rfl) rfl (by simp only [List.length_map];omega)) rfl ?_
    rintro _ w' ⟨p',c',rfl,hS'⟩
    simp only [List.set] at hS'
    clear hS;have hS:=hS';clear hS'
    have hH:=hS.drop.sub (List.sublist_append_left [_,_,_,_,_,_] _)
    refine ⟨Or.inr (Or.inr hH),?_⟩
    ((with_reducible apply a2E 13);exact rfl;kernel_rfl;kernel_rfl;kernel_rfl;exact rfl;exact (fun _ _ _ h=>h);exact Or.inr hH;(intro a ha;exact a7T c8 (j:=j) rfl rfl rfl rfl (by omega) a ha _);exact rfl)
    refine s7 (i:=14) (by kernel_rfl) ?_
    refine a0L (Φ:=fun _ w'=>St _ _ w' _) rfl (a2t hS c8 (i:=4 + 1) (kk:=j) (j:=0) rfl rfl rfl rfl rfl hrowF (a1I rfl) rfl (Nat.le_refl _) rfl) ?_
    intro _ w' hS'
    simp only [List.set,t8] at hS'
    clear hS;have hS:=hS';clear hS'
    refine ⟨Or.inl rfl,?_⟩
    refine a1a (by kernel_rfl) ?_
    repeat' (first|(first|((with_reducible apply m0);exact rfl;exact rfl;omega;omega;exact rfl)|((with_reducible apply d6 c8);exact rfl;exact rfl))|(first|(with_reducible first|apply c9|apply d7|apply d5|apply k8)))
    refine m6 (i + 1,epg,MF.set j (.slice p' (ny.length + 1) c',ny++[((⟨epg,1,(j:Nat)⟩:En),a)]),MS) (by repeat (first|exact Fr.sub_nil _|(apply Fr.sub_cons;exact rfl))) ⟨by show i + 1≤es.length;omega,by show ((i + 1:Nat):Int)≤epg;omega,hpg5,rfl,by rw [htk,List.map_append,List.map_cons,List.map_nil,hnm];exact hput _,by rw [htk,List.map_append,List.map_cons,List.map_nil,hnm];exact hskip⟩ ?_ (by show es.length - (i + 1) < es.length - i;omega)
    rw [List.append_nil]
    unfold lkS
    dsimp only
    rw [a99]
    rw [List.length_map] at hS
    have hnc:ny.map nmC++[[.int .i64 epg,.int .i64 1,.int .i64 (j:Nat),.int .i64 a.pg,.int .i64 a.n,.int .i64 a.prot,.bool a.z]]=(ny++[((⟨epg,1,(j:Nat)⟩:En),a)]).map nmC:=by rw [List.map_append];rfl
    rw [hnc] at hS
    exact hS.drop.drop.drop.perm (((((((b0u (y:=(.slice p' (ny.length + 1) c',ny++[((⟨epg,1,(j:Nat)⟩:En),a)])) hy).append_right (nlR MS))).cons _).cons _).cons _).cons _)
   ·obtain ⟨j,rfl⟩:=Int.eq_ofNat_of_zero_le h0
    obtain ⟨y,hy⟩:∃ y,MS[j]?=some y:=l8 (by rw [hGS.1];omega)
    have hyl:y.2.length≤2000:=by
     obtain ⟨x0,hx0⟩:=l8 (l:=NS) (i:=j) (by omega)
     obtain ⟨v0,hv0⟩:=hGS.2 j x0 hx0
     rw [hy] at hv0
     cases hv0
     have h8:=hSl x0 (List.mem_of_getElem? hx0)
     have h9:=List.length_filter_le (fun (n:Nm)=>decide (n.1.kind=2∧n.1.at_=((j:Nat):Int))) ((es.take i).map (a0H ⟨true,A,es⟩))
     rw [List.length_map,List.length_take] at h9
     rw [List.length_append]
     omega
    replace hS:=hS.perm (((((((a5j hy).append_left (nlR MF)).trans List.perm_middle).cons _).cons _).cons _).cons _)
    have hrowF:(nlC MS)[j]?=some [y.1]:=j9 (f:=fun (x:Value×List Nm)=>[x.1]) hy
    have hput:=fun v=>hGS.put (n:=((⟨epg,2,(j:Nat)⟩:En),a)) (v:=v) rfl rfl hy
    have hskip:=hGF.skip (n:=((⟨epg,2,(j:Nat)⟩:En),a)) (by show ¬(2:Int)=_;omega)
    obtain ⟨vy,ny⟩:=y
    unfold nsA at hS
    dsimp only [List.cons_append] at hS hrowF hyl hput
    obtain ⟨py,cy,rfl⟩:=hS.rowSlice 4 rfl
    rw [List.length_map] at hS hrowF
    obtain ⟨gF,rfl⟩:=hS.rowSome 3 rfl (by omega)
    repeat' (first|(first|((with_reducible apply d6 c8);exact rfl;exact rfl)|((with_reducible apply d9);exact rfl;(first|((with_reducible apply Loads.sc c8);exact rfl;(first|exact hS.blkC 0 rfl rfl|exact hS.blkC 1 rfl rfl))|((with_reducible apply Loads.sl c8);exact rfl;(first|exact hS.blkC 1 rfl rfl|exact hS.blkC 3 rfl rfl))|((with_reducible apply Loads.st c8);exact rfl;((exact hS.roR (by assumption) (by assumption)));exact rfl));exact rfl)|((with_reducible apply p8 c8);(iterate 3 exact rfl);((exact rfl));((omega));exact rfl)|((with_reducible apply j7 hS c8);(iterate 3 exact rfl);intro g w' hS';clear hS;have hS:=hS';clear hS')|(((with_reducible apply i7 hS c8 (i:=0));(iterate 8 exact rfl);(first|exact (rfl:_=[_,_,_])|exact (rfl:_=[_,_,_,_]));intro w' hS';simp only [List.set] at hS';clear hS;have hS:=hS';clear hS'))|(first|((with_reducible apply p9);(iterate 4 exact rfl);first|exact rfl|assumption)|((with_reducible apply r6);(iterate 3 exact rfl);all_goals (intro hb hp;try (exfalso;omega)))|((with_reducible apply m9);exact rfl;((exact rfl));exact rfl;exact rfl)|((with_reducible apply n0);exact rfl;(first|exact rfl|assumption);exact rfl;exact rfl)))|(first|(with_reducible first|apply d8|apply c9|apply d7|apply d5|apply g8|apply e7))|(first|((with_reducible apply k9);exact rfl;(exact rfl))|((with_reducible apply k6);exact rfl;all_goals (intro hb hp;try (exfalso;omega))))|((with_reducible apply e8);exact rfl;exact rfl;exact hfind _ (har.now hS);exact rfl;rintro _ w' ⟨rfl,hS'⟩;replace hS:=hS.transA hS';simp only [k7] at hS;clear hS'))
    refine a2D 6 14 15 rfl hS (by kernel_rfl) ?_
    intro w10 hS'
    clear hS;have hS:=hS';clear hS'
    simp only [List.take_succ_cons,List.take_zero]
    have hH:=hS.sub (List.sublist_append_left [_,_,_,_,_,_] _)
    ((with_reducible apply l4 0 c8);exact rfl;kernel_rfl;kernel_rfl;kernel_rfl;exact rfl;exact (fun _ _ _ h=>h);exact Or.inr hH;exact rfl;exact rfl)
    ((with_reducible apply l4 1 c8);exact rfl;kernel_rfl;kernel_rfl;kernel_rfl;exact rfl;exact (fun _ _ _ h=>h);exact Or.inr hH;exact rfl;exact rfl)
    ((with_reducible apply r7 2);exact rfl;kernel_rfl;kernel_rfl;kernel_rfl;kernel_rfl;exact rfl;exact rfl;exact (fun _ _ _ h=>h);exact hH;exact rfl;(intro w2 hw2;(replace hw2:St _ _ w2 _:=hw2;(((with_reducible apply Loads.sc c8);exact rfl;((exact hw2.blkC 1 rfl rfl))))));exact rfl)
    ((with_reducible apply l4 3 c8);exact rfl;kernel_rfl;kernel_rfl;kernel_rfl;exact rfl;exact (fun _ _ _ h=>h);exact Or.inr hH;exact rfl;exact rfl)
    ((with_reducible apply l4 4 c8);exact rfl;kernel_rfl;kernel_rfl;kernel_rfl;exact rfl;exact (fun _ _ _ h=>h);exact Or.inr hH;exact rfl;exact rfl)
    ((with_reducible apply r7 5);exact rfl;kernel_rfl;kernel_rfl;kernel_rfl;kernel_rfl;exact rfl;exact rfl;exact (fun _ _ _ h=>h);exact hH;exact rfl;(intro w2 hw2;(replace hw2:St _ _ w2 _:=hw2;(((with_reducible apply Loads.sc c8);exact rfl;((exact hw2.blkC 1 rfl rfl))))));exact rfl)
    ((with_reducible apply a2E 6);exact rfl;kernel_rfl;kernel_rfl;kernel_rfl;exact rfl;exact (fun _ _ _ h=>h);exact Or.inr hH;(intro a ha;exact a7T c8 (j:=j) rfl rfl rfl rfl (by omega) a ha _);exact rfl)
    ((with_reducible apply r7 7);exact rfl;kernel_rfl;kernel_rfl;kernel_rfl;kernel_rfl;exact rfl;exact rfl;exact (fun _ _ _ h=>h);exact hH;exact rfl;(intro w2 hw2;(replace hw2:St _ _ w2 _:=hw2;(with_reducible apply Loads.sl c8);exact rfl;exact hw2.rowC0 5 rfl hrowF rfl));exact rfl)
    ((with_reducible apply r7 8);exact rfl;kernel_rfl;kernel_rfl;kernel_rfl;kernel_rfl;exact rfl;exact rfl;exact (fun _ _ _ h=>h);exact hH;exact rfl;(intro w2 hw2;(replace hw2:St _ _ w2 _:=hw2;(((with_reducible apply Loads.st c8);exact rfl;((exact hw2.blkR 1 rfl));exact rfl))));exact rfl)
    ((with_reducible apply r7 9);exact rfl;kernel_rfl;kernel_rfl;kernel_rfl;kernel_rfl;exact rfl;exact rfl;exact (fun _ _ _ h=>h);exact hH;exact rfl;(intro w2 hw2;(replace hw2:St _ _ w2 _:=hw2;(((with_reducible apply Loads.st c8);exact rfl;((exact hw2.blkR 0 rfl));exact rfl))));exact rfl)
    ((with_reducible apply a7l 10 c8);exact rfl;kernel_rfl;kernel_rfl;kernel_rfl;exact rfl;exact (fun _ _ _ _ h=>h);exact Or.inr hH;exact rfl;exact rfl;((exact (rfl:_=some [_,_,_,_,_,_,_])));exact rfl)
    refine s7 (i:=11) (by kernel_rfl) ?_
    refine t5 rfl (y8 hS c8 rfl rfl rfl rfl rfl rfl) rfl ?_
    rintro _ w' ⟨g9,rfl,hS'⟩
    clear hS;have hS:=hS';clear hS'
    have hH:=hS.drop.sub (List.sublist_append_left [_,_,_,_,_,_] _)
    refine ⟨Or.inr (Or.inr hH),?_⟩
    refine s7 (i:=12) (by kernel_rfl) ?_
    refine t5 rfl (a0z hS c8 (i:=7) rfl rfl rfl rfl (hS.rowRo 0 rfl) rfl (by simp only [List.length_map];omega)) rfl ?_
    rintro _ w' ⟨p',c',rfl,hS'⟩
    simp only [List.set] at hS'
    clear hS;have hS:=hS';clear hS'
    have hH:=hS.drop.sub (List.sublist_append_left [_,_,_,_,_,_] _)
    refine ⟨Or.inr (Or.inr hH),?_⟩
    ((with_reducible apply a2E 13);exact rfl;kernel_rfl;kernel_rfl;kernel_rfl;exact rfl;exact (fun _ _ _ h=>h);exact Or.inr hH;(intro a ha;exact a7T c8 (j:=j) rfl rfl rfl rfl (by omega) a ha _);exact rfl)
    refine s7 (i:=14) (by kernel_rfl) ?_
    refine a0L (Φ:=fun _ w'=>St _ _ w' _) rfl (a2t hS c8 (i:=5 + 1) (kk:=j) (j:=0) rfl rfl rfl rfl rfl hrowF (a1I rfl) rfl (Nat.le_refl _) rfl) ?_
    intro _ w' hS'
    simp only [List.set,t8] at hS'
    clear hS;have hS:=hS';clear hS'
    refine ⟨Or.inl rfl,?_⟩
    refine a1a (by kernel_rfl) ?_
    repeat' (first|(first|((with_reducible apply m0);exact rfl;exact rfl;omega;omega;exact rfl)|((with_reducible apply d6 c8);exact rfl;exact rfl))|(first|(with_reducible first|apply c9|apply d7|apply d5|apply k8)))
    refine m6 (i + 1,epg,MF,MS.set j (.slice p' (ny.length + 1) c',ny++[((⟨epg,2,(j:Nat)⟩:En),a)])) (by repeat (first|exact Fr.sub_nil _|(apply Fr.sub_cons;exact rfl))) ⟨by show i + 1≤es.length;omega,by show ((i + 1:Nat):Int)≤epg;omega,hpg5,rfl,by rw [htk,List.map_append,List.map_cons,List.map_nil,hnm];exact hskip,by rw [htk,List.map_append,List.map_cons,List.map_nil,hnm];exact hput _⟩ ?_ (by show es.length - (i + 1) < es.length - i;omega)
    rw [List.append_nil]
    unfold lkS
    dsimp only
    rw [a99]
    rw [List.length_map] at hS
    have hnc:ny.map nmC++[[.int .i64 epg,.int .i64 2,.int .i64 (j:Nat),.int .i64 a.pg,.int .i64 a.n,.int .i64 a.prot,.bool a.z]]=(ny++[((⟨epg,2,(j:Nat)⟩:En),a)]).map nmC:=by rw [List.map_append];rfl
    rw [hnc] at hS
    exact hS.drop.drop.drop.perm ((((((List.perm_middle.symm.trans ((b0u (y:=(.slice p' (ny.length + 1) c',ny++[((⟨epg,2,(j:Nat)⟩:En),a)])) hy).append_left (nlR MF)))).cons _).cons _).cons _).cons _)
end Go.Proofs.Ytejnpppejalhfac
/- THE STEP CALCULUS, part 24: regions that draw their order, held: operations with a guard. -/
namespace Go.Proofs.Ytejnpppejalhfac
open Go.RowKit Go.Sort
section
variable {P:Program} {n:Nat} {ds:List Deferred} {E:Fr} {w:World} {Q:Exit→Act→World→Prop} {ops:Array Oper} {S:World→Prop} {fuel:Nat} {li:Array Bool} {d:Nat} {op:Op} {ty:TypeId} {pos:String} {after:Array Edge} {F:Nat→Prop} {w0:World} {Γ:List Asr} {T:Tab}
theorem a95 (k:Nat) {id:Nat} {l:List Oper} (m:Nat) (hl:l.length=m) (hS:St F w0 w Γ) (hm:P.follows .mixedOrders=true) (h:∀ w1,St F w0 w1 Γ→WA P l.toArray Q (fun w'=>St F w0 w' (Γ.take k)) m (Array.replicate m false) n ds E w1):WC P (.region id l.toArray true) Q n ds E w:=a1F _ m hl hS hm h
theorem a0U (i:Nat) {j dj:Nat} {want b:Bool} {oj:Oper} {v:Value} (hi:ops[i]?=some ⟨some d,op,ty,pos,after,some (j,want)⟩) (hs:Region.noSelect ops=true) (hf:Region.free .any ops li i=true) (hr:(Region.ready .any ops li).contains i=true)
  (hQ:∀ c (a:Act) w,Q (.panic c) (a.put (some d) v) w→Q (.panic c) a w) (hS:S w) (hj:ops[j]?=some oj) (hdj:oj.dst=some dj) (hlt:Nat.blt dj n=true) (hb:E.get dj=some (.bool b)) (he:b=want) (h:∀ a,Has n ds a E→a0I P ⟨some d,op,ty,pos,after,none⟩ a v) (hd:Nat.blt d n=true) (k:WA P ops Q S fuel (li.setIfInBounds i true) n ds ((d,v)::E) w):WA P ops Q S (fuel + 1) li n ds E w:=fun a ha=>by
 have hw:=a07 (o:=⟨some d,op,ty,pos,after,some (j,want)⟩) rfl hj hdj hb ha hlt
 exact wpAnyH_take hi hs hf hr hQ (Or.inl ⟨by rw [hw,he];cases want <;> rfl,fun w _=>h a ha w⟩) hS (k _ (ha.put d v hd))
theorem a2B (i:Nat) {j dj:Nat} {want b:Bool} {oj:Oper} {t:TypeId} {x:Operand} {p:Addr} {v:Value} (hi:ops[i]?=some ⟨some d,.load t x,ty,pos,after,some (j,want)⟩) (hs:Region.noSelect ops=true) (hf:Region.free .any ops li i=true) (hr:(Region.ready .any ops li).contains i=true)
  (hQ:∀ c (a:Act) w,Q (.panic c) (a.put (some d) v) w→Q (.panic c) a w) (hS:S w) (hj:ops[j]?=some oj) (hdj:oj.dst=some dj) (hlt:Nat.blt dj n=true) (hb:E.get dj=some (.bool b)) (he:b=want) (hx:E.ev x=some (.pointer (some p))) (hl:∀ w,S w→Loads P t p v w) (hd:Nat.blt d n=true) (k:WA P ops Q S fuel (li.setIfInBounds i true) n ds ((d,v)::E) w):WA P ops Q S (fuel + 1) li n ds E w:=fun a ha=>by
 have hw:=a07 (o:=⟨some d,.load t x,ty,pos,after,some (j,want)⟩) rfl hj hdj hb ha hlt
 refine wpAnyH_take hi hs hf hr hQ (Or.inl ⟨by rw [hw,he];cases want <;> rfl,fun w hw=>?_⟩) hS (k _ (ha.put d v hd))
 have h:=hl w hw
 unfold Loads at h
 simp only [execOp,ha.ev hx,Instr.loadAt,Instr.sureAddr,Sem.run_bind,Sem.run_pure,Result.andThen_ok,h]
theorem a15 (i:Nat) {j dj:Nat} {want b:Bool} {oj:Oper} (hi:ops[i]?=some ⟨some d,op,ty,pos,after,some (j,want)⟩) (hs:Region.noSelect ops=true) (hf:Region.free .any ops li i=true) (hr:(Region.ready .any ops li).contains i=true)
  (hQ:∀ c (a:Act) w,Q (.panic c) (a.put (some d) undef) w→Q (.panic c) a w) (hS:S w) (hj:ops[j]?=some oj) (hdj:oj.dst=some dj) (hlt:Nat.blt dj n=true) (hb:E.get dj=some (.bool b)) (he:b=!want) (hd:Nat.blt d n=true) (k:WA P ops Q S fuel (li.setIfInBounds i true) n ds ((d,undef)::E) w):WA P ops Q S (fuel + 1) li n ds E w:=fun a ha=>by
 have hw:=a07 (o:=⟨some d,op,ty,pos,after,some (j,want)⟩) rfl hj hdj hb ha hlt
 exact wpAnyH_take hi hs hf hr hQ (Or.inr ⟨by rw [hw,he];cases want <;> rfl,rfl⟩) hS (k _ (ha.put d undef hd))
theorem a9Y {i j dj:Nat} {want b:Bool} {oj:Oper} {Φ:Value→World→Prop} (hi:ops[i]?=some ⟨some d,op,ty,pos,after,some (j,want)⟩) (hj:ops[j]?=some oj) (hdj:oj.dst=some dj) (hlt:Nat.blt dj n=true) (hb:E.get dj=some (.bool b)) (he:b=want)
  (h:Gets P ⟨some d,op,ty,pos,after,none⟩ n ds E w Φ) (hd:Nat.blt d n=true) (k:∀ v w',Φ v w'→S w'∧WA P ops Q S fuel (li.setIfInBounds i true) n ds ((d,v)::E) w'):WO P ops Q S fuel li n ds E w i:=fun a ha=>by
 have hw:=a07 (o:=⟨some d,op,ty,pos,after,some (j,want)⟩) rfl hj hdj hb ha hlt
 unfold wpOp
 simp only [hi]
 rw [if_pos (by rw [hw,he];cases want <;> rfl)]
 exact Or.inl (h a ha (fun a' w'=>S w'∧wpAnyH P .any ops Q S fuel (li.setIfInBounds i true) a' w') Q fun v w' hv=>⟨(k v w' hv).1,(k v w' hv).2 _ (ha.put d v hd)⟩)
theorem b4i {c x y:Operand} {b:Bool} {v:Value} (hc:E.ev c=some (.bool b)) (hb:b=true) (hv:E.ev x=some v):∀ a,Has n ds a E→a0I P ⟨some d,.pick c x y,ty,pos,after,none⟩ a v:=fun a ha w=>by simp [execOp,ha.ev hc,asBool,hb,ha.ev hv]
theorem a34 {c x y:Operand} {b:Bool} {v:Value} (hc:E.ev c=some (.bool b)) (hb:b=false) (hv:E.ev y=some v):∀ a,Has n ds a E→a0I P ⟨some d,.pick c x y,ty,pos,after,none⟩ a v:=fun a ha w=>by simp [execOp,ha.ev hc,asBool,hb,ha.ev hv]
theorem b0m {i j l:Nat} (hr:Region.ready .any ops li=[i,j,l]) (h1:WO P ops Q S fuel li n ds E w i) (h2:WO P ops Q S fuel li n ds E w j) (h3:WO P ops Q S fuel li n ds E w l):WA P ops Q S (fuel + 1) li n ds E w:=fun a ha=>
 wpAnyH_all hr (by simp) (fun k hk=>by
  have:k=i∨k=j∨k=l:=by simpa using hk
  rcases this with rfl|rfl|rfl
  ·exact h1 a ha
  ·exact h2 a ha
  ·exact h3 a ha)
theorem a4O {X:Type} (vf:X→Fr) (Γf:X→List Asr) (p:X→Prop) {x y:Code} {Q1 Q2:Exit→Act→World→Prop} (hx:WC P x (Exit.then (fun a' w'=>∃ m,Has n ds a' (vf m)∧(p m∧St F w0 w' (Γf m))) Q2) n ds E w) (hz:∀ m w',p m→St F w0 w' (Γf m)→WC P y Q1 n ds (vf m) w'):WC P x (Exit.then (y.wp P Q1) Q2) n ds E w:=fun a ha=>
 Code.wp_mono (fun e a' w' q=>by
  cases e with
  |normal=>obtain ⟨m,h1,h2,h3⟩:=q;exact hz m w' h2 h3 a' h1
  |exit i=>exact q
  |goto l=>exact q
  |ret=>exact q
  |panic c=>exact q
  |outgrown=>exact q) (hx a ha)
theorem a0e {X:Type} {vf:X→Fr} {Γf:X→List Asr} {p:X→Prop} {Q2:Exit→Act→World→Prop} (m:X) (h0:Fr.sub (vf m) E) (hp:p m) (hS:St F w0 w (Γf m)):WQ (Exit.then (fun a' w'=>∃ m,Has n ds a' (vf m)∧(p m∧St F w0 w' (Γf m))) Q2) .normal n ds E w:=fun _ ha=>⟨m,ha.sub h0,hp,hS⟩
theorem a5K {fn:Func} {Φ:Value→World→Prop} {v1 v2 v3 v4:Value} (hr:ResL P E w fn.results.toList [v1,v2,v3,v4]) (hΦ:Φ (.tuple #[v1,v2,v3,v4]) w):WQ (bodyPost P fn (fun e w'=>∃ v,e=.returned v∧Φ v w')) .ret n [] E w:=a8l rfl hr rfl hΦ
theorem St.slMem {e sz:Nat} {v:Value} {rows:List (List Value)} (hS:St F w0 w Γ) (h:Asr.row e sz v rows ∈ Γ):Sl nF w sz v rows:=by
 obtain ⟨j,hj⟩:=List.mem_iff_getElem?.1 h
 exact hS.rowSl j hj
end
end Go.Proofs.Ytejnpppejalhfac
