/- Texts that the proof stands on, one behind the other: Ke4, Ke5, PlKer2, Ke6, Ke7, Sc24. -/
import Derived.Test.YtejnpppejalhfabGreatPRestKernels5
set_option linter.unusedVariables false
set_option linter.unusedSimpArgs false
namespace Go.Proofs.YtejnpppejalhfabGreat
set_option maxRecDepth 100000
set_option maxHeartbeats 8000000
open Go.RowKit Go.Sort
theorem b3H {l:List Nm} {w:World} {v:Value} {p:Nm->Bool} {k:FuncId} {caps:List Value} (hL:Sl nF w 7 v (l.map nmC)) (hf:∀ x ∈ l,∀ w',(∃ Γ,St nF w w' Γ)->Fn Tryz.prog k ([.agg (nmC x).toArray]++caps) w' (RBf (.bool (p x)) w')) :
  Fn Tryz.prog 152 [v,.func (.func k) #[] caps.toArray] w (RBf (.int .i64 (a1F p l)) w):=by
 have bnd:=hL.bound;obtain ⟨pp,c,rfl⟩:=hL.len;refine yEn Tryz.func152 Tryz.ntmps152 (by kernel_rfl) (by kernel_rfl) rfl rfl ?_;have hS:=St.start w
 repeat' (first|(with_reducible apply a8 a7);rfl;rfl;rfl|refine yDn (by with_reducible constructor) ?_)
 refine k9 (X:=Nat) (fun x=>[(8,.int .i64 (x:Nat))]) [0,1,7] rfl (fun _=>[]) (fun x=>x<=l.length/\(l.take x).all (fun y=>!p y)=true) (fun x=>l.length - x) 0 (by exact Fr.sub_of rfl) (by simp) hS ?_;clear hS;rintro i w1 ⟨hi,hall⟩ hS;dsimp only [List.cons_append,List.nil_append] at hi hall hS |-;by_cases hlt:i < l.length
 ·obtain ⟨x,hx⟩:=j0 (l:=l) (i:=i) (by omega);have hrow:=c9 (f:=nmC) hx;obtain ⟨b,off,rfl,hro⟩:=hL.at_ (i:=i) hlt;have hcall:=fun w' h=>hf x (xd0 hx) w' h
  cases hpx:p x with
  |true=>
   rw [hpx] at hcall;rw [a2Y hall hx hpx]
   repeat' (first|(with_reducible apply a8 a7);rfl;rfl;rfl|(with_reducible apply a9);rfl;(apply Ld.st a7;rfl;exact hS.roR (by assumption) (by assumption);rfl);rfl|(with_reducible apply l7 a7);rfl;rfl;rfl;rfl;omega;rfl|refine yDn (by with_reducible constructor) ?_|(with_reducible apply f6);rfl;rfl|(with_reducible apply b9);rfl;all_goals (intro hb hp;try (exfalso;omega))|(with_reducible apply d7 hS);rfl;rfl;rfl;refine ⟨_,hcall _ ⟨_,hS⟩,?_⟩;clear hS;intro w' hS)
   (refine k7 rfl ?_)
   exact ⟨rfl,hS.sub (xj1 _)⟩
  |false=>
   rw [hpx] at hcall
   repeat' (first|(with_reducible apply a8 a7);rfl;rfl;rfl|(with_reducible apply a9);rfl;(apply Ld.st a7;rfl;exact hS.roR (by assumption) (by assumption);rfl);rfl|(with_reducible apply l7 a7);rfl;rfl;rfl;rfl;omega;rfl|(with_reducible apply j4);rfl;rfl;omega;omega;rfl|refine yDn (by with_reducible constructor) ?_|(with_reducible apply f8);rfl;rfl|(with_reducible apply b9);rfl;all_goals (intro hb hp;try (exfalso;omega))|(with_reducible apply d7 hS);rfl;rfl;rfl;refine ⟨_,hcall _ ⟨_,hS⟩,?_⟩;clear hS;intro w' hS)
   exact e9 (i + 1) (by exact Fr.sub_of rfl) ⟨by show i + 1<=_;omega,a0B hall hx (by simp [hpx])⟩ hS (by show _ - (i + 1) < _ - i;omega)
 ·rw [a2k hall (by omega)]
  repeat' (first|(with_reducible apply a8 a7);rfl;rfl;rfl|refine yDn (by with_reducible constructor) ?_|(with_reducible apply b9);rfl;all_goals (intro hb hp;try (exfalso;omega)))
  (refine k7 rfl ?_)
  exact ⟨rfl,hS.sub (xj1 _)⟩
theorem b3s {l:List Fm} {w:World} {v:Value} {p:Fm->Bool} {k:FuncId} {caps:List Value} (hL:Sl nF w 4 v (l.map fmC)) (hf:∀ x ∈ l,∀ w',(∃ Γ,St nF w w' Γ)->Fn Tryz.prog k ([.agg (fmC x).toArray]++caps) w' (RBf (.bool (p x)) w')) :
  Fn Tryz.prog 168 [v,.func (.func k) #[] caps.toArray] w (RBf (.int .i64 (a1F p l)) w):=by
 have bnd:=hL.bound;obtain ⟨pp,c,rfl⟩:=hL.len;refine yEn Tryz.func168 Tryz.ntmps168 (by kernel_rfl) (by kernel_rfl) rfl rfl ?_;have hS:=St.start w
 repeat' (first|(with_reducible apply a8 a7);rfl;rfl;rfl|refine yDn (by with_reducible constructor) ?_)
 refine k9 (X:=Nat) (fun x=>[(8,.int .i64 (x:Nat))]) [0,1,7] rfl (fun _=>[]) (fun x=>x<=l.length/\(l.take x).all (fun y=>!p y)=true) (fun x=>l.length - x) 0 (by exact Fr.sub_of rfl) (by simp) hS ?_;clear hS;rintro i w1 ⟨hi,hall⟩ hS;dsimp only [List.cons_append,List.nil_append] at hi hall hS |-;by_cases hlt:i < l.length
 ·obtain ⟨x,hx⟩:=j0 (l:=l) (i:=i) (by omega);have hrow:=c9 (f:=fmC) hx;obtain ⟨b,off,rfl,hro⟩:=hL.at_ (i:=i) hlt;have hcall:=fun w' h=>hf x (xd0 hx) w' h
  cases hpx:p x with
  |true=>
   rw [hpx] at hcall;rw [a2Y hall hx hpx]
   repeat' (first|(with_reducible apply a8 a7);rfl;rfl;rfl|(with_reducible apply a9);rfl;(apply Ld.st a7;rfl;exact hS.roR (by assumption) (by assumption);rfl);rfl|(with_reducible apply l7 a7);rfl;rfl;rfl;rfl;omega;rfl|refine yDn (by with_reducible constructor) ?_|(with_reducible apply f6);rfl;rfl|(with_reducible apply b9);rfl;all_goals (intro hb hp;try (exfalso;omega))|(with_reducible apply d7 hS);rfl;rfl;rfl;refine ⟨_,hcall _ ⟨_,hS⟩,?_⟩;clear hS;intro w' hS)
   (refine k7 rfl ?_)
   exact ⟨rfl,hS.sub (xj1 _)⟩
  |false=>
   rw [hpx] at hcall
   repeat' (first|(with_reducible apply a8 a7);rfl;rfl;rfl|(with_reducible apply a9);rfl;(apply Ld.st a7;rfl;exact hS.roR (by assumption) (by assumption);rfl);rfl|(with_reducible apply l7 a7);rfl;rfl;rfl;rfl;omega;rfl|(with_reducible apply j4);rfl;rfl;omega;omega;rfl|refine yDn (by with_reducible constructor) ?_|(with_reducible apply f8);rfl;rfl|(with_reducible apply b9);rfl;all_goals (intro hb hp;try (exfalso;omega))|(with_reducible apply d7 hS);rfl;rfl;rfl;refine ⟨_,hcall _ ⟨_,hS⟩,?_⟩;clear hS;intro w' hS)
   exact e9 (i + 1) (by exact Fr.sub_of rfl) ⟨by show i + 1<=_;omega,a0B hall hx (by simp [hpx])⟩ hS (by show _ - (i + 1) < _ - i;omega)
 ·rw [a2k hall (by omega)]
  repeat' (first|(with_reducible apply a8 a7);rfl;rfl;rfl|refine yDn (by with_reducible constructor) ?_|(with_reducible apply b9);rfl;all_goals (intro hb hp;try (exfalso;omega)))
  (refine k7 rfl ?_)
  exact ⟨rfl,hS.sub (xj1 _)⟩
theorem b3a {l:List Sw} {w:World} {v:Value} {p:Sw->Bool} {k:FuncId} {caps:List Value} (hL:Sl nF w 2 v (l.map swC)) (hf:∀ x ∈ l,∀ w',(∃ Γ,St nF w w' Γ)->Fn Tryz.prog k ([.agg (swC x).toArray]++caps) w' (RBf (.bool (p x)) w')) :
  Fn Tryz.prog 177 [v,.func (.func k) #[] caps.toArray] w (RBf (.int .i64 (a1F p l)) w):=by
 have bnd:=hL.bound;obtain ⟨pp,c,rfl⟩:=hL.len;refine yEn Tryz.func177 Tryz.ntmps177 (by kernel_rfl) (by kernel_rfl) rfl rfl ?_;have hS:=St.start w
 repeat' (first|(with_reducible apply a8 a7);rfl;rfl;rfl|refine yDn (by with_reducible constructor) ?_)
 refine k9 (X:=Nat) (fun x=>[(8,.int .i64 (x:Nat))]) [0,1,7] rfl (fun _=>[]) (fun x=>x<=l.length/\(l.take x).all (fun y=>!p y)=true) (fun x=>l.length - x) 0 (by exact Fr.sub_of rfl) (by simp) hS ?_;clear hS;rintro i w1 ⟨hi,hall⟩ hS;dsimp only [List.cons_append,List.nil_append] at hi hall hS |-;by_cases hlt:i < l.length
 ·obtain ⟨x,hx⟩:=j0 (l:=l) (i:=i) (by omega);have hrow:=c9 (f:=swC) hx;obtain ⟨b,off,rfl,hro⟩:=hL.at_ (i:=i) hlt;have hcall:=fun w' h=>hf x (xd0 hx) w' h
  cases hpx:p x with
  |true=>
   rw [hpx] at hcall;rw [a2Y hall hx hpx]
   repeat' (first|(with_reducible apply a8 a7);rfl;rfl;rfl|(with_reducible apply a9);rfl;(apply Ld.st a7;rfl;exact hS.roR (by assumption) (by assumption);rfl);rfl|(with_reducible apply l7 a7);rfl;rfl;rfl;rfl;omega;rfl|refine yDn (by with_reducible constructor) ?_|(with_reducible apply f6);rfl;rfl|(with_reducible apply b9);rfl;all_goals (intro hb hp;try (exfalso;omega))|(with_reducible apply d7 hS);rfl;rfl;rfl;refine ⟨_,hcall _ ⟨_,hS⟩,?_⟩;clear hS;intro w' hS)
   (refine k7 rfl ?_)
   exact ⟨rfl,hS.sub (xj1 _)⟩
  |false=>
   rw [hpx] at hcall
   repeat' (first|(with_reducible apply a8 a7);rfl;rfl;rfl|(with_reducible apply a9);rfl;(apply Ld.st a7;rfl;exact hS.roR (by assumption) (by assumption);rfl);rfl|(with_reducible apply l7 a7);rfl;rfl;rfl;rfl;omega;rfl|(with_reducible apply j4);rfl;rfl;omega;omega;rfl|refine yDn (by with_reducible constructor) ?_|(with_reducible apply f8);rfl;rfl|(with_reducible apply b9);rfl;all_goals (intro hb hp;try (exfalso;omega))|(with_reducible apply d7 hS);rfl;rfl;rfl;refine ⟨_,hcall _ ⟨_,hS⟩,?_⟩;clear hS;intro w' hS)
   exact e9 (i + 1) (by exact Fr.sub_of rfl) ⟨by show i + 1<=_;omega,a0B hall hx (by simp [hpx])⟩ hS (by show _ - (i + 1) < _ - i;omega)
 ·rw [a2k hall (by omega)]
  repeat' (first|(with_reducible apply a8 a7);rfl;rfl;rfl|refine yDn (by with_reducible constructor) ?_|(with_reducible apply b9);rfl;all_goals (intro hb hp;try (exfalso;omega)))
  (refine k7 rfl ?_)
  exact ⟨rfl,hS.sub (xj1 _)⟩
theorem b2Y {l:List En} {w:World} {v:Value} {p:En->Bool} {k:FuncId} {caps:List Value} (hL:Sl nF w 3 v (l.map enC)) (hf:∀ x ∈ l,∀ w',(∃ Γ,St nF w w' Γ)->Fn Tryz.prog k ([.agg (enC x).toArray]++caps) w' (RBf (.bool (p x)) w')) :
  Fn Tryz.prog 183 [v,.func (.func k) #[] caps.toArray] w (RBf (.int .i64 (a1F p l)) w):=by
 have bnd:=hL.bound;obtain ⟨pp,c,rfl⟩:=hL.len;refine yEn Tryz.func183 Tryz.ntmps183 (by kernel_rfl) (by kernel_rfl) rfl rfl ?_;have hS:=St.start w
 repeat' (first|(with_reducible apply a8 a7);rfl;rfl;rfl|refine yDn (by with_reducible constructor) ?_)
 refine k9 (X:=Nat) (fun x=>[(8,.int .i64 (x:Nat))]) [0,1,7] rfl (fun _=>[]) (fun x=>x<=l.length/\(l.take x).all (fun y=>!p y)=true) (fun x=>l.length - x) 0 (by exact Fr.sub_of rfl) (by simp) hS ?_;clear hS;rintro i w1 ⟨hi,hall⟩ hS;dsimp only [List.cons_append,List.nil_append] at hi hall hS |-;by_cases hlt:i < l.length
 ·obtain ⟨x,hx⟩:=j0 (l:=l) (i:=i) (by omega);have hrow:=c9 (f:=enC) hx;obtain ⟨b,off,rfl,hro⟩:=hL.at_ (i:=i) hlt;have hcall:=fun w' h=>hf x (xd0 hx) w' h
  cases hpx:p x with
  |true=>
   rw [hpx] at hcall;rw [a2Y hall hx hpx]
   repeat' (first|(with_reducible apply a8 a7);rfl;rfl;rfl|(with_reducible apply a9);rfl;(apply Ld.st a7;rfl;exact hS.roR (by assumption) (by assumption);rfl);rfl|(with_reducible apply l7 a7);rfl;rfl;rfl;rfl;omega;rfl|refine yDn (by with_reducible constructor) ?_|(with_reducible apply f6);rfl;rfl|(with_reducible apply b9);rfl;all_goals (intro hb hp;try (exfalso;omega))|(with_reducible apply d7 hS);rfl;rfl;rfl;refine ⟨_,hcall _ ⟨_,hS⟩,?_⟩;clear hS;intro w' hS)
   (refine k7 rfl ?_)
   exact ⟨rfl,hS.sub (xj1 _)⟩
  |false=>
   rw [hpx] at hcall
   repeat' (first|(with_reducible apply a8 a7);rfl;rfl;rfl|(with_reducible apply a9);rfl;(apply Ld.st a7;rfl;exact hS.roR (by assumption) (by assumption);rfl);rfl|(with_reducible apply l7 a7);rfl;rfl;rfl;rfl;omega;rfl|(with_reducible apply j4);rfl;rfl;omega;omega;rfl|refine yDn (by with_reducible constructor) ?_|(with_reducible apply f8);rfl;rfl|(with_reducible apply b9);rfl;all_goals (intro hb hp;try (exfalso;omega))|(with_reducible apply d7 hS);rfl;rfl;rfl;refine ⟨_,hcall _ ⟨_,hS⟩,?_⟩;clear hS;intro w' hS)
   exact e9 (i + 1) (by exact Fr.sub_of rfl) ⟨by show i + 1<=_;omega,a0B hall hx (by simp [hpx])⟩ hS (by show _ - (i + 1) < _ - i;omega)
 ·rw [a2k hall (by omega)]
  repeat' (first|(with_reducible apply a8 a7);rfl;rfl;rfl|refine yDn (by with_reducible constructor) ?_|(with_reducible apply b9);rfl;all_goals (intro hb hp;try (exfalso;omega)))
  (refine k7 rfl ?_)
  exact ⟨rfl,hS.sub (xj1 _)⟩
theorem b4b {l:List Nm} {w:World} {v:Value} {p:Nm->Bool} {k:FuncId} {caps:List Value} (hL:Sl nF w 7 v (l.map nmC)) (hf:∀ x ∈ l,∀ w',(∃ Γ,St nF w w' Γ)->Fn Tryz.prog k ([.agg (nmC x).toArray]++caps) w' (RBf (.bool (p x)) w')) :
  Fn Tryz.prog 117 [v,.func (.func k) #[] caps.toArray] w (RBf (.bool (l.any p)) w):=by
 refine yEn Tryz.func117 Tryz.ntmps117 (by kernel_rfl) (by kernel_rfl) rfl rfl ?_;have hS:=St.start w;have hi:=b3H hL hf
 repeat' (first|(with_reducible apply a8 a7);rfl;rfl;rfl|refine yDn (by with_reducible constructor) ?_|(with_reducible apply d7 hS);rfl;rfl;rfl;refine ⟨_,hi,?_⟩;clear hS;intro w' hS)
 (refine k7 rfl ?_)
 exact ⟨by rw [a9e],hS.sub (xj1 _)⟩
def a4o (n m:Nm):Bool:=(!decide (m.1.page=n.1.page))||(!decide (m.2.z=n.2.z))
theorem b2Q {n:Nm} {r:List Nm}:a0P (n::r)=!((n::r).any (a4o n)):=by
 show (r.all fun m=>decide (m.1.page=n.1.page/\m.2.z=n.2.z))=_;rw [List.any_cons,show a4o n n=false by simp [a4o],xo1]
 induction r with
 |nil=>rfl
 |cons m r ih=>
  rw [xo6,List.any_cons,ih,Bool.not_or]
  congr 1
  unfold a4o;by_cases h1:m.1.page=n.1.page <;> by_cases h2:m.2.z=n.2.z <;> simp [h1,h2]
theorem b2F {l:List Nm} {w:World} {g:Nat} {v:Value} {n m:Nm} {r:List Nm} (hc:Bs nF w ⟨g,0,none⟩ v) (hL:Sl nF w 7 v (l.map nmC)) (hl:l=n::r):Fn Tryz.prog 118 [.agg (nmC m).toArray,.pointer (some ⟨g,0,none⟩)] w (RBf (.bool (a4o n m)) w):=by
 have hrow:(l.map nmC)[0]?=some (nmC n):=by rw [hl];rfl
 obtain ⟨pp,c,rfl⟩:=hL.len;obtain ⟨b,off,rfl,hro⟩:=hL.at_ (i:=0) (by rw [hl];simp);have hlen:0 < l.length:=by rw [hl];simp
 unfold nmC at hrow |-;unfold a4o;refine yEn Tryz.func118 Tryz.ntmps118 (by kernel_rfl) (by kernel_rfl) rfl rfl ?_;have hS:=St.start w;by_cases hp:m.1.page=n.1.page
 ·have hd:(!decide (m.1.page=n.1.page))=false:=by rw [xj2 hp];rfl
  rw [hd,xo1]
  repeat' (first|(with_reducible apply a8 a7);rfl;rfl;rfl|refine yDn (by with_reducible constructor) ?_|(with_reducible apply l8 hS);rfl;rfl;rfl;clear hS;intro g w' hS)
  (focus ((with_reducible apply d9 _ _ _ (by kernel_rfl) (by kernel_rfl) hS);(repeat' ((first|(with_reducible apply i7 a7);rfl;rfl|(with_reducible apply b7x a7);(iterate 4 rfl)|(with_reducible apply i9);rfl;(intro wd hd;replace hd:St _ _ wd _:=hd;(first|apply Ld.sc a7;rfl;(first|exact hd.blkC 0 rfl rfl|exact hd.roC0 (by assumption) (by assumption) rfl|exact hd.roC2 (by assumption) (by assumption) rfl)|apply Ld.sl a7;rfl;exact hd.bs (by assumption)));rfl|(with_reducible apply y8 a7);rfl;rfl;rfl;rfl;omega;rfl|(first|(with_reducible apply a0t);(iterate 4 rfl);assumption|(with_reducible apply r7);rfl;assumption;rfl;rfl))));all_goals ((with_reducible apply j7);intro w' hS';clear hS;have hS:=hS';clear hS')))
  repeat' ((refine yDn (by with_reducible constructor) ?_))
  (refine k7 rfl ?_)
  exact ⟨rfl,hS.sub (xj1 _)⟩
 ·have hd:(!decide (m.1.page=n.1.page))=true:=by rw [xj0 hp];rfl
  rw [hd,Bool.true_or]
  repeat' (first|(with_reducible apply a8 a7);rfl;rfl;rfl|refine yDn (by with_reducible constructor) ?_|(with_reducible apply l8 hS);rfl;rfl;rfl;clear hS;intro g w' hS)
  (focus ((with_reducible apply d9 _ _ _ (by kernel_rfl) (by kernel_rfl) hS);(repeat' ((first|(with_reducible apply i7 a7);rfl;rfl|(with_reducible apply i9);rfl;(intro wd hd;replace hd:St _ _ wd _:=hd;(first|apply Ld.sc a7;rfl;(first|exact hd.blkC 0 rfl rfl|exact hd.roC0 (by assumption) (by assumption) rfl)|apply Ld.sl a7;rfl;exact hd.bs (by assumption)));rfl|(with_reducible apply y8 a7);rfl;rfl;rfl;rfl;omega;rfl|(first|(with_reducible apply a14);(iterate 4 rfl);assumption;rfl|(with_reducible apply t7);rfl;assumption;rfl;rfl))));all_goals ((with_reducible apply j7);intro w' hS';clear hS;have hS:=hS';clear hS')))
  repeat' ((refine yDn (by with_reducible constructor) ?_))
  (refine k7 rfl ?_)
  exact ⟨rfl,hS.sub (xj1 _)⟩
theorem a7A {l:List Nm} {w:World} {v:Value} {n:Nm} {r:List Nm} (hL:Sl nF w 7 v (l.map nmC)) (hl:l=n::r):Fn Tryz.prog 67 [v] w (RBf (.bool (a0P l)) w):=by
 obtain ⟨pp,c,rfl⟩:=hL.len;refine yEn Tryz.func67 Tryz.ntmps67 (by kernel_rfl) (by kernel_rfl) rfl rfl ?_;have hS:=St.start w
 repeat' (first|(with_reducible apply a8 a7);rfl;rfl;rfl|(with_reducible apply a9);rfl;(apply Ld.sl a7;rfl;exact hS.blkC 0 rfl rfl);rfl|refine yDn (by with_reducible constructor) ?_|(with_reducible apply l8 hS);rfl;rfl;rfl;clear hS;intro g w' hS)
 rename Nat=>g
 have hco:=b4b (caps:=[.pointer (some ⟨g,0,none⟩)]) (p:=a4o n) (k:=118) (hL.now hS) (fun x hx w2 ⟨Γ,h2⟩=>b2F (Bs.of (h2.bs (Bs.of (hS.blkC 0 rfl rfl)))) ((hL.now hS).now h2) hl)
 repeat' (first|(with_reducible apply a8 a7);rfl;rfl;rfl|refine yDn (by with_reducible constructor) ?_|(with_reducible apply d7 hS);rfl;rfl;rfl;refine ⟨_,hco,?_⟩;clear hS;intro w' hS)
 (refine k7 rfl ?_)
 refine ⟨?_,hS.sub (xj1 _)⟩;subst hl;rw [b2Q]
theorem a8h {w:World} {l:List (Sh×Value)} {gl gk:Nat} {vsh vb:Value} {f:Fm} {by_:List Nm} (hl:Bs nF w ⟨gl,0,none⟩ (.pointer (some ⟨gk,0,none⟩))) (hk:Bs nF w ⟨gk,0,none⟩ vsh) (hL:ShsV w l vsh) (hr:a0C 0 (shs l)=true) (hby:Sl nF w 7 vb (by_.map nmC)) (hpg:∀ n ∈ by_,-1000000<=n.1.page/\n.1.page<=1000000):Fn Tryz.prog 66 [.pointer (some ⟨gl,0,none⟩),.agg (fmC f).toArray,vb] w (RBf (.bool (a1t (shs l) f by_)) w):=by
 have bnd:=hby.bound;unfold fmC
 cases by_ with
 |nil=>
  obtain ⟨pp,c,rfl⟩:=hby.len;refine yEn Tryz.func66 Tryz.ntmps66 (by kernel_rfl) (by kernel_rfl) rfl rfl ?_;have hS:=St.start w
  repeat' (first|(with_reducible apply a8 a7);rfl;rfl;rfl|(with_reducible apply a9);rfl;(apply Ld.st a7;rfl;exact hS.blkR 0 rfl;rfl);rfl|(with_reducible apply n7 a7);rfl;rfl;exact (rfl:_=some [_,_,_,_]);rfl|refine yDn (by with_reducible constructor) ?_|(with_reducible apply f6);rfl;rfl|(with_reducible apply l8 hS);rfl;rfl;rfl;clear hS;intro g w' hS|(with_reducible apply b7E);rfl;rfl;exact b5p f fm0;rfl)
  (refine k7 rfl ?_)
  exact ⟨rfl,hS.sub (xj1 _)⟩
 |cons n r=>
  have hal:=fun w1 (h:Sl nF w1 7 vb ((n::r).map nmC))=>a7A h rfl;have hn:=hpg n xc5;have hfill:∀ w1 Γ,St nF w w1 Γ->Fn Tryz.prog 84 [.pointer (some ⟨gk,0,none⟩),.agg [.int .i64 n.2.pg,.int .i64 n.2.n,.int .i64 n.2.prot,.bool n.2.z].toArray,.int .i64 n.1.page] w1 (RBf (a95 (a0I (shs l) n.2.z n.1.page)) w1):=fun w1 Γ h=>a4i (F:=nF) (Bs.of (h.bs hk)) (hL.now h) hr hn;unfold a95 at hfill;unfold a1t;dsimp only;generalize hlen:(n::r).length=m;have hm:0 < m:=by rw [<- hlen];simp
  obtain ⟨pp,c,rfl⟩:=hby.len;rw [hlen] at hby bnd hal |-;have hrow:((n::r).map nmC)[0]?=some [.int .i64 n.1.page,.int .i64 n.1.kind,.int .i64 n.1.at_,.int .i64 n.2.pg,.int .i64 n.2.n,.int .i64 n.2.prot,.bool n.2.z]:=rfl;obtain ⟨b,off,hpe,hro⟩:=hby.parts.2.resolve_left (fun h=>by simp at h);subst hpe;replace hro:=hro.2.2;by_cases h1:f.refs=(m:Int);rotate_left
  ·have hd:(!decide (f.refs=(m:Int)))=true:=by rw [xj0 h1];rfl
   rw [xj0 (fun h=>h1 h.1),xq1];refine yEn Tryz.func66 Tryz.ntmps66 (by kernel_rfl) (by kernel_rfl) rfl rfl ?_;have hS:=St.start w
   repeat' (first|(with_reducible apply a8 a7);rfl;rfl;rfl|(with_reducible apply a9);rfl;(apply Ld.sc a7;rfl;exact hS.blkC 0 rfl rfl);rfl|refine yDn (by with_reducible constructor) ?_|(with_reducible apply x8);(iterate 4 rfl);(first|rfl|assumption);rfl|(with_reducible apply j3);rfl;(first|rfl|assumption);rfl;rfl|(with_reducible apply f6);rfl;rfl|(with_reducible apply l8 hS);rfl;rfl;rfl;clear hS;intro g w' hS|(with_reducible apply b9);rfl;all_goals (intro hb hp;try (exfalso;omega)))
   (refine k7 rfl ?_)
   exact ⟨rfl,hS.sub (xj1 _)⟩
  have hd:(!decide (f.refs=(m:Int)))=false:=by rw [xj2 h1];rfl
  by_cases h2:f.data.length=16;rotate_left
  ·have hd2:(!decide ((f.data.length:Int)=16))=true:=by rw [xj0 (by omega)];rfl
   rw [xj0 (fun h=>h2 h.2),xq1];refine yEn Tryz.func66 Tryz.ntmps66 (by kernel_rfl) (by kernel_rfl) rfl rfl ?_;have hS:=St.start w
   repeat' (first|(with_reducible apply a8 a7);rfl;rfl;rfl|(with_reducible apply a9);rfl;(apply Ld.sc a7;rfl;exact hS.blkC 0 rfl rfl);rfl|refine yDn (by with_reducible constructor) ?_|(with_reducible apply k8);(iterate 4 rfl);assumption|(with_reducible apply x8);(iterate 4 rfl);assumption;rfl|(with_reducible apply j3);rfl;assumption;rfl;rfl|(with_reducible apply f5);rfl;assumption;rfl;rfl|(with_reducible apply f6);rfl;rfl|(with_reducible apply l8 hS);rfl;rfl;rfl;clear hS;intro g w' hS|(with_reducible apply b9);rfl;all_goals (intro hb hp;try (exfalso;omega)))
   (refine k7 rfl ?_)
   exact ⟨rfl,hS.sub (xj1 _)⟩
  have hd2:(!decide ((f.data.length:Int)=16))=false:=by rw [xj2 (by omega)];rfl
  rw [xj2 ⟨h1,h2⟩,xq0]
  cases ha:a0P (n::r) with
  |false=>
   rw [ha] at hal;rw [xq1];refine yEn Tryz.func66 Tryz.ntmps66 (by kernel_rfl) (by kernel_rfl) rfl rfl ?_;have hS:=St.start w
   repeat' (first|(with_reducible apply a8 a7);rfl;rfl;rfl|(with_reducible apply a9);rfl;(apply Ld.sc a7;rfl;exact hS.blkC 0 rfl rfl);rfl|refine yDn (by with_reducible constructor) ?_|(with_reducible apply k8);(iterate 4 rfl);assumption|(with_reducible apply f5);rfl;assumption;rfl;rfl|(with_reducible apply f6);rfl;rfl|(with_reducible apply l8 hS);rfl;rfl;rfl;clear hS;intro g w' hS|(with_reducible apply b9);rfl;all_goals (intro hb hp;try (exfalso;omega))|(with_reducible apply d7 hS);rfl;rfl;rfl;refine ⟨_,hal _ (hby.now hS),?_⟩;clear hS;intro w' hS)
   (refine k7 rfl ?_)
   exact ⟨rfl,hS.sub (xj1 _)⟩
  |true=>
   rw [ha] at hal;rw [xq0];refine yEn Tryz.func66 Tryz.ntmps66 (by kernel_rfl) (by kernel_rfl) rfl rfl ?_;have hS:=St.start w
   repeat' (first|(with_reducible apply a8 a7);rfl;rfl;rfl|(with_reducible apply a9);rfl;(apply Ld.sc a7;rfl;exact hS.blkC 0 rfl rfl);rfl|refine yDn (by with_reducible constructor) ?_|(with_reducible apply k8);(iterate 4 rfl);assumption|(with_reducible apply f5);rfl;assumption;rfl;rfl|(with_reducible apply f8);rfl;rfl|(with_reducible apply l8 hS);rfl;rfl;rfl;clear hS;intro g w' hS|(with_reducible apply b9);rfl;all_goals (intro hb hp;try (exfalso;omega))|(with_reducible apply d7 hS);rfl;rfl;rfl;refine ⟨_,hal _ (hby.now hS),?_⟩;clear hS;intro w' hS)
   (focus ((with_reducible apply d9 _ _ _ (by kernel_rfl) (by kernel_rfl) hS);(repeat' (first|(first|(with_reducible apply i7 a7);rfl;rfl|(with_reducible apply i9);rfl;(intro wd hd;replace hd:St _ _ wd _:=hd;(apply Ld.sc a7;rfl;(first|exact hd.bs (by assumption)|exact hd.roC0 (by assumption) (by assumption) rfl)));rfl|(with_reducible apply y8 a7);rfl;rfl;rfl;rfl;omega;rfl)|(with_reducible apply i9);rfl;(intro wd hd;replace hd:St _ _ wd _:=hd;(apply Ld.st a7;rfl;exact hd.roRs hro 3 4 hrow;rfl));rfl|(with_reducible apply y7);rfl;rfl;rfl;refine ⟨_,fun wd hd=>hfill _ _ hd,?_⟩));all_goals ((with_reducible apply j7);intro w' hS';clear hS;have hS:=hS';clear hS')))
   have hdd:f.dirty=false->decide (f.data=(a0I (shs l) n.2.z n.1.page).getD [])=(f.dirty||decide (some f.data=a0I (shs l) n.2.z n.1.page)):=fun h=>by
    rw [h,xo1]
    cases hq:a0I (shs l) n.2.z n.1.page with
    |none=>
     rw [xj0 (fun hh:some f.data=none=>by cases hh)];refine xj0 fun hh=>?_;rw [hh] at h2;simp at h2
    |some x=>exact xo2.2 ⟨fun hh=>congrArg some hh,fun hh=>Option.some.inj hh⟩
   repeat' (first|(with_reducible apply a8 a7);rfl;rfl;rfl|(with_reducible apply a9);rfl;(apply Ld.sc a7;rfl;exact hS.blkC 0 rfl rfl);rfl|refine yDn (by with_reducible constructor) ?_|(with_reducible apply k8);(iterate 4 rfl);assumption|(with_reducible apply x8);(iterate 4 rfl);assumption;rfl|(with_reducible apply j3);rfl;assumption;rfl;rfl|(with_reducible apply f5);rfl;assumption;rfl;rfl|(with_reducible apply b4X);rfl;rfl;rfl;all_goals (intro hb hp;try (exfalso;omega)))
   ·(refine k7 rfl ?_)
    exact ⟨by rw [hb];rfl,hS.sub (xj1 _)⟩
   ·(refine k7 rfl ?_)
    exact ⟨by rw [hdd hb],hS.sub (xj1 _)⟩
abbrev NL:=List (Value×List Nm)
def nlC (l:NL):List (List Value):=l.map fun x=>[x.1]
def nsA (x:Value×List Nm):Asr:=.row 233 7 x.1 (x.2.map nmC)
def nlR (l:NL):List Asr:=l.map nsA
theorem b3R {l m:NL} (h:l.Perm m):(nlR l).Perm (nlR m):=h.map nsA
theorem a7i {l:NL} {k:Nat} {x:Value×List Nm} (h:l[k]?=some x):(nlR l).Perm (nsA x::nlR (l.eraseIdx k)):=b3R (a1X h)
theorem b1E {l:NL} {k:Nat} {x y:Value×List Nm} (h:l[k]?=some x):(nsA y::nlR (l.eraseIdx k)).Perm (nlR (l.set k y)):=by
 have h1:=a7i (l:=l.set k y) (k:=k) (x:=y) (by rw [xe0];simp [(xa7.1 h).1]);rw [a1z] at h1;exact h1.symm
theorem b1y (l:NL) (k:Nat) (x:Value×List Nm):nlC (l.set k x)=(nlC l).set k [x.1]:=by unfold nlC;rw [xl1]
def lkS (g:Nat) (k vF vS:Value) (room:Int) (NF NS:NL):List Asr:=.blk g [k,vF,vS,.int .i64 room]::.row 154 1 vF (nlC NF)::.row 154 1 vS (nlC NS)::(nlR NF++nlR NS)
def Grown (A B:NL) (kind:Int) (ns:List Nm):Prop:=B.length=A.length/\∀ (i:Nat) x,A[i]?=some x->∃ v,B[i]?=some (v,x.2++ns.filter fun (n:Nm)=>decide (n.1.kind=kind/\n.1.at_=((i:Nat):Int)))
theorem Grown.refl (A:NL) (kind:Int):Grown A A kind []:=⟨rfl,fun i x h=>⟨x.1,by simpa using h⟩⟩
theorem Grown.skip {A B:NL} {kind:Int} {ns:List Nm} {n:Nm} (h:Grown A B kind ns) (hn:n.1.kind≠kind):Grown A B kind (ns++[n]):=⟨h.1,fun i x hx=>by
 obtain ⟨v,hv⟩:=h.2 i x hx;refine ⟨v,?_⟩;rw [hv,xk5,xk8 (by simp [hn]),xk7,List.append_nil]⟩
theorem Grown.put {A B:NL} {kind:Int} {ns:List Nm} {n:Nm} {j:Nat} {y:Value×List Nm} {v:Value} (h:Grown A B kind ns) (hn:n.1.kind=kind) (hj:n.1.at_=(j:Nat)) (hy:B[j]?=some y):Grown A (B.set j (v,y.2++[n])) kind (ns++[n]):=⟨by rw [xa8];exact h.1,fun i x hx=>by
 obtain ⟨u,hu⟩:=h.2 i x hx;by_cases e:j=i
 ·subst e;rw [hy] at hu
  cases hu
  refine ⟨v,?_⟩;rw [xe0];simp [(xa7.1 hy).1,xk5,hn,hj]
 ·refine ⟨u,?_⟩;rw [xn1 e,hu,xk5,xk8 (by rw [hn,hj];simp;omega),xk7,List.append_nil]⟩
theorem Grown.trans {A B C:NL} {kind:Int} {ns ms:List Nm} (h:Grown A B kind ns) (h2:Grown B C kind ms):Grown A C kind (ns++ms):=⟨h2.1.trans h.1,fun i x hx=>by
 obtain ⟨v,hv⟩:=h.2 i x hx;obtain ⟨u,hu⟩:=h2.2 i _ hv;exact ⟨u,by rw [hu,xk5,xg0]⟩⟩
structure ShsF (F:Nat->Prop) (w:World) (Lp:List (Sh×Value)) (vs:Value):Prop where
 sl:Sl F w 3 vs (Lp.map fun p=>shC p.1 p.2)
 fx:∀ p ∈ Lp,Sl F w 2 p.2 (p.1.fixes.map fxC)
theorem ShsF.now {F:Nat->Prop} {w w':World} {Γ:List Asr} {l:List (Sh×Value)} {v:Value} (h:ShsF F w l v) (hS:St F w w' Γ):ShsV w' l v:=⟨h.sl.now hS,fun p hp=>(h.fx p hp).now hS⟩
theorem ShsF.nowM {F:Nat->Prop} {w w':World} {Θ Γ:List Asr} {l:List (Sh×Value)} {v:Value} (h:ShsF F w l v) (hS:St F w w' (Θ++Γ)):ShsF (fps Θ) w' l v:=⟨h.sl.nowM hS,fun p hp=>(h.fx p hp).nowM hS⟩
theorem ShsF.of {w:World} {l:List (Sh×Value)} {v:Value} (h:ShsV w l v):ShsF nF w l v:=⟨h.sl,fun p hp=>h.fx p hp⟩
def a3x (l:List Sh) (a:Ar) (j:Nat):Bool:=(a0I l a.z (a.pg + (j:Nat))).isSome
theorem a8M {l:List Sh} {A:List Ar} {i j:Nat} {a:Ar} (ha:A[i]?=some a) (hj:(j:Int) < a.n) (h:a3x l a j=false):a1L l A=false:=by
 unfold a1L;rw [xq5];refine ⟨a,xd0 ha,?_⟩;rw [xg3,xq5];exact ⟨j,by rw [xi4];omega,by unfold a3x at h;rw [h];simp⟩
theorem a9a {l:List Sh} {A:List Ar} (h:∀ (i:Nat) a,A[i]?=some a->∀ j:Nat,(j:Int) < a.n->a3x l a j=true):a1L l A=true:=by
 unfold a1L;rw [xc7];intro a ha;obtain ⟨i,hi⟩:=xd9.1 ha;rw [xc7];intro j hj;exact h i a hi j (by rw [xi4] at hj;omega)
theorem a75 {A:List Ar} {nf ns last:Int} {l:List En} {i:Nat} {e:En} (h:l[i]?=some e):a1y A nf ns last (l.drop i)=(a17 A nf ns last e && a1y A nf ns e.page (l.drop (i + 1))):=by
 rw [a3a h];rfl
theorem b0I (s:Sc) (kind:Int) (i:Nat):(s.entries.map (a0Q s)).filter (fun (n:Nm)=>decide (n.1.kind=kind/\n.1.at_=((i:Nat):Int)))=j6 [s] kind i:=by
 unfold j6;rw [xl9,xm0,List.append_nil,List.filter_map];rfl
theorem a1Y {P:Program} {n:Nat} {ds:List Deferred} {E:Fr} {w:World} {Q:Exit->Act->World->Prop} {F:Nat->Prop} {w0:World} {Γ:List Asr} (k q:Nat) {id:Nat} {l:List Oper} (m:Nat) (hl:l.length=m) (hS:St F w0 w Γ) (hm:P.follows .mixedOrders=true) (h:∀ w1,St F w0 w1 Γ->WT P l.toArray Q (fun w'=>St F w0 w' (Γ.take k)) q m (Array.replicate m false) n ds E w1):WC P (.region id l.toArray true) Q n ds E w:=b6o _ q m hl hS hm h
theorem b3F {α β:Type} (A:List α) (B:List β) (hA:(A.length:Int)<=9223372036854775807) (hB:(B.length:Int)<=9223372036854775807):decide (IntKind.i64.wrap ((A.length:Int) + (B.length:Int))=0)=decide (A=[]/\B=[]):=by
 refine xo2.2 ⟨fun h=>?_,fun ⟨h1,h2⟩=>by rw [h1,h2];rfl⟩;have h2:A.length=0/\B.length=0:=by
  simp only [IntKind.wrap,IntKind.signed,IntKind.bits] at h;omega
 exact ⟨xf3 h2.1,xf3 h2.2⟩
theorem b4N (l:NL):(nlC l).length=l.length:=by unfold nlC;simp
theorem r8 {α:Type} {l:List α} {i:Nat} {x:α} (h:l[i]?=some x):l.take (i + 1)=l.take i++[x]:=by
 obtain ⟨h1,rfl⟩:=xa7.1 h;rw [xp6,xe1 h1];rfl
theorem b3k {F:Nat->Prop} {w0 w:World} {Γ:List Asr} {gl gk:Nat} {vsh vF vS:Value} {room:Int} {l:List (Sh×Value)} {NF NS:NL} {p:Sp}
  (hS0:St F w0 w (lkS gl (.pointer (some ⟨gk,0,none⟩)) vF vS room NF NS++Γ)) (hk:Bs (fps (lkS gl (.pointer (some ⟨gk,0,none⟩)) vF vS room NF NS)) w ⟨gk,0,none⟩ vsh) (hL:ShsF (fps (lkS gl (.pointer (some ⟨gk,0,none⟩)) vF vS room NF NS)) w l vsh) (hr:a0C 0 (shs l)=true)
  (har:Sl (fps (lkS gl (.pointer (some ⟨gk,0,none⟩)) vF vS room NF NS)) w 4 p.va (p.s.areas.map arC)) (hen:Sl (fps (lkS gl (.pointer (some ⟨gk,0,none⟩)) vF vS room NF NS)) w 3 p.ve (p.s.entries.map enC)) (hrm:0<=room/\room<=1000000) (hF:∀ x ∈ NF,x.2.length<=1000) (hSl:∀ x ∈ NS,x.2.length<=1000) :
  Fn Tryz.prog 65 [.pointer (some ⟨gl,0,none⟩),.agg (spC p).toArray] w (fun v w'=>v=.bool (t9 (shs l) NF.length NS.length p.s)/\∃ NF' NS' room',St (fps (lkS gl (.pointer (some ⟨gk,0,none⟩)) vF vS room NF NS)) w w' (lkS gl (.pointer (some ⟨gk,0,none⟩)) vF vS room' NF' NS')/\(t9 (shs l) NF.length NS.length p.s=true->room'=room + y9 p.s.areas/\Grown NF NF' 1 (p.s.entries.map (a0Q p.s))/\Grown NS NS' 2 (p.s.entries.map (a0Q p.s)))):=by
 obtain ⟨s,va,ve⟩:=p;obtain ⟨live,A,es⟩:=s;dsimp only at har hen |-;have hSs:=St.startM hS0;generalize hG:fps (lkS gl (.pointer (some ⟨gk,0,none⟩)) vF vS room NF NS)=G at hSs hk hL har hen |-;clear hG hS0;have bA:=(har.now hSs).bound;have bE:=(hen.now hSs).bound;obtain ⟨pa,ca,rfl⟩:=(har.now hSs).len;obtain ⟨pe,ce,rfl⟩:=(hen.now hSs).len;have hS:=hSs;unfold lkS at hS;obtain ⟨pF,cF,hvF⟩:=hS.rowSlice 1 rfl;obtain ⟨pS,cS,hvS⟩:=hS.rowSlice 2 rfl;rw [b4N] at hvF hvS;subst hvF hvS;unfold spC t9;dsimp only
 cases live with
 |false=>
  simp only [xp0,if_false];have hd:=b3F A es bA bE;refine yEn Tryz.func65 Tryz.ntmps65 (by kernel_rfl) (by kernel_rfl) rfl rfl ?_
  repeat' (first|(with_reducible apply a8 a7);rfl;rfl;rfl|(with_reducible apply a9);rfl;(first|apply Ld.sc a7;rfl;exact hS.blkC 0 rfl rfl|apply Ld.sl a7;rfl;exact hS.blkC 0 rfl rfl);rfl|(with_reducible apply a6h a7);rfl;rfl|refine yDn (by with_reducible constructor) ?_|(with_reducible apply f6);rfl;rfl|(with_reducible apply l8 hS);rfl;rfl;rfl;clear hS;intro g w' hS)
  (refine k7 rfl ?_)
  refine ⟨by rw [hd],NF,NS,room,hS.drop,fun h=>?_⟩;obtain ⟨rfl,rfl⟩:=xn9 h;exact ⟨by simp [y9],Grown.refl _ _,Grown.refl _ _⟩
 |true=>
  simp only [if_true];have hchk:=fun w1 (h:Sl nF w1 4 (.slice pa A.length ca) (A.map arC))=>a6G h;by_cases hc:l5 A=0;rotate_left
  ·have hd:(!decide (l5 A=0))=true:=by rw [xj0 hc];rfl
   have hbad:(decide (l5 A=0) && (a1L (shs l) A && a1y A NF.length NS.length 0 es))=false:=by rw [xj0 hc,xq1]
   refine yEn Tryz.func65 Tryz.ntmps65 (by kernel_rfl) (by kernel_rfl) rfl rfl ?_
   repeat' (first|(with_reducible apply a8 a7);rfl;rfl;rfl|(with_reducible apply a9);rfl;(first|apply Ld.sc a7;rfl;exact hS.blkC 0 rfl rfl|apply Ld.sl a7;rfl;exact hS.blkC 0 rfl rfl);rfl|refine yDn (by with_reducible constructor) ?_|(with_reducible apply f6);rfl;assumption|(with_reducible apply f8);rfl;rfl|(with_reducible apply l8 hS);rfl;rfl;rfl;clear hS;intro g w' hS|(with_reducible apply d7 hS);rfl;rfl;rfl;refine ⟨_,hchk _ (har.now hS),?_⟩;clear hS;intro w' hS)
   (refine k7 rfl ?_)
   refine ⟨by rw [hbad],_,_,_,hS.sub (by repeat (first|exact xl8 _|apply xm1)),fun h=>?_⟩;rw [hbad] at h
   cases h
  have hd:(!decide (l5 A=0))=false:=by rw [xj2 hc];rfl
  have htot:=fun w1 (h:Sl nF w1 4 (.slice pa A.length ca) (A.map arC))=>a6U h;rw [xf0 hc] at htot;obtain ⟨hAl,hgood⟩:=x7.1 hc;have hok:=a0X hgood;have hsum:=a8z hok A.length;rw [xg6] at hsum;rw [xj2 hc,xq0];refine yEn Tryz.func65 Tryz.ntmps65 (by kernel_rfl) (by kernel_rfl) rfl rfl ?_
  repeat' (first|(with_reducible apply a8 a7);rfl;rfl;rfl|(with_reducible apply a9);rfl;(first|apply Ld.sc a7;rfl;exact hS.blkC 0 rfl rfl|apply Ld.sl a7;rfl;exact hS.blkC 0 rfl rfl);rfl|refine yDn (by with_reducible constructor) ?_|((with_reducible apply f8);rfl;first|rfl|assumption)|(with_reducible apply l8 hS);rfl;rfl;rfl;clear hS;intro g w' hS|(with_reducible apply d7 hS);rfl;rfl;rfl;refine ⟨_,hchk _ (har.now hS),?_⟩;clear hS;intro w' hS)
  (focus ((with_reducible apply a0p _ _ _ 10 (by kernel_rfl) (by kernel_rfl) hS);(simp only [xl2,xl3,xl6,xl7]);(repeat' (first|(first|(with_reducible apply b39);rfl;rfl;omega;omega;rfl|(with_reducible apply i7 a7);rfl;rfl|(with_reducible apply i9);rfl;(intro wd hd;replace hd:St _ _ wd _:=hd;(first|apply Ld.sc a7;rfl;exact hd.blkC 1 rfl rfl|apply Ld.sl a7;rfl;exact hd.blkC 0 rfl rfl));rfl)|(with_reducible apply y7);rfl;rfl;rfl;refine ⟨_,fun wd hd=>htot _ (har.now hd),?_⟩));all_goals ((with_reducible apply j7);intro w' hS';clear hS;have hS:=hS';clear hS')))
  repeat' (first|(with_reducible apply a8 a7);rfl;rfl;rfl|(with_reducible apply a9);rfl;(apply Ld.sl a7;rfl;exact hS.blkC 0 rfl rfl);rfl|refine yDn (by with_reducible constructor) ?_|(with_reducible apply b8 hS a7 (i:=1));(iterate 8 rfl);exact (rfl:_=[_,_,_,_]);clear hS;intro w' hS;simp only [List.set] at hS)
  refine k9 (X:=Nat) (fun x=>[(44,.int .i64 (x:Nat))]) [0,3,42,43] rfl (fun _=>[]) (fun x=>x<=A.length/\∀ (i:Nat) a,i < x->A[i]?=some a->∀ j:Nat,(j:Int) < a.n->a3x (shs l) a j=true) (fun x=>A.length - x) 0 (by exact Fr.sub_of rfl) ⟨by omega,fun i a h=>by omega⟩ hS ?_;clear hS;rintro i w1 ⟨hi,hall⟩ hS;dsimp only [List.cons_append,List.nil_append] at hi hall hS |-;by_cases hlt:i < A.length
  ·obtain ⟨a,ha⟩:=j0 (l:=A) (i:=i) (by omega);have hrow:=c9 (f:=arC) ha;obtain ⟨b,off,rfl,hro⟩:=har.atF (i:=i) hlt;have hak:=hok i a ha;unfold Ar.ok at hak;unfold arC at hrow;have hfill:=fun w1 Γ (h:St G w w1 Γ) (q:Int) (hq:-1000000<=q/\q<=1000000)=>a4i (a:=a) (F:=nF) (Bs.of (h.bs hk)) (hL.now h) hr hq;unfold a95 arC at hfill
   repeat' (first|(with_reducible apply a8 a7);rfl;rfl;rfl|(with_reducible apply a9);rfl;(first|apply Ld.sc a7;rfl;exact hS.blkC 0 rfl rfl|apply Ld.st a7;rfl;exact hS.roR (by assumption) (by assumption);rfl);rfl|(with_reducible apply l7 a7);rfl;rfl;rfl;rfl;omega;rfl|refine yDn (by with_reducible constructor) ?_|(with_reducible apply d8 hS a7);rfl;rfl;rfl;clear hS;intro g w' hS|(with_reducible apply b8 hS a7 (i:=0));(iterate 8 rfl);exact (rfl:_=[_,_,_,_]);clear hS;intro w' hS;simp only [List.set] at hS|(with_reducible apply b9);rfl;all_goals (intro hb hp;try (exfalso;omega)))
   refine k9 (X:=Nat×Int) (fun x=>[(7,.int .i64 x.2)]) [0,3,6,42,43,44] rfl (fun _=>[]) (fun x=>(x.1:Int)<=a.n/\x.2=a.pg + (x.1:Nat)/\∀ j:Nat,j < x.1->a3x (shs l) a j=true) (fun x=>a.n.toNat - x.1) (0,a.pg) (by exact Fr.sub_of rfl) ⟨by show ((0:Nat):Int)<=a.n;omega,by show a.pg=a.pg + ((0:Nat):Int);omega,fun j h=>by omega⟩ hS ?_;clear hS;rintro ⟨j,q⟩ w1 ⟨hj,hq,hpj⟩ hS;dsimp only [List.cons_append,List.nil_append] at hj hq hpj hS |-;by_cases hjl:q < a.pg + a.n;rotate_left
   ·repeat' (first|(with_reducible apply a8 a7);rfl;rfl;rfl|(with_reducible apply a9);rfl;(apply Ld.sc a7;rfl;exact hS.blkC 0 rfl rfl);rfl|(with_reducible apply j4);rfl;rfl;omega;omega;rfl|refine yDn (by with_reducible constructor) ?_|(with_reducible apply b9);rfl;all_goals (intro hb hp;try (exfalso;omega)))
    refine e9 (i + 1) (by exact Fr.sub_of rfl) ⟨by omega,fun i' a' hi' ha' j' hj'=>?_⟩ hS.drop (by omega);rcases xp8.1 hi' with h|h
    ·exact hall i' a' h ha' j' hj'
    ·subst h;rw [ha] at ha'
     cases ha'
     exact hpj j' (by omega)
   ·cases hpk:a3x (shs l) a j with
    |false=>
     have hbad:(a1L (shs l) A && a1y A NF.length NS.length 0 es)=false:=by rw [a8M ha (by omega) hpk,xq1]
     unfold a3x at hpk;rw [<- hq] at hpk;have hd:(!(a0I (shs l) a.z q).isSome)=true:=by rw [hpk];rfl
     repeat' (first|(with_reducible apply a8 a7);rfl;rfl;rfl|(with_reducible apply a9);rfl;(apply Ld.sc a7;rfl;exact hS.blkC 0 rfl rfl);rfl|(with_reducible apply j4);rfl;rfl;omega;omega;rfl|refine yDn (by with_reducible constructor) ?_|(with_reducible apply b9);rfl;all_goals (intro hb hp;try (exfalso;omega)))
     (focus ((with_reducible apply d9 _ _ _ (by kernel_rfl) (by kernel_rfl) hS);(repeat' (first|(first|(with_reducible apply i7 a7);rfl;rfl|(with_reducible apply i9);rfl;(intro wd hd;replace hd:St _ _ wd _:=hd;(first|apply Ld.sc a7;rfl;exact hd.blkC 2 rfl rfl|apply Ld.st a7;rfl;exact hd.blkR 0 rfl;rfl));rfl)|(with_reducible apply y7);rfl;rfl;rfl;refine ⟨_,fun wd hd=>hfill _ _ hd _ (by omega),?_⟩));all_goals ((with_reducible apply j7);intro w' hS';clear hS;have hS:=hS';clear hS')))
     repeat' (first|(with_reducible apply a8 a7);rfl;rfl;rfl|refine yDn (by with_reducible constructor) ?_|(with_reducible apply f6);rfl;assumption)
     (refine k7 rfl ?_)
     refine ⟨by rw [hbad],_,_,_,hS.sub (by repeat (first|exact xl8 _|apply xm1)),fun h=>?_⟩;rw [hbad] at h
     cases h
    |true=>
     have hpk':=hpk;unfold a3x at hpk';rw [<- hq] at hpk';have hd:(!(a0I (shs l) a.z q).isSome)=false:=by rw [hpk'];rfl
     repeat' (first|(with_reducible apply a8 a7);rfl;rfl;rfl|(with_reducible apply a9);rfl;(apply Ld.sc a7;rfl;exact hS.blkC 0 rfl rfl);rfl|(with_reducible apply j4);rfl;rfl;omega;omega;rfl|refine yDn (by with_reducible constructor) ?_|(with_reducible apply b9);rfl;all_goals (intro hb hp;try (exfalso;omega)))
     (focus ((with_reducible apply d9 _ _ _ (by kernel_rfl) (by kernel_rfl) hS);(repeat' (first|(first|(with_reducible apply i7 a7);rfl;rfl|(with_reducible apply i9);rfl;(intro wd hd;replace hd:St _ _ wd _:=hd;(first|apply Ld.sc a7;rfl;exact hd.blkC 2 rfl rfl|apply Ld.st a7;rfl;exact hd.blkR 0 rfl;rfl));rfl)|(with_reducible apply y7);rfl;rfl;rfl;refine ⟨_,fun wd hd=>hfill _ _ hd _ (by omega),?_⟩));all_goals ((with_reducible apply j7);intro w' hS';clear hS;have hS:=hS';clear hS')))
     repeat' (first|(with_reducible apply a8 a7);rfl;rfl;rfl|(with_reducible apply j4);rfl;rfl;omega;omega;rfl|refine yDn (by with_reducible constructor) ?_|(with_reducible apply f8);rfl;assumption)
     refine e9 (j + 1,q + 1) (by exact Fr.sub_of rfl) ⟨by show ((j + 1:Nat):Int)<=a.n;omega,by show q + 1=a.pg + ((j + 1:Nat):Int);omega,fun j' hj'=>?_⟩ hS (by show a.n.toNat - (j + 1) < a.n.toNat - j;omega);rcases xp8.1 hj' with h|h
     ·exact hpj j' h
     ·subst h;exact hpk
  obtain rfl:i=A.length:=by omega
  rw [a9a (fun i a ha=>hall i a (d6 ha) ha),xq0];clear hall
  repeat' (first|(with_reducible apply a8 a7);rfl;rfl;rfl|(with_reducible apply a9);rfl;(apply Ld.sl a7;rfl;exact hS.blkC 0 rfl rfl);rfl|refine yDn (by with_reducible constructor) ?_|(with_reducible apply b9);rfl;all_goals (intro hb hp;try (exfalso;omega)))
  rename Nat=>g
  replace hS:St G w w1 (.blk g [.bool true,.slice pa A.length ca,.slice pe es.length ce]::lkS gl (.pointer (some ⟨gk,0,none⟩)) (.slice pF NF.length cF) (.slice pS NS.length cS) (room + y9 A) NF NS):=hS;refine k9 (Γ:=[]) (X:=Nat×Int×NL×NL) (fun x=>[(75,.int .i64 (x.1:Nat)),(10,.int .i64 x.2.1)]) [0,3,73,74] rfl (fun x=>.blk g [.bool true,.slice pa A.length ca,.slice pe es.length ce]::lkS gl (.pointer (some ⟨gk,0,none⟩)) (.slice pF NF.length cF) (.slice pS NS.length cS) (room + y9 A) x.2.2.1 x.2.2.2) (fun x=>x.1<=es.length/\((x.1:Nat):Int)<=x.2.1/\x.2.1<=255/\a1y A NF.length NS.length 0 es=a1y A NF.length NS.length x.2.1 (es.drop x.1)/\Grown NF x.2.2.1 1 ((es.take x.1).map (a0Q ⟨true,A,es⟩))/\Grown NS x.2.2.2 2 ((es.take x.1).map (a0Q ⟨true,A,es⟩))) (fun x=>es.length - x.1) (0,0,NF,NS) (by exact Fr.sub_of rfl) ⟨xg4 _,xi7 _,by show (0:Int)<=255;omega,by simp,Grown.refl _ _,Grown.refl _ _⟩ (by simpa only [List.append_nil] using hS) ?_;clear hS hi hlt;rintro ⟨i,last,MF,MS⟩ w1 ⟨hi,hil,hl5,hents,hGF,hGS⟩ hS;dsimp only at hi hil hl5 hents hGF hGS hS |-;rw [List.append_nil] at hS;unfold lkS at hS;rw [hents];by_cases hlt:i < es.length;rotate_left
  ·obtain rfl:i=es.length:=by omega
   repeat' (first|(with_reducible apply a8 a7);rfl;rfl;rfl|refine yDn (by with_reducible constructor) ?_|(with_reducible apply b9);rfl;all_goals (intro hb hp;try (exfalso;omega)))
   (refine k7 rfl ?_)
   rw [xl4];rw [xg6] at hGF hGS;exact ⟨rfl,MF,MS,_,hS.drop,fun _=>⟨rfl,hGF,hGS⟩⟩
  obtain ⟨e,he⟩:=j0 (l:=es) (i:=i) (by omega);have hrow:=c9 (f:=enC) he;obtain ⟨b,off,rfl,hro⟩:=hen.atF (i:=i) hlt;have hfind:=fun w1 (h:Sl nF w1 4 (.slice pa A.length ca) (A.map arC))=>a6f e.page h;rw [a4x hc] at hfind;unfold a3j arC at hfind;have hstep:=a75 (A:=A) (nf:=NF.length) (ns:=NS.length) (last:=last) he;rw [hstep];unfold a17;have hnm:a0Q ⟨true,A,es⟩ e=(e,(q8 A e.page).getD a2L):=rfl;have htk:=r8 he
  cases hsm:(q8 A e.page).isSome with
  |false=>
   rw [hsm] at hfind;have hbad:((false && decide (last < e.page/\((e.kind=1/\0<=e.at_/\e.at_ < (NF.length:Int))\/(e.kind=2/\0<=e.at_/\e.at_ < (NS.length:Int))))) && a1y A NF.length NS.length e.page (es.drop (i + 1)))=false:=rfl;obtain ⟨epg,ekd,eat⟩:=e;unfold enC at hrow;dsimp only at hrow hfind hbad |-
   repeat' (first|(with_reducible apply a8 a7);rfl;rfl;rfl|(with_reducible apply a9);rfl;(first|apply Ld.sc a7;rfl;(first|exact hS.blkC 0 rfl rfl|exact hS.blkC 1 rfl rfl)|apply Ld.sl a7;rfl;(first|exact hS.blkC 1 rfl rfl|exact hS.blkC 3 rfl rfl)|apply Ld.st a7;rfl;exact hS.roR (by assumption) (by assumption);rfl);rfl|(with_reducible apply l7 a7);rfl;rfl;rfl;rfl;omega;rfl|refine yDn (by with_reducible constructor) ?_|(with_reducible apply x8);(iterate 4 rfl);rfl;rfl|(with_reducible apply a1r);(iterate 5 rfl)|(with_reducible apply j3);rfl;rfl;rfl;rfl|(with_reducible apply f6);rfl;rfl|(with_reducible apply d8 hS a7);rfl;rfl;rfl;clear hS;intro g w' hS|(with_reducible apply b8 hS a7 (i:=0));(iterate 8 rfl);(first|exact (rfl:_=[_,_,_])|exact (rfl:_=[_,_,_,_]));clear hS;intro w' hS;simp only [List.set] at hS|(with_reducible apply b9);rfl;all_goals (intro hb hp;try (exfalso;omega))|(with_reducible apply d7 hS);rfl;rfl;rfl;refine ⟨_,hfind _ (har.now hS),?_⟩;clear hS;intro w' hS)
   all_goals ((apply a0U;(repeat (first|exact ResL.nil|apply ResL.tmp;rfl));(refine ⟨by rw [hbad],_,_,_,hS.sub (by repeat (first|exact xl8 _|apply xm1)),fun h=>?_⟩);rw [hbad] at h;cases h))
  |true=>
   rw [hsm] at hfind;have hpg5:e.page<=255:=by
    obtain ⟨a,ha⟩:=xi2.1 hsm;have h1:=xi3 ha;have h2:=(a1i hc ha).1;unfold a0g at h1;rw [xb3] at h1;unfold Ar.ok at h2;unfold Ar.fin at h1;omega
   obtain ⟨a,hag⟩:∃ a,(q8 A e.page).getD a2L=a:=⟨_,rfl⟩;rw [hag] at hfind hnm;obtain ⟨epg,ekd,eat⟩:=e;unfold enC at hrow;dsimp only at hrow hfind hpg5 hnm |-;by_cases hk9:last < epg/\((ekd=1/\0<=eat/\eat < (NF.length:Int))\/(ekd=2/\0<=eat/\eat < (NS.length:Int)));rotate_left
   ·have hbad:((true && decide (last < epg/\((ekd=1/\0<=eat/\eat < (NF.length:Int))\/(ekd=2/\0<=eat/\eat < (NS.length:Int))))) && a1y A NF.length NS.length epg (es.drop (i + 1)))=false:=by rw [xj0 hk9];rfl
    repeat' (first|(with_reducible apply a8 a7);rfl;rfl;rfl|(with_reducible apply a9);rfl;(first|apply Ld.sc a7;rfl;(first|exact hS.blkC 0 rfl rfl|exact hS.blkC 1 rfl rfl)|apply Ld.sl a7;rfl;(first|exact hS.blkC 1 rfl rfl|exact hS.blkC 3 rfl rfl)|apply Ld.st a7;rfl;exact hS.roR (by assumption) (by assumption);rfl);rfl|(with_reducible apply l7 a7);rfl;rfl;rfl;rfl;omega;rfl|refine yDn (by with_reducible constructor) ?_|((with_reducible apply k8);(iterate 4 rfl);first|rfl|assumption)|(with_reducible apply x8);(iterate 4 rfl);(first|rfl|assumption);rfl|(with_reducible apply a1r);(iterate 5 rfl)|(with_reducible apply j3);rfl;(first|rfl|assumption);rfl;rfl|(with_reducible apply f5);rfl;(first|rfl|assumption);rfl;rfl|(with_reducible apply f6);rfl;rfl|(with_reducible apply d8 hS a7);rfl;rfl;rfl;clear hS;intro g w' hS|(with_reducible apply b8 hS a7 (i:=0));(iterate 8 rfl);(first|exact (rfl:_=[_,_,_])|exact (rfl:_=[_,_,_,_]));clear hS;intro w' hS;simp only [List.set] at hS|(with_reducible apply q7);rfl;rfl;rfl;all_goals (intro hb hp;try (exfalso;omega))|(with_reducible apply a13);rfl;rfl;rfl;all_goals (intro hb hp;try (exfalso;omega))|(with_reducible apply b9);rfl;all_goals (intro hb hp;try (exfalso;omega))|(with_reducible apply d7 hS);rfl;rfl;rfl;refine ⟨_,hfind _ (har.now hS),?_⟩;clear hS;intro w' hS)
    all_goals ((apply a0U;(repeat (first|exact ResL.nil|apply ResL.tmp;rfl));(refine ⟨by rw [hbad],_,_,_,hS.sub (by repeat (first|exact xl8 _|apply xm1)),fun h=>?_⟩);rw [hbad] at h;cases h))
   rw [xj2 hk9,xq0,xq0];obtain ⟨hk1,hk2⟩:=hk9;rcases hk2 with ⟨rfl,h0,h1⟩|⟨rfl,h0,h1⟩
   ·obtain ⟨j,rfl⟩:=xp9 h0;obtain ⟨y,hy⟩:∃ y,MF[j]?=some y:=j0 (by rw [hGF.1];omega);have hyl:y.2.length<=2000:=by
     obtain ⟨x0,hx0⟩:=j0 (l:=NF) (i:=j) (by omega);obtain ⟨v0,hv0⟩:=hGF.2 j x0 hx0;rw [hy] at hv0
     cases hv0
     have h8:=hF x0 (xd0 hx0);have h9:=xn3 (fun (n:Nm)=>decide (n.1.kind=1/\n.1.at_=((j:Nat):Int))) ((es.take i).map (a0Q ⟨true,A,es⟩));rw [xi9,xa1] at h9;rw [xe9];omega
    replace hS:=hS.perm ((((((a7i hy).append_right (nlR MS)).cons _).cons _).cons _).cons _);have hrowF:(nlC MF)[j]?=some [y.1]:=c9 (f:=fun (x:Value×List Nm)=>[x.1]) hy;have hput:=fun v=>hGF.put (n:=((⟨epg,1,(j:Nat)⟩:En),a)) (v:=v) rfl rfl hy;have hskip:=hGS.skip (n:=((⟨epg,1,(j:Nat)⟩:En),a)) (by show ¬(1:Int)=_;omega);obtain ⟨vy,ny⟩:=y;unfold nsA at hS;dsimp only [List.cons_append] at hS hrowF hyl hput;obtain ⟨py,cy,rfl⟩:=hS.rowSlice 4 rfl;rw [xi9] at hS hrowF;obtain ⟨gF,rfl⟩:=hS.rowSome 2 rfl (by omega)
    repeat' (first|(with_reducible apply a8 a7);rfl;rfl;rfl|(with_reducible apply a9);rfl;(first|apply Ld.sc a7;rfl;(first|exact hS.blkC 0 rfl rfl|exact hS.blkC 1 rfl rfl)|apply Ld.sl a7;rfl;(first|exact hS.blkC 1 rfl rfl|exact hS.blkC 3 rfl rfl)|apply Ld.st a7;rfl;exact hS.roR (by assumption) (by assumption);rfl);rfl|(with_reducible apply l7 a7);rfl;rfl;rfl;rfl;omega;rfl|refine yDn (by with_reducible constructor) ?_|((with_reducible apply k8);(iterate 4 rfl);first|rfl|assumption)|(with_reducible apply x8);(iterate 4 rfl);rfl;rfl|(with_reducible apply f5);rfl;(first|rfl|assumption);rfl;rfl|(with_reducible apply f8);rfl;rfl|(with_reducible apply d8 hS a7);rfl;rfl;rfl;clear hS;intro g w' hS|(with_reducible apply b8 hS a7 (i:=0));(iterate 8 rfl);(first|exact (rfl:_=[_,_,_])|exact (rfl:_=[_,_,_,_]));clear hS;intro w' hS;simp only [List.set] at hS|(with_reducible apply q7);rfl;rfl;rfl;all_goals (intro hb hp;try (exfalso;omega))|(with_reducible apply b9);rfl;all_goals (intro hb hp;try (exfalso;omega))|(with_reducible apply d7 hS);rfl;rfl;rfl;refine ⟨_,hfind _ (har.now hS),?_⟩;clear hS;intro w' hS)
    refine a1Y 6 14 15 rfl hS (by kernel_rfl) ?_;intro w10 hS';clear hS;have hS:=hS';clear hS';simp only [xl2,xl3];have hH:=hS.sub (xm3 [_,_,_,_,_,_] _)
    ((with_reducible apply k6 (nn 0) a7);rfl;kernel_rfl;exact (fun _ _ _ h=>h);exact xd3 hH;rfl;rfl)
    ((with_reducible apply k6 (nn 1) a7);rfl;kernel_rfl;exact (fun _ _ _ h=>h);exact xd3 hH;rfl;rfl)
    ((with_reducible apply o3 (nn 2));rfl;kernel_rfl;kernel_rfl;rfl;exact (fun _ _ _ h=>h);exact hH;rfl;(intro w2 hw2;(replace hw2:St _ _ w2 _:=hw2;(apply Ld.sc a7;rfl;exact hw2.blkC 1 rfl rfl)));rfl)
    ((with_reducible apply k6 (nn 3) a7);rfl;kernel_rfl;exact (fun _ _ _ h=>h);exact xd3 hH;rfl;rfl)
    ((with_reducible apply k6 (nn 4) a7);rfl;kernel_rfl;exact (fun _ _ _ h=>h);exact xd3 hH;rfl;rfl)
    ((with_reducible apply o3 (nn 5));rfl;kernel_rfl;kernel_rfl;rfl;exact (fun _ _ _ h=>h);exact hH;rfl;(intro w2 hw2;(replace hw2:St _ _ w2 _:=hw2;(apply Ld.sc a7;rfl;exact hw2.blkC 1 rfl rfl)));rfl)
    ((with_reducible apply a2M (nn 6));rfl;kernel_rfl;kernel_rfl;kernel_rfl;rfl;exact (fun _ _ _ h=>h);exact xd3 hH;(intro a ha;exact a5i a7 (j:=j) rfl rfl rfl rfl (by omega) a ha _);rfl)
    ((with_reducible apply o3 (nn 7));rfl;kernel_rfl;kernel_rfl;rfl;exact (fun _ _ _ h=>h);exact hH;rfl;(intro w2 hw2;(replace hw2:St _ _ w2 _:=hw2;apply Ld.sl a7;rfl;exact hw2.rowC0 4 rfl hrowF rfl));rfl)
    ((with_reducible apply o3 (nn 8));rfl;kernel_rfl;kernel_rfl;rfl;exact (fun _ _ _ h=>h);exact hH;rfl;(intro w2 hw2;(replace hw2:St _ _ w2 _:=hw2;(apply Ld.st a7;rfl;exact hw2.blkR 1 rfl;rfl)));rfl)
    ((with_reducible apply o3 (nn 9));rfl;kernel_rfl;kernel_rfl;rfl;exact (fun _ _ _ h=>h);exact hH;rfl;(intro w2 hw2;(replace hw2:St _ _ w2 _:=hw2;(apply Ld.st a7;rfl;exact hw2.blkR 0 rfl;rfl)));rfl)
    ((with_reducible apply a3Q (nn 10) a7);rfl;kernel_rfl;kernel_rfl;kernel_rfl;rfl;exact (fun _ _ _ _ h=>h);exact xd3 hH;rfl;rfl;exact (rfl:_=some [_,_,_,_,_,_,_]);rfl)
    refine q9 (i:=11) (by kernel_rfl) ?_;refine m9 rfl (o7 hS a7 rfl rfl rfl rfl rfl rfl) rfl ?_;rintro _ w' ⟨g9,rfl,hS'⟩;clear hS;have hS:=hS';clear hS';have hH:=hS.drop.sub (xm3 [_,_,_,_,_,_] _);refine ⟨xd3 (xd3 hH),?_⟩;refine q9 (i:=12) (by kernel_rfl) ?_;refine m9 rfl (a0x hS a7 (i:=7) rfl rfl rfl rfl (hS.rowRo 0 rfl) rfl (by simp only [xi9];omega)) rfl ?_;rintro _ w' ⟨p',c',rfl,hS'⟩;simp only [List.set] at hS';clear hS;have hS:=hS';clear hS';have hH:=hS.drop.sub (xm3 [_,_,_,_,_,_] _);refine ⟨xd3 (xd3 hH),?_⟩
    ((with_reducible apply a2M (nn 13));rfl;kernel_rfl;kernel_rfl;kernel_rfl;rfl;exact (fun _ _ _ h=>h);exact xd3 hH;(intro a ha;exact a5i a7 (j:=j) rfl rfl rfl rfl (by omega) a ha _);rfl)
    refine q9 (i:=14) (by kernel_rfl) ?_;refine a1e (Φ:=fun _ w'=>St _ _ w' _) rfl (a2V hS a7 (i:=4 + 1) (kk:=j) (j:=0) rfl rfl rfl rfl rfl hrowF (a1q rfl) rfl (xd4 _) rfl) ?_;intro _ w' hS';simp only [List.set,o6] at hS';clear hS;have hS:=hS';clear hS';refine ⟨xd6 rfl,?_⟩;refine a1h (by kernel_rfl) ?_
    repeat' (first|(with_reducible apply a8 a7);rfl;rfl;rfl|(with_reducible apply j4);rfl;rfl;omega;omega;rfl|refine yDn (by with_reducible constructor) ?_)
    refine e9 (i + 1,epg,MF.set j (.slice p' (ny.length + 1) c',ny++[((⟨epg,1,(j:Nat)⟩:En),a)]),MS) (by exact Fr.sub_of rfl) ⟨by show i + 1<=es.length;omega,by show ((i + 1:Nat):Int)<=epg;omega,hpg5,rfl,by rw [htk,xl5,xc0,xq3,hnm];exact hput _,by rw [htk,xl5,xc0,xq3,hnm];exact hskip⟩ ?_ (by show es.length - (i + 1) < es.length - i;omega);rw [List.append_nil];unfold lkS;dsimp only;rw [b1y];rw [xi9] at hS;have hnc:ny.map nmC++[[.int .i64 epg,.int .i64 1,.int .i64 (j:Nat),.int .i64 a.pg,.int .i64 a.n,.int .i64 a.prot,.bool a.z]]=(ny++[((⟨epg,1,(j:Nat)⟩:En),a)]).map nmC:=by rw [xl5];rfl
    rw [hnc] at hS;exact hS.drop.drop.drop.perm ((((((b1E (y:=(.slice p' (ny.length + 1) c',ny++[((⟨epg,1,(j:Nat)⟩:En),a)])) hy).append_right (nlR MS)).cons _).cons _).cons _).cons _)
   ·obtain ⟨j,rfl⟩:=xp9 h0;obtain ⟨y,hy⟩:∃ y,MS[j]?=some y:=j0 (by rw [hGS.1];omega);have hyl:y.2.length<=2000:=by
     obtain ⟨x0,hx0⟩:=j0 (l:=NS) (i:=j) (by omega);obtain ⟨v0,hv0⟩:=hGS.2 j x0 hx0;rw [hy] at hv0
     cases hv0
     have h8:=hSl x0 (xd0 hx0);have h9:=xn3 (fun (n:Nm)=>decide (n.1.kind=2/\n.1.at_=((j:Nat):Int))) ((es.take i).map (a0Q ⟨true,A,es⟩));rw [xi9,xa1] at h9;rw [xe9];omega
    replace hS:=hS.perm (((((((a7i hy).append_left (nlR MF)).trans xm7).cons _).cons _).cons _).cons _);have hrowF:(nlC MS)[j]?=some [y.1]:=c9 (f:=fun (x:Value×List Nm)=>[x.1]) hy;have hput:=fun v=>hGS.put (n:=((⟨epg,2,(j:Nat)⟩:En),a)) (v:=v) rfl rfl hy;have hskip:=hGF.skip (n:=((⟨epg,2,(j:Nat)⟩:En),a)) (by show ¬(2:Int)=_;omega);obtain ⟨vy,ny⟩:=y;unfold nsA at hS;dsimp only [List.cons_append] at hS hrowF hyl hput;obtain ⟨py,cy,rfl⟩:=hS.rowSlice 4 rfl;rw [xi9] at hS hrowF;obtain ⟨gF,rfl⟩:=hS.rowSome 3 rfl (by omega)
    repeat' (first|(with_reducible apply a8 a7);rfl;rfl;rfl|(with_reducible apply a9);rfl;(first|apply Ld.sc a7;rfl;(first|exact hS.blkC 0 rfl rfl|exact hS.blkC 1 rfl rfl)|apply Ld.sl a7;rfl;(first|exact hS.blkC 1 rfl rfl|exact hS.blkC 3 rfl rfl)|apply Ld.st a7;rfl;exact hS.roR (by assumption) (by assumption);rfl);rfl|(with_reducible apply l7 a7);rfl;rfl;rfl;rfl;omega;rfl|refine yDn (by with_reducible constructor) ?_|((with_reducible apply k8);(iterate 4 rfl);first|rfl|assumption)|(with_reducible apply j3);rfl;rfl;rfl;rfl|(with_reducible apply f5);rfl;(first|rfl|assumption);rfl;rfl|(with_reducible apply f6);rfl;rfl|(with_reducible apply d8 hS a7);rfl;rfl;rfl;clear hS;intro g w' hS|(with_reducible apply b8 hS a7 (i:=0));(iterate 8 rfl);(first|exact (rfl:_=[_,_,_])|exact (rfl:_=[_,_,_,_]));clear hS;intro w' hS;simp only [List.set] at hS|(with_reducible apply q7);rfl;rfl;rfl;all_goals (intro hb hp;try (exfalso;omega))|(with_reducible apply b9);rfl;all_goals (intro hb hp;try (exfalso;omega))|(with_reducible apply d7 hS);rfl;rfl;rfl;refine ⟨_,hfind _ (har.now hS),?_⟩;clear hS;intro w' hS)
    refine a1Y 6 14 15 rfl hS (by kernel_rfl) ?_;intro w10 hS';clear hS;have hS:=hS';clear hS';simp only [xl2,xl3];have hH:=hS.sub (xm3 [_,_,_,_,_,_] _)
    ((with_reducible apply k6 (nn 0) a7);rfl;kernel_rfl;exact (fun _ _ _ h=>h);exact xd3 hH;rfl;rfl)
    ((with_reducible apply k6 (nn 1) a7);rfl;kernel_rfl;exact (fun _ _ _ h=>h);exact xd3 hH;rfl;rfl)
    ((with_reducible apply o3 (nn 2));rfl;kernel_rfl;kernel_rfl;rfl;exact (fun _ _ _ h=>h);exact hH;rfl;(intro w2 hw2;(replace hw2:St _ _ w2 _:=hw2;(apply Ld.sc a7;rfl;exact hw2.blkC 1 rfl rfl)));rfl)
    ((with_reducible apply k6 (nn 3) a7);rfl;kernel_rfl;exact (fun _ _ _ h=>h);exact xd3 hH;rfl;rfl)
    ((with_reducible apply k6 (nn 4) a7);rfl;kernel_rfl;exact (fun _ _ _ h=>h);exact xd3 hH;rfl;rfl)
    ((with_reducible apply o3 (nn 5));rfl;kernel_rfl;kernel_rfl;rfl;exact (fun _ _ _ h=>h);exact hH;rfl;(intro w2 hw2;(replace hw2:St _ _ w2 _:=hw2;(apply Ld.sc a7;rfl;exact hw2.blkC 1 rfl rfl)));rfl)
    ((with_reducible apply a2M (nn 6));rfl;kernel_rfl;kernel_rfl;kernel_rfl;rfl;exact (fun _ _ _ h=>h);exact xd3 hH;(intro a ha;exact a5i a7 (j:=j) rfl rfl rfl rfl (by omega) a ha _);rfl)
    ((with_reducible apply o3 (nn 7));rfl;kernel_rfl;kernel_rfl;rfl;exact (fun _ _ _ h=>h);exact hH;rfl;(intro w2 hw2;(replace hw2:St _ _ w2 _:=hw2;apply Ld.sl a7;rfl;exact hw2.rowC0 5 rfl hrowF rfl));rfl)
    ((with_reducible apply o3 (nn 8));rfl;kernel_rfl;kernel_rfl;rfl;exact (fun _ _ _ h=>h);exact hH;rfl;(intro w2 hw2;(replace hw2:St _ _ w2 _:=hw2;(apply Ld.st a7;rfl;exact hw2.blkR 1 rfl;rfl)));rfl)
    ((with_reducible apply o3 (nn 9));rfl;kernel_rfl;kernel_rfl;rfl;exact (fun _ _ _ h=>h);exact hH;rfl;(intro w2 hw2;(replace hw2:St _ _ w2 _:=hw2;(apply Ld.st a7;rfl;exact hw2.blkR 0 rfl;rfl)));rfl)
    ((with_reducible apply a3Q (nn 10) a7);rfl;kernel_rfl;kernel_rfl;kernel_rfl;rfl;exact (fun _ _ _ _ h=>h);exact xd3 hH;rfl;rfl;exact (rfl:_=some [_,_,_,_,_,_,_]);rfl)
    refine q9 (i:=11) (by kernel_rfl) ?_;refine m9 rfl (o7 hS a7 rfl rfl rfl rfl rfl rfl) rfl ?_;rintro _ w' ⟨g9,rfl,hS'⟩;clear hS;have hS:=hS';clear hS';have hH:=hS.drop.sub (xm3 [_,_,_,_,_,_] _);refine ⟨xd3 (xd3 hH),?_⟩;refine q9 (i:=12) (by kernel_rfl) ?_;refine m9 rfl (a0x hS a7 (i:=7) rfl rfl rfl rfl (hS.rowRo 0 rfl) rfl (by simp only [xi9];omega)) rfl ?_;rintro _ w' ⟨p',c',rfl,hS'⟩;simp only [List.set] at hS';clear hS;have hS:=hS';clear hS';have hH:=hS.drop.sub (xm3 [_,_,_,_,_,_] _);refine ⟨xd3 (xd3 hH),?_⟩
    ((with_reducible apply a2M (nn 13));rfl;kernel_rfl;kernel_rfl;kernel_rfl;rfl;exact (fun _ _ _ h=>h);exact xd3 hH;(intro a ha;exact a5i a7 (j:=j) rfl rfl rfl rfl (by omega) a ha _);rfl)
    refine q9 (i:=14) (by kernel_rfl) ?_;refine a1e (Φ:=fun _ w'=>St _ _ w' _) rfl (a2V hS a7 (i:=5 + 1) (kk:=j) (j:=0) rfl rfl rfl rfl rfl hrowF (a1q rfl) rfl (xd4 _) rfl) ?_;intro _ w' hS';simp only [List.set,o6] at hS';clear hS;have hS:=hS';clear hS';refine ⟨xd6 rfl,?_⟩;refine a1h (by kernel_rfl) ?_
    repeat' (first|(with_reducible apply a8 a7);rfl;rfl;rfl|(with_reducible apply j4);rfl;rfl;omega;omega;rfl|refine yDn (by with_reducible constructor) ?_)
    refine e9 (i + 1,epg,MF,MS.set j (.slice p' (ny.length + 1) c',ny++[((⟨epg,2,(j:Nat)⟩:En),a)])) (by exact Fr.sub_of rfl) ⟨by show i + 1<=es.length;omega,by show ((i + 1:Nat):Int)<=epg;omega,hpg5,rfl,by rw [htk,xl5,xc0,xq3,hnm];exact hskip,by rw [htk,xl5,xc0,xq3,hnm];exact hput _⟩ ?_ (by show es.length - (i + 1) < es.length - i;omega);rw [List.append_nil];unfold lkS;dsimp only;rw [b1y];rw [xi9] at hS;have hnc:ny.map nmC++[[.int .i64 epg,.int .i64 2,.int .i64 (j:Nat),.int .i64 a.pg,.int .i64 a.n,.int .i64 a.prot,.bool a.z]]=(ny++[((⟨epg,2,(j:Nat)⟩:En),a)]).map nmC:=by rw [xl5];rfl
    rw [hnc] at hS;exact hS.drop.drop.drop.perm (((((List.perm_middle.symm.trans ((b1E (y:=(.slice p' (ny.length + 1) c',ny++[((⟨epg,2,(j:Nat)⟩:En),a)])) hy).append_left (nlR MF))).cons _).cons _).cons _).cons _)
theorem Bs.nowM {F:Nat->Prop} {w0 w:World} {Θ Γ:List Asr} {p:Addr} {v:Value} (hb:Bs F w0 p v) (h:St F w0 w (Θ++Γ)):Bs (fps Θ) w p v:=⟨h.bs hb,fun ⟨A,hA,e⟩=>by
 rcases h.own A (xe5 _ hA) _ e with h1|h1
 ·have:=World.block_lt_of_cell? w0 p hb.cell;omega
 ·exact hb.nf h1⟩
structure SpF (F:Nat->Prop) (w:World) (p:Sp):Prop where
 ar:Sl F w 4 p.va (p.s.areas.map arC)
 en:Sl F w 3 p.ve (p.s.entries.map enC)
theorem SpF.nowM {F:Nat->Prop} {w w':World} {Θ Γ:List Asr} {p:Sp} (h:SpF F w p) (hS:St F w w' (Θ++Γ)):SpF (fps Θ) w' p:=⟨h.ar.nowM hS,h.en.nowM hS⟩
def a0G (l:List Sc):List Nm:=l.flatMap fun s=>s.entries.map (a0Q s)
theorem a1f (l:List Sc) (kind:Int) (i:Nat):(a0G l).filter (fun (n:Nm)=>decide (n.1.kind=kind/\n.1.at_=((i:Nat):Int)))=j6 l kind i:=by
 induction l with
 |nil=>rfl
 |cons s l ih=>
  have h1:=b0I s kind i;unfold a0G j6 at *;rw [xl9,xl9,xk5,ih,h1,xl9,xm0,List.append_nil]
theorem a89 {A:List Ar} {nf ns:Int} (hc:l5 A=0):∀ {es:List En} {last:Int},a1y A nf ns last es=true->last<=255->last + (es.length:Int)<=255
 |[],last,_,h=>by simpa using h
 |e::es,last,h,_=>by
  replace h:(a17 A nf ns last e && a1y A nf ns e.page es)=true:=h;rw [xb2] at h;have h1:=h.1;unfold a17 at h1;rw [xb2,xb3] at h1;obtain ⟨hs,hl,-⟩:=h1;obtain ⟨a,ha⟩:=xi2.1 hs;have h2:=xi3 ha;have h3:=(a1i hc ha).1;unfold a0g at h2;rw [xb3] at h2;unfold Ar.ok at h3;unfold Ar.fin at h2;have:=a89 hc h.2 (by omega);rw [xb1];omega
theorem a5h {l:List Sh} {nf ns:Int} {s:Sc} (h:t9 l nf ns s=true):s.entries.length<=255/\0<=y9 s.areas/\y9 s.areas<=70000:=by
 unfold t9 at h;by_cases hl:s.live=true
 ·rw [xf0 hl,xb2,xb2,xb3] at h;obtain ⟨hAl,hgood⟩:=x7.1 h.1;have h1:=a89 h.1 h.2.2 (by omega);have hsum:=a8z (a0X hgood) s.areas.length;rw [xg6] at hsum;omega
 ·rw [xf1 hl,xb3] at h;rw [h.1,h.2];simp [y9]
theorem a6o (l:List Sc) (s:Sc):a0n (l++[s])=a0n l + y9 s.areas:=by unfold a0n;simp
theorem a7b (l:List Sc) (s:Sc):a0G (l++[s])=a0G l++s.entries.map (a0Q s):=by unfold a0G;simp
theorem a5e {l:List Sh} {nf ns:Int}:∀ {L:List Sc},L.all (t9 l nf ns)=true->(a0G L).length<=255 * L.length/\0<=a0n L/\a0n L<=70000 * (L.length:Int)
 |[],_=>by simp [a0G,a0n]
 |s::L,h=>by
  rw [xo6,xb2] at h;have h1:=a5h h.1;have h2:=a5e h.2;have e1:a0G (s::L)=s.entries.map (a0Q s)++a0G L:=by unfold a0G;simp
  have e2:a0n (s::L)=y9 s.areas + a0n L:=by unfold a0n;simp
  rw [e1,e2,xe9,xi9,xb1];omega
theorem b4R {F:Nat->Prop} {w0 w:World} {Γ:List Asr} {gl gk gc:Nat} {vsh vF vS:Value} {room:Int} {l:List (Sh×Value)} {NF NS:NL} {p:Sp}
  (hS0:St F w0 w (lkS gl (.pointer (some ⟨gk,0,none⟩)) vF vS room NF NS++Γ)) (hc:Bs (fps (lkS gl (.pointer (some ⟨gk,0,none⟩)) vF vS room NF NS)) w ⟨gc,0,none⟩ (.pointer (some ⟨gl,0,none⟩))) (hk:Bs (fps (lkS gl (.pointer (some ⟨gk,0,none⟩)) vF vS room NF NS)) w ⟨gk,0,none⟩ vsh) (hL:ShsF (fps (lkS gl (.pointer (some ⟨gk,0,none⟩)) vF vS room NF NS)) w l vsh) (hr:a0C 0 (shs l)=true)
  (hp:SpF (fps (lkS gl (.pointer (some ⟨gk,0,none⟩)) vF vS room NF NS)) w p) (hrm:0<=room/\room<=1000000) (hF:∀ x ∈ NF,x.2.length<=1000) (hSl:∀ x ∈ NS,x.2.length<=1000) :
  Fn Tryz.prog 64 [.agg (spC p).toArray,.pointer (some ⟨gc,0,none⟩)] w (fun v w'=>v=.bool (!t9 (shs l) NF.length NS.length p.s)/\∃ NF' NS' room',St (fps (lkS gl (.pointer (some ⟨gk,0,none⟩)) vF vS room NF NS)) w w' (lkS gl (.pointer (some ⟨gk,0,none⟩)) vF vS room' NF' NS')/\(t9 (shs l) NF.length NS.length p.s=true->room'=room + y9 p.s.areas/\Grown NF NF' 1 (p.s.entries.map (a0Q p.s))/\Grown NS NS' 2 (p.s.entries.map (a0Q p.s)))):=by
 have hS:=St.startM hS0;obtain ⟨pa,ca,hva⟩:=(hp.ar.now hS).form;obtain ⟨pe,ce,hve⟩:=(hp.en.now hS).form;obtain ⟨s,va,ve⟩:=p;dsimp only at hva hve;subst hva hve;have hcall:∀ w1 Γ1,St (fps (lkS gl (.pointer (some ⟨gk,0,none⟩)) vF vS room NF NS)) w w1 (lkS gl (.pointer (some ⟨gk,0,none⟩)) vF vS room NF NS++Γ1)->_:=fun w1 Γ1 h=>b3k h (hk.nowM h) (hL.nowM h) hr (hp.ar.nowM h) (hp.en.nowM h) hrm hF hSl;generalize hG:fps (lkS gl (.pointer (some ⟨gk,0,none⟩)) vF vS room NF NS)=G at hS hk hL hp hcall hc |-;unfold spC at hcall |-;dsimp only at hcall |-;refine yEn Tryz.func64 Tryz.ntmps64 (by kernel_rfl) (by kernel_rfl) rfl rfl ?_
 repeat' (first|(with_reducible apply a8 a7);rfl;rfl;rfl|(with_reducible apply a9);rfl;(first|apply Ld.sc a7;rfl;exact hS.bs (by assumption)|apply Ld.st a7;rfl;exact hS.blkR 0 rfl;rfl);rfl|refine yDn (by with_reducible constructor) ?_|(with_reducible apply l8 hS);rfl;rfl;rfl;clear hS;intro g w' hS)
 have hS2:=hS.perm (xm2 _ _).symm
 repeat' (first|(with_reducible apply a8 a7);rfl;rfl;rfl|refine yDn (by with_reducible constructor) ?_|(with_reducible apply r6);rfl;rfl;rfl;refine ⟨_,hcall _ _ hS2,?_⟩;rintro _ w2 ⟨rfl,NF',NS',room',h2,hg⟩)
 (refine k7 rfl ?_)
 rw [<- hG] at h2;exact ⟨rfl,NF',NS',room',(St.transM hS2 h2).sub (xm3 _ _),hg⟩
theorem b4F {F:Nat->Prop} {w0 w:World} {Γ:List Asr} {gl gk gc:Nat} {vsh vF vS vsp:Value} {l:List (Sh×Value)} {NF NS:NL} {sp:List Sp}
  (hS0:St F w0 w (lkS gl (.pointer (some ⟨gk,0,none⟩)) vF vS 0 NF NS++Γ)) (hc:Bs (fps (lkS gl (.pointer (some ⟨gk,0,none⟩)) vF vS 0 NF NS)) w ⟨gc,0,none⟩ (.pointer (some ⟨gl,0,none⟩))) (hk:Bs (fps (lkS gl (.pointer (some ⟨gk,0,none⟩)) vF vS 0 NF NS)) w ⟨gk,0,none⟩ vsh) (hL:ShsF (fps (lkS gl (.pointer (some ⟨gk,0,none⟩)) vF vS 0 NF NS)) w l vsh) (hr:a0C 0 (shs l)=true)
  (hsl:Sl (fps (lkS gl (.pointer (some ⟨gk,0,none⟩)) vF vS 0 NF NS)) w 3 vsp (sp.map spC)) (hp:∀ p ∈ sp,SpF (fps (lkS gl (.pointer (some ⟨gk,0,none⟩)) vF vS 0 NF NS)) w p) (h4:sp.length<=4) (hF:∀ x ∈ NF,x.2=[]) (hSl:∀ x ∈ NS,x.2=[]) :
  Fn Tryz.prog 116 [vsp,.func (.func 64) #[] #[.pointer (some ⟨gc,0,none⟩)]] w (fun v w'=>(∃ i:Int,v=.int .i64 i/\decide (0<=i)=!(sp.map (·.s)).all (t9 (shs l) NF.length NS.length))/\∃ NF' NS' room',St (fps (lkS gl (.pointer (some ⟨gk,0,none⟩)) vF vS 0 NF NS)) w w' (lkS gl (.pointer (some ⟨gk,0,none⟩)) vF vS room' NF' NS')/\((sp.map (·.s)).all (t9 (shs l) NF.length NS.length)=true->room'=a0n (sp.map (·.s))/\Grown NF NF' 1 (a0G (sp.map (·.s)))/\Grown NS NS' 2 (a0G (sp.map (·.s))))):=by
 have hS:=St.startM hS0;have bnd:=(hsl.now hS).bound;obtain ⟨pp,c,hpp⟩:=(hsl.now hS).form;rw [xi9] at hpp;subst hpp;generalize hG:fps (lkS gl (.pointer (some ⟨gk,0,none⟩)) vF vS 0 NF NS)=G at hS hk hL hp hc hsl |-;clear hS0;refine yEn Tryz.func116 Tryz.ntmps116 (by kernel_rfl) (by kernel_rfl) rfl rfl ?_
 repeat' (first|(with_reducible apply a8 a7);rfl;rfl;rfl|refine yDn (by with_reducible constructor) ?_)
 refine k9 (Γ:=[]) (X:=Nat×NL×NL×Int) (fun x=>[(8,.int .i64 (x.1:Nat))]) [0,1,7] rfl (fun x=>lkS gl (.pointer (some ⟨gk,0,none⟩)) vF vS x.2.2.2 x.2.1 x.2.2.1) (fun x=>x.1<=sp.length/\((sp.map (·.s)).take x.1).all (t9 (shs l) NF.length NS.length)=true/\x.2.2.2=a0n ((sp.map (·.s)).take x.1)/\Grown NF x.2.1 1 (a0G ((sp.map (·.s)).take x.1))/\Grown NS x.2.2.1 2 (a0G ((sp.map (·.s)).take x.1))) (fun x=>sp.length - x.1) (0,NF,NS,0) (by exact Fr.sub_of rfl) ⟨xg4 _,rfl,rfl,Grown.refl _ _,Grown.refl _ _⟩ (by simpa only [List.append_nil] using hS) ?_;clear hS;rintro ⟨i,MF,MS,room⟩ w1 ⟨hi,hall,hroom,hGF,hGS⟩ hS;dsimp only at hi hall hroom hGF hGS hS |-;by_cases hlt:i < sp.length;rotate_left
 ·obtain rfl:i=sp.length:=by omega
  rw [xa0 (by rw [xi9];omega)] at hall hroom hGF hGS;rw [List.append_nil] at hS;rw [hall]
  repeat' (first|(with_reducible apply a8 a7);rfl;rfl;rfl|refine yDn (by with_reducible constructor) ?_|(with_reducible apply b9);rfl;all_goals (intro hb hp;try (exfalso;omega)))
  (refine k7 rfl ?_)
  exact ⟨⟨-1,rfl,rfl⟩,MF,MS,room,hS,fun _=>⟨hroom,hGF,hGS⟩⟩
 obtain ⟨x,hx⟩:=j0 (l:=sp) (i:=i) (by omega);have hxs:(sp.map (·.s))[i]?=some x.s:=c9 (f:=fun p:Sp=>p.s) hx;have hrow:=c9 (f:=spC) hx;obtain ⟨b,off,rfl,hro⟩:=hsl.atF (i:=i) hlt;have hxp:=hp x (xd0 hx);have hbd:=a5e hall;have htl:((sp.map (·.s)).take i).length<=i:=by rw [xa1];omega
 have hlen:∀ {N M:NL} {kd:Int},(∀ x ∈ N,x.2=[])->Grown N M kd (a0G ((sp.map (·.s)).take i))->∀ x ∈ M,x.2.length<=1000:=fun {N M kd} hN hg y hy=>by
  obtain ⟨j,hj⟩:=xd9.1 hy;obtain ⟨z,hz⟩:=j0 (l:=N) (i:=j) (by have:=d6 hj;rw [hg.1] at this;omega);obtain ⟨v,hv⟩:=hg.2 j z hz;rw [hj] at hv
  cases hv
  show (z.2++_).length<=1000;rw [hN z (xd0 hz),List.nil_append];exact xd5 (xn3 _ _) (by omega)
 have hcall:=b4R hS (hc.nowM hS) (hk.nowM hS) (hL.nowM hS) hr (hxp.nowM hS) (by omega) (hlen hF hGF) (hlen hSl hGS);rw [hGF.1,hGS.1] at hcall;obtain ⟨pa,ca,hva⟩:=(hxp.ar.now hS).form;obtain ⟨pe,ce,hve⟩:=(hxp.en.now hS).form;obtain ⟨s,va,ve⟩:=x;dsimp only at hva hve hxs hcall;subst hva hve;unfold spC at hrow hcall;dsimp only at hrow hcall;have htk:=r8 hxs
 repeat' (first|(with_reducible apply a8 a7);rfl;rfl;rfl|(with_reducible apply a9);rfl;(apply Ld.st a7;rfl;exact hS.roR (by assumption) (by assumption);rfl);rfl|(with_reducible apply l7 a7);rfl;rfl;rfl;rfl;omega;rfl|(with_reducible apply j4);rfl;rfl;omega;omega;rfl|refine yDn (by with_reducible constructor) ?_|(with_reducible apply b9);rfl;all_goals (intro hb hp;try (exfalso;omega))|(with_reducible apply b7R);rfl;all_goals (intro hb hp;try (exfalso;omega))|(with_reducible apply r6);rfl;rfl;rfl;refine ⟨_,hcall,?_⟩;rintro _ w2 ⟨rfl,NF',NS',room',h2,hg⟩)
 ·have hbs:t9 (shs l) NF.length NS.length s=false:=by simpa using hb
  have hno:(sp.map (·.s)).all (t9 (shs l) NF.length NS.length)=false:=by
   rw [xq5];exact ⟨s,xd0 hxs,by rw [hbs];simp⟩
  (refine k7 rfl ?_)
  exact ⟨⟨((i:Nat):Int),rfl,by rw [hno,xj2 (by omega)];rfl⟩,NF',NS',room',(St.transM hS h2).sub (xm3 _ _),fun h=>by rw [hno] at h;cases h⟩
 ·have hbs:t9 (shs l) NF.length NS.length s=true:=by simpa using hb
  obtain ⟨g1,g2,g3⟩:=hg hbs;refine e9 (i + 1,NF',NS',room') (by exact Fr.sub_of rfl) ⟨by show i + 1<=sp.length;omega,?_,?_,?_,?_⟩ (St.transM hS h2) (by show sp.length - (i + 1) < sp.length - i;omega)
  ·rw [htk,List.all_append,hall,xo6,hbs];rfl
  ·rw [htk,a6o,<- hroom];exact g1
  ·rw [htk,a7b];exact hGF.trans g2
  ·rw [htk,a7b];exact hGS.trans g3
section
variable {P:Program} {n:Nat} {ds:List Deferred} {E:Fr} {w:World} {Q:Exit->Act->World->Prop} {ops:Array Oper} {S:World->Prop} {fuel:Nat} {li:Array Bool} {d:Nat} {op:Op} {ty:TypeId} {pos:String} {after:Array Edge} {F:Nat->Prop} {w0:World} {Γ:List Asr} {T:Tab}
theorem a6a (k:Nat) {id:Nat} {l:List Oper} (m:Nat) (hl:l.length=m) (hS:St F w0 w Γ) (hm:P.follows .mixedOrders=true) (h:∀ w1,St F w0 w1 Γ->WA P l.toArray Q (fun w'=>St F w0 w' (Γ.take k)) m (Array.replicate m false) n ds E w1):WC P (.region id l.toArray true) Q n ds E w:=a4h _ m hl hS hm h
theorem a0e {i:Nat} (_C:Nn i) {j dj:Nat} {want b:Bool} {oj:Oper} {v:Value} (hi:ops[i]?=some ⟨some d,op,ty,pos,after,some (j,want)⟩) (hs:Region.noSelect ops=true) (hf:Region.free .any ops li i=true) (hr:(Region.ready .any ops li).contains i=true)
  (hQ:∀ c (a:Act) w,Q (.panic c) (a.put (some d) v) w->Q (.panic c) a w) (hS:S w) (hj:ops[j]?=some oj) (hdj:oj.dst=some dj) (hlt:Nat.blt dj n=true) (hb:E.get dj=some (.bool b)) (he:b=want) (h:∀ a,Has n ds a E->a05 P ⟨some d,op,ty,pos,after,none⟩ a v) (hd:Nat.blt d n=true) (k:WA P ops Q S fuel (li.setIfInBounds i true) n ds ((d,v)::E) w):WA P ops Q S (fuel + 1) li n ds E w:=fun a ha=>by
 have hw:=a1B (o:=⟨some d,op,ty,pos,after,some (j,want)⟩) rfl hj hdj hb ha hlt;exact wpAnyH_take hi hs hf hr hQ (xd6 ⟨by rw [hw,he];cases want <;> rfl,fun w _=>h a ha w⟩) hS (k _ (ha.put d v hd))
theorem a1c {i:Nat} (_C:Nn i) {j dj:Nat} {want b:Bool} {oj:Oper} {t:TypeId} {x:Operand} {p:Addr} {v:Value} (hi:ops[i]?=some ⟨some d,.load t x,ty,pos,after,some (j,want)⟩) (hs:Region.noSelect ops=true) (hf:Region.free .any ops li i=true) (hr:(Region.ready .any ops li).contains i=true)
  (hQ:∀ c (a:Act) w,Q (.panic c) (a.put (some d) v) w->Q (.panic c) a w) (hS:S w) (hj:ops[j]?=some oj) (hdj:oj.dst=some dj) (hlt:Nat.blt dj n=true) (hb:E.get dj=some (.bool b)) (he:b=want) (hx:E.ev x=some (.pointer (some p))) (hl:∀ w,S w->Ld P t p v w) (hd:Nat.blt d n=true) (k:WA P ops Q S fuel (li.setIfInBounds i true) n ds ((d,v)::E) w):WA P ops Q S (fuel + 1) li n ds E w:=fun a ha=>by
 have hw:=a1B (o:=⟨some d,.load t x,ty,pos,after,some (j,want)⟩) rfl hj hdj hb ha hlt;refine wpAnyH_take hi hs hf hr hQ (xd6 ⟨by rw [hw,he];cases want <;> rfl,fun w hw=>?_⟩) hS (k _ (ha.put d v hd));have h:=hl w hw;unfold Ld at h;simp only [execOp,ha.ev hx,Instr.loadAt,Instr.sureAddr,Sem.run_bind,Sem.run_pure,Result.andThen_ok,h]
theorem a2B {i:Nat} (_C:Nn i) {j dj:Nat} {want b:Bool} {oj:Oper} (hi:ops[i]?=some ⟨some d,op,ty,pos,after,some (j,want)⟩) (hs:Region.noSelect ops=true) (hf:Region.free .any ops li i=true) (hr:(Region.ready .any ops li).contains i=true)
  (hQ:∀ c (a:Act) w,Q (.panic c) (a.put (some d) undef) w->Q (.panic c) a w) (hS:S w) (hj:ops[j]?=some oj) (hdj:oj.dst=some dj) (hlt:Nat.blt dj n=true) (hb:E.get dj=some (.bool b)) (he:b=!want) (hd:Nat.blt d n=true) (k:WA P ops Q S fuel (li.setIfInBounds i true) n ds ((d,undef)::E) w):WA P ops Q S (fuel + 1) li n ds E w:=fun a ha=>by
 have hw:=a1B (o:=⟨some d,op,ty,pos,after,some (j,want)⟩) rfl hj hdj hb ha hlt;exact wpAnyH_take hi hs hf hr hQ (xd3 ⟨by rw [hw,he];cases want <;> rfl,rfl⟩) hS (k _ (ha.put d undef hd))
theorem a3V {i j dj:Nat} {want b:Bool} {oj:Oper} {Φ:Value->World->Prop} (hi:ops[i]?=some ⟨some d,op,ty,pos,after,some (j,want)⟩) (hj:ops[j]?=some oj) (hdj:oj.dst=some dj) (hlt:Nat.blt dj n=true) (hb:E.get dj=some (.bool b)) (he:b=want)
  (h:Gets P ⟨some d,op,ty,pos,after,none⟩ n ds E w Φ) (hd:Nat.blt d n=true) (k:∀ v w',Φ v w'->S w'/\WA P ops Q S fuel (li.setIfInBounds i true) n ds ((d,v)::E) w'):WO P ops Q S fuel li n ds E w i:=fun a ha=>by
 have hw:=a1B (o:=⟨some d,op,ty,pos,after,some (j,want)⟩) rfl hj hdj hb ha hlt;unfold wpOp;simp only [hi];rw [xf0 (by rw [hw,he];cases want <;> rfl)];exact xd6 (h a ha (fun a' w'=>S w'/\wpAnyH P .any ops Q S fuel (li.setIfInBounds i true) a' w') Q fun v w' hv=>⟨(k v w' hv).1,(k v w' hv).2 _ (ha.put d v hd)⟩)
theorem a56 {c x y:Operand} {b:Bool} {v:Value} (hc:E.ev c=some (.bool b)) (hb:b=true) (hv:E.ev x=some v):∀ a,Has n ds a E->a05 P ⟨some d,.pick c x y,ty,pos,after,none⟩ a v:=fun a ha w=>by simp [execOp,ha.ev hc,asBool,hb,ha.ev hv]
theorem a4Q {c x y:Operand} {b:Bool} {v:Value} (hc:E.ev c=some (.bool b)) (hb:b=false) (hv:E.ev y=some v):∀ a,Has n ds a E->a05 P ⟨some d,.pick c x y,ty,pos,after,none⟩ a v:=fun a ha w=>by simp [execOp,ha.ev hc,asBool,hb,ha.ev hv]
theorem a8V {i j l:Nat} (hr:Region.ready .any ops li=[i,j,l]) (h1:WO P ops Q S fuel li n ds E w i) (h2:WO P ops Q S fuel li n ds E w j) (h3:WO P ops Q S fuel li n ds E w l):WA P ops Q S (fuel + 1) li n ds E w:=fun a ha=>
 wpAnyH_all hr (by simp) (fun k hk=>by
  have:k=i\/k=j\/k=l:=by simpa using hk
  rcases this with rfl|rfl|rfl
  ·exact h1 a ha
  ·exact h2 a ha
  ·exact h3 a ha)
theorem a07 {X:Type} (vf:X->Fr) (Γf:X->List Asr) (p:X->Prop) {x y:Code} {Q1 Q2:Exit->Act->World->Prop} (hx:WC P x (Exit.then (fun a' w'=>∃ m,Has n ds a' (vf m)/\(p m/\St F w0 w' (Γf m))) Q2) n ds E w) (hz:∀ m w',p m->St F w0 w' (Γf m)->WC P y Q1 n ds (vf m) w'):WC P x (Exit.then (y.wp P Q1) Q2) n ds E w:=fun a ha=>
 Code.wp_mono (fun e a' w' q=>by
  cases e with
  |normal=>obtain ⟨m,h1,h2,h3⟩:=q;exact hz m w' h2 h3 a' h1
  |exit i=>exact q
  |goto l=>exact q
  |ret=>exact q
  |panic c=>exact q
  |outgrown=>exact q) (hx a ha)
theorem n5 {X:Type} {vf:X->Fr} {Γf:X->List Asr} {p:X->Prop} {Q2:Exit->Act->World->Prop} (m:X) (h0:Fr.sub (vf m) E) (hp:p m) (hS:St F w0 w (Γf m)):WQ (Exit.then (fun a' w'=>∃ m,Has n ds a' (vf m)/\(p m/\St F w0 w' (Γf m))) Q2) .normal n ds E w:=fun _ ha=>⟨m,ha.sub h0,hp,hS⟩
theorem b68 {fn:Func} {Φ:Value->World->Prop} {v1 v2 v3 v4:Value} (hr:ResL P E w fn.results.toList [v1,v2,v3,v4]) (hΦ:Φ (.tuple #[v1,v2,v3,v4]) w):WQ (bodyPost P fn (fun e w'=>∃ v,e=.returned v/\Φ v w')) .ret n [] E w:=a9A rfl hr rfl hΦ
theorem St.slMem {e sz:Nat} {v:Value} {rows:List (List Value)} (hS:St F w0 w Γ) (h:Asr.row e sz v rows ∈ Γ):Sl nF w sz v rows:=by
 obtain ⟨j,hj⟩:=xd9.1 h;exact hS.rowSl j hj
end
end Go.Proofs.YtejnpppejalhfabGreat
