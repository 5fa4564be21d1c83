/- Texts that the proof stands on, one behind the other: Ke4, Ke5, PlKer2, Ke6, Ke7, Sc24. -/
import Derived.Test.YtejnpppejalhfacGreatPKernelMaps6
set_option linter.unusedVariables false
set_option linter.unusedSimpArgs false
namespace Go.Proofs.YtejnpppejalhfacGreat
set_option maxRecDepth 100000
set_option maxHeartbeats 8000000
open Go.RowKit Go.Sort
theorem b1T {l:List Nm} {w:World} {v:Value} {p:Nm->Bool} {k:FuncId} {caps:List Value} (hL:Sl nF w 7 v (l.map nmC)) (hf:∀ x ∈ l,∀ w',(∃ Γ,St nF w w' Γ)->Fn Tryz.prog k ([.agg (nmC x).toArray]++caps) w' (RBf (.bool (p x)) w')) :
  Fn Tryz.prog 201 [v,.func (.func k) #[] caps.toArray] w (RBf (.int .i64 (a5s p l)) w):=by
 have bnd:=hL.bound;obtain ⟨pp,c,rfl⟩:=hL.len;refine yEn Tryz.func201 Tryz.ntmps201 (by kernel_rfl) (by kernel_rfl) rfl rfl ?_;have hS:=St.start w
 repeat' (first|(with_reducible apply d5 c9);rfl;rfl;rfl|refine yDn (by with_reducible constructor) ?_)
 refine n9 (X:=Nat) (fun x=>[(8,.int .i64 (x:Nat))]) [0,1,7] rfl (fun _=>[]) (fun x=>x<=l.length/\(l.take x).all (fun y=>!p y)=true) (fun x=>l.length - x) 0 (by exact Fr.sub_of rfl) (by simp) hS ?_;clear hS;rintro i w1 ⟨hi,hall⟩ hS;dsimp only [List.cons_append,List.nil_append] at hi hall hS |-;by_cases hlt:i < l.length
 ·obtain ⟨x,hx⟩:=j4 (l:=l) (i:=i) (by omega);have hrow:=f8 (f:=nmC) hx;obtain ⟨b,off,rfl,hro⟩:=hL.at_ (i:=i) hlt;have hcall:=fun w' h=>hf x (xc8 hx) w' h
  cases hpx:p x with
  |true=>
   rw [hpx] at hcall;rw [a8p hall hx hpx]
   repeat' (first|(with_reducible apply d5 c9);rfl;rfl;rfl|(with_reducible apply d6);rfl;(apply Ld.st c9;rfl;exact hS.roR (by assumption) (by assumption);rfl);rfl|(with_reducible apply m8 c9);rfl;rfl;rfl;rfl;omega;rfl|refine yDn (by with_reducible constructor) ?_|(with_reducible apply i6);rfl;rfl|(with_reducible apply d8);rfl;all_goals (intro hb hp;try (exfalso;omega))|(with_reducible apply f9 hS);rfl;rfl;rfl;refine ⟨_,hcall _ ⟨_,hS⟩,?_⟩;clear hS;intro w' hS)
   (refine l4 rfl ?_)
   exact ⟨rfl,hS.sub (xi4 _)⟩
  |false=>
   rw [hpx] at hcall
   repeat' (first|(with_reducible apply d5 c9);rfl;rfl;rfl|(with_reducible apply d6);rfl;(apply Ld.st c9;rfl;exact hS.roR (by assumption) (by assumption);rfl);rfl|(with_reducible apply m8 c9);rfl;rfl;rfl;rfl;omega;rfl|(with_reducible apply j7);rfl;rfl;omega;omega;rfl|refine yDn (by with_reducible constructor) ?_|(with_reducible apply i9);rfl;rfl|(with_reducible apply d8);rfl;all_goals (intro hb hp;try (exfalso;omega))|(with_reducible apply f9 hS);rfl;rfl;rfl;refine ⟨_,hcall _ ⟨_,hS⟩,?_⟩;clear hS;intro w' hS)
   exact i5 (i + 1) (by exact Fr.sub_of rfl) ⟨by show i + 1<=_;omega,a2i hall hx (by simp [hpx])⟩ hS (by show _ - (i + 1) < _ - i;omega)
 ·rw [a63 hall (by omega)]
  repeat' (first|(with_reducible apply d5 c9);rfl;rfl;rfl|refine yDn (by with_reducible constructor) ?_|(with_reducible apply d8);rfl;all_goals (intro hb hp;try (exfalso;omega)))
  (refine l4 rfl ?_)
  exact ⟨rfl,hS.sub (xi4 _)⟩
theorem b23 {l:List En} {w:World} {v:Value} {p:En->Bool} {k:FuncId} {caps:List Value} (hL:Sl nF w 3 v (l.map enC)) (hf:∀ x ∈ l,∀ w',(∃ Γ,St nF w w' Γ)->Fn Tryz.prog k ([.agg (enC x).toArray]++caps) w' (RBf (.bool (p x)) w')) :
  Fn Tryz.prog 155 [v,.func (.func k) #[] caps.toArray] w (RBf (.int .i64 (a5s p l)) w):=by
 have bnd:=hL.bound;obtain ⟨pp,c,rfl⟩:=hL.len;refine yEn Tryz.func155 Tryz.ntmps155 (by kernel_rfl) (by kernel_rfl) rfl rfl ?_;have hS:=St.start w
 repeat' (first|(with_reducible apply d5 c9);rfl;rfl;rfl|refine yDn (by with_reducible constructor) ?_)
 refine n9 (X:=Nat) (fun x=>[(8,.int .i64 (x:Nat))]) [0,1,7] rfl (fun _=>[]) (fun x=>x<=l.length/\(l.take x).all (fun y=>!p y)=true) (fun x=>l.length - x) 0 (by exact Fr.sub_of rfl) (by simp) hS ?_;clear hS;rintro i w1 ⟨hi,hall⟩ hS;dsimp only [List.cons_append,List.nil_append] at hi hall hS |-;by_cases hlt:i < l.length
 ·obtain ⟨x,hx⟩:=j4 (l:=l) (i:=i) (by omega);have hrow:=f8 (f:=enC) hx;obtain ⟨b,off,rfl,hro⟩:=hL.at_ (i:=i) hlt;have hcall:=fun w' h=>hf x (xc8 hx) w' h
  cases hpx:p x with
  |true=>
   rw [hpx] at hcall;rw [a8p hall hx hpx]
   repeat' (first|(with_reducible apply d5 c9);rfl;rfl;rfl|(with_reducible apply d6);rfl;(apply Ld.st c9;rfl;exact hS.roR (by assumption) (by assumption);rfl);rfl|(with_reducible apply m8 c9);rfl;rfl;rfl;rfl;omega;rfl|refine yDn (by with_reducible constructor) ?_|(with_reducible apply i6);rfl;rfl|(with_reducible apply d8);rfl;all_goals (intro hb hp;try (exfalso;omega))|(with_reducible apply f9 hS);rfl;rfl;rfl;refine ⟨_,hcall _ ⟨_,hS⟩,?_⟩;clear hS;intro w' hS)
   (refine l4 rfl ?_)
   exact ⟨rfl,hS.sub (xi4 _)⟩
  |false=>
   rw [hpx] at hcall
   repeat' (first|(with_reducible apply d5 c9);rfl;rfl;rfl|(with_reducible apply d6);rfl;(apply Ld.st c9;rfl;exact hS.roR (by assumption) (by assumption);rfl);rfl|(with_reducible apply m8 c9);rfl;rfl;rfl;rfl;omega;rfl|(with_reducible apply j7);rfl;rfl;omega;omega;rfl|refine yDn (by with_reducible constructor) ?_|(with_reducible apply i9);rfl;rfl|(with_reducible apply d8);rfl;all_goals (intro hb hp;try (exfalso;omega))|(with_reducible apply f9 hS);rfl;rfl;rfl;refine ⟨_,hcall _ ⟨_,hS⟩,?_⟩;clear hS;intro w' hS)
   exact i5 (i + 1) (by exact Fr.sub_of rfl) ⟨by show i + 1<=_;omega,a2i hall hx (by simp [hpx])⟩ hS (by show _ - (i + 1) < _ - i;omega)
 ·rw [a63 hall (by omega)]
  repeat' (first|(with_reducible apply d5 c9);rfl;rfl;rfl|refine yDn (by with_reducible constructor) ?_|(with_reducible apply d8);rfl;all_goals (intro hb hp;try (exfalso;omega)))
  (refine l4 rfl ?_)
  exact ⟨rfl,hS.sub (xi4 _)⟩
theorem b2S {l:List Nm} {w:World} {v:Value} {p:Nm->Bool} {k:FuncId} {caps:List Value} (hL:Sl nF w 7 v (l.map nmC)) (hf:∀ x ∈ l,∀ w',(∃ Γ,St nF w w' Γ)->Fn Tryz.prog k ([.agg (nmC x).toArray]++caps) w' (RBf (.bool (p x)) w')) :
  Fn Tryz.prog 174 [v,.func (.func k) #[] caps.toArray] w (RBf (.bool (l.any p)) w):=by
 refine yEn Tryz.func174 Tryz.ntmps174 (by kernel_rfl) (by kernel_rfl) rfl rfl ?_;have hS:=St.start w;have hi:=b1T hL hf
 repeat' (first|(with_reducible apply d5 c9);rfl;rfl;rfl|refine yDn (by with_reducible constructor) ?_|(with_reducible apply f9 hS);rfl;rfl;rfl;refine ⟨_,hi,?_⟩;clear hS;intro w' hS)
 (refine l4 rfl ?_)
 exact ⟨by rw [b18],hS.sub (xi4 _)⟩
def a3T (n m:Nm):Bool:=(!decide (m.1.page=n.1.page))||(!decide (m.2.z=n.2.z))
theorem b1z {n:Nm} {r:List Nm}:a0n (n::r)=!((n::r).any (a3T n)):=by
 show (r.all fun m=>decide (m.1.page=n.1.page/\m.2.z=n.2.z))=_;rw [List.any_cons,show a3T n n=false by simp [a3T],xj1]
 induction r with
 |nil=>rfl
 |cons m r ih=>
  rw [xi9,List.any_cons,ih,Bool.not_or]
  congr 1
  unfold a3T;by_cases h1:m.1.page=n.1.page <;> by_cases h2:m.2.z=n.2.z <;> simp [h1,h2]
theorem b1m {l:List Nm} {w:World} {g:Nat} {v:Value} {n m:Nm} {r:List Nm} (hc:Bs nF w ⟨g,0,none⟩ v) (hL:Sl nF w 7 v (l.map nmC)) (hl:l=n::r):Fn Tryz.prog 175 [.agg (nmC m).toArray,.pointer (some ⟨g,0,none⟩)] w (RBf (.bool (a3T n m)) w):=by
 have hrow:(l.map nmC)[0]?=some (nmC n):=by rw [hl];rfl
 obtain ⟨pp,c,rfl⟩:=hL.len;obtain ⟨b,off,rfl,hro⟩:=hL.at_ (i:=0) (by rw [hl];simp);have hlen:0 < l.length:=by rw [hl];simp
 unfold nmC at hrow |-;unfold a3T;refine yEn Tryz.func175 Tryz.ntmps175 (by kernel_rfl) (by kernel_rfl) rfl rfl ?_;have hS:=St.start w;by_cases hp:m.1.page=n.1.page
 ·have hd:(!decide (m.1.page=n.1.page))=false:=by rw [xi8 hp];rfl
  rw [hd,xj1]
  repeat' (first|(with_reducible apply d5 c9);rfl;rfl;rfl|refine yDn (by with_reducible constructor) ?_|(with_reducible apply j6 hS);rfl;rfl;rfl;clear hS;intro g w' hS)
  (focus ((with_reducible apply d9 _ _ _ (by kernel_rfl) (by kernel_rfl) hS);(repeat' ((first|(with_reducible apply g8 c9);rfl;rfl|(with_reducible apply b66 c9);(iterate 4 rfl)|(with_reducible apply i7);rfl;(intro wd hd;replace hd:St _ _ wd _:=hd;(first|apply Ld.sc c9;rfl;(first|exact hd.blkC 0 rfl rfl|exact hd.roC0 (by assumption) (by assumption) rfl|exact hd.roC2 (by assumption) (by assumption) rfl)|apply Ld.sl c9;rfl;exact hd.bs (by assumption)));rfl|(with_reducible apply a0f c9);rfl;rfl;rfl;rfl;omega;rfl|(first|(with_reducible apply y7);(iterate 4 rfl);assumption|(with_reducible apply o5);rfl;assumption;rfl;rfl))));all_goals ((with_reducible apply k8);intro w' hS';clear hS;have hS:=hS';clear hS')))
  repeat' ((refine yDn (by with_reducible constructor) ?_))
  (refine l4 rfl ?_)
  exact ⟨rfl,hS.sub (xi4 _)⟩
 ·have hd:(!decide (m.1.page=n.1.page))=true:=by rw [xi7 hp];rfl
  rw [hd,Bool.true_or]
  repeat' (first|(with_reducible apply d5 c9);rfl;rfl;rfl|refine yDn (by with_reducible constructor) ?_|(with_reducible apply j6 hS);rfl;rfl;rfl;clear hS;intro g w' hS)
  (focus ((with_reducible apply d9 _ _ _ (by kernel_rfl) (by kernel_rfl) hS);(repeat' ((first|(with_reducible apply g8 c9);rfl;rfl|(with_reducible apply i7);rfl;(intro wd hd;replace hd:St _ _ wd _:=hd;(first|apply Ld.sc c9;rfl;(first|exact hd.blkC 0 rfl rfl|exact hd.roC0 (by assumption) (by assumption) rfl)|apply Ld.sl c9;rfl;exact hd.bs (by assumption)));rfl|(with_reducible apply a0f c9);rfl;rfl;rfl;rfl;omega;rfl|(first|(with_reducible apply a1I);(iterate 4 rfl);assumption;rfl|(with_reducible apply q7);rfl;assumption;rfl;rfl))));all_goals ((with_reducible apply k8);intro w' hS';clear hS;have hS:=hS';clear hS')))
  repeat' ((refine yDn (by with_reducible constructor) ?_))
  (refine l4 rfl ?_)
  exact ⟨rfl,hS.sub (xi4 _)⟩
theorem a7e {l:List Nm} {w:World} {v:Value} {n:Nm} {r:List Nm} (hL:Sl nF w 7 v (l.map nmC)) (hl:l=n::r):Fn Tryz.prog 129 [v] w (RBf (.bool (a0n l)) w):=by
 obtain ⟨pp,c,rfl⟩:=hL.len;refine yEn Tryz.func129 Tryz.ntmps129 (by kernel_rfl) (by kernel_rfl) rfl rfl ?_;have hS:=St.start w
 repeat' (first|(with_reducible apply d5 c9);rfl;rfl;rfl|(with_reducible apply d6);rfl;(apply Ld.sl c9;rfl;exact hS.blkC 0 rfl rfl);rfl|refine yDn (by with_reducible constructor) ?_|(with_reducible apply j6 hS);rfl;rfl;rfl;clear hS;intro g w' hS)
 rename Nat=>g
 have hco:=b2S (caps:=[.pointer (some ⟨g,0,none⟩)]) (p:=a3T n) (k:=175) (hL.now hS) (fun x hx w2 ⟨Γ,h2⟩=>b1m (Bs.of (h2.bs (Bs.of (hS.blkC 0 rfl rfl)))) ((hL.now hS).now h2) hl)
 repeat' (first|(with_reducible apply d5 c9);rfl;rfl;rfl|refine yDn (by with_reducible constructor) ?_|(with_reducible apply f9 hS);rfl;rfl;rfl;refine ⟨_,hco,?_⟩;clear hS;intro w' hS)
 (refine l4 rfl ?_)
 refine ⟨?_,hS.sub (xi4 _)⟩;subst hl;rw [b1z]
theorem a7Y {w:World} {l:List (Sh×Value)} {gl gk:Nat} {vsh vb:Value} {f:Fm} {by_:List Nm} (hl:Bs nF w ⟨gl,0,none⟩ (.pointer (some ⟨gk,0,none⟩))) (hk:Bs nF w ⟨gk,0,none⟩ vsh) (hL:ShsV w l vsh) (hr:a0u 0 (shs l)=true) (hby:Sl nF w 7 vb (by_.map nmC)) (hpg:∀ n ∈ by_,-1000000<=n.1.page/\n.1.page<=1000000):Fn Tryz.prog 128 [.pointer (some ⟨gl,0,none⟩),.agg (fmC f).toArray,vb] w (RBf (.bool (a0Y (shs l) f by_)) w):=by
 have bnd:=hby.bound;unfold fmC
 cases by_ with
 |nil=>
  obtain ⟨pp,c,rfl⟩:=hby.len;refine yEn Tryz.func128 Tryz.ntmps128 (by kernel_rfl) (by kernel_rfl) rfl rfl ?_;have hS:=St.start w
  repeat' (first|(with_reducible apply d5 c9);rfl;rfl;rfl|(with_reducible apply d6);rfl;(apply Ld.st c9;rfl;exact hS.blkR 0 rfl;rfl);rfl|(with_reducible apply v8 c9);rfl;rfl;exact (rfl:_=some [_,_,_,_]);rfl|refine yDn (by with_reducible constructor) ?_|(with_reducible apply i6);rfl;rfl|(with_reducible apply j6 hS);rfl;rfl;rfl;clear hS;intro g w' hS|(with_reducible apply b7v);rfl;rfl;exact b5m f fm0;rfl)
  (refine l4 rfl ?_)
  exact ⟨rfl,hS.sub (xi4 _)⟩
 |cons n r=>
  have hal:=fun w1 (h:Sl nF w1 7 vb ((n::r).map nmC))=>a7e h rfl;have hn:=hpg n xc4;have hfill:∀ w1 Γ,St nF w w1 Γ->Fn Tryz.prog 114 [.pointer (some ⟨gk,0,none⟩),.agg [.int .i64 n.2.pg,.int .i64 n.2.n,.int .i64 n.2.prot,.bool n.2.z].toArray,.int .i64 n.1.page] w1 (RBf (b0q (a0L (shs l) n.2.z n.1.page)) w1):=fun w1 Γ h=>a5W (F:=nF) (Bs.of (h.bs hk)) (hL.now h) hr hn;unfold b0q at hfill;unfold a0Y;dsimp only;generalize hlen:(n::r).length=m;have hm:0 < m:=by rw [<- hlen];simp
  obtain ⟨pp,c,rfl⟩:=hby.len;rw [hlen] at hby bnd hal |-;have hrow:((n::r).map nmC)[0]?=some [.int .i64 n.1.page,.int .i64 n.1.kind,.int .i64 n.1.at_,.int .i64 n.2.pg,.int .i64 n.2.n,.int .i64 n.2.prot,.bool n.2.z]:=rfl;obtain ⟨b,off,hpe,hro⟩:=hby.parts.2.resolve_left (fun h=>by simp at h);subst hpe;replace hro:=hro.2.2;by_cases h1:f.refs=(m:Int);rotate_left
  ·have hd:(!decide (f.refs=(m:Int)))=true:=by rw [xi7 h1];rfl
   rw [xi7 (fun h=>h1 h.1),xi5];refine yEn Tryz.func128 Tryz.ntmps128 (by kernel_rfl) (by kernel_rfl) rfl rfl ?_;have hS:=St.start w
   repeat' (first|(with_reducible apply d5 c9);rfl;rfl;rfl|(with_reducible apply d6);rfl;(apply Ld.sc c9;rfl;exact hS.blkC 0 rfl rfl);rfl|refine yDn (by with_reducible constructor) ?_|(with_reducible apply a0a);(iterate 4 rfl);(first|rfl|assumption);rfl|(with_reducible apply j9);rfl;(first|rfl|assumption);rfl;rfl|(with_reducible apply i6);rfl;rfl|(with_reducible apply j6 hS);rfl;rfl;rfl;clear hS;intro g w' hS|(with_reducible apply d8);rfl;all_goals (intro hb hp;try (exfalso;omega)))
   (refine l4 rfl ?_)
   exact ⟨rfl,hS.sub (xi4 _)⟩
  have hd:(!decide (f.refs=(m:Int)))=false:=by rw [xi8 h1];rfl
  by_cases h2:f.data.length=16;rotate_left
  ·have hd2:(!decide ((f.data.length:Int)=16))=true:=by rw [xi7 (by omega)];rfl
   rw [xi7 (fun h=>h2 h.2),xi5];refine yEn Tryz.func128 Tryz.ntmps128 (by kernel_rfl) (by kernel_rfl) rfl rfl ?_;have hS:=St.start w
   repeat' (first|(with_reducible apply d5 c9);rfl;rfl;rfl|(with_reducible apply d6);rfl;(apply Ld.sc c9;rfl;exact hS.blkC 0 rfl rfl);rfl|refine yDn (by with_reducible constructor) ?_|(with_reducible apply l8);(iterate 4 rfl);assumption|(with_reducible apply a0a);(iterate 4 rfl);assumption;rfl|(with_reducible apply j9);rfl;assumption;rfl;rfl|(with_reducible apply i4);rfl;assumption;rfl;rfl|(with_reducible apply i6);rfl;rfl|(with_reducible apply j6 hS);rfl;rfl;rfl;clear hS;intro g w' hS|(with_reducible apply d8);rfl;all_goals (intro hb hp;try (exfalso;omega)))
   (refine l4 rfl ?_)
   exact ⟨rfl,hS.sub (xi4 _)⟩
  have hd2:(!decide ((f.data.length:Int)=16))=false:=by rw [xi8 (by omega)];rfl
  rw [xi8 ⟨h1,h2⟩,xi6]
  cases ha:a0n (n::r) with
  |false=>
   rw [ha] at hal;rw [xi5];refine yEn Tryz.func128 Tryz.ntmps128 (by kernel_rfl) (by kernel_rfl) rfl rfl ?_;have hS:=St.start w
   repeat' (first|(with_reducible apply d5 c9);rfl;rfl;rfl|(with_reducible apply d6);rfl;(apply Ld.sc c9;rfl;exact hS.blkC 0 rfl rfl);rfl|refine yDn (by with_reducible constructor) ?_|(with_reducible apply l8);(iterate 4 rfl);assumption|(with_reducible apply i4);rfl;assumption;rfl;rfl|(with_reducible apply i6);rfl;rfl|(with_reducible apply j6 hS);rfl;rfl;rfl;clear hS;intro g w' hS|(with_reducible apply d8);rfl;all_goals (intro hb hp;try (exfalso;omega))|(with_reducible apply f9 hS);rfl;rfl;rfl;refine ⟨_,hal _ (hby.now hS),?_⟩;clear hS;intro w' hS)
   (refine l4 rfl ?_)
   exact ⟨rfl,hS.sub (xi4 _)⟩
  |true=>
   rw [ha] at hal;rw [xi6];refine yEn Tryz.func128 Tryz.ntmps128 (by kernel_rfl) (by kernel_rfl) rfl rfl ?_;have hS:=St.start w
   repeat' (first|(with_reducible apply d5 c9);rfl;rfl;rfl|(with_reducible apply d6);rfl;(apply Ld.sc c9;rfl;exact hS.blkC 0 rfl rfl);rfl|refine yDn (by with_reducible constructor) ?_|(with_reducible apply l8);(iterate 4 rfl);assumption|(with_reducible apply i4);rfl;assumption;rfl;rfl|(with_reducible apply i9);rfl;rfl|(with_reducible apply j6 hS);rfl;rfl;rfl;clear hS;intro g w' hS|(with_reducible apply d8);rfl;all_goals (intro hb hp;try (exfalso;omega))|(with_reducible apply f9 hS);rfl;rfl;rfl;refine ⟨_,hal _ (hby.now hS),?_⟩;clear hS;intro w' hS)
   (focus ((with_reducible apply d9 _ _ _ (by kernel_rfl) (by kernel_rfl) hS);(repeat' (first|(first|(with_reducible apply g8 c9);rfl;rfl|(with_reducible apply i7);rfl;(intro wd hd;replace hd:St _ _ wd _:=hd;(apply Ld.sc c9;rfl;(first|exact hd.bs (by assumption)|exact hd.roC0 (by assumption) (by assumption) rfl)));rfl|(with_reducible apply a0f c9);rfl;rfl;rfl;rfl;omega;rfl)|(with_reducible apply i7);rfl;(intro wd hd;replace hd:St _ _ wd _:=hd;(apply Ld.st c9;rfl;exact hd.roRs hro 3 4 hrow;rfl));rfl|(with_reducible apply s5);rfl;rfl;rfl;refine ⟨_,fun wd hd=>hfill _ _ hd,?_⟩));all_goals ((with_reducible apply k8);intro w' hS';clear hS;have hS:=hS';clear hS')))
   have hdd:f.dirty=false->decide (f.data=(a0L (shs l) n.2.z n.1.page).getD [])=(f.dirty||decide (some f.data=a0L (shs l) n.2.z n.1.page)):=fun h=>by
    rw [h,xj1]
    cases hq:a0L (shs l) n.2.z n.1.page with
    |none=>
     rw [xi7 (fun hh:some f.data=none=>by cases hh)];refine xi7 fun hh=>?_;rw [hh] at h2;simp at h2
    |some x=>exact xp1.2 ⟨fun hh=>congrArg some hh,fun hh=>Option.some.inj hh⟩
   repeat' (first|(with_reducible apply d5 c9);rfl;rfl;rfl|(with_reducible apply d6);rfl;(apply Ld.sc c9;rfl;exact hS.blkC 0 rfl rfl);rfl|refine yDn (by with_reducible constructor) ?_|(with_reducible apply l8);(iterate 4 rfl);assumption|(with_reducible apply a0a);(iterate 4 rfl);assumption;rfl|(with_reducible apply j9);rfl;assumption;rfl;rfl|(with_reducible apply i4);rfl;assumption;rfl;rfl|(with_reducible apply b48);rfl;rfl;rfl;all_goals (intro hb hp;try (exfalso;omega)))
   ·(refine l4 rfl ?_)
    exact ⟨by rw [hb];rfl,hS.sub (xi4 _)⟩
   ·(refine l4 rfl ?_)
    exact ⟨by rw [hdd hb],hS.sub (xi4 _)⟩
abbrev NL:=List (Value×List Nm)
def nlC (l:NL):List (List Value):=l.map fun x=>[x.1]
def nsA (x:Value×List Nm):Asr:=.row 268 7 x.1 (x.2.map nmC)
def nlR (l:NL):List Asr:=l.map nsA
theorem b3R {l m:NL} (h:l.Perm m):(nlR l).Perm (nlR m):=h.map nsA
theorem a6g {l:NL} {k:Nat} {x:Value×List Nm} (h:l[k]?=some x):(nlR l).Perm (nsA x::nlR (l.eraseIdx k)):=b3R (a2L h)
theorem b0x {l:NL} {k:Nat} {x y:Value×List Nm} (h:l[k]?=some x):(nsA y::nlR (l.eraseIdx k)).Perm (nlR (l.set k y)):=by
 have h1:=a6g (l:=l.set k y) (k:=k) (x:=y) (by rw [xd7];simp [(xa6.1 h).1]);rw [a0Z] at h1;exact h1.symm
theorem b0F (l:NL) (k:Nat) (x:Value×List Nm):nlC (l.set k x)=(nlC l).set k [x.1]:=by unfold nlC;rw [xk6]
def lkS (g:Nat) (k vF vS:Value) (room:Int) (NF NS:NL):List Asr:=.blk g [k,vF,vS,.int .i64 room]::.row 202 1 vF (nlC NF)::.row 202 1 vS (nlC NS)::(nlR NF++nlR NS)
def Grown (A B:NL) (kind:Int) (ns:List Nm):Prop:=B.length=A.length/\∀ (i:Nat) x,A[i]?=some x->∃ v,B[i]?=some (v,x.2++ns.filter fun (n:Nm)=>decide (n.1.kind=kind/\n.1.at_=((i:Nat):Int)))
theorem Grown.refl (A:NL) (kind:Int):Grown A A kind []:=⟨rfl,fun i x h=>⟨x.1,by simpa using h⟩⟩
theorem Grown.skip {A B:NL} {kind:Int} {ns:List Nm} {n:Nm} (h:Grown A B kind ns) (hn:n.1.kind≠kind):Grown A B kind (ns++[n]):=⟨h.1,fun i x hx=>by
 obtain ⟨v,hv⟩:=h.2 i x hx;refine ⟨v,?_⟩;rw [hv,xj2,xj5 (by simp [hn]),xk3,List.append_nil]⟩
theorem Grown.put {A B:NL} {kind:Int} {ns:List Nm} {n:Nm} {j:Nat} {y:Value×List Nm} {v:Value} (h:Grown A B kind ns) (hn:n.1.kind=kind) (hj:n.1.at_=(j:Nat)) (hy:B[j]?=some y):Grown A (B.set j (v,y.2++[n])) kind (ns++[n]):=⟨by rw [xa7];exact h.1,fun i x hx=>by
 obtain ⟨u,hu⟩:=h.2 i x hx;by_cases e:j=i
 ·subst e;rw [hy] at hu
  cases hu
  refine ⟨v,?_⟩;rw [xd7];simp [(xa6.1 hy).1,xj2,hn,hj]
 ·refine ⟨u,?_⟩;rw [List.getElem?_set_ne e,hu,xj2,xj5 (by rw [hn,hj];simp;omega),xk3,List.append_nil]⟩
theorem Grown.trans {A B C:NL} {kind:Int} {ns ms:List Nm} (h:Grown A B kind ns) (h2:Grown B C kind ms):Grown A C kind (ns++ms):=⟨h2.1.trans h.1,fun i x hx=>by
 obtain ⟨v,hv⟩:=h.2 i x hx;obtain ⟨u,hu⟩:=h2.2 i _ hv;exact ⟨u,by rw [hu,xj2,xf4]⟩⟩
structure ShsF (F:Nat->Prop) (w:World) (Lp:List (Sh×Value)) (vs:Value):Prop where
 sl:Sl F w 3 vs (Lp.map fun p=>shC p.1 p.2)
 fx:∀ p ∈ Lp,Sl F w 2 p.2 (p.1.fixes.map fxC)
theorem ShsF.now {F:Nat->Prop} {w w':World} {Γ:List Asr} {l:List (Sh×Value)} {v:Value} (h:ShsF F w l v) (hS:St F w w' Γ):ShsV w' l v:=⟨h.sl.now hS,fun p hp=>(h.fx p hp).now hS⟩
theorem ShsF.nowM {F:Nat->Prop} {w w':World} {Θ Γ:List Asr} {l:List (Sh×Value)} {v:Value} (h:ShsF F w l v) (hS:St F w w' (Θ++Γ)):ShsF (fps Θ) w' l v:=⟨h.sl.nowM hS,fun p hp=>(h.fx p hp).nowM hS⟩
theorem ShsF.of {w:World} {l:List (Sh×Value)} {v:Value} (h:ShsV w l v):ShsF nF w l v:=⟨h.sl,fun p hp=>h.fx p hp⟩
def a26 (l:List Sh) (a:Ar) (j:Nat):Bool:=(a0L l a.z (a.pg + (j:Nat))).isSome
theorem a7C {l:List Sh} {A:List Ar} {i j:Nat} {a:Ar} (ha:A[i]?=some a) (hj:(j:Int) < a.n) (h:a26 l a j=false):a1q l A=false:=by
 unfold a1q;rw [xi2];refine ⟨a,xc8 ha,?_⟩;rw [xf8,xi2];exact ⟨j,by rw [xi1];omega,by unfold a26 at h;rw [h];simp⟩
theorem a8f {l:List Sh} {A:List Ar} (h:∀ (i:Nat) a,A[i]?=some a->∀ j:Nat,(j:Int) < a.n->a26 l a j=true):a1q l A=true:=by
 unfold a1q;rw [xc6];intro a ha;obtain ⟨i,hi⟩:=xd6.1 ha;rw [xc6];intro j hj;exact h i a hi j (by rw [xi1] at hj;omega)
theorem a6D {A:List Ar} {nf ns last:Int} {l:List En} {i:Nat} {e:En} (h:l[i]?=some e):a03 A nf ns last (l.drop i)=(a1C A nf ns last e && a03 A nf ns e.page (l.drop (i + 1))):=by
 rw [a7x h];rfl
theorem a9w (s:Sc) (kind:Int) (i:Nat):(s.entries.map (a1i s)).filter (fun (n:Nm)=>decide (n.1.kind=kind/\n.1.at_=((i:Nat):Int)))=j8 [s] kind i:=by
 unfold j8;rw [xk8,xk9,List.append_nil,List.filter_map];rfl
theorem a4d {P:Program} {n:Nat} {ds:List Deferred} {E:Fr} {w:World} {Q:Exit->Act->World->Prop} {F:Nat->Prop} {w0:World} {Γ:List Asr} (k q:Nat) {id:Nat} {l:List Oper} (m:Nat) (hl:l.length=m) (hS:St F w0 w Γ) (hm:P.follows .mixedOrders=true) (h:∀ w1,St F w0 w1 Γ->WT P l.toArray Q (fun w'=>St F w0 w' (Γ.take k)) q m (Array.replicate m false) n ds E w1):WC P (.region id l.toArray true) Q n ds E w:=b6s _ q m hl hS hm h
theorem b2s {α β:Type} (A:List α) (B:List β) (hA:(A.length:Int)<=9223372036854775807) (hB:(B.length:Int)<=9223372036854775807):decide (IntKind.i64.wrap ((A.length:Int) + (B.length:Int))=0)=decide (A=[]/\B=[]):=by
 refine xp1.2 ⟨fun h=>?_,fun ⟨h1,h2⟩=>by rw [h1,h2];rfl⟩;have h2:A.length=0/\B.length=0:=by
  simp only [IntKind.wrap,IntKind.signed,IntKind.bits] at h;omega
 exact ⟨xe8 h2.1,xe8 h2.2⟩
theorem b4k (l:NL):(nlC l).length=l.length:=by unfold nlC;simp
theorem o7 {α:Type} {l:List α} {i:Nat} {x:α} (h:l[i]?=some x):l.take (i + 1)=l.take i++[x]:=by
 obtain ⟨h1,rfl⟩:=xa6.1 h;rw [xm5,xd8 h1];rfl
theorem b3J {F:Nat->Prop} {w0 w:World} {Γ:List Asr} {gl gk:Nat} {vsh vF vS:Value} {room:Int} {l:List (Sh×Value)} {NF NS:NL} {p:Sp}
  (hS0:St F w0 w (lkS gl (.pointer (some ⟨gk,0,none⟩)) vF vS room NF NS++Γ)) (hk:Bs (fps (lkS gl (.pointer (some ⟨gk,0,none⟩)) vF vS room NF NS)) w ⟨gk,0,none⟩ vsh) (hL:ShsF (fps (lkS gl (.pointer (some ⟨gk,0,none⟩)) vF vS room NF NS)) w l vsh) (hr:a0u 0 (shs l)=true)
  (har:Sl (fps (lkS gl (.pointer (some ⟨gk,0,none⟩)) vF vS room NF NS)) w 4 p.va (p.s.areas.map arC)) (hen:Sl (fps (lkS gl (.pointer (some ⟨gk,0,none⟩)) vF vS room NF NS)) w 3 p.ve (p.s.entries.map enC)) (hrm:0<=room/\room<=1000000) (hF:∀ x ∈ NF,x.2.length<=1000) (hSl:∀ x ∈ NS,x.2.length<=1000) :
  Fn Tryz.prog 127 [.pointer (some ⟨gl,0,none⟩),.agg (spC p).toArray] w (fun v w'=>v=.bool (r6 (shs l) NF.length NS.length p.s)/\∃ NF' NS' room',St (fps (lkS gl (.pointer (some ⟨gk,0,none⟩)) vF vS room NF NS)) w w' (lkS gl (.pointer (some ⟨gk,0,none⟩)) vF vS room' NF' NS')/\(r6 (shs l) NF.length NS.length p.s=true->room'=room + k7 p.s.areas/\Grown NF NF' 1 (p.s.entries.map (a1i p.s))/\Grown NS NS' 2 (p.s.entries.map (a1i p.s)))):=by
 obtain ⟨s,va,ve⟩:=p;obtain ⟨live,A,es⟩:=s;dsimp only at har hen |-;have hSs:=St.startM hS0;generalize hG:fps (lkS gl (.pointer (some ⟨gk,0,none⟩)) vF vS room NF NS)=G at hSs hk hL har hen |-;clear hG hS0;have bA:=(har.now hSs).bound;have bE:=(hen.now hSs).bound;obtain ⟨pa,ca,rfl⟩:=(har.now hSs).len;obtain ⟨pe,ce,rfl⟩:=(hen.now hSs).len;have hS:=hSs;unfold lkS at hS;obtain ⟨pF,cF,hvF⟩:=hS.rowSlice 1 rfl;obtain ⟨pS,cS,hvS⟩:=hS.rowSlice 2 rfl;rw [b4k] at hvF hvS;subst hvF hvS;unfold spC r6;dsimp only
 cases live with
 |false=>
  simp only [xn9,if_false];have hd:=b2s A es bA bE;refine yEn Tryz.func127 Tryz.ntmps127 (by kernel_rfl) (by kernel_rfl) rfl rfl ?_
  repeat' (first|(with_reducible apply d5 c9);rfl;rfl;rfl|(with_reducible apply d6);rfl;(first|apply Ld.sc c9;rfl;exact hS.blkC 0 rfl rfl|apply Ld.sl c9;rfl;exact hS.blkC 0 rfl rfl);rfl|(with_reducible apply a7Q c9);rfl;rfl|refine yDn (by with_reducible constructor) ?_|(with_reducible apply i6);rfl;rfl|(with_reducible apply j6 hS);rfl;rfl;rfl;clear hS;intro g w' hS)
  (refine l4 rfl ?_)
  refine ⟨by rw [hd],NF,NS,room,hS.drop,fun h=>?_⟩;obtain ⟨rfl,rfl⟩:=xn8 h;exact ⟨by simp [k7],Grown.refl _ _,Grown.refl _ _⟩
 |true=>
  simp only [if_true];have hchk:=fun w1 (h:Sl nF w1 4 (.slice pa A.length ca) (A.map arC))=>a23 h;by_cases hc:g6 A=0;rotate_left
  ·have hd:(!decide (g6 A=0))=true:=by rw [xi7 hc];rfl
   have hbad:(decide (g6 A=0) && (a1q (shs l) A && a03 A NF.length NS.length 0 es))=false:=by rw [xi7 hc,xi5]
   refine yEn Tryz.func127 Tryz.ntmps127 (by kernel_rfl) (by kernel_rfl) rfl rfl ?_
   repeat' (first|(with_reducible apply d5 c9);rfl;rfl;rfl|(with_reducible apply d6);rfl;(first|apply Ld.sc c9;rfl;exact hS.blkC 0 rfl rfl|apply Ld.sl c9;rfl;exact hS.blkC 0 rfl rfl);rfl|refine yDn (by with_reducible constructor) ?_|(with_reducible apply i6);rfl;assumption|(with_reducible apply i9);rfl;rfl|(with_reducible apply j6 hS);rfl;rfl;rfl;clear hS;intro g w' hS|(with_reducible apply f9 hS);rfl;rfl;rfl;refine ⟨_,hchk _ (har.now hS),?_⟩;clear hS;intro w' hS)
   (refine l4 rfl ?_)
   refine ⟨by rw [hbad],_,_,_,hS.sub (by repeat (first|exact xk7 _|apply xl0)),fun h=>?_⟩;rw [hbad] at h
   cases h
  have hd:(!decide (g6 A=0))=false:=by rw [xi8 hc];rfl
  have htot:=fun w1 (h:Sl nF w1 4 (.slice pa A.length ca) (A.map arC))=>a8Z h;rw [xe6 hc] at htot;obtain ⟨hAl,hgood⟩:=k9.1 hc;have hok:=y9 hgood;have hsum:=a3Z hok A.length;rw [xg1] at hsum;rw [xi8 hc,xi6];refine yEn Tryz.func127 Tryz.ntmps127 (by kernel_rfl) (by kernel_rfl) rfl rfl ?_
  repeat' (first|(with_reducible apply d5 c9);rfl;rfl;rfl|(with_reducible apply d6);rfl;(first|apply Ld.sc c9;rfl;exact hS.blkC 0 rfl rfl|apply Ld.sl c9;rfl;exact hS.blkC 0 rfl rfl);rfl|refine yDn (by with_reducible constructor) ?_|((with_reducible apply i9);rfl;first|rfl|assumption)|(with_reducible apply j6 hS);rfl;rfl;rfl;clear hS;intro g w' hS|(with_reducible apply f9 hS);rfl;rfl;rfl;refine ⟨_,hchk _ (har.now hS),?_⟩;clear hS;intro w' hS)
  (focus ((with_reducible apply a2K _ _ _ 10 (by kernel_rfl) (by kernel_rfl) hS);(simp only [xl5,xl6,xl1,xl2]);(repeat' (first|(first|(with_reducible apply b0c);rfl;rfl;omega;omega;rfl|(with_reducible apply g8 c9);rfl;rfl|(with_reducible apply i7);rfl;(intro wd hd;replace hd:St _ _ wd _:=hd;(first|apply Ld.sc c9;rfl;exact hd.blkC 1 rfl rfl|apply Ld.sl c9;rfl;exact hd.blkC 0 rfl rfl));rfl)|(with_reducible apply s5);rfl;rfl;rfl;refine ⟨_,fun wd hd=>htot _ (har.now hd),?_⟩));all_goals ((with_reducible apply k8);intro w' hS';clear hS;have hS:=hS';clear hS')))
  repeat' (first|(with_reducible apply d5 c9);rfl;rfl;rfl|(with_reducible apply d6);rfl;(apply Ld.sl c9;rfl;exact hS.blkC 0 rfl rfl);rfl|refine yDn (by with_reducible constructor) ?_|(with_reducible apply d7 hS c9 (i:=1));(iterate 8 rfl);exact (rfl:_=[_,_,_,_]);clear hS;intro w' hS;simp only [List.set] at hS)
  refine n9 (X:=Nat) (fun x=>[(44,.int .i64 (x:Nat))]) [0,3,42,43] rfl (fun _=>[]) (fun x=>x<=A.length/\∀ (i:Nat) a,i < x->A[i]?=some a->∀ j:Nat,(j:Int) < a.n->a26 (shs l) a j=true) (fun x=>A.length - x) 0 (by exact Fr.sub_of rfl) ⟨by omega,fun i a h=>by omega⟩ hS ?_;clear hS;rintro i w1 ⟨hi,hall⟩ hS;dsimp only [List.cons_append,List.nil_append] at hi hall hS |-;by_cases hlt:i < A.length
  ·obtain ⟨a,ha⟩:=j4 (l:=A) (i:=i) (by omega);have hrow:=f8 (f:=arC) ha;obtain ⟨b,off,rfl,hro⟩:=har.atF (i:=i) hlt;have hak:=hok i a ha;unfold Ar.ok at hak;unfold arC at hrow;have hfill:=fun w1 Γ (h:St G w w1 Γ) (q:Int) (hq:-1000000<=q/\q<=1000000)=>a5W (a:=a) (F:=nF) (Bs.of (h.bs hk)) (hL.now h) hr hq;unfold b0q arC at hfill
   repeat' (first|(with_reducible apply d5 c9);rfl;rfl;rfl|(with_reducible apply d6);rfl;(first|apply Ld.sc c9;rfl;exact hS.blkC 0 rfl rfl|apply Ld.st c9;rfl;exact hS.roR (by assumption) (by assumption);rfl);rfl|(with_reducible apply m8 c9);rfl;rfl;rfl;rfl;omega;rfl|refine yDn (by with_reducible constructor) ?_|(with_reducible apply f5 hS c9);rfl;rfl;rfl;clear hS;intro g w' hS|(with_reducible apply d7 hS c9 (i:=0));(iterate 8 rfl);exact (rfl:_=[_,_,_,_]);clear hS;intro w' hS;simp only [List.set] at hS|(with_reducible apply d8);rfl;all_goals (intro hb hp;try (exfalso;omega)))
   refine n9 (X:=Nat×Int) (fun x=>[(7,.int .i64 x.2)]) [0,3,6,42,43,44] rfl (fun _=>[]) (fun x=>(x.1:Int)<=a.n/\x.2=a.pg + (x.1:Nat)/\∀ j:Nat,j < x.1->a26 (shs l) a j=true) (fun x=>a.n.toNat - x.1) (0,a.pg) (by exact Fr.sub_of rfl) ⟨by show ((0:Nat):Int)<=a.n;omega,by show a.pg=a.pg + ((0:Nat):Int);omega,fun j h=>by omega⟩ hS ?_;clear hS;rintro ⟨j,q⟩ w1 ⟨hj,hq,hpj⟩ hS;dsimp only [List.cons_append,List.nil_append] at hj hq hpj hS |-;by_cases hjl:q < a.pg + a.n;rotate_left
   ·repeat' (first|(with_reducible apply d5 c9);rfl;rfl;rfl|(with_reducible apply d6);rfl;(apply Ld.sc c9;rfl;exact hS.blkC 0 rfl rfl);rfl|(with_reducible apply j7);rfl;rfl;omega;omega;rfl|refine yDn (by with_reducible constructor) ?_|(with_reducible apply d8);rfl;all_goals (intro hb hp;try (exfalso;omega)))
    refine i5 (i + 1) (by exact Fr.sub_of rfl) ⟨by omega,fun i' a' hi' ha' j' hj'=>?_⟩ hS.drop (by omega);rcases xo5.1 hi' with h|h
    ·exact hall i' a' h ha' j' hj'
    ·subst h;rw [ha] at ha'
     cases ha'
     exact hpj j' (by omega)
   ·cases hpk:a26 (shs l) a j with
    |false=>
     have hbad:(a1q (shs l) A && a03 A NF.length NS.length 0 es)=false:=by rw [a7C ha (by omega) hpk,xi5]
     unfold a26 at hpk;rw [<- hq] at hpk;have hd:(!(a0L (shs l) a.z q).isSome)=true:=by rw [hpk];rfl
     repeat' (first|(with_reducible apply d5 c9);rfl;rfl;rfl|(with_reducible apply d6);rfl;(apply Ld.sc c9;rfl;exact hS.blkC 0 rfl rfl);rfl|(with_reducible apply j7);rfl;rfl;omega;omega;rfl|refine yDn (by with_reducible constructor) ?_|(with_reducible apply d8);rfl;all_goals (intro hb hp;try (exfalso;omega)))
     (focus ((with_reducible apply d9 _ _ _ (by kernel_rfl) (by kernel_rfl) hS);(repeat' (first|(first|(with_reducible apply g8 c9);rfl;rfl|(with_reducible apply i7);rfl;(intro wd hd;replace hd:St _ _ wd _:=hd;(first|apply Ld.sc c9;rfl;exact hd.blkC 2 rfl rfl|apply Ld.st c9;rfl;exact hd.blkR 0 rfl;rfl));rfl)|(with_reducible apply s5);rfl;rfl;rfl;refine ⟨_,fun wd hd=>hfill _ _ hd _ (by omega),?_⟩));all_goals ((with_reducible apply k8);intro w' hS';clear hS;have hS:=hS';clear hS')))
     repeat' (first|(with_reducible apply d5 c9);rfl;rfl;rfl|refine yDn (by with_reducible constructor) ?_|(with_reducible apply i6);rfl;assumption)
     (refine l4 rfl ?_)
     refine ⟨by rw [hbad],_,_,_,hS.sub (by repeat (first|exact xk7 _|apply xl0)),fun h=>?_⟩;rw [hbad] at h
     cases h
    |true=>
     have hpk':=hpk;unfold a26 at hpk';rw [<- hq] at hpk';have hd:(!(a0L (shs l) a.z q).isSome)=false:=by rw [hpk'];rfl
     repeat' (first|(with_reducible apply d5 c9);rfl;rfl;rfl|(with_reducible apply d6);rfl;(apply Ld.sc c9;rfl;exact hS.blkC 0 rfl rfl);rfl|(with_reducible apply j7);rfl;rfl;omega;omega;rfl|refine yDn (by with_reducible constructor) ?_|(with_reducible apply d8);rfl;all_goals (intro hb hp;try (exfalso;omega)))
     (focus ((with_reducible apply d9 _ _ _ (by kernel_rfl) (by kernel_rfl) hS);(repeat' (first|(first|(with_reducible apply g8 c9);rfl;rfl|(with_reducible apply i7);rfl;(intro wd hd;replace hd:St _ _ wd _:=hd;(first|apply Ld.sc c9;rfl;exact hd.blkC 2 rfl rfl|apply Ld.st c9;rfl;exact hd.blkR 0 rfl;rfl));rfl)|(with_reducible apply s5);rfl;rfl;rfl;refine ⟨_,fun wd hd=>hfill _ _ hd _ (by omega),?_⟩));all_goals ((with_reducible apply k8);intro w' hS';clear hS;have hS:=hS';clear hS')))
     repeat' (first|(with_reducible apply d5 c9);rfl;rfl;rfl|(with_reducible apply j7);rfl;rfl;omega;omega;rfl|refine yDn (by with_reducible constructor) ?_|(with_reducible apply i9);rfl;assumption)
     refine i5 (j + 1,q + 1) (by exact Fr.sub_of rfl) ⟨by show ((j + 1:Nat):Int)<=a.n;omega,by show q + 1=a.pg + ((j + 1:Nat):Int);omega,fun j' hj'=>?_⟩ hS (by show a.n.toNat - (j + 1) < a.n.toNat - j;omega);rcases xo5.1 hj' with h|h
     ·exact hpj j' h
     ·subst h;exact hpk
  obtain rfl:i=A.length:=by omega
  rw [a8f (fun i a ha=>hall i a (f7 ha) ha),xi6];clear hall
  repeat' (first|(with_reducible apply d5 c9);rfl;rfl;rfl|(with_reducible apply d6);rfl;(apply Ld.sl c9;rfl;exact hS.blkC 0 rfl rfl);rfl|refine yDn (by with_reducible constructor) ?_|(with_reducible apply d8);rfl;all_goals (intro hb hp;try (exfalso;omega)))
  rename Nat=>g
  replace hS:St G w w1 (.blk g [.bool true,.slice pa A.length ca,.slice pe es.length ce]::lkS gl (.pointer (some ⟨gk,0,none⟩)) (.slice pF NF.length cF) (.slice pS NS.length cS) (room + k7 A) NF NS):=hS;refine n9 (Γ:=[]) (X:=Nat×Int×NL×NL) (fun x=>[(75,.int .i64 (x.1:Nat)),(10,.int .i64 x.2.1)]) [0,3,73,74] rfl (fun x=>.blk g [.bool true,.slice pa A.length ca,.slice pe es.length ce]::lkS gl (.pointer (some ⟨gk,0,none⟩)) (.slice pF NF.length cF) (.slice pS NS.length cS) (room + k7 A) x.2.2.1 x.2.2.2) (fun x=>x.1<=es.length/\((x.1:Nat):Int)<=x.2.1/\x.2.1<=255/\a03 A NF.length NS.length 0 es=a03 A NF.length NS.length x.2.1 (es.drop x.1)/\Grown NF x.2.2.1 1 ((es.take x.1).map (a1i ⟨true,A,es⟩))/\Grown NS x.2.2.2 2 ((es.take x.1).map (a1i ⟨true,A,es⟩))) (fun x=>es.length - x.1) (0,0,NF,NS) (by exact Fr.sub_of rfl) ⟨xf9 _,xl9 _,by show (0:Int)<=255;omega,by simp,Grown.refl _ _,Grown.refl _ _⟩ (by simpa only [List.append_nil] using hS) ?_;clear hS hi hlt;rintro ⟨i,last,MF,MS⟩ w1 ⟨hi,hil,hl5,hents,hGF,hGS⟩ hS;dsimp only at hi hil hl5 hents hGF hGS hS |-;rw [List.append_nil] at hS;unfold lkS at hS;rw [hents];by_cases hlt:i < es.length;rotate_left
  ·obtain rfl:i=es.length:=by omega
   repeat' (first|(with_reducible apply d5 c9);rfl;rfl;rfl|refine yDn (by with_reducible constructor) ?_|(with_reducible apply d8);rfl;all_goals (intro hb hp;try (exfalso;omega)))
   (refine l4 rfl ?_)
   rw [List.drop_length];rw [xg1] at hGF hGS;exact ⟨rfl,MF,MS,_,hS.drop,fun _=>⟨rfl,hGF,hGS⟩⟩
  obtain ⟨e,he⟩:=j4 (l:=es) (i:=i) (by omega);have hrow:=f8 (f:=enC) he;obtain ⟨b,off,rfl,hro⟩:=hen.atF (i:=i) hlt;have hfind:=fun w1 (h:Sl nF w1 4 (.slice pa A.length ca) (A.map arC))=>b4F e.page h;rw [a1r hc] at hfind;unfold a41 arC at hfind;have hstep:=a6D (A:=A) (nf:=NF.length) (ns:=NS.length) (last:=last) he;rw [hstep];unfold a1C;have hnm:a1i ⟨true,A,es⟩ e=(e,(m9 A e.page).getD a0r):=rfl;have htk:=o7 he
  cases hsm:(m9 A e.page).isSome with
  |false=>
   rw [hsm] at hfind;have hbad:((false && decide (last < e.page/\((e.kind=1/\0<=e.at_/\e.at_ < (NF.length:Int))\/(e.kind=2/\0<=e.at_/\e.at_ < (NS.length:Int))))) && a03 A NF.length NS.length e.page (es.drop (i + 1)))=false:=rfl;obtain ⟨epg,ekd,eat⟩:=e;unfold enC at hrow;dsimp only at hrow hfind hbad |-
   repeat' (first|(with_reducible apply d5 c9);rfl;rfl;rfl|(with_reducible apply d6);rfl;(first|apply Ld.sc c9;rfl;(first|exact hS.blkC 0 rfl rfl|exact hS.blkC 1 rfl rfl)|apply Ld.sl c9;rfl;(first|exact hS.blkC 1 rfl rfl|exact hS.blkC 3 rfl rfl)|apply Ld.st c9;rfl;exact hS.roR (by assumption) (by assumption);rfl);rfl|(with_reducible apply m8 c9);rfl;rfl;rfl;rfl;omega;rfl|refine yDn (by with_reducible constructor) ?_|(with_reducible apply a0a);(iterate 4 rfl);rfl;rfl|(with_reducible apply a0P);(iterate 5 rfl)|(with_reducible apply j9);rfl;rfl;rfl;rfl|(with_reducible apply i6);rfl;rfl|(with_reducible apply f5 hS c9);rfl;rfl;rfl;clear hS;intro g w' hS|(with_reducible apply d7 hS c9 (i:=0));(iterate 8 rfl);(first|exact (rfl:_=[_,_,_])|exact (rfl:_=[_,_,_,_]));clear hS;intro w' hS;simp only [List.set] at hS|(with_reducible apply d8);rfl;all_goals (intro hb hp;try (exfalso;omega))|(with_reducible apply f9 hS);rfl;rfl;rfl;refine ⟨_,hfind _ (har.now hS),?_⟩;clear hS;intro w' hS)
   all_goals ((apply a22;(repeat (first|exact ResL.nil|apply ResL.tmp;rfl));(refine ⟨by rw [hbad],_,_,_,hS.sub (by repeat (first|exact xk7 _|apply xl0)),fun h=>?_⟩);rw [hbad] at h;cases h))
  |true=>
   rw [hsm] at hfind;have hpg5:e.page<=255:=by
    obtain ⟨a,ha⟩:=xh7.1 hsm;have h1:=xi0 ha;have h2:=(a39 hc ha).1;unfold y8 at h1;rw [xb2] at h1;unfold Ar.ok at h2;unfold Ar.fin at h1;omega
   obtain ⟨a,hag⟩:∃ a,(m9 A e.page).getD a0r=a:=⟨_,rfl⟩;rw [hag] at hfind hnm;obtain ⟨epg,ekd,eat⟩:=e;unfold enC at hrow;dsimp only at hrow hfind hpg5 hnm |-;by_cases hk9:last < epg/\((ekd=1/\0<=eat/\eat < (NF.length:Int))\/(ekd=2/\0<=eat/\eat < (NS.length:Int)));rotate_left
   ·have hbad:((true && decide (last < epg/\((ekd=1/\0<=eat/\eat < (NF.length:Int))\/(ekd=2/\0<=eat/\eat < (NS.length:Int))))) && a03 A NF.length NS.length epg (es.drop (i + 1)))=false:=by rw [xi7 hk9];rfl
    repeat' (first|(with_reducible apply d5 c9);rfl;rfl;rfl|(with_reducible apply d6);rfl;(first|apply Ld.sc c9;rfl;(first|exact hS.blkC 0 rfl rfl|exact hS.blkC 1 rfl rfl)|apply Ld.sl c9;rfl;(first|exact hS.blkC 1 rfl rfl|exact hS.blkC 3 rfl rfl)|apply Ld.st c9;rfl;exact hS.roR (by assumption) (by assumption);rfl);rfl|(with_reducible apply m8 c9);rfl;rfl;rfl;rfl;omega;rfl|refine yDn (by with_reducible constructor) ?_|((with_reducible apply l8);(iterate 4 rfl);first|rfl|assumption)|(with_reducible apply a0a);(iterate 4 rfl);(first|rfl|assumption);rfl|(with_reducible apply a0P);(iterate 5 rfl)|(with_reducible apply j9);rfl;(first|rfl|assumption);rfl;rfl|(with_reducible apply i4);rfl;(first|rfl|assumption);rfl;rfl|(with_reducible apply i6);rfl;rfl|(with_reducible apply f5 hS c9);rfl;rfl;rfl;clear hS;intro g w' hS|(with_reducible apply d7 hS c9 (i:=0));(iterate 8 rfl);(first|exact (rfl:_=[_,_,_])|exact (rfl:_=[_,_,_,_]));clear hS;intro w' hS;simp only [List.set] at hS|(with_reducible apply s7);rfl;rfl;rfl;all_goals (intro hb hp;try (exfalso;omega))|(with_reducible apply a1v);rfl;rfl;rfl;all_goals (intro hb hp;try (exfalso;omega))|(with_reducible apply d8);rfl;all_goals (intro hb hp;try (exfalso;omega))|(with_reducible apply f9 hS);rfl;rfl;rfl;refine ⟨_,hfind _ (har.now hS),?_⟩;clear hS;intro w' hS)
    all_goals ((apply a22;(repeat (first|exact ResL.nil|apply ResL.tmp;rfl));(refine ⟨by rw [hbad],_,_,_,hS.sub (by repeat (first|exact xk7 _|apply xl0)),fun h=>?_⟩);rw [hbad] at h;cases h))
   rw [xi8 hk9,xi6,xi6];obtain ⟨hk1,hk2⟩:=hk9;rcases hk2 with ⟨rfl,h0,h1⟩|⟨rfl,h0,h1⟩
   ·obtain ⟨j,rfl⟩:=xo6 h0;obtain ⟨y,hy⟩:∃ y,MF[j]?=some y:=j4 (by rw [hGF.1];omega);have hyl:y.2.length<=2000:=by
     obtain ⟨x0,hx0⟩:=j4 (l:=NF) (i:=j) (by omega);obtain ⟨v0,hv0⟩:=hGF.2 j x0 hx0;rw [hy] at hv0
     cases hv0
     have h8:=hF x0 (xc8 hx0);have h9:=xm2 (fun (n:Nm)=>decide (n.1.kind=1/\n.1.at_=((j:Nat):Int))) ((es.take i).map (a1i ⟨true,A,es⟩));rw [xi3,xa1] at h9;rw [xe5];omega
    replace hS:=hS.perm ((((((a6g hy).append_right (nlR MS)).cons _).cons _).cons _).cons _);have hrowF:(nlC MF)[j]?=some [y.1]:=f8 (f:=fun (x:Value×List Nm)=>[x.1]) hy;have hput:=fun v=>hGF.put (n:=((⟨epg,1,(j:Nat)⟩:En),a)) (v:=v) rfl rfl hy;have hskip:=hGS.skip (n:=((⟨epg,1,(j:Nat)⟩:En),a)) (by show ¬(1:Int)=_;omega);obtain ⟨vy,ny⟩:=y;unfold nsA at hS;dsimp only [List.cons_append] at hS hrowF hyl hput;obtain ⟨py,cy,rfl⟩:=hS.rowSlice 4 rfl;rw [xi3] at hS hrowF;obtain ⟨gF,rfl⟩:=hS.rowSome 2 rfl (by omega)
    repeat' (first|(with_reducible apply d5 c9);rfl;rfl;rfl|(with_reducible apply d6);rfl;(first|apply Ld.sc c9;rfl;(first|exact hS.blkC 0 rfl rfl|exact hS.blkC 1 rfl rfl)|apply Ld.sl c9;rfl;(first|exact hS.blkC 1 rfl rfl|exact hS.blkC 3 rfl rfl)|apply Ld.st c9;rfl;exact hS.roR (by assumption) (by assumption);rfl);rfl|(with_reducible apply m8 c9);rfl;rfl;rfl;rfl;omega;rfl|refine yDn (by with_reducible constructor) ?_|((with_reducible apply l8);(iterate 4 rfl);first|rfl|assumption)|(with_reducible apply a0a);(iterate 4 rfl);rfl;rfl|(with_reducible apply i4);rfl;(first|rfl|assumption);rfl;rfl|(with_reducible apply i9);rfl;rfl|(with_reducible apply f5 hS c9);rfl;rfl;rfl;clear hS;intro g w' hS|(with_reducible apply d7 hS c9 (i:=0));(iterate 8 rfl);(first|exact (rfl:_=[_,_,_])|exact (rfl:_=[_,_,_,_]));clear hS;intro w' hS;simp only [List.set] at hS|(with_reducible apply s7);rfl;rfl;rfl;all_goals (intro hb hp;try (exfalso;omega))|(with_reducible apply d8);rfl;all_goals (intro hb hp;try (exfalso;omega))|(with_reducible apply f9 hS);rfl;rfl;rfl;refine ⟨_,hfind _ (har.now hS),?_⟩;clear hS;intro w' hS)
    refine a4d 6 14 15 rfl hS (by kernel_rfl) ?_;intro w10 hS';clear hS;have hS:=hS';clear hS';simp only [xl5,xl6];have hH:=hS.sub (xl7 [_,_,_,_,_,_] _)
    ((with_reducible apply q8 (nn 0) c9);rfl;kernel_rfl;exact (fun _ _ _ h=>h);exact xd1 hH;rfl;rfl)
    ((with_reducible apply q8 (nn 1) c9);rfl;kernel_rfl;exact (fun _ _ _ h=>h);exact xd1 hH;rfl;rfl)
    ((with_reducible apply s6 (nn 2));rfl;kernel_rfl;kernel_rfl;rfl;exact (fun _ _ _ h=>h);exact hH;rfl;(intro w2 hw2;(replace hw2:St _ _ w2 _:=hw2;(apply Ld.sc c9;rfl;exact hw2.blkC 1 rfl rfl)));rfl)
    ((with_reducible apply q8 (nn 3) c9);rfl;kernel_rfl;exact (fun _ _ _ h=>h);exact xd1 hH;rfl;rfl)
    ((with_reducible apply q8 (nn 4) c9);rfl;kernel_rfl;exact (fun _ _ _ h=>h);exact xd1 hH;rfl;rfl)
    ((with_reducible apply s6 (nn 5));rfl;kernel_rfl;kernel_rfl;rfl;exact (fun _ _ _ h=>h);exact hH;rfl;(intro w2 hw2;(replace hw2:St _ _ w2 _:=hw2;(apply Ld.sc c9;rfl;exact hw2.blkC 1 rfl rfl)));rfl)
    ((with_reducible apply a4L (nn 6));rfl;kernel_rfl;kernel_rfl;kernel_rfl;rfl;exact (fun _ _ _ h=>h);exact xd1 hH;(intro a ha;exact a7y c9 (j:=j) rfl rfl rfl rfl (by omega) a ha _);rfl)
    ((with_reducible apply s6 (nn 7));rfl;kernel_rfl;kernel_rfl;rfl;exact (fun _ _ _ h=>h);exact hH;rfl;(intro w2 hw2;(replace hw2:St _ _ w2 _:=hw2;apply Ld.sl c9;rfl;exact hw2.rowC0 4 rfl hrowF rfl));rfl)
    ((with_reducible apply s6 (nn 8));rfl;kernel_rfl;kernel_rfl;rfl;exact (fun _ _ _ h=>h);exact hH;rfl;(intro w2 hw2;(replace hw2:St _ _ w2 _:=hw2;(apply Ld.st c9;rfl;exact hw2.blkR 1 rfl;rfl)));rfl)
    ((with_reducible apply s6 (nn 9));rfl;kernel_rfl;kernel_rfl;rfl;exact (fun _ _ _ h=>h);exact hH;rfl;(intro w2 hw2;(replace hw2:St _ _ w2 _:=hw2;(apply Ld.st c9;rfl;exact hw2.blkR 0 rfl;rfl)));rfl)
    ((with_reducible apply a3m (nn 10) c9);rfl;kernel_rfl;kernel_rfl;kernel_rfl;rfl;exact (fun _ _ _ _ h=>h);exact xd1 hH;rfl;rfl;exact (rfl:_=some [_,_,_,_,_,_,_]);rfl)
    refine z9 (i:=11) (by kernel_rfl) ?_;refine t9 rfl (a0b hS c9 rfl rfl rfl rfl rfl rfl) rfl ?_;rintro _ w' ⟨g9,rfl,hS'⟩;clear hS;have hS:=hS';clear hS';have hH:=hS.drop.sub (xl7 [_,_,_,_,_,_] _);refine ⟨xd1 (xd1 hH),?_⟩;refine z9 (i:=12) (by kernel_rfl) ?_;refine t9 rfl (a0D hS c9 (i:=7) rfl rfl rfl rfl (hS.rowRo 0 rfl) rfl (by simp only [xi3];omega)) rfl ?_;rintro _ w' ⟨p',c',rfl,hS'⟩;simp only [List.set] at hS';clear hS;have hS:=hS';clear hS';have hH:=hS.drop.sub (xl7 [_,_,_,_,_,_] _);refine ⟨xd1 (xd1 hH),?_⟩
    ((with_reducible apply a4L (nn 13));rfl;kernel_rfl;kernel_rfl;kernel_rfl;rfl;exact (fun _ _ _ h=>h);exact xd1 hH;(intro a ha;exact a7y c9 (j:=j) rfl rfl rfl rfl (by omega) a ha _);rfl)
    refine z9 (i:=14) (by kernel_rfl) ?_;refine a2N (Φ:=fun _ w'=>St _ _ w' _) rfl (a3a hS c9 (i:=4 + 1) (kk:=j) (j:=0) rfl rfl rfl rfl rfl hrowF (a08 rfl) rfl (xd2 _) rfl) ?_;intro _ w' hS';simp only [List.set,p9] at hS';clear hS;have hS:=hS';clear hS';refine ⟨xd4 rfl,?_⟩;refine a3F (by kernel_rfl) ?_
    repeat' (first|(with_reducible apply d5 c9);rfl;rfl;rfl|(with_reducible apply j7);rfl;rfl;omega;omega;rfl|refine yDn (by with_reducible constructor) ?_)
    refine i5 (i + 1,epg,MF.set j (.slice p' (ny.length + 1) c',ny++[((⟨epg,1,(j:Nat)⟩:En),a)]),MS) (by exact Fr.sub_of rfl) ⟨by show i + 1<=es.length;omega,by show ((i + 1:Nat):Int)<=epg;omega,hpg5,rfl,by rw [htk,xj3,xb9,xp2,hnm];exact hput _,by rw [htk,xj3,xb9,xp2,hnm];exact hskip⟩ ?_ (by show es.length - (i + 1) < es.length - i;omega);rw [List.append_nil];unfold lkS;dsimp only;rw [b0F];rw [xi3] at hS;have hnc:ny.map nmC++[[.int .i64 epg,.int .i64 1,.int .i64 (j:Nat),.int .i64 a.pg,.int .i64 a.n,.int .i64 a.prot,.bool a.z]]=(ny++[((⟨epg,1,(j:Nat)⟩:En),a)]).map nmC:=by rw [xj3];rfl
    rw [hnc] at hS;exact hS.drop.drop.drop.perm ((((((b0x (y:=(.slice p' (ny.length + 1) c',ny++[((⟨epg,1,(j:Nat)⟩:En),a)])) hy).append_right (nlR MS)).cons _).cons _).cons _).cons _)
   ·obtain ⟨j,rfl⟩:=xo6 h0;obtain ⟨y,hy⟩:∃ y,MS[j]?=some y:=j4 (by rw [hGS.1];omega);have hyl:y.2.length<=2000:=by
     obtain ⟨x0,hx0⟩:=j4 (l:=NS) (i:=j) (by omega);obtain ⟨v0,hv0⟩:=hGS.2 j x0 hx0;rw [hy] at hv0
     cases hv0
     have h8:=hSl x0 (xc8 hx0);have h9:=xm2 (fun (n:Nm)=>decide (n.1.kind=2/\n.1.at_=((j:Nat):Int))) ((es.take i).map (a1i ⟨true,A,es⟩));rw [xi3,xa1] at h9;rw [xe5];omega
    replace hS:=hS.perm (((((((a6g hy).append_left (nlR MF)).trans xm1).cons _).cons _).cons _).cons _);have hrowF:(nlC MS)[j]?=some [y.1]:=f8 (f:=fun (x:Value×List Nm)=>[x.1]) hy;have hput:=fun v=>hGS.put (n:=((⟨epg,2,(j:Nat)⟩:En),a)) (v:=v) rfl rfl hy;have hskip:=hGF.skip (n:=((⟨epg,2,(j:Nat)⟩:En),a)) (by show ¬(2:Int)=_;omega);obtain ⟨vy,ny⟩:=y;unfold nsA at hS;dsimp only [List.cons_append] at hS hrowF hyl hput;obtain ⟨py,cy,rfl⟩:=hS.rowSlice 4 rfl;rw [xi3] at hS hrowF;obtain ⟨gF,rfl⟩:=hS.rowSome 3 rfl (by omega)
    repeat' (first|(with_reducible apply d5 c9);rfl;rfl;rfl|(with_reducible apply d6);rfl;(first|apply Ld.sc c9;rfl;(first|exact hS.blkC 0 rfl rfl|exact hS.blkC 1 rfl rfl)|apply Ld.sl c9;rfl;(first|exact hS.blkC 1 rfl rfl|exact hS.blkC 3 rfl rfl)|apply Ld.st c9;rfl;exact hS.roR (by assumption) (by assumption);rfl);rfl|(with_reducible apply m8 c9);rfl;rfl;rfl;rfl;omega;rfl|refine yDn (by with_reducible constructor) ?_|((with_reducible apply l8);(iterate 4 rfl);first|rfl|assumption)|(with_reducible apply j9);rfl;rfl;rfl;rfl|(with_reducible apply i4);rfl;(first|rfl|assumption);rfl;rfl|(with_reducible apply i6);rfl;rfl|(with_reducible apply f5 hS c9);rfl;rfl;rfl;clear hS;intro g w' hS|(with_reducible apply d7 hS c9 (i:=0));(iterate 8 rfl);(first|exact (rfl:_=[_,_,_])|exact (rfl:_=[_,_,_,_]));clear hS;intro w' hS;simp only [List.set] at hS|(with_reducible apply s7);rfl;rfl;rfl;all_goals (intro hb hp;try (exfalso;omega))|(with_reducible apply d8);rfl;all_goals (intro hb hp;try (exfalso;omega))|(with_reducible apply f9 hS);rfl;rfl;rfl;refine ⟨_,hfind _ (har.now hS),?_⟩;clear hS;intro w' hS)
    refine a4d 6 14 15 rfl hS (by kernel_rfl) ?_;intro w10 hS';clear hS;have hS:=hS';clear hS';simp only [xl5,xl6];have hH:=hS.sub (xl7 [_,_,_,_,_,_] _)
    ((with_reducible apply q8 (nn 0) c9);rfl;kernel_rfl;exact (fun _ _ _ h=>h);exact xd1 hH;rfl;rfl)
    ((with_reducible apply q8 (nn 1) c9);rfl;kernel_rfl;exact (fun _ _ _ h=>h);exact xd1 hH;rfl;rfl)
    ((with_reducible apply s6 (nn 2));rfl;kernel_rfl;kernel_rfl;rfl;exact (fun _ _ _ h=>h);exact hH;rfl;(intro w2 hw2;(replace hw2:St _ _ w2 _:=hw2;(apply Ld.sc c9;rfl;exact hw2.blkC 1 rfl rfl)));rfl)
    ((with_reducible apply q8 (nn 3) c9);rfl;kernel_rfl;exact (fun _ _ _ h=>h);exact xd1 hH;rfl;rfl)
    ((with_reducible apply q8 (nn 4) c9);rfl;kernel_rfl;exact (fun _ _ _ h=>h);exact xd1 hH;rfl;rfl)
    ((with_reducible apply s6 (nn 5));rfl;kernel_rfl;kernel_rfl;rfl;exact (fun _ _ _ h=>h);exact hH;rfl;(intro w2 hw2;(replace hw2:St _ _ w2 _:=hw2;(apply Ld.sc c9;rfl;exact hw2.blkC 1 rfl rfl)));rfl)
    ((with_reducible apply a4L (nn 6));rfl;kernel_rfl;kernel_rfl;kernel_rfl;rfl;exact (fun _ _ _ h=>h);exact xd1 hH;(intro a ha;exact a7y c9 (j:=j) rfl rfl rfl rfl (by omega) a ha _);rfl)
    ((with_reducible apply s6 (nn 7));rfl;kernel_rfl;kernel_rfl;rfl;exact (fun _ _ _ h=>h);exact hH;rfl;(intro w2 hw2;(replace hw2:St _ _ w2 _:=hw2;apply Ld.sl c9;rfl;exact hw2.rowC0 5 rfl hrowF rfl));rfl)
    ((with_reducible apply s6 (nn 8));rfl;kernel_rfl;kernel_rfl;rfl;exact (fun _ _ _ h=>h);exact hH;rfl;(intro w2 hw2;(replace hw2:St _ _ w2 _:=hw2;(apply Ld.st c9;rfl;exact hw2.blkR 1 rfl;rfl)));rfl)
    ((with_reducible apply s6 (nn 9));rfl;kernel_rfl;kernel_rfl;rfl;exact (fun _ _ _ h=>h);exact hH;rfl;(intro w2 hw2;(replace hw2:St _ _ w2 _:=hw2;(apply Ld.st c9;rfl;exact hw2.blkR 0 rfl;rfl)));rfl)
    ((with_reducible apply a3m (nn 10) c9);rfl;kernel_rfl;kernel_rfl;kernel_rfl;rfl;exact (fun _ _ _ _ h=>h);exact xd1 hH;rfl;rfl;exact (rfl:_=some [_,_,_,_,_,_,_]);rfl)
    refine z9 (i:=11) (by kernel_rfl) ?_;refine t9 rfl (a0b hS c9 rfl rfl rfl rfl rfl rfl) rfl ?_;rintro _ w' ⟨g9,rfl,hS'⟩;clear hS;have hS:=hS';clear hS';have hH:=hS.drop.sub (xl7 [_,_,_,_,_,_] _);refine ⟨xd1 (xd1 hH),?_⟩;refine z9 (i:=12) (by kernel_rfl) ?_;refine t9 rfl (a0D hS c9 (i:=7) rfl rfl rfl rfl (hS.rowRo 0 rfl) rfl (by simp only [xi3];omega)) rfl ?_;rintro _ w' ⟨p',c',rfl,hS'⟩;simp only [List.set] at hS';clear hS;have hS:=hS';clear hS';have hH:=hS.drop.sub (xl7 [_,_,_,_,_,_] _);refine ⟨xd1 (xd1 hH),?_⟩
    ((with_reducible apply a4L (nn 13));rfl;kernel_rfl;kernel_rfl;kernel_rfl;rfl;exact (fun _ _ _ h=>h);exact xd1 hH;(intro a ha;exact a7y c9 (j:=j) rfl rfl rfl rfl (by omega) a ha _);rfl)
    refine z9 (i:=14) (by kernel_rfl) ?_;refine a2N (Φ:=fun _ w'=>St _ _ w' _) rfl (a3a hS c9 (i:=5 + 1) (kk:=j) (j:=0) rfl rfl rfl rfl rfl hrowF (a08 rfl) rfl (xd2 _) rfl) ?_;intro _ w' hS';simp only [List.set,p9] at hS';clear hS;have hS:=hS';clear hS';refine ⟨xd4 rfl,?_⟩;refine a3F (by kernel_rfl) ?_
    repeat' (first|(with_reducible apply d5 c9);rfl;rfl;rfl|(with_reducible apply j7);rfl;rfl;omega;omega;rfl|refine yDn (by with_reducible constructor) ?_)
    refine i5 (i + 1,epg,MF,MS.set j (.slice p' (ny.length + 1) c',ny++[((⟨epg,2,(j:Nat)⟩:En),a)])) (by exact Fr.sub_of rfl) ⟨by show i + 1<=es.length;omega,by show ((i + 1:Nat):Int)<=epg;omega,hpg5,rfl,by rw [htk,xj3,xb9,xp2,hnm];exact hskip,by rw [htk,xj3,xb9,xp2,hnm];exact hput _⟩ ?_ (by show es.length - (i + 1) < es.length - i;omega);rw [List.append_nil];unfold lkS;dsimp only;rw [b0F];rw [xi3] at hS;have hnc:ny.map nmC++[[.int .i64 epg,.int .i64 2,.int .i64 (j:Nat),.int .i64 a.pg,.int .i64 a.n,.int .i64 a.prot,.bool a.z]]=(ny++[((⟨epg,2,(j:Nat)⟩:En),a)]).map nmC:=by rw [xj3];rfl
    rw [hnc] at hS;exact hS.drop.drop.drop.perm (((((List.perm_middle.symm.trans ((b0x (y:=(.slice p' (ny.length + 1) c',ny++[((⟨epg,2,(j:Nat)⟩:En),a)])) hy).append_left (nlR MF))).cons _).cons _).cons _).cons _)
theorem Bs.nowM {F:Nat->Prop} {w0 w:World} {Θ Γ:List Asr} {p:Addr} {v:Value} (hb:Bs F w0 p v) (h:St F w0 w (Θ++Γ)):Bs (fps Θ) w p v:=⟨h.bs hb,fun ⟨A,hA,e⟩=>by
 rcases h.own A (xe1 _ hA) _ e with h1|h1
 ·have:=World.block_lt_of_cell? w0 p hb.cell;omega
 ·exact hb.nf h1⟩
structure SpF (F:Nat->Prop) (w:World) (p:Sp):Prop where
 ar:Sl F w 4 p.va (p.s.areas.map arC)
 en:Sl F w 3 p.ve (p.s.entries.map enC)
theorem SpF.nowM {F:Nat->Prop} {w w':World} {Θ Γ:List Asr} {p:Sp} (h:SpF F w p) (hS:St F w w' (Θ++Γ)):SpF (fps Θ) w' p:=⟨h.ar.nowM hS,h.en.nowM hS⟩
def a04 (l:List Sc):List Nm:=l.flatMap fun s=>s.entries.map (a1i s)
theorem a1T (l:List Sc) (kind:Int) (i:Nat):(a04 l).filter (fun (n:Nm)=>decide (n.1.kind=kind/\n.1.at_=((i:Nat):Int)))=j8 l kind i:=by
 induction l with
 |nil=>rfl
 |cons s l ih=>
  have h1:=a9w s kind i;unfold a04 j8 at *;rw [xk8,xk8,xj2,ih,h1,xk8,xk9,List.append_nil]
theorem a83 {A:List Ar} {nf ns:Int} (hc:g6 A=0):∀ {es:List En} {last:Int},a03 A nf ns last es=true->last<=255->last + (es.length:Int)<=255
 |[],last,_,h=>by simpa using h
 |e::es,last,h,_=>by
  replace h:(a1C A nf ns last e && a03 A nf ns e.page es)=true:=h;rw [xb1] at h;have h1:=h.1;unfold a1C at h1;rw [xb1,xb2] at h1;obtain ⟨hs,hl,-⟩:=h1;obtain ⟨a,ha⟩:=xh7.1 hs;have h2:=xi0 ha;have h3:=(a39 hc ha).1;unfold y8 at h2;rw [xb2] at h2;unfold Ar.ok at h3;unfold Ar.fin at h2;have:=a83 hc h.2 (by omega);rw [xb0];omega
theorem a3j {l:List Sh} {nf ns:Int} {s:Sc} (h:r6 l nf ns s=true):s.entries.length<=255/\0<=k7 s.areas/\k7 s.areas<=70000:=by
 unfold r6 at h;by_cases hl:s.live=true
 ·rw [xe6 hl,xb1,xb1,xb2] at h;obtain ⟨hAl,hgood⟩:=k9.1 h.1;have h1:=a83 h.1 h.2.2 (by omega);have hsum:=a3Z (y9 hgood) s.areas.length;rw [xg1] at hsum;omega
 ·rw [xe7 hl,xb2] at h;rw [h.1,h.2];simp [k7]
theorem a3P (l:List Sc) (s:Sc):o8 (l++[s])=o8 l + k7 s.areas:=by unfold o8;simp
theorem a57 (l:List Sc) (s:Sc):a04 (l++[s])=a04 l++s.entries.map (a1i s):=by unfold a04;simp
theorem a4H {l:List Sh} {nf ns:Int}:∀ {L:List Sc},L.all (r6 l nf ns)=true->(a04 L).length<=255 * L.length/\0<=o8 L/\o8 L<=70000 * (L.length:Int)
 |[],_=>by simp [a04,o8]
 |s::L,h=>by
  rw [xi9,xb1] at h;have h1:=a3j h.1;have h2:=a4H h.2;have e1:a04 (s::L)=s.entries.map (a1i s)++a04 L:=by unfold a04;simp
  have e2:o8 (s::L)=k7 s.areas + o8 L:=by unfold o8;simp
  rw [e1,e2,xe5,xi3,xb0];omega
theorem b40 {F:Nat->Prop} {w0 w:World} {Γ:List Asr} {gl gk gc:Nat} {vsh vF vS:Value} {room:Int} {l:List (Sh×Value)} {NF NS:NL} {p:Sp}
  (hS0:St F w0 w (lkS gl (.pointer (some ⟨gk,0,none⟩)) vF vS room NF NS++Γ)) (hc:Bs (fps (lkS gl (.pointer (some ⟨gk,0,none⟩)) vF vS room NF NS)) w ⟨gc,0,none⟩ (.pointer (some ⟨gl,0,none⟩))) (hk:Bs (fps (lkS gl (.pointer (some ⟨gk,0,none⟩)) vF vS room NF NS)) w ⟨gk,0,none⟩ vsh) (hL:ShsF (fps (lkS gl (.pointer (some ⟨gk,0,none⟩)) vF vS room NF NS)) w l vsh) (hr:a0u 0 (shs l)=true)
  (hp:SpF (fps (lkS gl (.pointer (some ⟨gk,0,none⟩)) vF vS room NF NS)) w p) (hrm:0<=room/\room<=1000000) (hF:∀ x ∈ NF,x.2.length<=1000) (hSl:∀ x ∈ NS,x.2.length<=1000) :
  Fn Tryz.prog 126 [.agg (spC p).toArray,.pointer (some ⟨gc,0,none⟩)] w (fun v w'=>v=.bool (!r6 (shs l) NF.length NS.length p.s)/\∃ NF' NS' room',St (fps (lkS gl (.pointer (some ⟨gk,0,none⟩)) vF vS room NF NS)) w w' (lkS gl (.pointer (some ⟨gk,0,none⟩)) vF vS room' NF' NS')/\(r6 (shs l) NF.length NS.length p.s=true->room'=room + k7 p.s.areas/\Grown NF NF' 1 (p.s.entries.map (a1i p.s))/\Grown NS NS' 2 (p.s.entries.map (a1i p.s)))):=by
 have hS:=St.startM hS0;obtain ⟨pa,ca,hva⟩:=(hp.ar.now hS).form;obtain ⟨pe,ce,hve⟩:=(hp.en.now hS).form;obtain ⟨s,va,ve⟩:=p;dsimp only at hva hve;subst hva hve;have hcall:∀ w1 Γ1,St (fps (lkS gl (.pointer (some ⟨gk,0,none⟩)) vF vS room NF NS)) w w1 (lkS gl (.pointer (some ⟨gk,0,none⟩)) vF vS room NF NS++Γ1)->_:=fun w1 Γ1 h=>b3J h (hk.nowM h) (hL.nowM h) hr (hp.ar.nowM h) (hp.en.nowM h) hrm hF hSl;generalize hG:fps (lkS gl (.pointer (some ⟨gk,0,none⟩)) vF vS room NF NS)=G at hS hk hL hp hcall hc |-;unfold spC at hcall |-;dsimp only at hcall |-;refine yEn Tryz.func126 Tryz.ntmps126 (by kernel_rfl) (by kernel_rfl) rfl rfl ?_
 repeat' (first|(with_reducible apply d5 c9);rfl;rfl;rfl|(with_reducible apply d6);rfl;(first|apply Ld.sc c9;rfl;exact hS.bs (by assumption)|apply Ld.st c9;rfl;exact hS.blkR 0 rfl;rfl);rfl|refine yDn (by with_reducible constructor) ?_|(with_reducible apply j6 hS);rfl;rfl;rfl;clear hS;intro g w' hS)
 have hS2:=hS.perm (xl4 _ _).symm
 repeat' (first|(with_reducible apply d5 c9);rfl;rfl;rfl|refine yDn (by with_reducible constructor) ?_|(with_reducible apply l9);rfl;rfl;rfl;refine ⟨_,hcall _ _ hS2,?_⟩;rintro _ w2 ⟨rfl,NF',NS',room',h2,hg⟩)
 (refine l4 rfl ?_)
 rw [<- hG] at h2;exact ⟨rfl,NF',NS',room',(St.transM hS2 h2).sub (xl7 _ _),hg⟩
theorem b3t {F:Nat->Prop} {w0 w:World} {Γ:List Asr} {gl gk gc:Nat} {vsh vF vS vsp:Value} {l:List (Sh×Value)} {NF NS:NL} {sp:List Sp}
  (hS0:St F w0 w (lkS gl (.pointer (some ⟨gk,0,none⟩)) vF vS 0 NF NS++Γ)) (hc:Bs (fps (lkS gl (.pointer (some ⟨gk,0,none⟩)) vF vS 0 NF NS)) w ⟨gc,0,none⟩ (.pointer (some ⟨gl,0,none⟩))) (hk:Bs (fps (lkS gl (.pointer (some ⟨gk,0,none⟩)) vF vS 0 NF NS)) w ⟨gk,0,none⟩ vsh) (hL:ShsF (fps (lkS gl (.pointer (some ⟨gk,0,none⟩)) vF vS 0 NF NS)) w l vsh) (hr:a0u 0 (shs l)=true)
  (hsl:Sl (fps (lkS gl (.pointer (some ⟨gk,0,none⟩)) vF vS 0 NF NS)) w 3 vsp (sp.map spC)) (hp:∀ p ∈ sp,SpF (fps (lkS gl (.pointer (some ⟨gk,0,none⟩)) vF vS 0 NF NS)) w p) (h4:sp.length<=4) (hF:∀ x ∈ NF,x.2=[]) (hSl:∀ x ∈ NS,x.2=[]) :
  Fn Tryz.prog 173 [vsp,.func (.func 126) #[] #[.pointer (some ⟨gc,0,none⟩)]] w (fun v w'=>(∃ i:Int,v=.int .i64 i/\decide (0<=i)=!(sp.map (·.s)).all (r6 (shs l) NF.length NS.length))/\∃ NF' NS' room',St (fps (lkS gl (.pointer (some ⟨gk,0,none⟩)) vF vS 0 NF NS)) w w' (lkS gl (.pointer (some ⟨gk,0,none⟩)) vF vS room' NF' NS')/\((sp.map (·.s)).all (r6 (shs l) NF.length NS.length)=true->room'=o8 (sp.map (·.s))/\Grown NF NF' 1 (a04 (sp.map (·.s)))/\Grown NS NS' 2 (a04 (sp.map (·.s))))):=by
 have hS:=St.startM hS0;have bnd:=(hsl.now hS).bound;obtain ⟨pp,c,hpp⟩:=(hsl.now hS).form;rw [xi3] at hpp;subst hpp;generalize hG:fps (lkS gl (.pointer (some ⟨gk,0,none⟩)) vF vS 0 NF NS)=G at hS hk hL hp hc hsl |-;clear hS0;refine yEn Tryz.func173 Tryz.ntmps173 (by kernel_rfl) (by kernel_rfl) rfl rfl ?_
 repeat' (first|(with_reducible apply d5 c9);rfl;rfl;rfl|refine yDn (by with_reducible constructor) ?_)
 refine n9 (Γ:=[]) (X:=Nat×NL×NL×Int) (fun x=>[(8,.int .i64 (x.1:Nat))]) [0,1,7] rfl (fun x=>lkS gl (.pointer (some ⟨gk,0,none⟩)) vF vS x.2.2.2 x.2.1 x.2.2.1) (fun x=>x.1<=sp.length/\((sp.map (·.s)).take x.1).all (r6 (shs l) NF.length NS.length)=true/\x.2.2.2=o8 ((sp.map (·.s)).take x.1)/\Grown NF x.2.1 1 (a04 ((sp.map (·.s)).take x.1))/\Grown NS x.2.2.1 2 (a04 ((sp.map (·.s)).take x.1))) (fun x=>sp.length - x.1) (0,NF,NS,0) (by exact Fr.sub_of rfl) ⟨xf9 _,rfl,rfl,Grown.refl _ _,Grown.refl _ _⟩ (by simpa only [List.append_nil] using hS) ?_;clear hS;rintro ⟨i,MF,MS,room⟩ w1 ⟨hi,hall,hroom,hGF,hGS⟩ hS;dsimp only at hi hall hroom hGF hGS hS |-;by_cases hlt:i < sp.length;rotate_left
 ·obtain rfl:i=sp.length:=by omega
  rw [xa0 (by rw [xi3];omega)] at hall hroom hGF hGS;rw [List.append_nil] at hS;rw [hall]
  repeat' (first|(with_reducible apply d5 c9);rfl;rfl;rfl|refine yDn (by with_reducible constructor) ?_|(with_reducible apply d8);rfl;all_goals (intro hb hp;try (exfalso;omega)))
  (refine l4 rfl ?_)
  exact ⟨⟨-1,rfl,rfl⟩,MF,MS,room,hS,fun _=>⟨hroom,hGF,hGS⟩⟩
 obtain ⟨x,hx⟩:=j4 (l:=sp) (i:=i) (by omega);have hxs:(sp.map (·.s))[i]?=some x.s:=f8 (f:=fun p:Sp=>p.s) hx;have hrow:=f8 (f:=spC) hx;obtain ⟨b,off,rfl,hro⟩:=hsl.atF (i:=i) hlt;have hxp:=hp x (xc8 hx);have hbd:=a4H hall;have htl:((sp.map (·.s)).take i).length<=i:=by rw [xa1];omega
 have hlen:∀ {N M:NL} {kd:Int},(∀ x ∈ N,x.2=[])->Grown N M kd (a04 ((sp.map (·.s)).take i))->∀ x ∈ M,x.2.length<=1000:=fun {N M kd} hN hg y hy=>by
  obtain ⟨j,hj⟩:=xd6.1 hy;obtain ⟨z,hz⟩:=j4 (l:=N) (i:=j) (by have:=f7 hj;rw [hg.1] at this;omega);obtain ⟨v,hv⟩:=hg.2 j z hz;rw [hj] at hv
  cases hv
  show (z.2++_).length<=1000;rw [hN z (xc8 hz),List.nil_append];exact xd3 (xm2 _ _) (by omega)
 have hcall:=b40 hS (hc.nowM hS) (hk.nowM hS) (hL.nowM hS) hr (hxp.nowM hS) (by omega) (hlen hF hGF) (hlen hSl hGS);rw [hGF.1,hGS.1] at hcall;obtain ⟨pa,ca,hva⟩:=(hxp.ar.now hS).form;obtain ⟨pe,ce,hve⟩:=(hxp.en.now hS).form;obtain ⟨s,va,ve⟩:=x;dsimp only at hva hve hxs hcall;subst hva hve;unfold spC at hrow hcall;dsimp only at hrow hcall;have htk:=o7 hxs
 repeat' (first|(with_reducible apply d5 c9);rfl;rfl;rfl|(with_reducible apply d6);rfl;(apply Ld.st c9;rfl;exact hS.roR (by assumption) (by assumption);rfl);rfl|(with_reducible apply m8 c9);rfl;rfl;rfl;rfl;omega;rfl|(with_reducible apply j7);rfl;rfl;omega;omega;rfl|refine yDn (by with_reducible constructor) ?_|(with_reducible apply d8);rfl;all_goals (intro hb hp;try (exfalso;omega))|(with_reducible apply b7s);rfl;all_goals (intro hb hp;try (exfalso;omega))|(with_reducible apply l9);rfl;rfl;rfl;refine ⟨_,hcall,?_⟩;rintro _ w2 ⟨rfl,NF',NS',room',h2,hg⟩)
 ·have hbs:r6 (shs l) NF.length NS.length s=false:=by simpa using hb
  have hno:(sp.map (·.s)).all (r6 (shs l) NF.length NS.length)=false:=by
   rw [xi2];exact ⟨s,xc8 hxs,by rw [hbs];simp⟩
  (refine l4 rfl ?_)
  exact ⟨⟨((i:Nat):Int),rfl,by rw [hno,xi8 (by omega)];rfl⟩,NF',NS',room',(St.transM hS h2).sub (xl7 _ _),fun h=>by rw [hno] at h;cases h⟩
 ·have hbs:r6 (shs l) NF.length NS.length s=true:=by simpa using hb
  obtain ⟨g1,g2,g3⟩:=hg hbs;refine i5 (i + 1,NF',NS',room') (by exact Fr.sub_of rfl) ⟨by show i + 1<=sp.length;omega,?_,?_,?_,?_⟩ (St.transM hS h2) (by show sp.length - (i + 1) < sp.length - i;omega)
  ·rw [htk,List.all_append,hall,xi9,hbs];rfl
  ·rw [htk,a3P,<- hroom];exact g1
  ·rw [htk,a57];exact hGF.trans g2
  ·rw [htk,a57];exact hGS.trans g3
section
variable {P:Program} {n:Nat} {ds:List Deferred} {E:Fr} {w:World} {Q:Exit->Act->World->Prop} {ops:Array Oper} {S:World->Prop} {fuel:Nat} {li:Array Bool} {d:Nat} {op:Op} {ty:TypeId} {pos:String} {after:Array Edge} {F:Nat->Prop} {w0:World} {Γ:List Asr} {T:Tab}
theorem b0G (k:Nat) {id:Nat} {l:List Oper} (m:Nat) (hl:l.length=m) (hS:St F w0 w Γ) (hm:P.follows .mixedOrders=true) (h:∀ w1,St F w0 w1 Γ->WA P l.toArray Q (fun w'=>St F w0 w' (Γ.take k)) m (Array.replicate m false) n ds E w1):WC P (.region id l.toArray true) Q n ds E w:=b27 _ m hl hS hm h
theorem a0H {i:Nat} (_C:Nn i) {j dj:Nat} {want b:Bool} {oj:Oper} {v:Value} (hi:ops[i]?=some ⟨some d,op,ty,pos,after,some (j,want)⟩) (hs:Region.noSelect ops=true) (hf:Region.free .any ops li i=true) (hr:(Region.ready .any ops li).contains i=true)
  (hQ:∀ c (a:Act) w,Q (.panic c) (a.put (some d) v) w->Q (.panic c) a w) (hS:S w) (hj:ops[j]?=some oj) (hdj:oj.dst=some dj) (hlt:Nat.blt dj n=true) (hb:E.get dj=some (.bool b)) (he:b=want) (h:∀ a,Has n ds a E->a0S P ⟨some d,op,ty,pos,after,none⟩ a v) (hd:Nat.blt d n=true) (k:WA P ops Q S fuel (li.setIfInBounds i true) n ds ((d,v)::E) w):WA P ops Q S (fuel + 1) li n ds E w:=fun a ha=>by
 have hw:=a02 (o:=⟨some d,op,ty,pos,after,some (j,want)⟩) rfl hj hdj hb ha hlt;exact wpAnyH_take hi hs hf hr hQ (xd4 ⟨by rw [hw,he];cases want <;> rfl,fun w _=>h a ha w⟩) hS (k _ (ha.put d v hd))
theorem a2q {i:Nat} (_C:Nn i) {j dj:Nat} {want b:Bool} {oj:Oper} {t:TypeId} {x:Operand} {p:Addr} {v:Value} (hi:ops[i]?=some ⟨some d,.load t x,ty,pos,after,some (j,want)⟩) (hs:Region.noSelect ops=true) (hf:Region.free .any ops li i=true) (hr:(Region.ready .any ops li).contains i=true)
  (hQ:∀ c (a:Act) w,Q (.panic c) (a.put (some d) v) w->Q (.panic c) a w) (hS:S w) (hj:ops[j]?=some oj) (hdj:oj.dst=some dj) (hlt:Nat.blt dj n=true) (hb:E.get dj=some (.bool b)) (he:b=want) (hx:E.ev x=some (.pointer (some p))) (hl:∀ w,S w->Ld P t p v w) (hd:Nat.blt d n=true) (k:WA P ops Q S fuel (li.setIfInBounds i true) n ds ((d,v)::E) w):WA P ops Q S (fuel + 1) li n ds E w:=fun a ha=>by
 have hw:=a02 (o:=⟨some d,.load t x,ty,pos,after,some (j,want)⟩) rfl hj hdj hb ha hlt;refine wpAnyH_take hi hs hf hr hQ (xd4 ⟨by rw [hw,he];cases want <;> rfl,fun w hw=>?_⟩) hS (k _ (ha.put d v hd));have h:=hl w hw;unfold Ld at h;simp only [execOp,ha.ev hx,Instr.loadAt,Instr.sureAddr,Sem.run_bind,Sem.run_pure,Result.andThen_ok,h]
theorem a2b {i:Nat} (_C:Nn i) {j dj:Nat} {want b:Bool} {oj:Oper} (hi:ops[i]?=some ⟨some d,op,ty,pos,after,some (j,want)⟩) (hs:Region.noSelect ops=true) (hf:Region.free .any ops li i=true) (hr:(Region.ready .any ops li).contains i=true)
  (hQ:∀ c (a:Act) w,Q (.panic c) (a.put (some d) undef) w->Q (.panic c) a w) (hS:S w) (hj:ops[j]?=some oj) (hdj:oj.dst=some dj) (hlt:Nat.blt dj n=true) (hb:E.get dj=some (.bool b)) (he:b=!want) (hd:Nat.blt d n=true) (k:WA P ops Q S fuel (li.setIfInBounds i true) n ds ((d,undef)::E) w):WA P ops Q S (fuel + 1) li n ds E w:=fun a ha=>by
 have hw:=a02 (o:=⟨some d,op,ty,pos,after,some (j,want)⟩) rfl hj hdj hb ha hlt;exact wpAnyH_take hi hs hf hr hQ (xd1 ⟨by rw [hw,he];cases want <;> rfl,rfl⟩) hS (k _ (ha.put d undef hd))
theorem b0D {i j dj:Nat} {want b:Bool} {oj:Oper} {Φ:Value->World->Prop} (hi:ops[i]?=some ⟨some d,op,ty,pos,after,some (j,want)⟩) (hj:ops[j]?=some oj) (hdj:oj.dst=some dj) (hlt:Nat.blt dj n=true) (hb:E.get dj=some (.bool b)) (he:b=want)
  (h:Gets P ⟨some d,op,ty,pos,after,none⟩ n ds E w Φ) (hd:Nat.blt d n=true) (k:∀ v w',Φ v w'->S w'/\WA P ops Q S fuel (li.setIfInBounds i true) n ds ((d,v)::E) w'):WO P ops Q S fuel li n ds E w i:=fun a ha=>by
 have hw:=a02 (o:=⟨some d,op,ty,pos,after,some (j,want)⟩) rfl hj hdj hb ha hlt;unfold wpOp;simp only [hi];rw [xe6 (by rw [hw,he];cases want <;> rfl)];exact xd4 (h a ha (fun a' w'=>S w'/\wpAnyH P .any ops Q S fuel (li.setIfInBounds i true) a' w') Q fun v w' hv=>⟨(k v w' hv).1,(k v w' hv).2 _ (ha.put d v hd)⟩)
theorem b4P {c x y:Operand} {b:Bool} {v:Value} (hc:E.ev c=some (.bool b)) (hb:b=true) (hv:E.ev x=some v):∀ a,Has n ds a E->a0S P ⟨some d,.pick c x y,ty,pos,after,none⟩ a v:=fun a ha w=>by simp [execOp,ha.ev hc,asBool,hb,ha.ev hv]
theorem a36 {c x y:Operand} {b:Bool} {v:Value} (hc:E.ev c=some (.bool b)) (hb:b=false) (hv:E.ev y=some v):∀ a,Has n ds a E->a0S P ⟨some d,.pick c x y,ty,pos,after,none⟩ a v:=fun a ha w=>by simp [execOp,ha.ev hc,asBool,hb,ha.ev hv]
theorem b5k {i j l:Nat} (hr:Region.ready .any ops li=[i,j,l]) (h1:WO P ops Q S fuel li n ds E w i) (h2:WO P ops Q S fuel li n ds E w j) (h3:WO P ops Q S fuel li n ds E w l):WA P ops Q S (fuel + 1) li n ds E w:=fun a ha=>
 wpAnyH_all hr (by simp) (fun k hk=>by
  have:k=i\/k=j\/k=l:=by simpa using hk
  rcases this with rfl|rfl|rfl
  ·exact h1 a ha
  ·exact h2 a ha
  ·exact h3 a ha)
theorem b17 {X:Type} (vf:X->Fr) (Γf:X->List Asr) (p:X->Prop) {x y:Code} {Q1 Q2:Exit->Act->World->Prop} (hx:WC P x (Exit.then (fun a' w'=>∃ m,Has n ds a' (vf m)/\(p m/\St F w0 w' (Γf m))) Q2) n ds E w) (hz:∀ m w',p m->St F w0 w' (Γf m)->WC P y Q1 n ds (vf m) w'):WC P x (Exit.then (y.wp P Q1) Q2) n ds E w:=fun a ha=>
 Code.wp_mono (fun e a' w' q=>by
  cases e with
  |normal=>obtain ⟨m,h1,h2,h3⟩:=q;exact hz m w' h2 h3 a' h1
  |exit i=>exact q
  |goto l=>exact q
  |ret=>exact q
  |panic c=>exact q
  |outgrown=>exact q) (hx a ha)
theorem a1Y {X:Type} {vf:X->Fr} {Γf:X->List Asr} {p:X->Prop} {Q2:Exit->Act->World->Prop} (m:X) (h0:Fr.sub (vf m) E) (hp:p m) (hS:St F w0 w (Γf m)):WQ (Exit.then (fun a' w'=>∃ m,Has n ds a' (vf m)/\(p m/\St F w0 w' (Γf m))) Q2) .normal n ds E w:=fun _ ha=>⟨m,ha.sub h0,hp,hS⟩
theorem b5V {fn:Func} {Φ:Value->World->Prop} {v1 v2 v3 v4:Value} (hr:ResL P E w fn.results.toList [v1,v2,v3,v4]) (hΦ:Φ (.tuple #[v1,v2,v3,v4]) w):WQ (bodyPost P fn (fun e w'=>∃ v,e=.returned v/\Φ v w')) .ret n [] E w:=b0m rfl hr rfl hΦ
theorem St.slMem {e sz:Nat} {v:Value} {rows:List (List Value)} (hS:St F w0 w Γ) (h:Asr.row e sz v rows ∈ Γ):Sl nF w sz v rows:=by
 obtain ⟨j,hj⟩:=xd6.1 h;exact hS.rowSl j hj
end
end Go.Proofs.YtejnpppejalhfacGreat
