/- Texts that the proof stands on, one behind the other: Fl12, PlKer3, PlRun, PlRun2, PlRun3, PlRun4, PlRun5, PlRun6, PlRun7, PlRun8, PlRun9, PlFl3, Fl13, LawFlP, Op1, OpA, OpK, OpF. -/
import Derived.Deep.Slices
import Derived.OpenShut
import Derived.WideShapes
import Derived.ProofKit
import Derived.Test.YtejnpppejalhfadGreatPFlatPeeks9
set_option linter.unusedVariables false
set_option linter.unusedSimpArgs false
namespace Go.Proofs.YtejnpppejalhfadGreat
set_option maxRecDepth 100000
set_option maxHeartbeats 8000000
open Go.RowKit Go.Sort
def a1j (l:List Fp) (t:Int):Option Fp:=l.find? fun p=>decide (p.page=t)
theorem a2S {l:List Fp} {t:Int} (h:t ∉ l.map fun p=>p.page):a1j l t=none:=by
 unfold a1j;rw [List.find?_eq_none];intro x hx h2;exact h (xg1.2 ⟨x,hx,by simpa using h2⟩)
theorem a7U {l:List Fp} {t:Int} (h:t ∈ l.map fun p=>p.page):∃ p,a1j l t=some p/\p.page=t/\p ∈ l:=by
 obtain ⟨x,hx,rfl⟩:=xg1.1 h
 cases e:a1j l x.page with
 |none=>
  unfold a1j at e;rw [List.find?_eq_none] at e;exact absurd (by simp) (e x hx)
 |some p=>
  have h1:=xg2 e;exact ⟨p,rfl,by simpa using h1,xg3 e⟩
theorem a6H {l:List Fp} {t:Int} {p:Fp} (hr:Rises (l.map fun p=>p.page)) (h:a1j l t=some p):l[lbd (l.map fun p=>p.page) t]?=some p:=by
 have h1:=xg2 h;have hp:p.page=t:=by simpa using h1
 obtain ⟨j,hj⟩:=xc8.1 (xg3 h);have hpj:(l.map fun p=>p.page)[j]?=some t:=by rw [<- hp];exact j3 (f:=fun p:Fp=>p.page) hj
 have hf:=(a12 hr t).2 (xc0 hpj);have:lbd (l.map fun p=>p.page) t=j:=by
  rcases Nat.lt_trichotomy (lbd (l.map fun p=>p.page) t) j with hlt|heq|hlt
  ·exact absurd (hr.at_ hlt hf hpj) (Int.lt_irrefl _)
  ·exact heq
  ·exact absurd (hr.at_ hlt hpj hf) (Int.lt_irrefl _)
 rw [this];exact hj
theorem a1x (x:Fp) (t:Int) (w:World):Fn Tryz.prog 110 [.agg (fpC x).toArray,.int .i64 t] w (RBf (.int .i64 (IntKind.i64.wrap (x.page - t))) w):=by
 unfold fpC;refine yEn Tryz.func110 Tryz.ntmps110 (by kernel_rfl) (by kernel_rfl) rfl rfl ?_;have hS:=St.start w
 repeat' (first|(with_reducible apply a4 a0);rfl;rfl;rfl|(with_reducible apply a5);rfl;(apply Ld.sc a0;rfl;exact hS.blkC 0 rfl rfl);rfl|(with_reducible apply a2u a0);rfl;rfl|refine yDn (by with_reducible constructor) ?_|(with_reducible apply f8 hS);rfl;rfl;rfl;clear hS;intro g w' hS)
 (refine i2 rfl ?_)
 exact ⟨rfl,hS.sub (xg4 _)⟩
theorem a8V {L:List Fp} {w:World} {v:Value} {t:Int} (hL:Sl nF w 2 v (L.map fpC)) (hr:Rises (L.map fun e=>e.page)) (hb:∀ q ∈ L.map fun e=>e.page,-9223372036854775808<=q - t/\q - t<=9223372036854775807) :
  Fn Tryz.prog 109 [v,.int .i64 t,.func (.func 110) #[] #[]] w (RBf (BsV (L.map fun e=>e.page) t) w):=by
 have hc:=fun (x:Fp) (_:x ∈ L) w (h1:-9223372036854775808<=x.page - t) (h2:x.page - t<=9223372036854775807)=>by
  have h:=a1x x t w;rw [a1k h1 h2] at h;exact h
 have bnd:=hL.bound;obtain ⟨p,c,rfl⟩:=hL.len;refine yEn Tryz.func109 Tryz.ntmps109 (by kernel_rfl) (by kernel_rfl) rfl rfl ?_;have hS:=St.start w
 repeat' (first|(with_reducible apply a4 a0);rfl;rfl;rfl|refine yDn (by with_reducible constructor) ?_)
 refine y8 (X:=Nat×Nat) (fun x=>[(9,.int .i64 (x.1:Nat)),(10,.int .i64 (x.2:Nat))]) [0,1,2,8] rfl (fun _=>[]) (fun x=>x.1<=x.2/\x.2<=L.length/\(∀ (j:Nat) (q:Int),j < x.1->(L.map (fun e=>e.page))[j]?=some q->q < t)/\(∀ (j:Nat) (q:Int),x.2<=j->(L.map (fun e=>e.page))[j]?=some q->t<=q)) (fun x=>x.2 - x.1) (0,L.length) (by exact Fr.sub_of rfl) ⟨xe7 _,xc4 _,fun j q h=>by omega,fun j q h hq=>by have:=a7 hq;rw [xg5] at this;omega⟩ hS ?_;clear hS;rintro ⟨i,j⟩ w1 ⟨hij,hj,hlo,hhi⟩ hS;dsimp only [List.cons_append,List.nil_append] at hij hj hlo hhi hS |-;by_cases hlt:i < j
 ·obtain ⟨hm0,hm1⟩:i<=(i + j) / 2/\(i + j) / 2 < j:=by omega
  obtain ⟨h,hh⟩:∃ h,h=(i + j) / 2:=⟨_,rfl⟩;rw [<- hh] at hm0 hm1;have ehi:((i:Int) + (j:Int)) / 2=(h:Nat):=by omega
  obtain ⟨x,hx⟩:=n8 (l:=L) (i:=h) (by omega);have hrow:=j3 (f:=fpC) hx;have hpx:=j3 (f:=(fun e=>e.page)) hx;have hbx:=hb _ (xc0 hpx);obtain ⟨b,off,rfl,hro⟩:=hL.at_ (i:=h) (by omega);have hcmp:=hc x (xc0 hx)
  repeat' (first|(with_reducible apply a4 a0);rfl;rfl;rfl|(with_reducible apply a2u a0);rfl;rfl|refine yDn (by with_reducible constructor) ?_|(with_reducible apply i5);rfl;all_goals (intro hb hp;try (exfalso;omega))|(with_reducible apply a7X);rfl;rfl;rfl)
  rw [a2Z (by omega) (by omega) ehi (by omega)];by_cases hp:x.page < t
  ·have hd:decide (x.page - t < 0)=true:=xg6 (by omega)
   repeat' (first|(with_reducible apply a4 a0);rfl;rfl;rfl|(with_reducible apply a5);rfl;(apply Ld.st a0;rfl;exact hS.roR (by assumption) (by assumption);rfl);rfl|(with_reducible apply p8 a0);rfl;rfl;rfl;rfl;omega;rfl|(with_reducible apply a0q);rfl;rfl;omega;omega;rfl|refine yDn (by with_reducible constructor) ?_|(with_reducible apply b7);rfl;assumption|(with_reducible apply d5 hS);rfl;rfl;rfl;refine ⟨_,hcmp _ (by omega) (by omega),?_⟩;clear hS;intro w' hS)
   refine o9 (h + 1,j) (by exact Fr.sub_of rfl) ⟨by show h + 1<=j;omega,hj,fun k q hk hq=>?_,hhi⟩ hS (by show j - (h + 1) < j - i;omega);rcases xg7 k h with h1|h1
   ·exact Int.lt_trans (hr.at_ h1 hq hpx) hp
   ·obtain rfl:k=h:=by have:k < h + 1:=hk;omega
    rw [hpx] at hq
    cases hq
    exact hp
  ·have hd:decide (x.page - t < 0)=false:=xg8 (by omega)
   repeat' (first|(with_reducible apply a4 a0);rfl;rfl;rfl|(with_reducible apply a5);rfl;(apply Ld.st a0;rfl;exact hS.roR (by assumption) (by assumption);rfl);rfl|(with_reducible apply p8 a0);rfl;rfl;rfl;rfl;omega;rfl|refine yDn (by with_reducible constructor) ?_|(with_reducible apply j5);rfl;assumption|(with_reducible apply d5 hS);rfl;rfl;rfl;refine ⟨_,hcmp _ (by omega) (by omega),?_⟩;clear hS;intro w' hS)
   refine o9 (i,h) (by exact Fr.sub_of rfl) ⟨by show i<=h;omega,by show h<=_;omega,hlo,fun k q hk hq=>?_⟩ hS (by show h - i < j - i;omega);rcases xg7 h k with h1|h1
   ·have:=hr.at_ h1 hpx hq;have hp':¬ x.page < t:=hp;omega
   ·obtain rfl:k=h:=by have:h<=k:=hk;omega
    rw [hpx] at hq
    cases hq
    have hp':¬ x.page < t:=hp;omega
 ·obtain rfl:i=j:=by omega
  have hlb:lbd (L.map (fun e=>e.page)) t=i:=a7w (by rw [xg5];omega) hlo (fun q hq=>hhi i q (xc4 _) hq);unfold BsV;rw [hlb];by_cases hil:i < L.length
  ·obtain ⟨x,hx⟩:=n8 (l:=L) (i:=i) (by omega);have hrow:=j3 (f:=fpC) hx;have hpx:=j3 (f:=(fun e=>e.page)) hx;have hbx:=hb _ (xc0 hpx);obtain ⟨b,off,rfl,hro⟩:=hL.at_ (i:=i) (by omega);have hcmp:=hc x (xc0 hx);have hiff:=a12 hr t;rw [hlb,hpx] at hiff;have hdm:decide (t ∈ L.map (fun e=>e.page))=decide (x.page - t=0):=by
    rw [decide_eq_decide,<- hiff];constructor
    ·intro h;have h2:x.page=t:=Option.some.inj h;omega
    ·intro h;have h2:x.page=t:=by omega
     rw [h2]
   rw [hdm]
   repeat' (first|(with_reducible apply a4 a0);rfl;rfl;rfl|(with_reducible apply a5);rfl;(apply Ld.st a0;rfl;exact hS.roR (by assumption) (by assumption);rfl);rfl|(with_reducible apply p8 a0);rfl;rfl;rfl;rfl;omega;rfl|refine yDn (by with_reducible constructor) ?_|(with_reducible apply i6);(iterate 4 rfl);assumption|(with_reducible apply d7);rfl;assumption;rfl;rfl|(with_reducible apply a0d);rfl;rfl;rfl;all_goals (intro hb hp;try (exfalso;omega))|(with_reducible apply i5);rfl;all_goals (intro hb hp;try (exfalso;omega))|(with_reducible apply d5 hS);rfl;rfl;rfl;refine ⟨_,hcmp _ (by omega) (by omega),?_⟩;clear hS;intro w' hS)
   (refine a1P rfl ?_)
   exact ⟨rfl,hS.sub (xg4 _)⟩
  ·have hdm:decide (t ∈ L.map (fun e=>e.page))=false:=by
    rw [xg9,<- a12 hr t,hlb,xf9 (by rw [xg5];omega)];simp
   rw [hdm]
   repeat' (first|(with_reducible apply a4 a0);rfl;rfl;rfl|refine yDn (by with_reducible constructor) ?_|(with_reducible apply q7);(iterate 4 rfl);assumption;rfl|(with_reducible apply a9);rfl;assumption;rfl;rfl|(with_reducible apply a0d);rfl;rfl;rfl;all_goals (intro hb hp;try (exfalso;omega))|(with_reducible apply i5);rfl;all_goals (intro hb hp;try (exfalso;omega)))
   (refine a1P rfl ?_)
   exact ⟨rfl,hS.sub (xg4 _)⟩
theorem a8i {L:List Fp} {w:World} {v:Value} {t:Int} (hL:Sl nF w 2 v (L.map fpC)) (hb:∀ x ∈ L,IntKind.i64.wrap (x.page - t)≠0) :
  Fn Tryz.prog 109 [v,.int .i64 t,.func (.func 110) #[] #[]] w (fun v' w'=>∃ i:Nat,v'=.tuple #[.int .i64 (i:Nat),.bool false]/\St nF w w' []):=by
 have bnd:=hL.bound;obtain ⟨p,c,rfl⟩:=hL.len;refine yEn Tryz.func109 Tryz.ntmps109 (by kernel_rfl) (by kernel_rfl) rfl rfl ?_;have hS:=St.start w
 repeat' (first|(with_reducible apply a4 a0);rfl;rfl;rfl|refine yDn (by with_reducible constructor) ?_)
 refine y8 (X:=Nat×Nat) (fun x=>[(9,.int .i64 (x.1:Nat)),(10,.int .i64 (x.2:Nat))]) [0,1,2,8] rfl (fun _=>[]) (fun x=>x.1<=x.2/\x.2<=L.length) (fun x=>x.2 - x.1) (0,L.length) (by exact Fr.sub_of rfl) ⟨xe7 _,xc4 _⟩ hS ?_;clear hS;rintro ⟨i,j⟩ w1 ⟨hij,hj⟩ hS;dsimp only [List.cons_append,List.nil_append] at hij hj hS |-;by_cases hlt:i < j
 ·obtain ⟨hm0,hm1⟩:i<=(i + j) / 2/\(i + j) / 2 < j:=by omega
  obtain ⟨h,hh⟩:∃ h,h=(i + j) / 2:=⟨_,rfl⟩;rw [<- hh] at hm0 hm1;have ehi:((i:Int) + (j:Int)) / 2=(h:Nat):=by omega
  obtain ⟨x,hx⟩:=n8 (l:=L) (i:=h) (by omega);have hrow:=j3 (f:=fpC) hx;obtain ⟨b,off,rfl,hro⟩:=hL.at_ (i:=h) (by omega);have hcmp:=fun w=>a1x x t w;generalize IntKind.i64.wrap (x.page - t)=cc at hcmp
  repeat' (first|(with_reducible apply a4 a0);rfl;rfl;rfl|(with_reducible apply a2u a0);rfl;rfl|refine yDn (by with_reducible constructor) ?_|(with_reducible apply i5);rfl;all_goals (intro hb hp;try (exfalso;omega))|(with_reducible apply a7X);rfl;rfl;rfl)
  rw [a2Z (by omega) (by omega) ehi (by omega)];by_cases hp:cc < 0
  ·have hd:decide (cc < 0)=true:=xg6 hp
   repeat' (first|(with_reducible apply a4 a0);rfl;rfl;rfl|(with_reducible apply a5);rfl;(apply Ld.st a0;rfl;exact hS.roR (by assumption) (by assumption);rfl);rfl|(with_reducible apply p8 a0);rfl;rfl;rfl;rfl;omega;rfl|(with_reducible apply a0q);rfl;rfl;omega;omega;rfl|refine yDn (by with_reducible constructor) ?_|(with_reducible apply b7);rfl;assumption|(with_reducible apply d5 hS);rfl;rfl;rfl;refine ⟨_,hcmp _,?_⟩;clear hS;intro w' hS)
   exact o9 (h + 1,j) (by exact Fr.sub_of rfl) ⟨by show h + 1<=j;omega,hj⟩ hS (by show j - (h + 1) < j - i;omega)
  ·have hd:decide (cc < 0)=false:=xg8 hp
   repeat' (first|(with_reducible apply a4 a0);rfl;rfl;rfl|(with_reducible apply a5);rfl;(apply Ld.st a0;rfl;exact hS.roR (by assumption) (by assumption);rfl);rfl|(with_reducible apply p8 a0);rfl;rfl;rfl;rfl;omega;rfl|refine yDn (by with_reducible constructor) ?_|(with_reducible apply j5);rfl;assumption|(with_reducible apply d5 hS);rfl;rfl;rfl;refine ⟨_,hcmp _,?_⟩;clear hS;intro w' hS)
   exact o9 (i,h) (by exact Fr.sub_of rfl) ⟨by show i<=h;omega,by show h<=_;omega⟩ hS (by show h - i < j - i;omega)
 ·obtain rfl:i=j:=by omega
  by_cases hil:i < L.length
  ·obtain ⟨x,hx⟩:=n8 (l:=L) (i:=i) (by omega);have hrow:=j3 (f:=fpC) hx;obtain ⟨b,off,rfl,hro⟩:=hL.at_ (i:=i) (by omega);have hcmp:=fun w=>a1x x t w;have hne:=hb x (xc0 hx);generalize IntKind.i64.wrap (x.page - t)=cc at hcmp hne;have hd:decide (cc=0)=false:=xg8 hne
   repeat' (first|(with_reducible apply a4 a0);rfl;rfl;rfl|(with_reducible apply a5);rfl;(apply Ld.st a0;rfl;exact hS.roR (by assumption) (by assumption);rfl);rfl|(with_reducible apply p8 a0);rfl;rfl;rfl;rfl;omega;rfl|refine yDn (by with_reducible constructor) ?_|(with_reducible apply i6);(iterate 4 rfl);assumption|(with_reducible apply d7);rfl;assumption;rfl;rfl|(with_reducible apply a0d);rfl;rfl;rfl;all_goals (intro hb hp;try (exfalso;omega))|(with_reducible apply i5);rfl;all_goals (intro hb hp;try (exfalso;omega))|(with_reducible apply d5 hS);rfl;rfl;rfl;refine ⟨_,hcmp _,?_⟩;clear hS;intro w' hS)
   (refine a1P rfl ?_)
   exact ⟨i,by rw [hd],hS.sub (xg4 _)⟩
  ·repeat' (first|(with_reducible apply a4 a0);rfl;rfl;rfl|refine yDn (by with_reducible constructor) ?_|(with_reducible apply q7);(iterate 4 rfl);assumption;rfl|(with_reducible apply a9);rfl;assumption;rfl;rfl|(with_reducible apply a0d);rfl;rfl;rfl;all_goals (intro hb hp;try (exfalso;omega))|(with_reducible apply i5);rfl;all_goals (intro hb hp;try (exfalso;omega)))
   (refine a1P rfl ?_)
   exact ⟨i,rfl,hS.sub (xg4 _)⟩
theorem a89 {w:World} {gm:Nat} {vsp:Value} {sp:List (Fs×Value×Value)} {i:Nat} {x:Fs×Value×Value} {t:Int} (hb0:Bs nF w ⟨gm,1,none⟩ vsp) (hsp:Sl nF w 3 vsp (sp.map fsC)) (hx:sp[i]?=some x) (hpg:Sl nF w 2 x.2.2 (x.1.pages.map fpC)) (hb:∀ y ∈ x.1.pages,IntKind.i64.wrap (y.page - t)≠0) :
  Fn Tryz.prog 63 [.pointer (some ⟨gm,0,none⟩),.int .i64 (i:Nat),.int .i64 t] w (RBf (.tuple #[.pointer none,.bool false]) w):=by
 have hil:=a7 hx;have hrow:=j3 (f:=fsC) hx;obtain ⟨p,c,rfl⟩:=hsp.len;obtain ⟨b,off,rfl,hro⟩:=hsp.at_ (i:=i) hil;have hbs:=fun w1 (h:Sl nF w1 2 x.2.2 (x.1.pages.map fpC))=>a8i h hb;obtain ⟨⟨live,ars,pgs⟩,va,vp⟩:=x;dsimp only at hpg hbs;obtain ⟨pp,cp,rfl⟩:=hpg.len;unfold fsC at hrow;dsimp only at hrow;refine yEn Tryz.func63 Tryz.ntmps63 (by kernel_rfl) (by kernel_rfl) rfl rfl ?_;have hS:=St.start w
 repeat' (first|(with_reducible apply a4 a0);rfl;rfl;rfl|(with_reducible apply a5);rfl;(apply Ld.sl a0;rfl;(first|exact hS.bs (by assumption)|exact hS.roC (by assumption) (by assumption) rfl));rfl|(with_reducible apply p8 a0);rfl;rfl;rfl;rfl;omega;rfl|refine yDn (by with_reducible constructor) ?_|(with_reducible apply b7);rfl;rfl|(with_reducible apply a8q);rfl;rfl;rfl;refine ⟨_,hbs _ (hpg.now hS),?_⟩;rintro _ w' ⟨k,rfl,hS'⟩;replace hS:=hS.transA hS';simp only [a4I] at hS;clear hS')
 (refine a1P rfl ?_)
 exact ⟨rfl,hS.sub (xg4 _)⟩
theorem a8o {w:World} {gm:Nat} {vsp:Value} {sp:List (Fs×Value×Value)} {i k:Nat} {x:Fs×Value×Value} {t:Int} {y:Fp} {bp op:Nat} {cp:Nat} (hb0:Bs nF w ⟨gm,1,none⟩ vsp) (hsp:Sl nF w 3 vsp (sp.map fsC)) (hx:sp[i]?=some x) (hpg:Sl nF w 2 x.2.2 (x.1.pages.map fpC)) (hv:x.2.2=.slice (some ⟨bp,op,none⟩) x.1.pages.length cp) (hr:Rises (x.1.pages.map fun e=>e.page)) (hb:∀ q ∈ x.1.pages.map fun e=>e.page,-9223372036854775808<=q - t/\q - t<=9223372036854775807)
  (hk:lbd (x.1.pages.map fun e=>e.page) t=k) (hy:x.1.pages[k]?=some y) (ht:y.page=t) :
  Fn Tryz.prog 63 [.pointer (some ⟨gm,0,none⟩),.int .i64 (i:Nat),.int .i64 t] w (RBf (.tuple #[.pointer (some ⟨bp,op + k * 2,none⟩),.bool true]) w):=by
 have hil:=a7 hx;have hkl:=a7 hy;have hrow:=j3 (f:=fsC) hx;obtain ⟨p,c,rfl⟩:=hsp.len;obtain ⟨b,off,rfl,hro⟩:=hsp.at_ (i:=i) hil;have hbs:=fun w1 (h:Sl nF w1 2 x.2.2 (x.1.pages.map fpC))=>a8V (t:=t) h hr hb;unfold BsV at hbs;rw [hk,xg6 (show t ∈ x.1.pages.map fun e=>e.page by rw [<- ht];exact xg1.2 ⟨y,xc0 hy,rfl⟩)] at hbs;obtain ⟨⟨live,ars,pgs⟩,va,vp⟩:=x;dsimp only at hpg hbs hv hkl;subst hv;unfold fsC at hrow;dsimp only at hrow;refine yEn Tryz.func63 Tryz.ntmps63 (by kernel_rfl) (by kernel_rfl) rfl rfl ?_;have hS:=St.start w
 repeat' (first|(with_reducible apply a4 a0);rfl;rfl;rfl|(with_reducible apply a5);rfl;(apply Ld.sl a0;rfl;(first|exact hS.bs (by assumption)|exact hS.roC (by assumption) (by assumption) rfl));rfl|(with_reducible apply p8 a0);rfl;rfl;rfl;rfl;omega;rfl|refine yDn (by with_reducible constructor) ?_|(with_reducible apply j5);rfl;rfl|(with_reducible apply d5 hS);rfl;rfl;rfl;refine ⟨_,hbs _ (hpg.now hS),?_⟩;clear hS;intro w' hS)
 (refine a1P rfl ?_)
 exact ⟨rfl,hS.sub (xg4 _)⟩
theorem a4H {A:List Ar} (hc:b4 A=0) {e:En} (h:(l3 A e.page).isSome=true):0 < e.page:=by
 obtain ⟨a,ha⟩:=xh0.1 h;have:=(a6J hc ha).2;omega
def a2F (l:List En) (p:Int):Option En:=l.find? fun e=>decide (e.page=p)
def a0D (l:List En):List Int:=l.map fun e=>e.page
def b10 (l:List En) (e:En):List En:=l.take (lbd (a0D l) e.page)++e::l.drop (lbd (a0D l) e.page)
def putE (l:List En) (e:En):List En:=if e.page ∈ a0D l then l.set (lbd (a0D l) e.page) e else b10 l e
def a3S (l:List Fm) (i:Nat):Fm:=(l[i]?).getD fm0
def a6l (l:List Sw) (i:Nat):Sw:=(l[i]?).getD sw0
def sc0:Sc:=⟨false,[],[]⟩
def a1u (K:Ker) (sp:Nat):Sc:=(K.spaces[sp]?).getD sc0
def a03 (K:Ker) (sp:Nat):List En:=(a1u K sp).entries
def v8 (K:Ker) (sp:Nat):List Ar:=(a1u K sp).areas
def zAt (K:Ker) (sp:Nat) (page:Int):Bool:=((l3 (v8 K sp) page).getD a3d).z
def b0b (K:Ker) (sp:Nat) (page:Int):List UInt8:=(a7I K.sheets (zAt K sp page) page).getD []
def b1z (K:Ker) (e:En):List UInt8:=if e.kind=1 then (a3S K.frames e.at_.toNat).data else (a6l K.slots e.at_.toNat).data
def a2K (K:Ker) (sp:Nat) (page:Int):List UInt8:=match a2F (a03 K sp) page with
 |some e=>b1z K e
 |none=>b0b K sp page
structure FmOk (sh:List Sh) (f:Fm) (N:List Nm):Prop where
 refs:f.refs=(N.length:Int)
 nil:N=[]->f=fm0
 len:N≠[]->f.data.length=16
 same:∀ n ∈ N,∀ m ∈ N,m.1.page=n.1.page/\m.2.z=n.2.z
 data:∀ n ∈ N,f.dirty=true\/some f.data=a7I sh n.2.z n.1.page
structure SwOk (s:Sw) (N:List Nm):Prop where
 refs:s.refs=(N.length:Int)
 nil:N=[]->s=sw0
 len:N≠[]->s.data.length=16
 same:∀ n ∈ N,∀ m ∈ N,m.1.page=n.1.page/\m.2.z=n.2.z
structure Right (K:Ker):Prop where
 cnt:3<=K.frames.length/\K.frames.length<=64/\K.slots.length<=512/\1<=K.spaces.length/\K.spaces.length<=4/\K.sheets.length<=255
 rise:a9u 0 K.sheets=true
 hand:0<=K.hand/\K.hand < K.frames.length
 spaces:∀ s ∈ K.spaces,a4o K.sheets K.frames.length K.slots.length s=true
 room:b1r K.spaces<=K.slots.length
 fr:∀ (i:Nat) f,K.frames[i]?=some f->FmOk K.sheets f (a1w K.spaces 1 (i:Nat))
 sl:∀ (i:Nat) s,K.slots[i]?=some s->SwOk s (a1w K.spaces 2 (i:Nat))
def nm1 (s:Sc) (k a:Int):List Nm:=(s.entries.filter fun e=>decide (e.kind=k/\e.at_=a)).map (b0D s)
theorem a3W (L:List Sc) (k a:Int):a1w L k a=L.flatMap fun s=>nm1 s k a:=rfl
def a9t (A:List Ar) (nf ns:Int) (e:En):Prop:=(l3 A e.page).isSome=true/\((e.kind=1/\0<=e.at_/\e.at_ < nf)\/(e.kind=2/\0<=e.at_/\e.at_ < ns))
theorem a26 {A:List Ar} {nf ns:Int}:∀ {l:List En} {last:Int},a33 A nf ns last l=true ↔ (∀ e ∈ l,a9t A nf ns e/\last < e.page)/\Rises (a0D l)
 |[],last=>by simp [a33,Rises,a0D]
 |e::l,last=>by
  show (a7R A nf ns last e && a33 A nf ns e.page l)=true ↔ _;rw [xb6,a26 (l:=l)];unfold a7R;rw [xb6,xh1];show _ ↔ _/\List.Pairwise _ (e.page::a0D l);rw [List.pairwise_cons];constructor
  ·rintro ⟨⟨h1,h2,h3⟩,h4,h5⟩;refine ⟨fun x hx=>?_,fun p hp=>?_,h5⟩
   ·rcases xb3.1 hx with rfl|hx
    ·exact ⟨⟨h1,h3⟩,h2⟩
    ·have:=h4 x hx;exact ⟨this.1,by omega⟩
   ·obtain ⟨x,hx,rfl⟩:=xg1.1 hp;exact (h4 x hx).2
  ·rintro ⟨h1,h2,h3⟩;have h0:=h1 e xb4;exact ⟨⟨h0.1.1,h0.2,h0.1.2⟩,fun x hx=>⟨(h1 x (xb5 _ hx)).1,h2 _ (xg1.2 ⟨x,hx,rfl⟩)⟩,h3⟩
structure b1N (sh:List Sh) (nf ns:Int) (s:Sc):Prop where
 dead:s.live=false->s.areas=[]/\s.entries=[]
 ar:b4 s.areas=0
 pages:a6n sh s.areas=true
 ents:∀ e ∈ s.entries,a9t s.areas nf ns e
 rises:Rises (a0D s.entries)
theorem a6y {sh:List Sh} {nf ns:Int} {s:Sc}:a4o sh nf ns s=true ↔ b1N sh nf ns s:=by
 unfold a4o
 cases hl:s.live with
 |false=>
  rw [xd7 (by simp),xh1];constructor
  ·rintro ⟨h1,h2⟩;refine ⟨fun _=>⟨h1,h2⟩,by rw [h1];rfl,by rw [h1];rfl,by rw [h2];simp,by rw [h2];exact List.Pairwise.nil⟩
  ·exact fun h=>h.dead hl
 |true=>
  rw [xd6 rfl,xb6,xb6,xh1,a26];constructor
  ·rintro ⟨h1,h2,h3,h4⟩;exact ⟨fun h=>(by rw [hl] at h;cases h),h1,h2,fun e he=>(h3 e he).1,h4⟩
  ·intro h;exact ⟨h.ar,h.pages,fun e he=>⟨h.ents e he,a4H h.ar (h.ents e he).1⟩,h.rises⟩
theorem a5o {l:List Fm} {i:Nat} {f:Fm} (h:l[i]?=some f):a3S l i=f:=by unfold a3S;rw [h];rfl
theorem a5c {l:List Sw} {i:Nat} {f:Sw} (h:l[i]?=some f):a6l l i=f:=by unfold a6l;rw [h];rfl
theorem SwOk.free {s:Sw} {N:List Nm} (h:SwOk s N) (h0:s.refs=0):N=[]/\s=sw0:=by
 have h1:=h.refs;have:N=[]:=xd9 (by omega);exact ⟨this,h.nil this⟩
theorem FmOk.free {sh:List Sh} {s:Fm} {N:List Nm} (h:FmOk sh s N) (h0:s.refs=0):N=[]/\s=fm0:=by
 have h1:=h.refs;have:N=[]:=xd9 (by omega);exact ⟨this,h.nil this⟩
theorem FmOk.zero (sh:List Sh):FmOk sh fm0 []:=⟨rfl,fun _=>rfl,fun h=>absurd rfl h,(fun _ h=>by cases h),(fun _ h=>by cases h)⟩
theorem SwOk.zero:SwOk sw0 []:=⟨rfl,fun _=>rfl,fun h=>absurd rfl h,(fun _ h=>by cases h)⟩
def b0M (a b:Fm):Prop:=a.data=b.data/\a.refs=b.refs/\a.dirty=b.dirty
theorem FmOk.alike {sh:List Sh} {f g:Fm} {N:List Nm} (h:FmOk sh f N) (ha:b0M g f) (hr:f.refs≠0):FmOk sh g N:=by
 obtain ⟨a1,a2,a3⟩:=ha;refine ⟨by rw [a2];exact h.refs,fun e=>absurd (by rw [h.refs,e];rfl) hr,by rw [a1];exact h.len,h.same,fun n hn=>by rw [a1,a3];exact h.data n hn⟩
theorem a5J {l:List En} {p:Int} {e:En} (h:a2F l p=some e):e ∈ l/\e.page=p:=⟨xg3 h,by have:=xg2 h;simpa using this⟩
theorem a5k {K:Ker} {sp:Nat} {s:Sc} (h:K.spaces[sp]?=some s):a1u K sp=s:=by unfold a1u;rw [h];rfl
theorem a2C {K:Ker} {sp:Nat} (h:K.spaces[sp]?=none):a1u K sp=sc0:=by unfold a1u;rw [h];rfl
theorem a4T {K:Ker} {sp:Nat} {s:Sc} {e:En} (h:K.spaces[sp]?=some s) (he:e ∈ s.entries):b0D s e ∈ a1w K.spaces e.kind e.at_:=by
 rw [a3W,List.mem_flatMap];refine ⟨s,xc0 h,?_⟩;unfold nm1;exact xg1.2 ⟨e,xh2.2 ⟨he,by simp⟩,rfl⟩
theorem Right.ent {K:Ker} (h:Right K) {sp:Nat} {s:Sc} {e:En} (hs:K.spaces[sp]?=some s) (he:e ∈ s.entries) :
  (l3 s.areas e.page).isSome=true/\((e.kind=1/\(∃ f:Nat,e.at_=(f:Nat)/\f < K.frames.length))\/(e.kind=2/\∃ f:Nat,e.at_=(f:Nat)/\f < K.slots.length)):=by
 have h1:=(a6y.1 (h.spaces s (xc0 hs))).ents e he;refine ⟨h1.1,?_⟩;rcases h1.2 with ⟨a,b,c⟩|⟨a,b,c⟩
 ·exact xc6 ⟨a,e.at_.toNat,by omega,by omega⟩
 ·exact xc3 ⟨a,e.at_.toNat,by omega,by omega⟩
structure SameP (K K':Ker):Prop where
 sheets:K'.sheets=K.sheets
 nfr:K'.frames.length=K.frames.length
 nsl:K'.slots.length=K.slots.length
 nsp:K'.spaces.length=K.spaces.length
 ar:∀ sp,v8 K' sp=v8 K sp
 live:∀ sp,(a1u K' sp).live=(a1u K sp).live
 peek:∀ sp p,a2K K' sp p=a2K K sp p
theorem SameP.refl (K:Ker):SameP K K:=⟨rfl,rfl,rfl,rfl,fun _=>rfl,fun _=>rfl,fun _ _=>rfl⟩
theorem SameP.trans {K K' K2:Ker} (h:SameP K K') (h2:SameP K' K2):SameP K K2:=⟨h2.sheets.trans h.sheets,h2.nfr.trans h.nfr,h2.nsl.trans h.nsl,h2.nsp.trans h.nsp,fun s=>(h2.ar s).trans (h.ar s),fun s=>(h2.live s).trans (h.live s),fun s p=>(h2.peek s p).trans (h.peek s p)⟩
structure InOk (K K':Ker) (sp:Nat) (page:Int) (f:Nat) (data:List UInt8) (dirty:Bool):Prop where
 right:Right K'
 sheets:K'.sheets=K.sheets
 nfr:K'.frames.length=K.frames.length
 nsl:K'.slots.length=K.slots.length
 nsp:K'.spaces.length=K.spaces.length
 ar:∀ i,v8 K' i=v8 K i
 live:∀ i,(a1u K' i).live=(a1u K i).live
 peek:∀ i p,¬(i=sp/\p=page)->a2K K' i p=a2K K i p
 here:a2K K' sp page=data
 ent:∀ i p,a2F (a03 K' i) p=if i=sp/\p=page then some ⟨page,1,(f:Nat)⟩ else a2F (a03 K i) p
 fm:a3S K'.frames f=⟨data,1,dirty,false⟩
 other:∀ i,i≠f->(∀ w0,a2F (a03 K sp) page=some w0->¬(w0.kind=1/\w0.at_=((i:Nat):Int)))->a3S K'.frames i=a3S K.frames i
structure At (K:Ker) (sp:Nat) (page:Int):Prop where
 live:(a1u K sp).live=true
 ar:(l3 (v8 K sp) page).isSome=true
theorem At.sc {K:Ker} {sp:Nat} {page:Int} (h:At K sp page):∃ s,K.spaces[sp]?=some s/\s.live=true/\(l3 s.areas page).isSome=true:=by
 have h1:=h.live;have h2:=h.ar;unfold v8 at h2
 cases hs:K.spaces[sp]? with
 |none=>rw [a2C hs] at h1;cases h1
 |some s=>rw [a5k hs] at h1 h2;exact ⟨s,rfl,h1,h2⟩
theorem At.same {K K':Ker} {sp:Nat} {page:Int} (h:At K sp page) (h1:∀ i,v8 K' i=v8 K i) (h2:∀ i,(a1u K' i).live=(a1u K i).live):At K' sp page:=⟨(h2 sp).trans h.live,by rw [h1];exact h.ar⟩
theorem named {K:Ker} (h:Right K) {sp:Nat} {p:Int} {e:En} (he:a2F (a03 K sp) p=some e) :
  e.page=p/\((e.kind=1/\∃ i:Nat,e.at_=(i:Nat)/\i < K.frames.length/\(a3S K.frames i).refs≠0/\(a3S K.frames i).data.length=16)\/(e.kind=2/\∃ i:Nat,e.at_=(i:Nat)/\i < K.slots.length/\(a6l K.slots i).refs≠0/\(a6l K.slots i).data.length=16))/\∃ s,K.spaces[sp]?=some s/\e ∈ s.entries:=by
 obtain ⟨h1,h2⟩:=a5J he
 cases hs:K.spaces[sp]? with
 |none=>unfold a03 at h1;rw [a2C hs] at h1;cases h1
 |some s=>
  have h3:e ∈ s.entries:=by unfold a03 at h1;rwa [a5k hs] at h1
  have hn:=a4T hs h3;refine ⟨h2,?_,s,rfl,h3⟩;rcases (h.ent hs h3).2 with ⟨a,i,b,c⟩|⟨a,i,b,c⟩
  ·have ho:=h.fr i _ (xd0 c);rw [a,b] at hn;refine xc6 ⟨a,i,b,c,?_,?_⟩
   ·rw [a5o (xd0 c),ho.refs];intro e0;have:a1w K.spaces 1 (i:Nat)=[]:=xd9 (by omega);rw [this] at hn
    cases hn
   ·rw [a5o (xd0 c)];exact ho.len (fun e0=>by rw [e0] at hn;cases hn)
  ·have ho:=h.sl i _ (xd0 c);rw [a,b] at hn;refine xc3 ⟨a,i,b,c,?_,?_⟩
   ·rw [a5c (xd0 c),ho.refs];intro e0;have:a1w K.spaces 2 (i:Nat)=[]:=xd9 (by omega);rw [this] at hn
    cases hn
   ·rw [a5c (xd0 c)];exact ho.len (fun e0=>by rw [e0] at hn;cases hn)
theorem InOk.same {K K' K2:Ker} {sp:Nat} {page:Int} {f:Nat} {data:List UInt8} {dirty:Bool} (h:InOk K' K2 sp page f data dirty) (h0:SameP K K') (hp:data=a2K K sp page):SameP K K2:=by
 refine ⟨h.sheets.trans h0.sheets,h.nfr.trans h0.nfr,h.nsl.trans h0.nsl,h.nsp.trans h0.nsp,fun i=>(h.ar i).trans (h0.ar i),fun i=>(h.live i).trans (h0.live i),fun i p=>?_⟩;by_cases e:i=sp/\p=page
 ·obtain ⟨rfl,rfl⟩:=e;rw [h.here,hp]
 ·rw [h.peek i p e,h0.peek]
theorem a8y {A:List Ar} (hc:b4 A=0) {p:Int} {a:Ar} (h:l3 A p=some a):1<=p/\p<=255:=by
 have hok:=a5a (m9.1 hc).2.1 h;have:=xg2 h;unfold s7 Ar.fin at this;rw [xh1] at this;unfold Ar.ok at hok;omega
structure PgOk (s:Fs):Prop where
 ck:b4 s.areas=0
 len:(s.pages.length:Int)=o4 s.areas
 rise:Rises (s.pages.map fun p=>p.page)
 mapd:∀ p ∈ s.pages,(l3 s.areas p.page).isSome=true
 data:∀ p ∈ s.pages,p.data.length=16
theorem PgOk.bd {s:Fs} (h:PgOk s) {p:Fp} (hp:p ∈ s.pages):1<=p.page/\p.page<=255:=by
 obtain ⟨a,ha⟩:=xh0.1 (h.mapd p hp);exact a8y h.ck ha
theorem a6E {l:List Int} (h:∀ (i:Nat) a b,l[i]?=some a->l[i + 1]?=some b->a < b):Rises l:=by
 induction l with
 |nil=>exact List.Pairwise.nil
 |cons x l ih=>
  have hl:Rises l:=ih fun i a b h1 h2=>h (i + 1) a b h1 h2;refine List.Pairwise.cons (fun y hy=>?_) hl
  cases l with
  |nil=>cases hy
  |cons z l=>
   have hxz:=h 0 x z rfl rfl;rcases xb3.1 hy with rfl|hy
   ·exact hxz
   ·exact Int.lt_trans hxz ((List.pairwise_cons.1 hl).1 y hy)
theorem b0e {s:Fs} (h:fsB s=true):(s.live=true/\PgOk s)\/(s.live=false/\s.areas=[]/\s.pages=[]):=by
 unfold fsB at h
 split at h
 ·rename_i hl;simp only [xb6,xh1] at h;obtain ⟨h1,h2,h3⟩:=h;unfold q9 at h3;rw [xb7] at h3;have hp:∀ (i:Nat) p,s.pages[i]?=some p->l6 s.areas s.pages i=true:=fun i p hi=>h3 i (xh3.2 (a7 hi));refine xc6 ⟨hl,h1,h2,a6E fun i a b ha hb=>?_,fun p hp'=>?_,fun p hp'=>?_⟩
  ·rw [xf7] at ha hb;obtain ⟨p,hp1,rfl⟩:=xh4.1 ha;obtain ⟨q,hq1,rfl⟩:=xh4.1 hb;have:=hp (i + 1) q hq1;unfold l6 at this;rw [hq1] at this;dsimp only at this;rw [hp1] at this;simp only [xb6,xh1] at this;exact this.2.2
  ·obtain ⟨i,hi⟩:=xc8.1 hp';have:=hp i p hi;unfold l6 at this;rw [hi] at this;simp only [xb6,xh1] at this;exact this.1
  ·obtain ⟨i,hi⟩:=xc8.1 hp';have:=hp i p hi;unfold l6 at this;rw [hi] at this;simp only [xb6,xh1] at this;exact this.2.1
 ·rename_i hl;simp only [xb6,xh1] at h;exact xc3 ⟨by simpa using hl,h.1,h.2⟩
theorem a4B {f:FlV} (h:j6 f=0):∀ x ∈ f.sp,fsB x.1=true:=by
 unfold j6 at h
 split at h
 ·cases h
 ·rename_i hb
  split at h
  ·rename_i h1;simp only [xb6,xb7] at h1;intro x hx;obtain ⟨i,hi⟩:=xc8.1 hx;have h2:=h1.1 i (xh3.2 (a7 hi));unfold a5A at h2;rw [hi] at h2
   split at h2
   ·rename_i y p hy hp
    cases hy
    rw [xb6] at h2;exact h2.1
   ·cases h2
  ·cases h
theorem a59 {s:Fs} (h:fsB s=true):Rises (s.pages.map fun p=>p.page)/\∀ p ∈ s.pages,1<=p.page/\p.page<=255:=by
 rcases b0e h with ⟨-,h⟩|⟨-,-,h⟩
 ·exact ⟨h.rise,fun p hp=>h.bd hp⟩
 ·rw [h];exact ⟨List.Pairwise.nil,fun p hp=>by cases hp⟩
theorem a8C {a t:Int} (h1:1<=a) (h2:a<=255) (ht:-9223372036854775808<=t) (ht2:t<=9223372036854775807) (h:a≠t):IntKind.i64.wrap (a - t)≠0:=by
 intro e;simp only [IntKind.wrap,IntKind.signed,IntKind.bits] at e;omega
def a4U (f:FlV) (space page:Int):Int:=if j6 f=0 then (if space < 0\/(f.sp.length:Int)<=space then 6 else match f.sp[space.toNat]? with
 |some x=>if (a1j x.1.pages page).isSome then 0 else 6
 |none=>6) else j6 f
def a4Q (f:FlV) (space page:Int):List UInt8:=if j6 f=0 then (if space < 0\/(f.sp.length:Int)<=space then [] else match f.sp[space.toNat]? with
 |some x=>((a1j x.1.pages page).map (·.data)).getD []
 |none=>[]) else []
theorem a6d {l:List Fp} {t:Int} {i:Nat} {p:Fp} (h:l[i]?=some p) (ha:∀ q ∈ l.take i,q.page≠t) (hp:p.page=t):a1j l t=some p:=by
 unfold a1j;rw [List.find?_eq_some_iff_append];refine ⟨by simp [hp],l.take i,l.drop (i + 1),?_,fun q hq=>by simp [ha q hq]⟩;have hl:=a7 h;rw [xd0 hl] at h;rw [<- Option.some.inj h,<- List.drop_eq_getElem_cons hl,xh5]
theorem a3K {w:World} {x:Fs×Value×Value} (hA:Sl nF w 4 x.2.1 (x.1.areas.map arC)) (hP:Sl nF w 2 x.2.2 (x.1.pages.map fpC)) (t:Int):Fn Tryz.prog 21 [.agg (fsC x).toArray,.int .i64 t] w (RBf (.tuple #[.string ⟨(((a1j x.1.pages t).map (·.data)).getD []).toArray⟩,.bool (a1j x.1.pages t).isSome]) w):=by
 obtain ⟨⟨live,ars,pgs⟩,va,vp⟩:=x;dsimp only at hA hP |-;have bp:=hP.bound;obtain ⟨pa,ca,rfl⟩:=hA.len;obtain ⟨pp,cp,rfl⟩:=hP.len;unfold fsC;dsimp only;refine yEn Tryz.func21 Tryz.ntmps21 (by kernel_rfl) (by kernel_rfl) rfl rfl ?_;have hS:=St.start w
 repeat' (first|(with_reducible apply a4 a0);rfl;rfl;rfl|refine yDn (by with_reducible constructor) ?_|(with_reducible apply f8 hS);rfl;rfl;rfl;clear hS;intro g w' hS)
 refine a9b hS 6 [1,2] rfl pgs.length (fun i=>∀ q ∈ pgs.take i,q.page≠t) 0 rfl (xe7 _) (fun q hq=>by cases hq) ?_;rintro i w1 hi hall hS';clear hS;have hS:=hS';clear hS';by_cases hlt:i < pgs.length;rotate_left
 ·obtain rfl:i=pgs.length:=by omega
  rw [xe9] at hall;have hno:a1j pgs t=none:=a2S fun h=>by
   obtain ⟨q,hq,h2⟩:=xg1.1 h;exact hall q hq h2
  rw [hno]
  repeat' (first|(with_reducible apply a4 a0);rfl;rfl;rfl|(with_reducible apply a5);rfl;(apply Ld.sl a0;rfl;exact hS.blkC 0 rfl rfl);rfl|refine yDn (by with_reducible constructor) ?_|(with_reducible apply i5);rfl;all_goals (intro hb hp;try (exfalso;omega)))
  (refine a1P rfl ?_)
  exact ⟨rfl,hS.sub (xg4 _)⟩
 obtain ⟨p,hpx⟩:=n8 (l:=pgs) (i:=i) (by omega);have hrow:=j3 (f:=fpC) hpx;obtain ⟨b,off,rfl,hro⟩:=hP.at_ (i:=i) hlt;unfold fpC at hrow;by_cases h:p.page=t
 ·have hd:decide (p.page=t)=true:=xg6 h;rw [a6d hpx hall h]
  repeat' (first|(with_reducible apply a4 a0);rfl;rfl;rfl|(with_reducible apply a5);rfl;(first|apply Ld.sc a0;rfl;(first|exact hS.roC0 (by assumption) (by assumption) rfl|exact hS.roC (by assumption) (by assumption) rfl)|apply Ld.sl a0;rfl;exact hS.blkC 0 rfl rfl);rfl|(with_reducible apply p8 a0);rfl;rfl;rfl;rfl;omega;rfl|refine yDn (by with_reducible constructor) ?_|(with_reducible apply b7);rfl;assumption|(with_reducible apply i5);rfl;all_goals (intro hb hp;try (exfalso;omega)))
  (refine a1P rfl ?_)
  exact ⟨rfl,hS.sub (xg4 _)⟩
 ·have hd:decide (p.page=t)=false:=xg8 h
  repeat' (first|(with_reducible apply a4 a0);rfl;rfl;rfl|(with_reducible apply a5);rfl;(first|apply Ld.sc a0;rfl;exact hS.roC0 (by assumption) (by assumption) rfl|apply Ld.sl a0;rfl;exact hS.blkC 0 rfl rfl);rfl|(with_reducible apply p8 a0);rfl;rfl;rfl;rfl;omega;rfl|(with_reducible apply a0q);rfl;rfl;omega;omega;rfl|refine yDn (by with_reducible constructor) ?_|(with_reducible apply j5);rfl;assumption|(with_reducible apply i5);rfl;all_goals (intro hb hp;try (exfalso;omega)))
  exact a83 (i + 1) (by exact Fr.sub_of rfl) (by omega) (fun q hq=>by
   rw [a0Y hpx,xd1,xh6] at hq;rcases hq with hq|rfl
   ·exact hall q hq
   ·exact h) (by omega) hS
theorem a31 {w:World} {f:FlV} (hK:FlOk w f) (space:Int) {page:Int} (h1:-9223372036854775808<=page) (h2:page<=9223372036854775807):Fn Tryz.prog 20 [.agg (flC f).toArray,.int .i64 space,.int .i64 page] w (RBf (.tuple #[.string ⟨(a4Q f space page).toArray⟩,.int .i64 (a4U f space page)]) w):=by
 have hck:=fun w1 (h:FlOk w1 f)=>a3t h;have hsp0:=fun h=>a4B (f:=f) h;have hpn:=fun w1 gm vsp (h:FlOk w1 f) i x hb0 (hvs:vsp=f.vsp) hx hb=>a89 (w:=w1) (gm:=gm) (vsp:=vsp) (sp:=f.sp) (i:=i) (x:=x) (t:=page) hb0 (hvs ▸ h.sp) hx (h.pg x (xc0 hx)) hb;have hpa:=fun w1 gm vsp (h:FlOk w1 f) i k x y bp op cp hb0 (hvs:vsp=f.vsp) hx=>a8o (w:=w1) (gm:=gm) (vsp:=vsp) (sp:=f.sp) (i:=i) (k:=k) (x:=x) (t:=page) (y:=y) (bp:=bp) (op:=op) (cp:=cp) hb0 (hvs ▸ h.sp) hx (h.pg x (xc0 hx));unfold a4Q a4U;have hK0:=hK;generalize j6 f=c at hck hsp0 |-;obtain ⟨slots,sp,pr,out,vsp,vpr,vout⟩:=f;obtain ⟨m1,m2,m3,m4,m5⟩:=hK;have b1:=m1.bound;dsimp only at m1 m2 m3 m4 m5 b1 hsp0 hpn hpa |-;obtain ⟨p1,c1,rfl⟩:=m1.len;obtain ⟨p2,c2,rfl⟩:=m4.len;obtain ⟨p3,c3,rfl⟩:=m5.len;unfold flC at hck |-;dsimp only at hck |-;by_cases h0:c=0;rotate_left
 ·have hd:(!decide (c=0))=true:=by rw [xg8 h0];rfl
  rw [xd7 h0,xd7 h0];refine yEn Tryz.func20 Tryz.ntmps20 (by kernel_rfl) (by kernel_rfl) rfl rfl ?_;have hS:=St.start w
  repeat' (first|(with_reducible apply a4 a0);rfl;rfl;rfl|(with_reducible apply a5);rfl;(apply Ld.st a0;rfl;exact hS.blkR 0 rfl;rfl);rfl|refine yDn (by with_reducible constructor) ?_|(with_reducible apply b7);rfl;assumption|(with_reducible apply f8 hS);rfl;rfl;rfl;clear hS;intro g w' hS|(with_reducible apply d5 hS);rfl;rfl;rfl;refine ⟨_,hck _ (hK0.now hS),?_⟩;clear hS;intro w' hS)
  (refine a1P rfl ?_)
  exact ⟨rfl,hS.sub (xg4 _)⟩
 have hd:(!decide (c=0))=false:=by rw [xg6 h0];rfl
 rw [xd6 h0,xd6 h0];by_cases h3:space < 0\/(sp.length:Int)<=space
 ·rw [xd6 h3,xd6 h3];refine yEn Tryz.func20 Tryz.ntmps20 (by kernel_rfl) (by kernel_rfl) rfl rfl ?_;have hS:=St.start w
  repeat' (first|(with_reducible apply a4 a0);rfl;rfl;rfl|(with_reducible apply a5);rfl;(first|apply Ld.sl a0;rfl;exact hS.blkC 0 rfl rfl|apply Ld.st a0;rfl;exact hS.blkR 0 rfl;rfl);rfl|refine yDn (by with_reducible constructor) ?_|(with_reducible apply i6);(iterate 4 rfl);assumption|(with_reducible apply q7);(iterate 4 rfl);assumption;rfl|(with_reducible apply d7);rfl;assumption;rfl;rfl|(with_reducible apply a9);rfl;assumption;rfl;rfl|(with_reducible apply b7);rfl;rfl|(with_reducible apply j5);rfl;assumption|(with_reducible apply f8 hS);rfl;rfl;rfl;clear hS;intro g w' hS|(with_reducible apply a0d);rfl;rfl;rfl;all_goals (intro hb hp;try (exfalso;omega))|(with_reducible apply i5);rfl;all_goals (intro hb hp;try (exfalso;omega))|(with_reducible apply d5 hS);rfl;rfl;rfl;refine ⟨_,hck _ (hK0.now hS),?_⟩;clear hS;intro w' hS)
  all_goals ((refine a1P rfl ?_))
  all_goals exact ⟨rfl,hS.sub (xg4 _)⟩
 rw [xd7 h3,xd7 h3];obtain ⟨i,rfl⟩:∃ i:Nat,space=(i:Nat):=⟨space.toNat,by omega⟩;have hil:i < sp.length:=by omega
 have hd3:decide ((i:Int) < 0)=false:=xg8 (by omega);have hd4:decide ((i:Int) ≥ (sp.length:Int))=false:=xg8 (by omega);obtain ⟨x,hx⟩:=n8 (l:=sp) (i:=i) (by omega);rw [Int.toNat_natCast,hx];dsimp only;obtain ⟨hri,hbd⟩:=a59 (hsp0 h0 x (xc0 hx));by_cases hm:page ∈ x.1.pages.map fun p=>p.page
 ·obtain ⟨y,hy,hyp,hym⟩:=a7U hm;have hyk:=a6H hri hy;rw [hy];obtain ⟨k,hk⟩:∃ k,k=lbd (x.1.pages.map fun p=>p.page) page:=⟨_,rfl⟩;rw [<- hk] at hyk;have hkl:=a7 hyk;have hpg:=m3 x (xc0 hx);have hrow:=j3 (f:=fpC) hyk;have hbb:∀ q ∈ x.1.pages.map fun e=>e.page,-9223372036854775808<=q - page/\q - page<=9223372036854775807:=fun q hq=>by
   obtain ⟨z,hz,rfl⟩:=xg1.1 hq;have:=hbd z hz;have:=hbd y hym;omega
  obtain ⟨pp,cp,hvp⟩:=hpg.len;have hpg':=hpg;rw [hvp] at hpg';obtain ⟨bp,op,rfl,hro⟩:=hpg'.at_ (i:=k) hkl;have hpa:=fun w1 gm (h:FlOk w1 _) hb0=>hpa w1 gm _ h i k x y bp op cp hb0 rfl hx hvp hri hbb hk.symm hyk hyp;unfold fpC at hrow;refine yEn Tryz.func20 Tryz.ntmps20 (by kernel_rfl) (by kernel_rfl) rfl rfl ?_;have hS:=St.start w
  repeat' (first|(with_reducible apply a4 a0);rfl;rfl;rfl|(with_reducible apply a5);rfl;(first|apply Ld.sc a0;rfl;exact hS.roC (by assumption) (by assumption) rfl|apply Ld.sl a0;rfl;exact hS.blkC 0 rfl rfl|apply Ld.st a0;rfl;exact hS.blkR 0 rfl;rfl);rfl|(with_reducible apply a0l a0);rfl;rfl;exact (rfl:_=some [_,_]);rfl|refine yDn (by with_reducible constructor) ?_|(with_reducible apply i6);(iterate 4 rfl);rfl|(with_reducible apply a9);rfl;rfl;rfl;rfl|((with_reducible apply j5);rfl;first|rfl|assumption)|(with_reducible apply f8 hS);rfl;rfl;rfl;clear hS;intro g w' hS|(with_reducible apply d5 hS);rfl;rfl;rfl;refine ⟨_,hck _ (hK0.now hS),?_⟩;clear hS;intro w' hS|(with_reducible apply d5 hS);rfl;rfl;rfl;refine ⟨_,hpa _ _ (hK0.now hS) (Bs.of (hS.blkC 0 rfl rfl)),?_⟩;clear hS;intro w' hS)
  (refine a1P rfl ?_)
  exact ⟨rfl,hS.sub (xg4 _)⟩
 ·rw [a2S hm];have hpn:=fun w1 gm (h:FlOk w1 _) hb0=>hpn w1 gm _ h i x hb0 rfl hx fun y hy=>a8C (hbd y hy).1 (hbd y hy).2 h1 h2 fun e=>hm (xg1.2 ⟨y,hy,e⟩);refine yEn Tryz.func20 Tryz.ntmps20 (by kernel_rfl) (by kernel_rfl) rfl rfl ?_;have hS:=St.start w
  repeat' (first|(with_reducible apply a4 a0);rfl;rfl;rfl|(with_reducible apply a5);rfl;(first|apply Ld.sl a0;rfl;exact hS.blkC 0 rfl rfl|apply Ld.st a0;rfl;exact hS.blkR 0 rfl;rfl);rfl|(with_reducible apply a0l a0);rfl;rfl;exact (rfl:_=some [_,_]);rfl|refine yDn (by with_reducible constructor) ?_|(with_reducible apply i6);(iterate 4 rfl);rfl|(with_reducible apply a9);rfl;rfl;rfl;rfl|(with_reducible apply b7);rfl;rfl|(with_reducible apply j5);rfl;assumption|(with_reducible apply f8 hS);rfl;rfl;rfl;clear hS;intro g w' hS|(with_reducible apply d5 hS);rfl;rfl;rfl;refine ⟨_,hck _ (hK0.now hS),?_⟩;clear hS;intro w' hS|(with_reducible apply d5 hS);rfl;rfl;rfl;refine ⟨_,hpn _ _ (hK0.now hS) (Bs.of (hS.blkC 0 rfl rfl)),?_⟩;clear hS;intro w' hS)
  (refine a1P rfl ?_)
  exact ⟨rfl,hS.sub (xg4 _)⟩
theorem a3c {w:World} {f:FlV} (hK:FlOk w f) (space:Int) {page:Int} (h1:-9223372036854775808<=page) (h2:page<=9223372036854775807):Fn Tryz.prog 6 [.agg (flC f).toArray,.int .i64 space,.int .i64 page] w (RBf (.bool true) w):=by
 have hpk:=fun w1 (h:FlOk w1 f)=>a31 h space h1 h2;have hcr:=fun w1 (h:FlOk w1 f)=>a3w h;have hfp:=fun w1 (h:FlOk w1 f) x (hx:x ∈ f.sp)=>a3K (h.ar x hx) (h.pg x hx) page;have hbg:=a2w;unfold a4Q a4U at hpk;have hK0:=hK;generalize j6 f=c at hpk hcr;obtain ⟨slots,sp,pr,out,vsp,vpr,vout⟩:=f;obtain ⟨m1,m2,m3,m4,m5⟩:=hK;have b1:=m1.bound;dsimp only at m1 m2 m3 m4 m5 b1 hpk hfp |-;obtain ⟨p1,c1,rfl⟩:=m1.len;obtain ⟨p2,c2,rfl⟩:=m4.len;obtain ⟨p3,c3,rfl⟩:=m5.len;unfold flC at hpk hcr |-;dsimp only at hpk hcr |-;have hd6:decide ((6:Int)=6)=true:=rfl;by_cases h0:c=0;rotate_left
 ·have hd:decide (c=0)=false:=xg8 h0;have hdc:decide (c=c)=true:=xg6 rfl;simp only [xd7 h0] at hpk;refine yEn Tryz.func6 Tryz.ntmps6 (by kernel_rfl) (by kernel_rfl) rfl rfl ?_;have hS:=St.start w
  repeat' (first|(with_reducible apply a4 a0);rfl;rfl;rfl|(with_reducible apply a5);rfl;(apply Ld.st a0;rfl;exact hS.blkR 0 rfl;rfl);rfl|refine yDn (by with_reducible constructor) ?_|((with_reducible apply i6);(iterate 4 rfl);first|rfl|assumption)|(with_reducible apply d7);rfl;(first|rfl|assumption);rfl;rfl|(with_reducible apply j5);rfl;assumption|(with_reducible apply f8 hS);rfl;rfl;rfl;clear hS;intro g w' hS|(with_reducible apply d5 hS);rfl;rfl;rfl;refine ⟨_,hpk _ (hK0.now hS),?_⟩;clear hS;intro w' hS|(with_reducible apply d5 hS);rfl;rfl;rfl;refine ⟨_,hcr _ (hK0.now hS),?_⟩;clear hS;intro w' hS|(with_reducible apply d5 hS);rfl;rfl;rfl;refine ⟨_,hbg _,?_⟩;clear hS;intro w' hS)
  (refine i2 rfl ?_)
  exact ⟨by simp,hS.sub (xg4 _)⟩
 have hd:decide (c=0)=true:=xg6 h0;subst h0;simp only [↓reduceIte] at hpk;by_cases h3:space < 0\/(sp.length:Int)<=space
 ·simp only [xd6 h3] at hpk;refine yEn Tryz.func6 Tryz.ntmps6 (by kernel_rfl) (by kernel_rfl) rfl rfl ?_;have hS:=St.start w
  repeat' (first|(with_reducible apply a4 a0);rfl;rfl;rfl|(with_reducible apply a5);rfl;(first|apply Ld.sl a0;rfl;exact hS.blkC 0 rfl rfl|apply Ld.st a0;rfl;exact hS.blkR 0 rfl;rfl);rfl|refine yDn (by with_reducible constructor) ?_|((with_reducible apply i6);(iterate 4 rfl);first|rfl|assumption)|(with_reducible apply q7);(iterate 4 rfl);assumption;rfl|(with_reducible apply d7);rfl;(first|rfl|assumption);rfl;rfl|(with_reducible apply a9);rfl;assumption;rfl;rfl|(with_reducible apply b7);rfl;rfl|(with_reducible apply j5);rfl;rfl|(with_reducible apply f8 hS);rfl;rfl;rfl;clear hS;intro g w' hS|(with_reducible apply a0d);rfl;rfl;rfl;all_goals (intro hb hp;try (exfalso;omega))|(with_reducible apply i5);rfl;all_goals (intro hb hp;try (exfalso;omega))|(with_reducible apply d5 hS);rfl;rfl;rfl;refine ⟨_,hpk _ (hK0.now hS),?_⟩;clear hS;intro w' hS|(with_reducible apply d5 hS);rfl;rfl;rfl;refine ⟨_,hcr _ (hK0.now hS),?_⟩;clear hS;intro w' hS|(with_reducible apply d5 hS);rfl;rfl;rfl;refine ⟨_,hbg _,?_⟩;clear hS;intro w' hS)
  all_goals ((refine i2 rfl ?_))
  all_goals exact ⟨rfl,hS.sub (xg4 _)⟩
 simp only [xd7 h3] at hpk;obtain ⟨i,rfl⟩:∃ i:Nat,space=(i:Nat):=⟨space.toNat,by omega⟩;have hil:i < sp.length:=by omega
 obtain ⟨x,hx⟩:=n8 (l:=sp) (i:=i) (by omega);simp only [Int.toNat_natCast,hx] at hpk;have hfp:=fun w1 h=>hfp w1 h x (xc0 hx);have hrow:=j3 (f:=fsC) hx;obtain ⟨b,off,rfl,hro⟩:=m1.at_ (i:=i) hil;unfold fsC at hrow hfp
 cases hfa:a1j x.1.pages page with
 |none=>
  simp only [hfa] at hpk hfp;refine yEn Tryz.func6 Tryz.ntmps6 (by kernel_rfl) (by kernel_rfl) rfl rfl ?_;have hS:=St.start w
  repeat' (first|(with_reducible apply a4 a0);rfl;rfl;rfl|(with_reducible apply a5);rfl;(first|apply Ld.sl a0;rfl;exact hS.blkC 0 rfl rfl|apply Ld.st a0;rfl;(first|exact hS.blkR 0 rfl|exact hS.roR (by assumption) (by assumption));rfl);rfl|(with_reducible apply p8 a0);rfl;rfl;rfl;rfl;omega;rfl|refine yDn (by with_reducible constructor) ?_|(with_reducible apply i6);(iterate 4 rfl);rfl|(with_reducible apply d7);rfl;rfl;rfl;rfl|(with_reducible apply b7);rfl;rfl|(with_reducible apply f8 hS);rfl;rfl;rfl;clear hS;intro g w' hS|(with_reducible apply i5);rfl;all_goals (intro hb hp;try (exfalso;omega))|(with_reducible apply d5 hS);rfl;rfl;rfl;refine ⟨_,hpk _ (hK0.now hS),?_⟩;clear hS;intro w' hS|(with_reducible apply d5 hS);rfl;rfl;rfl;refine ⟨_,hcr _ (hK0.now hS),?_⟩;clear hS;intro w' hS|(with_reducible apply d5 hS);rfl;rfl;rfl;refine ⟨_,hbg _,?_⟩;clear hS;intro w' hS|(with_reducible apply d5 hS);rfl;rfl;rfl;refine ⟨_,hfp _ (hK0.now hS),?_⟩;clear hS;intro w' hS)
  (refine i2 rfl ?_)
  exact ⟨rfl,hS.sub (xg4 _)⟩
 |some y=>
  simp only [hfa] at hpk hfp;refine yEn Tryz.func6 Tryz.ntmps6 (by kernel_rfl) (by kernel_rfl) rfl rfl ?_;have hS:=St.start w
  repeat' (first|(with_reducible apply a4 a0);rfl;rfl;rfl|(with_reducible apply a5);rfl;(first|apply Ld.sl a0;rfl;exact hS.blkC 0 rfl rfl|apply Ld.st a0;rfl;(first|exact hS.blkR 0 rfl|exact hS.roR (by assumption) (by assumption));rfl);rfl|(with_reducible apply p8 a0);rfl;rfl;rfl;rfl;omega;rfl|refine yDn (by with_reducible constructor) ?_|(with_reducible apply i6);(iterate 4 rfl);rfl|(with_reducible apply d7);rfl;rfl;rfl;rfl|(with_reducible apply b7);rfl;rfl|(with_reducible apply j5);rfl;rfl|(with_reducible apply f8 hS);rfl;rfl;rfl;clear hS;intro g w' hS|(with_reducible apply i5);rfl;all_goals (intro hb hp;try (exfalso;omega))|(with_reducible apply d5 hS);rfl;rfl;rfl;refine ⟨_,hpk _ (hK0.now hS),?_⟩;clear hS;intro w' hS|(with_reducible apply d5 hS);rfl;rfl;rfl;refine ⟨_,hcr _ (hK0.now hS),?_⟩;clear hS;intro w' hS|(with_reducible apply d5 hS);rfl;rfl;rfl;refine ⟨_,hbg _,?_⟩;clear hS;intro w' hS|(with_reducible apply d5 hS);rfl;rfl;rfl;refine ⟨_,hfp _ (hK0.now hS),?_⟩;clear hS;intro w' hS)
  (refine i2 rfl ?_)
  exact ⟨by simp,hS.sub (xg4 _)⟩
end Go.Proofs.YtejnpppejalhfadGreat
namespace Go.Proofs.YtejnpppejalhfadGreat
set_option maxRecDepth 100000
set_option maxHeartbeats 8000000
open Go.ChangeShapes Go.WideShapes Go.ChangeAt Go.RowKit Go.Deep
def a5d {α:Type} (R:α->List Value->Prop) (xs:List α) (rows:List (List Value)):Prop:=rows.length=xs.length/\∀ (i:Nat) (x:α) (r:List Value),xs[i]?=some x->rows[i]?=some r->R x r
section
variable {H:Type} {enc:TypeId×Value->H} {P:Program} {w:World} {base:Nat} {spare:Nat->Bool} {held:Bool}
theorem a8J {α:Type} [Inhabited α] {t e:TypeId} {fuel sz:Nat} {cs:List Value} {y:DataW H×List MemPlace} (ht:P.underlying t=some (.slice e)) (hsz:P.cellsOf e=sz) (hpos:0 < sz) (R:α->List Value->Prop) (hR1:∀ x r,R x r->r.all (·.oneCell')=true)
  (hR:∀ (n:Nat) (cs':List Value) (z:DataW H×List MemPlace),cs'.length=sz->DataW.trod enc P w base spare held n e cs'=some z->∃ x:α,R x cs') (h:DataW.trod enc P w base spare held fuel t cs=some y) :
  ∃ v xs rows,cs=[v]/\Sl nF w sz v rows/\a5d R xs rows/\v.oneCell'=true:=by
 rcases open_slice ht h with ⟨rfl,_⟩|⟨a,len,cap,m,n,D,Pl,rfl,hb,hl,hm,hmm,_,hx⟩
 ·exact ⟨_,[],[],rfl,xc6 ⟨_,_,rfl,rfl⟩,⟨rfl,fun i x r h=>by simp at h⟩,rfl⟩
 ·have hlm:len<=m:=by rw [hmm];split <;> omega
  rw [hsz] at hx;have key:∀ i,∃ r x,i < len->w.cells? base (a.add (i * sz)) sz=some r/\R x r/\r.length=sz:=fun i=>by
   by_cases hi:i < len
   ·obtain ⟨cs',h1,h2⟩:=hx i (by omega);have hl:=(World.cells?_some h1).2.1;obtain ⟨x,hr⟩:=hR n cs' _ hl h2;exact ⟨cs',x,fun _=>⟨h1,hr,hl⟩⟩
   ·exact ⟨[],default,fun h=>(hi h).elim⟩
  obtain ⟨r,hr⟩:=Classical.axiomOfChoice key;obtain ⟨x,hr⟩:=Classical.axiomOfChoice hr;refine ⟨_,(List.range len).map x,(List.range len).map r,rfl,?_,⟨by simp,fun i y r' h1 h2=>?_⟩,rfl⟩
  ·by_cases h0:len=0
   ·subst h0;exact xc6 ⟨_,_,rfl,rfl⟩
   ·obtain ⟨b,off,spot⟩:=a;have hcell:∀ i,i < len->∀ j,j < sz->w.cell? (((⟨b,off,spot⟩:Addr).add (i * sz)).add j)=(r i)[j]?:=fun i hi j hj=>(World.cells?_some (hr i hi).1).2.2 j hj;have h00:=hcell 0 (by omega) 0 hpos;obtain ⟨u0,hu0⟩:∃ u,(r 0)[0]?=some u:=⟨(r 0)[0]'(by rw [(hr 0 (by omega)).2.2];exact hpos),by simp⟩;rw [hu0] at h00;simp only [Nat.zero_mul,Addr.add,if_true] at h00;have hspot:spot=none:=by
     cases spot with
     |none=>rfl
     |some s=>simp [World.cell?] at h00;split at h00 <;> simp at h00
    subst hspot;have hbl:=World.block_lt_of_cell? w _ h00;refine xc3 ⟨b,off,cap,by simp,by simpa using hl,hm,⟨hbl,id,fun r' hr'=>?_,fun r' hr'=>?_,fun k r' hk j u hj=>?_⟩⟩
    ·obtain ⟨i,hi,rfl⟩:=xg1.1 hr';exact (hr i (by simpa using hi)).2.2
    ·obtain ⟨i,hi,rfl⟩:=xg1.1 hr';exact hR1 _ _ (hr i (by simpa using hi)).2.1
    ·have hk':k < len:=by have:=a7 hk;simpa using this
     simp [hk'] at hk;subst hk;have hjl:j < sz:=by have:=a7 hj;rwa [(hr k hk').2.2] at this
     have:=hcell k hk' j hjl;rw [hj] at this
     rwa [Addr.add_mid,Addr.add_mid] at this
  ·have hi:i < len:=by have:=a7 h1;simpa using this
   simp [hi] at h1 h2;subst h1 h2;exact (hr i hi).2.1
end
end Go.Proofs.YtejnpppejalhfadGreat
namespace Go.Proofs.YtejnpppejalhfadGreat
set_option maxRecDepth 100000
set_option maxHeartbeats 8000000
open Go.ChangeShapes Go.WideShapes Go.ChangeAt Go.RowKit
section
variable {H:Type} {enc:TypeId×Value->H} {W:World} {base b0:Nat} {sp:Nat->Bool} {held:Bool}
theorem cI {n:Nat} {t:TypeId} {c:Value} {o:Option (DataW H×List MemPlace)} (ht:(Tryz.prog).underlying t=some (.int .i64)) (h:DataW.trod enc Tryz.prog W base sp held n t [c]=o) (ho:o.isSome=true):∃ k:Int,c=.int .i64 k/\(Lit.int .i64 k).wf=true:=by
 obtain ⟨x,hx⟩:=xh0.1 ho;obtain ⟨k,hk,_,hw⟩:=DataW.trod_int ht (h.trans hx);simp only [List.cons.injEq,and_true] at hk;exact ⟨k,hk,hw⟩
theorem cB {n:Nat} {t:TypeId} {c:Value} {o:Option (DataW H×List MemPlace)} (ht:(Tryz.prog).underlying t=some .bool) (h:DataW.trod enc Tryz.prog W base sp held n t [c]=o) (ho:o.isSome=true):∃ b:Bool,c=.bool b:=by
 obtain ⟨x,hx⟩:=xh0.1 ho;obtain ⟨b,hb,_⟩:=DataW.trod_bool ht (h.trans hx);simp only [List.cons.injEq,and_true] at hb;exact ⟨b,hb⟩
theorem cS {n:Nat} {t:TypeId} {c:Value} {o:Option (DataW H×List MemPlace)} (ht:(Tryz.prog).underlying t=some .string) (h:DataW.trod enc Tryz.prog W base sp held n t [c]=o) (ho:o.isSome=true):∃ l:List UInt8,c=.string ⟨l.toArray⟩/\l.length<=maxLen:=by
 obtain ⟨x,hx⟩:=xh0.1 ho;obtain ⟨s,hs,_,hl⟩:=DataW.trod_string ht (h.trans hx);simp only [List.cons.injEq,and_true] at hs;obtain ⟨⟨l⟩⟩:=s;exact ⟨l,hs,by simpa [ByteArray.size] using hl⟩
theorem gS {α:Type} {l:List α} {i:Nat} (h:i < l.length):(l[i]?).isSome=true:=by simp [h]
theorem a1v:(Tryz.prog).cellsOf 3=1:=by kernel_rfl
theorem a5v:(Tryz.prog).cellsOf 4=1:=by kernel_rfl
theorem a57:(Tryz.prog).cellsOf 9=1:=by kernel_rfl
theorem a8r:(Tryz.prog).cellsOf 119=4:=by kernel_rfl
instance:Inhabited Ar:=⟨⟨0,0,0,false⟩⟩
theorem a5T {n:Nat} {cs:List Value} {z:DataW H×List MemPlace} (hl:cs.length=4) (h:DataW.trod enc Tryz.prog W base sp held n 119 cs=some z):∃ a:Ar,cs=arC a:=by
 match cs,hl with
 |[c0,c1,c2,c3],_=>
  obtain ⟨xs,n,_,_,_,hl,hf⟩:=DataW.trod_struct Tryz.underlying119 h;have f0:=hf 0 _ rfl;have f1:=hf 1 _ rfl;have f2:=hf 2 _ rfl;have f3:=hf 3 _ rfl;simp only [xh7,xh8,xh9,a1v,a5v,xi0,xi1,xi2,xi3] at f0 f1 f2 f3;have hl:xs.length=4:=hl;obtain ⟨k0,rfl,_⟩:=cI Tryz.underlying3 f0 (gS (by omega));obtain ⟨k1,rfl,_⟩:=cI Tryz.underlying3 f1 (gS (by omega));obtain ⟨k2,rfl,_⟩:=cI Tryz.underlying3 f2 (gS (by omega));obtain ⟨k3,rfl⟩:=cB Tryz.underlying4 f3 (gS (by omega));exact ⟨⟨k0,k1,k2,k3⟩,rfl⟩
end
section
variable {H:Type} {enc:TypeId×Value->H} {W:World} {base b0:Nat} {sp:Nat->Bool} {held:Bool}
instance:Inhabited Fx:=⟨⟨0,[]⟩⟩
instance:Inhabited Sh:=⟨⟨0,[],[]⟩⟩
theorem a7N:(Tryz.prog).cellsOf 57=1:=by kernel_rfl
theorem a3C {α:Type} {f:α->List Value} {G:α->Prop} {xs:List α} {rows:List (List Value)} (h:a5d (fun a r=>r=f a/\G a) xs rows):rows=xs.map f/\∀ x ∈ xs,G x:=by
 obtain ⟨h1,h2⟩:=h;refine ⟨?_,fun x hx=>?_⟩
 ·apply xf3;intro i;rw [xf7];by_cases hi:i < xs.length
  ·rw [xd0 hi,xd0 (by omega)];simp only [xf8,Option.some.injEq];exact (h2 i _ _ (xd0 hi) (xd0 (by omega))).1
  ·rw [xf9 (by omega),xf9 (by omega)];rfl
 ·obtain ⟨i,hi⟩:=xc8.1 hx;have hl:=a7 hi;exact (h2 i x _ hi (xd0 (by rw [h1];exact hl))).2
theorem cc1 {c v:Value} (h:[c]=[v]):c=v:=by simpa using h
theorem a0F {α:Type} [Inhabited α] {n:Nat} {t e sz:Nat} {c:Value} {o:Option (DataW H×List MemPlace)} (ht:(Tryz.prog).underlying t=some (.slice e)) (hsz:(Tryz.prog).cellsOf e=sz) (hpos:0 < sz) (f:α->List Value) (G:α->Prop) (h1:∀ x,(f x).all (·.oneCell')=true\/¬ G x)
  (hR:∀ (n:Nat) (cs':List Value) (z:DataW H×List MemPlace),cs'.length=sz->DataW.trod enc Tryz.prog W base sp held n e cs'=some z->∃ x:α,cs'=f x/\G x) (h:DataW.trod enc Tryz.prog W base sp held n t [c]=o) (ho:o.isSome=true):∃ xs:List α,Sl nF W sz c (xs.map f)/\(∀ x ∈ xs,G x)/\c.oneCell'=true:=by
 obtain ⟨x,hx⟩:=xh0.1 ho;obtain ⟨v,xs,rows,hv,hsl,hra,hone⟩:=a8J ht hsz hpos (fun (a:α) r=>r=f a/\G a) (fun x r h=>by
  obtain ⟨rfl,hg⟩:=h;rcases h1 x with h|h
  ·exact h
  ·exact absurd hg h) (fun n cs' z hl hz=>hR n cs' z hl hz) (h.trans hx)
 obtain rfl:=cc1 hv;obtain ⟨rfl,hg⟩:=a3C hra;exact ⟨xs,hsl,hg,hone⟩
end
section
variable {H:Type} {enc:TypeId×Value->H} {W:World} {base b0:Nat} {sp:Nat->Bool} {held:Bool}
instance:Inhabited Wd:=⟨⟨0,0⟩⟩
instance:Inhabited Fp:=⟨⟨0,[]⟩⟩
instance:Inhabited Pc:=⟨⟨0,0,0,0,0,0,0,0,0,0,0,0,0⟩⟩
instance:Inhabited Fs:=⟨⟨false,[],[]⟩⟩
theorem a8R:(Tryz.prog).cellsOf 73=2:=by kernel_rfl
theorem a9i:(Tryz.prog).cellsOf 78=13:=by kernel_rfl
theorem a9e:(Tryz.prog).cellsOf 74=8:=by kernel_rfl
theorem a73:(Tryz.prog).cellsOf 76=2:=by kernel_rfl
theorem a7V:(Tryz.prog).cellsOf 83=2:=by kernel_rfl
theorem a5O:(Tryz.prog).cellsOf 60=3:=by kernel_rfl
theorem a8I:(Tryz.prog).cellsOf 26=4:=by kernel_rfl
theorem a7d:(Tryz.prog).cellsOf 24=1:=by kernel_rfl
theorem a66:(Tryz.prog).cellsOf 23=1:=by kernel_rfl
theorem a6h:(Tryz.prog).cellsOf 58=1:=by kernel_rfl
theorem a4w:(Tryz.prog).cellsOf 22=1:=by kernel_rfl
def a0t (k:Int):Prop:=-9223372036854775808<=k/\k<=9223372036854775807
theorem o6 {k:Int} (h:(Lit.int .i64 k).wf=true):a0t k:=by simpa [a0t,Lit.wf,IntKind.min,IntKind.max,IntKind.signed,IntKind.bits] using h
def pcB (p:Pc):Prop:=((a0t p.r0/\a0t p.r1/\a0t p.r2/\a0t p.r3)/\(a0t p.r4/\a0t p.r5/\a0t p.r6/\a0t p.r7))/\a0t p.pc/\a0t p.state/\a0t p.code/\a0t p.fk/\a0t p.fa
theorem a4R {n:Nat} {cs:List Value} {z:DataW H×List MemPlace} (hl:cs.length=2) (h:DataW.trod enc Tryz.prog W base sp held n 73 cs=some z):∃ x:Wd,cs=wdC x:=by
 match cs,hl with
 |[c0,c1],_=>
  obtain ⟨xs,n,_,_,_,hl,hf⟩:=DataW.trod_struct Tryz.underlying73 h;have f0:=hf 0 _ rfl;have f1:=hf 1 _ rfl;simp only [xh7,xh8,xh9,a1v,xi0,xi1,xi2,xi3] at f0 f1;have hl:xs.length=2:=hl;obtain ⟨k0,rfl,_⟩:=cI Tryz.underlying3 f0 (gS (by omega));obtain ⟨k1,rfl,_⟩:=cI Tryz.underlying3 f1 (gS (by omega));exact ⟨⟨k0,k1⟩,rfl⟩
theorem a3N {n:Nat} {cs:List Value} {z:DataW H×List MemPlace} (hl:cs.length=2) (h:DataW.trod enc Tryz.prog W base sp held n 83 cs=some z):∃ x:Fp,cs=fpC x/\a0t x.page:=by
 match cs,hl with
 |[c0,c1],_=>
  obtain ⟨xs,n,_,_,_,hl,hf⟩:=DataW.trod_struct Tryz.underlying83 h;have f0:=hf 0 _ rfl;have f1:=hf 1 _ rfl;simp only [xh7,xh8,xh9,a1v,a57,xi0,xi1,xi2,xi3] at f0 f1;have hl:xs.length=2:=hl;obtain ⟨k0,rfl,w0⟩:=cI Tryz.underlying3 f0 (gS (by omega));obtain ⟨l1,rfl,_⟩:=cS Tryz.underlying9 f1 (gS (by omega));exact ⟨⟨k0,l1⟩,rfl,o6 w0⟩
theorem a45 {n:Nat} {cs:List Value} {z:DataW H×List MemPlace} (hl:cs.length=13) (h:DataW.trod enc Tryz.prog W base sp held n 78 cs=some z):∃ p:Pc,cs=prC p/\pcB p:=by
 match cs,hl with
 |[c0,c1,c2,c3,c4,c5,c6,c7,c8,c9,c10,c11,c12],_=>
  obtain ⟨xs,n,_,_,_,hl,hf⟩:=DataW.trod_struct Tryz.underlying78 h;have f0:=hf 0 _ rfl;have f1:=hf 1 _ rfl;have f2:=hf 2 _ rfl;have f3:=hf 3 _ rfl;have f4:=hf 4 _ rfl;simp only [xh7,xh8,xh9,a1v,a9e,a73,xi0,xi1,xi2,xi3] at f0 f1 f2 f3 f4;have hl:xs.length=5:=hl;obtain ⟨k8,rfl,w8⟩:=cI Tryz.underlying3 f1 (gS (by omega));obtain ⟨k9,rfl,w9⟩:=cI Tryz.underlying3 f2 (gS (by omega));obtain ⟨k10,rfl,w10⟩:=cI Tryz.underlying3 f3 (gS (by omega));obtain ⟨y0,hy0⟩:=xh0.1 (gS (l:=xs) (i:=0) (by omega));obtain ⟨y4,hy4⟩:=xh0.1 (gS (l:=xs) (i:=4) (by omega));obtain ⟨zs,m,_,_,_,hm,hg⟩:=DataW.trod_array Tryz.underlying74 (f0.trans hy0);obtain ⟨us,q,_,_,_,hu,hh⟩:=DataW.trod_struct Tryz.underlying76 (f4.trans hy4);have g0:=hg 0 (by omega);have g1:=hg 1 (by omega);have g2:=hg 2 (by omega);have g3:=hg 3 (by omega);have g4:=hg 4 (by omega);have g5:=hg 5 (by omega);have g6:=hg 6 (by omega);have g7:=hg 7 (by omega);have h0:=hh 0 _ rfl;have h1:=hh 1 _ rfl;simp only [xh7,xh8,xh9,a1v,Nat.zero_mul,Nat.mul_one,xi0,xi1,xi2,xi3] at g0 g1 g2 g3 g4 g5 g6 g7 h0 h1;have hu:us.length=2:=hu;obtain ⟨r0,rfl,v0⟩:=cI Tryz.underlying3 g0 (gS (by omega));obtain ⟨r1,rfl,v1⟩:=cI Tryz.underlying3 g1 (gS (by omega));obtain ⟨r2,rfl,v2⟩:=cI Tryz.underlying3 g2 (gS (by omega));obtain ⟨r3,rfl,v3⟩:=cI Tryz.underlying3 g3 (gS (by omega));obtain ⟨r4,rfl,v4⟩:=cI Tryz.underlying3 g4 (gS (by omega));obtain ⟨r5,rfl,v5⟩:=cI Tryz.underlying3 g5 (gS (by omega));obtain ⟨r6,rfl,v6⟩:=cI Tryz.underlying3 g6 (gS (by omega));obtain ⟨r7,rfl,v7⟩:=cI Tryz.underlying3 g7 (gS (by omega));obtain ⟨k11,rfl,w11⟩:=cI Tryz.underlying3 h0 (gS (by omega));obtain ⟨k12,rfl,w12⟩:=cI Tryz.underlying3 h1 (gS (by omega));exact ⟨⟨r0,r1,r2,r3,r4,r5,r6,r7,k8,k9,k10,k11,k12⟩,rfl,⟨⟨o6 v0,o6 v1,o6 v2,o6 v3⟩,o6 v4,o6 v5,o6 v6,o6 v7⟩,o6 w8,o6 w9,o6 w10,o6 w11,o6 w12⟩
theorem a3k {n:Nat} {cs:List Value} {z:DataW H×List MemPlace} (hl:cs.length=3) (h:DataW.trod enc Tryz.prog W base sp held n 60 cs=some z):∃ x:Fs×Value×Value,cs=fsC x/\Sl nF W 4 x.2.1 (x.1.areas.map arC)/\Sl nF W 2 x.2.2 (x.1.pages.map fpC)/\x.2.1.oneCell'=true/\x.2.2.oneCell'=true:=by
 match cs,hl with
 |[c0,c1,c2],_=>
  obtain ⟨xs,n,_,_,_,hl,hf⟩:=DataW.trod_struct Tryz.underlying60 h;have f0:=hf 0 _ rfl;have f1:=hf 1 _ rfl;have f2:=hf 2 _ rfl;simp only [xh7,xh8,xh9,a5v,a7N,a6h,xi0,xi1,xi2,xi3] at f0 f1 f2;have hl:xs.length=3:=hl;obtain ⟨b0,rfl⟩:=cB Tryz.underlying4 f0 (gS (by omega));obtain ⟨A,h1,_,o1⟩:=a0F Tryz.underlying57 a8r (by decide) arC (fun _=>True) (fun x=>xc6 rfl) (fun _ _ _ hl hz=>by obtain ⟨f,hf⟩:=a5T hl hz;exact ⟨f,hf,trivial⟩) f1 (gS (by omega));obtain ⟨E,h2,_,o2⟩:=a0F Tryz.underlying58 a7V (by decide) fpC (fun _=>True) (fun x=>xc6 rfl) (fun _ _ _ hl hz=>by obtain ⟨f,hf,_⟩:=a3N hl hz;exact ⟨f,hf,trivial⟩) f2 (gS (by omega));exact ⟨(⟨b0,A,E⟩,c1,c2),rfl,h1,h2,o1,o2⟩
theorem a40 {n:Nat} {cs:List Value} {z:DataW H×List MemPlace} (hl:cs.length=4) (h:DataW.trod enc Tryz.prog W base sp held n 26 cs=some z):∃ f:FlV,cs=flC f/\FlOk W f/\a0t f.slots/\∀ p ∈ f.pr,pcB p:=by
 match cs,hl with
 |[c0,c1,c2,c3],_=>
  obtain ⟨xs,n,_,_,_,hl,hf⟩:=DataW.trod_struct Tryz.underlying26 h;have f0:=hf 0 _ rfl;have f1:=hf 1 _ rfl;have f2:=hf 2 _ rfl;have f3:=hf 3 _ rfl;simp only [xh7,xh8,xh9,a1v,a4w,a66,a7d,xi0,xi1,xi2,xi3] at f0 f1 f2 f3;have hl:xs.length=4:=hl;obtain ⟨k0,rfl,w0⟩:=cI Tryz.underlying3 f0 (gS (by omega));obtain ⟨X,h7,h8,_⟩:=a0F (α:=Fs×Value×Value) Tryz.underlying22 a5O (by decide) fsC (fun x=>Sl nF W 4 x.2.1 (x.1.areas.map arC)/\Sl nF W 2 x.2.2 (x.1.pages.map fpC)/\x.2.1.oneCell'=true/\x.2.2.oneCell'=true) (fun x=>by
   by_cases hx:x.2.1.oneCell'=true/\x.2.2.oneCell'=true
   ·left;unfold fsC;simp only [xi4,List.all_nil,xi5,hx.1,hx.2];rfl
   ·exact xc3 fun h=>hx h.2.2) (fun _ _ _ hl hz=>by obtain ⟨x,hx,h2,h3⟩:=a3k hl hz;exact ⟨x,hx,h2,h3⟩) f1 (gS (by omega))
  obtain ⟨F,h5,g5,_⟩:=a0F Tryz.underlying23 a9i (by decide) prC pcB (fun x=>xc6 rfl) (fun _ _ _ hl hz=>by obtain ⟨f,hf,hg⟩:=a45 hl hz;exact ⟨f,hf,hg⟩) f2 (gS (by omega));obtain ⟨S,h6,_,_⟩:=a0F Tryz.underlying24 a8R (by decide) wdC (fun _=>True) (fun x=>xc6 rfl) (fun _ _ _ hl hz=>by obtain ⟨f,hf⟩:=a4R hl hz;exact ⟨f,hf,trivial⟩) f3 (gS (by omega));exact ⟨⟨k0,X,F,S,c1,c2,c3⟩,rfl,⟨h7,fun p hp=>(h8 p hp).1,fun p hp=>(h8 p hp).2.1,h5,h6⟩,o6 w0,g5⟩
theorem a6e {v:Value} {d:DataW H} {ps:List MemPlace} (hval:Value.okWide Tryz.prog W .any b0 26 v) (h:DataW.Trod enc Tryz.prog W base sp held 26 v d ps):∃ f:FlV,v=.agg (flC f).toArray/\FlOk W f/\a0t f.slots/\∀ p ∈ f.pr,pcB p:=by
 obtain ⟨cs,rfl,hsz⟩:=okWide_struct Tryz.underlying26 hval;obtain ⟨fuel,hf⟩:=h;have hc:(Value.agg cs).cells=cs:=rfl;rw [hc] at hf;have hlen:cs.toList.length=4:=by rw [xf2,hsz,a8I]
 obtain ⟨k,h1,h2⟩:=a40 hlen hf;exact ⟨k,by rw [<- h1,xc2],h2⟩
end
end Go.Proofs.YtejnpppejalhfadGreat
