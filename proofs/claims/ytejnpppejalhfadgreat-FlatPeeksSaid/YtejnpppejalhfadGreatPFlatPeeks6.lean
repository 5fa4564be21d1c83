/- Texts that the proof stands on, one behind the other: Fl12, PlKer3, PlRun, PlRun2, PlRun3, PlRun4, PlRun5, PlRun6, PlRun7, PlRun8, PlRun9, PlFl3, Fl13, Cx1, Cx2, Cx4, Cx5. -/
import Derived.Test.YtejnpppejalhfadGreatPFlatPeeks5
set_option linter.unusedVariables false
set_option linter.unusedSimpArgs false
namespace Go.Proofs.YtejnpppejalhfadGreat
set_option maxRecDepth 100000
set_option maxHeartbeats 8000000
open Go.RowKit Go.Sort
def a1k (l:List Fp) (t:Int):Option Fp:=l.find? fun p=>decide (p.page=t)
theorem a2H {l:List Fp} {t:Int} (h:t ∉ l.map fun p=>p.page):a1k l t=none:=by
 unfold a1k;rw [List.find?_eq_none];intro x hx h2;exact h (xi0.2 ⟨x,hx,by simpa using h2⟩)
theorem a6k {l:List Fp} {t:Int} (h:t ∈ l.map fun p=>p.page):∃ p,a1k l t=some p/\p.page=t/\p ∈ l:=by
 obtain ⟨x,hx,rfl⟩:=xi0.1 h
 cases e:a1k l x.page with
 |none=>
  unfold a1k at e;rw [List.find?_eq_none] at e;exact absurd (by simp) (e x hx)
 |some p=>
  have h1:=xi9 e;exact ⟨p,rfl,by simpa using h1,xh9 e⟩
theorem a7z {l:List Fp} {t:Int} {p:Fp} (hr:Rises (l.map fun p=>p.page)) (h:a1k l t=some p):l[lbd (l.map fun p=>p.page) t]?=some p:=by
 have h1:=xi9 h;have hp:p.page=t:=by simpa using h1
 obtain ⟨j,hj⟩:=xc8.1 (xh9 h);have hpj:(l.map fun p=>p.page)[j]?=some t:=by rw [<- hp];exact j3 (f:=fun p:Fp=>p.page) hj
 have hf:=(a16 hr t).2 (xc0 hpj);have:lbd (l.map fun p=>p.page) t=j:=by
  rcases Nat.lt_trichotomy (lbd (l.map fun p=>p.page) t) j with hlt|heq|hlt
  ·exact absurd (hr.at_ hlt hf hpj) (Int.lt_irrefl _)
  ·exact heq
  ·exact absurd (hr.at_ hlt hpj hf) (Int.lt_irrefl _)
 rw [this];exact hj
theorem a1p (x:Fp) (t:Int) (w:World):Fn Tryz.prog 110 [.agg (fpC x).toArray,.int .i64 t] w (RBf (.int .i64 (IntKind.i64.wrap (x.page - t))) w):=by
 unfold fpC;refine yEn Tryz.func110 Tryz.ntmps110 (by kernel_rfl) (by kernel_rfl) rfl rfl ?_;have hS:=St.start w
 repeat' (first|(with_reducible apply a4 a0);rfl;rfl;rfl|(with_reducible apply a5);rfl;(apply Ld.sc a0;rfl;exact hS.blkC 0 rfl rfl);rfl|(with_reducible apply a14 a0);rfl;rfl|refine yDn (by with_reducible constructor) ?_|(with_reducible apply f5 hS);rfl;rfl;rfl;clear hS;intro g w' hS)
 (refine i2 rfl ?_)
 exact ⟨rfl,hS.sub (xg6 _)⟩
theorem a8y {L:List Fp} {w:World} {v:Value} {t:Int} (hL:Sl nF w 2 v (L.map fpC)) (hr:Rises (L.map fun e=>e.page)) (hb:∀ q ∈ L.map fun e=>e.page,-9223372036854775808<=q - t/\q - t<=9223372036854775807) :
  Fn Tryz.prog 109 [v,.int .i64 t,.func (.func 110) #[] #[]] w (RBf (BsV (L.map fun e=>e.page) t) w):=by
 have hc:=fun (x:Fp) (_:x ∈ L) w (h1:-9223372036854775808<=x.page - t) (h2:x.page - t<=9223372036854775807)=>by
  have h:=a1p x t w;rw [a07 h1 h2] at h;exact h
 have bnd:=hL.bound;obtain ⟨p,c,rfl⟩:=hL.len;refine yEn Tryz.func109 Tryz.ntmps109 (by kernel_rfl) (by kernel_rfl) rfl rfl ?_;have hS:=St.start w
 repeat' (first|(with_reducible apply a4 a0);rfl;rfl;rfl|refine yDn (by with_reducible constructor) ?_)
 refine z3 (X:=Nat×Nat) (fun x=>[(9,.int .i64 (x.1:Nat)),(10,.int .i64 (x.2:Nat))]) [0,1,2,8] rfl (fun _=>[]) (fun x=>x.1<=x.2/\x.2<=L.length/\(∀ (j:Nat) (q:Int),j < x.1->(L.map (fun e=>e.page))[j]?=some q->q < t)/\(∀ (j:Nat) (q:Int),x.2<=j->(L.map (fun e=>e.page))[j]?=some q->t<=q)) (fun x=>x.2 - x.1) (0,L.length) (by exact Fr.sub_of rfl) ⟨xe7 _,xc4 _,fun j q h=>by omega,fun j q h hq=>by have:=a7 hq;rw [xg7] at this;omega⟩ hS ?_;clear hS;rintro ⟨i,j⟩ w1 ⟨hij,hj,hlo,hhi⟩ hS;dsimp only [List.cons_append,List.nil_append] at hij hj hlo hhi hS |-;by_cases hlt:i < j
 ·obtain ⟨hm0,hm1⟩:i<=(i + j) / 2/\(i + j) / 2 < j:=by omega
  obtain ⟨h,hh⟩:∃ h,h=(i + j) / 2:=⟨_,rfl⟩;rw [<- hh] at hm0 hm1;have ehi:((i:Int) + (j:Int)) / 2=(h:Nat):=by omega
  obtain ⟨x,hx⟩:=n7 (l:=L) (i:=h) (by omega);have hrow:=j3 (f:=fpC) hx;have hpx:=j3 (f:=(fun e=>e.page)) hx;have hbx:=hb _ (xc0 hpx);obtain ⟨b,off,rfl,hro⟩:=hL.at_ (i:=h) (by omega);have hcmp:=hc x (xc0 hx)
  repeat' (first|(with_reducible apply a4 a0);rfl;rfl;rfl|(with_reducible apply a14 a0);rfl;rfl|refine yDn (by with_reducible constructor) ?_|(with_reducible apply i5);rfl;all_goals (intro hb hp;try (exfalso;omega))|(with_reducible apply a7F);rfl;rfl;rfl)
  rw [a22 (by omega) (by omega) ehi (by omega)];by_cases hp:x.page < t
  ·have hd:decide (x.page - t < 0)=true:=xh4 (by omega)
   repeat' (first|(with_reducible apply a4 a0);rfl;rfl;rfl|(with_reducible apply a5);rfl;(apply Ld.st a0;rfl;exact hS.roR (by assumption) (by assumption);rfl);rfl|(with_reducible apply p9 a0);rfl;rfl;rfl;rfl;omega;rfl|(with_reducible apply a0n);rfl;rfl;omega;omega;rfl|refine yDn (by with_reducible constructor) ?_|(with_reducible apply b7);rfl;assumption|(with_reducible apply d5 hS);rfl;rfl;rfl;refine ⟨_,hcmp _ (by omega) (by omega),?_⟩;clear hS;intro w' hS)
   refine p7 (h + 1,j) (by exact Fr.sub_of rfl) ⟨by show h + 1<=j;omega,hj,fun k q hk hq=>?_,hhi⟩ hS (by show j - (h + 1) < j - i;omega);rcases xh8 k h with h1|h1
   ·exact Int.lt_trans (hr.at_ h1 hq hpx) hp
   ·obtain rfl:k=h:=by have:k < h + 1:=hk;omega
    rw [hpx] at hq
    cases hq
    exact hp
  ·have hd:decide (x.page - t < 0)=false:=xh3 (by omega)
   repeat' (first|(with_reducible apply a4 a0);rfl;rfl;rfl|(with_reducible apply a5);rfl;(apply Ld.st a0;rfl;exact hS.roR (by assumption) (by assumption);rfl);rfl|(with_reducible apply p9 a0);rfl;rfl;rfl;rfl;omega;rfl|refine yDn (by with_reducible constructor) ?_|(with_reducible apply j5);rfl;assumption|(with_reducible apply d5 hS);rfl;rfl;rfl;refine ⟨_,hcmp _ (by omega) (by omega),?_⟩;clear hS;intro w' hS)
   refine p7 (i,h) (by exact Fr.sub_of rfl) ⟨by show i<=h;omega,by show h<=_;omega,hlo,fun k q hk hq=>?_⟩ hS (by show h - i < j - i;omega);rcases xh8 h k with h1|h1
   ·have:=hr.at_ h1 hpx hq;have hp':¬ x.page < t:=hp;omega
   ·obtain rfl:k=h:=by have:h<=k:=hk;omega
    rw [hpx] at hq
    cases hq
    have hp':¬ x.page < t:=hp;omega
 ·obtain rfl:i=j:=by omega
  have hlb:lbd (L.map (fun e=>e.page)) t=i:=a7S (by rw [xg7];omega) hlo (fun q hq=>hhi i q (xc4 _) hq);unfold BsV;rw [hlb];by_cases hil:i < L.length
  ·obtain ⟨x,hx⟩:=n7 (l:=L) (i:=i) (by omega);have hrow:=j3 (f:=fpC) hx;have hpx:=j3 (f:=(fun e=>e.page)) hx;have hbx:=hb _ (xc0 hpx);obtain ⟨b,off,rfl,hro⟩:=hL.at_ (i:=i) (by omega);have hcmp:=hc x (xc0 hx);have hiff:=a16 hr t;rw [hlb,hpx] at hiff;have hdm:decide (t ∈ L.map (fun e=>e.page))=decide (x.page - t=0):=by
    rw [decide_eq_decide,<- hiff];constructor
    ·intro h;have h2:x.page=t:=Option.some.inj h;omega
    ·intro h;have h2:x.page=t:=by omega
     rw [h2]
   rw [hdm]
   repeat' (first|(with_reducible apply a4 a0);rfl;rfl;rfl|(with_reducible apply a5);rfl;(apply Ld.st a0;rfl;exact hS.roR (by assumption) (by assumption);rfl);rfl|(with_reducible apply p9 a0);rfl;rfl;rfl;rfl;omega;rfl|refine yDn (by with_reducible constructor) ?_|(with_reducible apply i6);(iterate 4 rfl);assumption|(with_reducible apply d7);rfl;assumption;rfl;rfl|(with_reducible apply a0f);rfl;rfl;rfl;all_goals (intro hb hp;try (exfalso;omega))|(with_reducible apply i5);rfl;all_goals (intro hb hp;try (exfalso;omega))|(with_reducible apply d5 hS);rfl;rfl;rfl;refine ⟨_,hcmp _ (by omega) (by omega),?_⟩;clear hS;intro w' hS)
   (refine a1O rfl ?_)
   exact ⟨rfl,hS.sub (xg6 _)⟩
  ·have hdm:decide (t ∈ L.map (fun e=>e.page))=false:=by
    rw [xj9,<- a16 hr t,hlb,xf9 (by rw [xg7];omega)];simp
   rw [hdm]
   repeat' (first|(with_reducible apply a4 a0);rfl;rfl;rfl|refine yDn (by with_reducible constructor) ?_|(with_reducible apply q8);(iterate 4 rfl);assumption;rfl|(with_reducible apply a9);rfl;assumption;rfl;rfl|(with_reducible apply a0f);rfl;rfl;rfl;all_goals (intro hb hp;try (exfalso;omega))|(with_reducible apply i5);rfl;all_goals (intro hb hp;try (exfalso;omega)))
   (refine a1O rfl ?_)
   exact ⟨rfl,hS.sub (xg6 _)⟩
theorem a8N {L:List Fp} {w:World} {v:Value} {t:Int} (hL:Sl nF w 2 v (L.map fpC)) (hb:∀ x ∈ L,IntKind.i64.wrap (x.page - t)≠0) :
  Fn Tryz.prog 109 [v,.int .i64 t,.func (.func 110) #[] #[]] w (fun v' w'=>∃ i:Nat,v'=.tuple #[.int .i64 (i:Nat),.bool false]/\St nF w w' []):=by
 have bnd:=hL.bound;obtain ⟨p,c,rfl⟩:=hL.len;refine yEn Tryz.func109 Tryz.ntmps109 (by kernel_rfl) (by kernel_rfl) rfl rfl ?_;have hS:=St.start w
 repeat' (first|(with_reducible apply a4 a0);rfl;rfl;rfl|refine yDn (by with_reducible constructor) ?_)
 refine z3 (X:=Nat×Nat) (fun x=>[(9,.int .i64 (x.1:Nat)),(10,.int .i64 (x.2:Nat))]) [0,1,2,8] rfl (fun _=>[]) (fun x=>x.1<=x.2/\x.2<=L.length) (fun x=>x.2 - x.1) (0,L.length) (by exact Fr.sub_of rfl) ⟨xe7 _,xc4 _⟩ hS ?_;clear hS;rintro ⟨i,j⟩ w1 ⟨hij,hj⟩ hS;dsimp only [List.cons_append,List.nil_append] at hij hj hS |-;by_cases hlt:i < j
 ·obtain ⟨hm0,hm1⟩:i<=(i + j) / 2/\(i + j) / 2 < j:=by omega
  obtain ⟨h,hh⟩:∃ h,h=(i + j) / 2:=⟨_,rfl⟩;rw [<- hh] at hm0 hm1;have ehi:((i:Int) + (j:Int)) / 2=(h:Nat):=by omega
  obtain ⟨x,hx⟩:=n7 (l:=L) (i:=h) (by omega);have hrow:=j3 (f:=fpC) hx;obtain ⟨b,off,rfl,hro⟩:=hL.at_ (i:=h) (by omega);have hcmp:=fun w=>a1p x t w;generalize IntKind.i64.wrap (x.page - t)=cc at hcmp
  repeat' (first|(with_reducible apply a4 a0);rfl;rfl;rfl|(with_reducible apply a14 a0);rfl;rfl|refine yDn (by with_reducible constructor) ?_|(with_reducible apply i5);rfl;all_goals (intro hb hp;try (exfalso;omega))|(with_reducible apply a7F);rfl;rfl;rfl)
  rw [a22 (by omega) (by omega) ehi (by omega)];by_cases hp:cc < 0
  ·have hd:decide (cc < 0)=true:=xh4 hp
   repeat' (first|(with_reducible apply a4 a0);rfl;rfl;rfl|(with_reducible apply a5);rfl;(apply Ld.st a0;rfl;exact hS.roR (by assumption) (by assumption);rfl);rfl|(with_reducible apply p9 a0);rfl;rfl;rfl;rfl;omega;rfl|(with_reducible apply a0n);rfl;rfl;omega;omega;rfl|refine yDn (by with_reducible constructor) ?_|(with_reducible apply b7);rfl;assumption|(with_reducible apply d5 hS);rfl;rfl;rfl;refine ⟨_,hcmp _,?_⟩;clear hS;intro w' hS)
   exact p7 (h + 1,j) (by exact Fr.sub_of rfl) ⟨by show h + 1<=j;omega,hj⟩ hS (by show j - (h + 1) < j - i;omega)
  ·have hd:decide (cc < 0)=false:=xh3 hp
   repeat' (first|(with_reducible apply a4 a0);rfl;rfl;rfl|(with_reducible apply a5);rfl;(apply Ld.st a0;rfl;exact hS.roR (by assumption) (by assumption);rfl);rfl|(with_reducible apply p9 a0);rfl;rfl;rfl;rfl;omega;rfl|refine yDn (by with_reducible constructor) ?_|(with_reducible apply j5);rfl;assumption|(with_reducible apply d5 hS);rfl;rfl;rfl;refine ⟨_,hcmp _,?_⟩;clear hS;intro w' hS)
   exact p7 (i,h) (by exact Fr.sub_of rfl) ⟨by show i<=h;omega,by show h<=_;omega⟩ hS (by show h - i < j - i;omega)
 ·obtain rfl:i=j:=by omega
  by_cases hil:i < L.length
  ·obtain ⟨x,hx⟩:=n7 (l:=L) (i:=i) (by omega);have hrow:=j3 (f:=fpC) hx;obtain ⟨b,off,rfl,hro⟩:=hL.at_ (i:=i) (by omega);have hcmp:=fun w=>a1p x t w;have hne:=hb x (xc0 hx);generalize IntKind.i64.wrap (x.page - t)=cc at hcmp hne;have hd:decide (cc=0)=false:=xh3 hne
   repeat' (first|(with_reducible apply a4 a0);rfl;rfl;rfl|(with_reducible apply a5);rfl;(apply Ld.st a0;rfl;exact hS.roR (by assumption) (by assumption);rfl);rfl|(with_reducible apply p9 a0);rfl;rfl;rfl;rfl;omega;rfl|refine yDn (by with_reducible constructor) ?_|(with_reducible apply i6);(iterate 4 rfl);assumption|(with_reducible apply d7);rfl;assumption;rfl;rfl|(with_reducible apply a0f);rfl;rfl;rfl;all_goals (intro hb hp;try (exfalso;omega))|(with_reducible apply i5);rfl;all_goals (intro hb hp;try (exfalso;omega))|(with_reducible apply d5 hS);rfl;rfl;rfl;refine ⟨_,hcmp _,?_⟩;clear hS;intro w' hS)
   (refine a1O rfl ?_)
   exact ⟨i,by rw [hd],hS.sub (xg6 _)⟩
  ·repeat' (first|(with_reducible apply a4 a0);rfl;rfl;rfl|refine yDn (by with_reducible constructor) ?_|(with_reducible apply q8);(iterate 4 rfl);assumption;rfl|(with_reducible apply a9);rfl;assumption;rfl;rfl|(with_reducible apply a0f);rfl;rfl;rfl;all_goals (intro hb hp;try (exfalso;omega))|(with_reducible apply i5);rfl;all_goals (intro hb hp;try (exfalso;omega)))
   (refine a1O rfl ?_)
   exact ⟨i,rfl,hS.sub (xg6 _)⟩
theorem a8A {w:World} {gm:Nat} {vsp:Value} {sp:List (Fs×Value×Value)} {i:Nat} {x:Fs×Value×Value} {t:Int} (hb0:Bs nF w ⟨gm,1,none⟩ vsp) (hsp:Sl nF w 3 vsp (sp.map fsC)) (hx:sp[i]?=some x) (hpg:Sl nF w 2 x.2.2 (x.1.pages.map fpC)) (hb:∀ y ∈ x.1.pages,IntKind.i64.wrap (y.page - t)≠0) :
  Fn Tryz.prog 63 [.pointer (some ⟨gm,0,none⟩),.int .i64 (i:Nat),.int .i64 t] w (RBf (.tuple #[.pointer none,.bool false]) w):=by
 have hil:=a7 hx;have hrow:=j3 (f:=fsC) hx;obtain ⟨p,c,rfl⟩:=hsp.len;obtain ⟨b,off,rfl,hro⟩:=hsp.at_ (i:=i) hil;have hbs:=fun w1 (h:Sl nF w1 2 x.2.2 (x.1.pages.map fpC))=>a8N h hb;obtain ⟨⟨live,ars,pgs⟩,va,vp⟩:=x;dsimp only at hpg hbs;obtain ⟨pp,cp,rfl⟩:=hpg.len;unfold fsC at hrow;dsimp only at hrow;refine yEn Tryz.func63 Tryz.ntmps63 (by kernel_rfl) (by kernel_rfl) rfl rfl ?_;have hS:=St.start w
 repeat' (first|(with_reducible apply a4 a0);rfl;rfl;rfl|(with_reducible apply a5);rfl;(apply Ld.sl a0;rfl;(first|exact hS.bs (by assumption)|exact hS.roC (by assumption) (by assumption) rfl));rfl|(with_reducible apply p9 a0);rfl;rfl;rfl;rfl;omega;rfl|refine yDn (by with_reducible constructor) ?_|(with_reducible apply b7);rfl;rfl|(with_reducible apply a8j);rfl;rfl;rfl;refine ⟨_,hbs _ (hpg.now hS),?_⟩;rintro _ w' ⟨k,rfl,hS'⟩;replace hS:=hS.transA hS';simp only [a4n] at hS;clear hS')
 (refine a1O rfl ?_)
 exact ⟨rfl,hS.sub (xg6 _)⟩
theorem a8U {w:World} {gm:Nat} {vsp:Value} {sp:List (Fs×Value×Value)} {i k:Nat} {x:Fs×Value×Value} {t:Int} {y:Fp} {bp op:Nat} {cp:Nat} (hb0:Bs nF w ⟨gm,1,none⟩ vsp) (hsp:Sl nF w 3 vsp (sp.map fsC)) (hx:sp[i]?=some x) (hpg:Sl nF w 2 x.2.2 (x.1.pages.map fpC)) (hv:x.2.2=.slice (some ⟨bp,op,none⟩) x.1.pages.length cp) (hr:Rises (x.1.pages.map fun e=>e.page)) (hb:∀ q ∈ x.1.pages.map fun e=>e.page,-9223372036854775808<=q - t/\q - t<=9223372036854775807)
  (hk:lbd (x.1.pages.map fun e=>e.page) t=k) (hy:x.1.pages[k]?=some y) (ht:y.page=t) :
  Fn Tryz.prog 63 [.pointer (some ⟨gm,0,none⟩),.int .i64 (i:Nat),.int .i64 t] w (RBf (.tuple #[.pointer (some ⟨bp,op + k * 2,none⟩),.bool true]) w):=by
 have hil:=a7 hx;have hkl:=a7 hy;have hrow:=j3 (f:=fsC) hx;obtain ⟨p,c,rfl⟩:=hsp.len;obtain ⟨b,off,rfl,hro⟩:=hsp.at_ (i:=i) hil;have hbs:=fun w1 (h:Sl nF w1 2 x.2.2 (x.1.pages.map fpC))=>a8y (t:=t) h hr hb;unfold BsV at hbs;rw [hk,xh4 (show t ∈ x.1.pages.map fun e=>e.page by rw [<- ht];exact xi0.2 ⟨y,xc0 hy,rfl⟩)] at hbs;obtain ⟨⟨live,ars,pgs⟩,va,vp⟩:=x;dsimp only at hpg hbs hv hkl;subst hv;unfold fsC at hrow;dsimp only at hrow;refine yEn Tryz.func63 Tryz.ntmps63 (by kernel_rfl) (by kernel_rfl) rfl rfl ?_;have hS:=St.start w
 repeat' (first|(with_reducible apply a4 a0);rfl;rfl;rfl|(with_reducible apply a5);rfl;(apply Ld.sl a0;rfl;(first|exact hS.bs (by assumption)|exact hS.roC (by assumption) (by assumption) rfl));rfl|(with_reducible apply p9 a0);rfl;rfl;rfl;rfl;omega;rfl|refine yDn (by with_reducible constructor) ?_|(with_reducible apply j5);rfl;rfl|(with_reducible apply d5 hS);rfl;rfl;rfl;refine ⟨_,hbs _ (hpg.now hS),?_⟩;clear hS;intro w' hS)
 (refine a1O rfl ?_)
 exact ⟨rfl,hS.sub (xg6 _)⟩
theorem a4Q {A:List Ar} (hc:b4 A=0) {e:En} (h:(l4 A e.page).isSome=true):0 < e.page:=by
 obtain ⟨a,ha⟩:=xg2.1 h;have:=(a6O hc ha).2;omega
def a2R (l:List En) (p:Int):Option En:=l.find? fun e=>decide (e.page=p)
def a0u (l:List En):List Int:=l.map fun e=>e.page
def b1G (l:List En) (e:En):List En:=l.take (lbd (a0u l) e.page)++e::l.drop (lbd (a0u l) e.page)
def putE (l:List En) (e:En):List En:=if e.page ∈ a0u l then l.set (lbd (a0u l) e.page) e else b1G l e
def a4j (l:List Fm) (i:Nat):Fm:=(l[i]?).getD fm0
def a6V (l:List Sw) (i:Nat):Sw:=(l[i]?).getD sw0
def sc0:Sc:=⟨false,[],[]⟩
def a1w (K:Ker) (sp:Nat):Sc:=(K.spaces[sp]?).getD sc0
def a0Y (K:Ker) (sp:Nat):List En:=(a1w K sp).entries
def v8 (K:Ker) (sp:Nat):List Ar:=(a1w K sp).areas
def zAt (K:Ker) (sp:Nat) (page:Int):Bool:=((l4 (v8 K sp) page).getD a3i).z
def b0w (K:Ker) (sp:Nat) (page:Int):List UInt8:=(a6Z K.sheets (zAt K sp page) page).getD []
def b1h (K:Ker) (e:En):List UInt8:=if e.kind=1 then (a4j K.frames e.at_.toNat).data else (a6V K.slots e.at_.toNat).data
def a2Y (K:Ker) (sp:Nat) (page:Int):List UInt8:=match a2R (a0Y K sp) page with
 |some e=>b1h K e
 |none=>b0w K sp page
structure FmOk (sh:List Sh) (f:Fm) (N:List Nm):Prop where
 refs:f.refs=(N.length:Int)
 nil:N=[]->f=fm0
 len:N≠[]->f.data.length=16
 same:∀ n ∈ N,∀ m ∈ N,m.1.page=n.1.page/\m.2.z=n.2.z
 data:∀ n ∈ N,f.dirty=true\/some f.data=a6Z sh n.2.z n.1.page
structure SwOk (s:Sw) (N:List Nm):Prop where
 refs:s.refs=(N.length:Int)
 nil:N=[]->s=sw0
 len:N≠[]->s.data.length=16
 same:∀ n ∈ N,∀ m ∈ N,m.1.page=n.1.page/\m.2.z=n.2.z
structure Right (K:Ker):Prop where
 cnt:3<=K.frames.length/\K.frames.length<=64/\K.slots.length<=512/\1<=K.spaces.length/\K.spaces.length<=4/\K.sheets.length<=255
 rise:a9y 0 K.sheets=true
 hand:0<=K.hand/\K.hand < K.frames.length
 spaces:∀ s ∈ K.spaces,a46 K.sheets K.frames.length K.slots.length s=true
 room:b02 K.spaces<=K.slots.length
 fr:∀ (i:Nat) f,K.frames[i]?=some f->FmOk K.sheets f (a1v K.spaces 1 (i:Nat))
 sl:∀ (i:Nat) s,K.slots[i]?=some s->SwOk s (a1v K.spaces 2 (i:Nat))
def nm1 (s:Sc) (k a:Int):List Nm:=(s.entries.filter fun e=>decide (e.kind=k/\e.at_=a)).map (b0g s)
theorem a3O (L:List Sc) (k a:Int):a1v L k a=L.flatMap fun s=>nm1 s k a:=rfl
def a9v (A:List Ar) (nf ns:Int) (e:En):Prop:=(l4 A e.page).isSome=true/\((e.kind=1/\0<=e.at_/\e.at_ < nf)\/(e.kind=2/\0<=e.at_/\e.at_ < ns))
theorem a2Q {A:List Ar} {nf ns:Int}:∀ {l:List En} {last:Int},a4a A nf ns last l=true ↔ (∀ e ∈ l,a9v A nf ns e/\last < e.page)/\Rises (a0u l)
 |[],last=>by simp [a4a,Rises,a0u]
 |e::l,last=>by
  show (a7Z A nf ns last e && a4a A nf ns e.page l)=true ↔ _;rw [xb6,a2Q (l:=l)];unfold a7Z;rw [xb6,xj0];show _ ↔ _/\List.Pairwise _ (e.page::a0u l);rw [List.pairwise_cons];constructor
  ·rintro ⟨⟨h1,h2,h3⟩,h4,h5⟩;refine ⟨fun x hx=>?_,fun p hp=>?_,h5⟩
   ·rcases xb3.1 hx with rfl|hx
    ·exact ⟨⟨h1,h3⟩,h2⟩
    ·have:=h4 x hx;exact ⟨this.1,by omega⟩
   ·obtain ⟨x,hx,rfl⟩:=xi0.1 hp;exact (h4 x hx).2
  ·rintro ⟨h1,h2,h3⟩;have h0:=h1 e xb4;exact ⟨⟨h0.1.1,h0.2,h0.1.2⟩,fun x hx=>⟨(h1 x (xb5 _ hx)).1,h2 _ (xi0.2 ⟨x,hx,rfl⟩)⟩,h3⟩
structure b1M (sh:List Sh) (nf ns:Int) (s:Sc):Prop where
 dead:s.live=false->s.areas=[]/\s.entries=[]
 ar:b4 s.areas=0
 pages:a7b sh s.areas=true
 ents:∀ e ∈ s.entries,a9v s.areas nf ns e
 rises:Rises (a0u s.entries)
theorem a70 {sh:List Sh} {nf ns:Int} {s:Sc}:a46 sh nf ns s=true ↔ b1M sh nf ns s:=by
 unfold a46
 cases hl:s.live with
 |false=>
  rw [xd7 (by simp),xj0];constructor
  ·rintro ⟨h1,h2⟩;refine ⟨fun _=>⟨h1,h2⟩,by rw [h1];rfl,by rw [h1];rfl,by rw [h2];simp,by rw [h2];exact List.Pairwise.nil⟩
  ·exact fun h=>h.dead hl
 |true=>
  rw [xd6 rfl,xb6,xb6,xj0,a2Q];constructor
  ·rintro ⟨h1,h2,h3,h4⟩;exact ⟨fun h=>(by rw [hl] at h;cases h),h1,h2,fun e he=>(h3 e he).1,h4⟩
  ·intro h;exact ⟨h.ar,h.pages,fun e he=>⟨h.ents e he,a4Q h.ar (h.ents e he).1⟩,h.rises⟩
theorem a5r {l:List Fm} {i:Nat} {f:Fm} (h:l[i]?=some f):a4j l i=f:=by unfold a4j;rw [h];rfl
theorem a5e {l:List Sw} {i:Nat} {f:Sw} (h:l[i]?=some f):a6V l i=f:=by unfold a6V;rw [h];rfl
theorem SwOk.free {s:Sw} {N:List Nm} (h:SwOk s N) (h0:s.refs=0):N=[]/\s=sw0:=by
 have h1:=h.refs;have:N=[]:=xd9 (by omega);exact ⟨this,h.nil this⟩
theorem FmOk.free {sh:List Sh} {s:Fm} {N:List Nm} (h:FmOk sh s N) (h0:s.refs=0):N=[]/\s=fm0:=by
 have h1:=h.refs;have:N=[]:=xd9 (by omega);exact ⟨this,h.nil this⟩
theorem FmOk.zero (sh:List Sh):FmOk sh fm0 []:=⟨rfl,fun _=>rfl,fun h=>absurd rfl h,(fun _ h=>by cases h),(fun _ h=>by cases h)⟩
theorem SwOk.zero:SwOk sw0 []:=⟨rfl,fun _=>rfl,fun h=>absurd rfl h,(fun _ h=>by cases h)⟩
def a96 (a b:Fm):Prop:=a.data=b.data/\a.refs=b.refs/\a.dirty=b.dirty
theorem FmOk.alike {sh:List Sh} {f g:Fm} {N:List Nm} (h:FmOk sh f N) (ha:a96 g f) (hr:f.refs≠0):FmOk sh g N:=by
 obtain ⟨a1,a2,a3⟩:=ha;refine ⟨by rw [a2];exact h.refs,fun e=>absurd (by rw [h.refs,e];rfl) hr,by rw [a1];exact h.len,h.same,fun n hn=>by rw [a1,a3];exact h.data n hn⟩
theorem a6f {l:List En} {p:Int} {e:En} (h:a2R l p=some e):e ∈ l/\e.page=p:=⟨xh9 h,by have:=xi9 h;simpa using this⟩
theorem a5x {K:Ker} {sp:Nat} {s:Sc} (h:K.spaces[sp]?=some s):a1w K sp=s:=by unfold a1w;rw [h];rfl
theorem a2G {K:Ker} {sp:Nat} (h:K.spaces[sp]?=none):a1w K sp=sc0:=by unfold a1w;rw [h];rfl
theorem a4U {K:Ker} {sp:Nat} {s:Sc} {e:En} (h:K.spaces[sp]?=some s) (he:e ∈ s.entries):b0g s e ∈ a1v K.spaces e.kind e.at_:=by
 rw [a3O,List.mem_flatMap];refine ⟨s,xc0 h,?_⟩;unfold nm1;exact xi0.2 ⟨e,xk0.2 ⟨he,by simp⟩,rfl⟩
theorem Right.ent {K:Ker} (h:Right K) {sp:Nat} {s:Sc} {e:En} (hs:K.spaces[sp]?=some s) (he:e ∈ s.entries) :
  (l4 s.areas e.page).isSome=true/\((e.kind=1/\(∃ f:Nat,e.at_=(f:Nat)/\f < K.frames.length))\/(e.kind=2/\∃ f:Nat,e.at_=(f:Nat)/\f < K.slots.length)):=by
 have h1:=(a70.1 (h.spaces s (xc0 hs))).ents e he;refine ⟨h1.1,?_⟩;rcases h1.2 with ⟨a,b,c⟩|⟨a,b,c⟩
 ·exact xc6 ⟨a,e.at_.toNat,by omega,by omega⟩
 ·exact xc3 ⟨a,e.at_.toNat,by omega,by omega⟩
structure SameP (K K':Ker):Prop where
 sheets:K'.sheets=K.sheets
 nfr:K'.frames.length=K.frames.length
 nsl:K'.slots.length=K.slots.length
 nsp:K'.spaces.length=K.spaces.length
 ar:∀ sp,v8 K' sp=v8 K sp
 live:∀ sp,(a1w K' sp).live=(a1w K sp).live
 peek:∀ sp p,a2Y K' sp p=a2Y K sp p
theorem SameP.refl (K:Ker):SameP K K:=⟨rfl,rfl,rfl,rfl,fun _=>rfl,fun _=>rfl,fun _ _=>rfl⟩
theorem SameP.trans {K K' K2:Ker} (h:SameP K K') (h2:SameP K' K2):SameP K K2:=⟨h2.sheets.trans h.sheets,h2.nfr.trans h.nfr,h2.nsl.trans h.nsl,h2.nsp.trans h.nsp,fun s=>(h2.ar s).trans (h.ar s),fun s=>(h2.live s).trans (h.live s),fun s p=>(h2.peek s p).trans (h.peek s p)⟩
structure InOk (K K':Ker) (sp:Nat) (page:Int) (f:Nat) (data:List UInt8) (dirty:Bool):Prop where
 right:Right K'
 sheets:K'.sheets=K.sheets
 nfr:K'.frames.length=K.frames.length
 nsl:K'.slots.length=K.slots.length
 nsp:K'.spaces.length=K.spaces.length
 ar:∀ i,v8 K' i=v8 K i
 live:∀ i,(a1w K' i).live=(a1w K i).live
 peek:∀ i p,¬(i=sp/\p=page)->a2Y K' i p=a2Y K i p
 here:a2Y K' sp page=data
 ent:∀ i p,a2R (a0Y K' i) p=if i=sp/\p=page then some ⟨page,1,(f:Nat)⟩ else a2R (a0Y K i) p
 fm:a4j K'.frames f=⟨data,1,dirty,false⟩
 other:∀ i,i≠f->(∀ w0,a2R (a0Y K sp) page=some w0->¬(w0.kind=1/\w0.at_=((i:Nat):Int)))->a4j K'.frames i=a4j K.frames i
structure At (K:Ker) (sp:Nat) (page:Int):Prop where
 live:(a1w K sp).live=true
 ar:(l4 (v8 K sp) page).isSome=true
theorem At.sc {K:Ker} {sp:Nat} {page:Int} (h:At K sp page):∃ s,K.spaces[sp]?=some s/\s.live=true/\(l4 s.areas page).isSome=true:=by
 have h1:=h.live;have h2:=h.ar;unfold v8 at h2
 cases hs:K.spaces[sp]? with
 |none=>rw [a2G hs] at h1;cases h1
 |some s=>rw [a5x hs] at h1 h2;exact ⟨s,rfl,h1,h2⟩
theorem At.same {K K':Ker} {sp:Nat} {page:Int} (h:At K sp page) (h1:∀ i,v8 K' i=v8 K i) (h2:∀ i,(a1w K' i).live=(a1w K i).live):At K' sp page:=⟨(h2 sp).trans h.live,by rw [h1];exact h.ar⟩
theorem named {K:Ker} (h:Right K) {sp:Nat} {p:Int} {e:En} (he:a2R (a0Y K sp) p=some e) :
  e.page=p/\((e.kind=1/\∃ i:Nat,e.at_=(i:Nat)/\i < K.frames.length/\(a4j K.frames i).refs≠0/\(a4j K.frames i).data.length=16)\/(e.kind=2/\∃ i:Nat,e.at_=(i:Nat)/\i < K.slots.length/\(a6V K.slots i).refs≠0/\(a6V K.slots i).data.length=16))/\∃ s,K.spaces[sp]?=some s/\e ∈ s.entries:=by
 obtain ⟨h1,h2⟩:=a6f he
 cases hs:K.spaces[sp]? with
 |none=>unfold a0Y at h1;rw [a2G hs] at h1;cases h1
 |some s=>
  have h3:e ∈ s.entries:=by unfold a0Y at h1;rwa [a5x hs] at h1
  have hn:=a4U hs h3;refine ⟨h2,?_,s,rfl,h3⟩;rcases (h.ent hs h3).2 with ⟨a,i,b,c⟩|⟨a,i,b,c⟩
  ·have ho:=h.fr i _ (xd0 c);rw [a,b] at hn;refine xc6 ⟨a,i,b,c,?_,?_⟩
   ·rw [a5r (xd0 c),ho.refs];intro e0;have:a1v K.spaces 1 (i:Nat)=[]:=xd9 (by omega);rw [this] at hn
    cases hn
   ·rw [a5r (xd0 c)];exact ho.len (fun e0=>by rw [e0] at hn;cases hn)
  ·have ho:=h.sl i _ (xd0 c);rw [a,b] at hn;refine xc3 ⟨a,i,b,c,?_,?_⟩
   ·rw [a5e (xd0 c),ho.refs];intro e0;have:a1v K.spaces 2 (i:Nat)=[]:=xd9 (by omega);rw [this] at hn
    cases hn
   ·rw [a5e (xd0 c)];exact ho.len (fun e0=>by rw [e0] at hn;cases hn)
theorem InOk.same {K K' K2:Ker} {sp:Nat} {page:Int} {f:Nat} {data:List UInt8} {dirty:Bool} (h:InOk K' K2 sp page f data dirty) (h0:SameP K K') (hp:data=a2Y K sp page):SameP K K2:=by
 refine ⟨h.sheets.trans h0.sheets,h.nfr.trans h0.nfr,h.nsl.trans h0.nsl,h.nsp.trans h0.nsp,fun i=>(h.ar i).trans (h0.ar i),fun i=>(h.live i).trans (h0.live i),fun i p=>?_⟩;by_cases e:i=sp/\p=page
 ·obtain ⟨rfl,rfl⟩:=e;rw [h.here,hp]
 ·rw [h.peek i p e,h0.peek]
theorem a8I {A:List Ar} (hc:b4 A=0) {p:Int} {a:Ar} (h:l4 A p=some a):1<=p/\p<=255:=by
 have hok:=a5g (m9.1 hc).2.1 h;have:=xi9 h;unfold s8 Ar.fin at this;rw [xj0] at this;unfold Ar.ok at hok;omega
structure PgOk (s:Fs):Prop where
 ck:b4 s.areas=0
 len:(s.pages.length:Int)=o5 s.areas
 rise:Rises (s.pages.map fun p=>p.page)
 mapd:∀ p ∈ s.pages,(l4 s.areas p.page).isSome=true
 data:∀ p ∈ s.pages,p.data.length=16
theorem PgOk.bd {s:Fs} (h:PgOk s) {p:Fp} (hp:p ∈ s.pages):1<=p.page/\p.page<=255:=by
 obtain ⟨a,ha⟩:=xg2.1 (h.mapd p hp);exact a8I h.ck ha
theorem a7P {l:List Int} (h:∀ (i:Nat) a b,l[i]?=some a->l[i + 1]?=some b->a < b):Rises l:=by
 induction l with
 |nil=>exact List.Pairwise.nil
 |cons x l ih=>
  have hl:Rises l:=ih fun i a b h1 h2=>h (i + 1) a b h1 h2;refine List.Pairwise.cons (fun y hy=>?_) hl
  cases l with
  |nil=>cases hy
  |cons z l=>
   have hxz:=h 0 x z rfl rfl;rcases xb3.1 hy with rfl|hy
   ·exact hxz
   ·exact Int.lt_trans hxz ((List.pairwise_cons.1 hl).1 y hy)
theorem a99 {s:Fs} (h:fsB s=true):(s.live=true/\PgOk s)\/(s.live=false/\s.areas=[]/\s.pages=[]):=by
 unfold fsB at h
 split at h
 ·rename_i hl;simp only [xb6,xj0] at h;obtain ⟨h1,h2,h3⟩:=h;unfold r8 at h3;rw [xb7] at h3;have hp:∀ (i:Nat) p,s.pages[i]?=some p->l5 s.areas s.pages i=true:=fun i p hi=>h3 i (xh1.2 (a7 hi));refine xc6 ⟨hl,h1,h2,a7P fun i a b ha hb=>?_,fun p hp'=>?_,fun p hp'=>?_⟩
  ·rw [xf7] at ha hb;obtain ⟨p,hp1,rfl⟩:=xk1.1 ha;obtain ⟨q,hq1,rfl⟩:=xk1.1 hb;have:=hp (i + 1) q hq1;unfold l5 at this;rw [hq1] at this;dsimp only at this;rw [hp1] at this;simp only [xb6,xj0] at this;exact this.2.2
  ·obtain ⟨i,hi⟩:=xc8.1 hp';have:=hp i p hi;unfold l5 at this;rw [hi] at this;simp only [xb6,xj0] at this;exact this.1
  ·obtain ⟨i,hi⟩:=xc8.1 hp';have:=hp i p hi;unfold l5 at this;rw [hi] at this;simp only [xb6,xj0] at this;exact this.2.1
 ·rename_i hl;simp only [xb6,xj0] at h;exact xc3 ⟨by simpa using hl,h.1,h.2⟩
theorem a4G {f:FlV} (h:j6 f=0):∀ x ∈ f.sp,fsB x.1=true:=by
 unfold j6 at h
 split at h
 ·cases h
 ·rename_i hb
  split at h
  ·rename_i h1;simp only [xb6,xb7] at h1;intro x hx;obtain ⟨i,hi⟩:=xc8.1 hx;have h2:=h1.1 i (xh1.2 (a7 hi));unfold a5U at h2;rw [hi] at h2
   split at h2
   ·rename_i y p hy hp
    cases hy
    rw [xb6] at h2;exact h2.1
   ·cases h2
  ·cases h
theorem a5P {s:Fs} (h:fsB s=true):Rises (s.pages.map fun p=>p.page)/\∀ p ∈ s.pages,1<=p.page/\p.page<=255:=by
 rcases a99 h with ⟨-,h⟩|⟨-,-,h⟩
 ·exact ⟨h.rise,fun p hp=>h.bd hp⟩
 ·rw [h];exact ⟨List.Pairwise.nil,fun p hp=>by cases hp⟩
theorem a8q {a t:Int} (h1:1<=a) (h2:a<=255) (ht:-9223372036854775808<=t) (ht2:t<=9223372036854775807) (h:a≠t):IntKind.i64.wrap (a - t)≠0:=by
 intro e;simp only [IntKind.wrap,IntKind.signed,IntKind.bits] at e;omega
def a4z (f:FlV) (space page:Int):Int:=if j6 f=0 then (if space < 0\/(f.sp.length:Int)<=space then 6 else match f.sp[space.toNat]? with
 |some x=>if (a1k x.1.pages page).isSome then 0 else 6
 |none=>6) else j6 f
def a4O (f:FlV) (space page:Int):List UInt8:=if j6 f=0 then (if space < 0\/(f.sp.length:Int)<=space then [] else match f.sp[space.toNat]? with
 |some x=>((a1k x.1.pages page).map (·.data)).getD []
 |none=>[]) else []
theorem a5K {l:List Fp} {t:Int} {i:Nat} {p:Fp} (h:l[i]?=some p) (ha:∀ q ∈ l.take i,q.page≠t) (hp:p.page=t):a1k l t=some p:=by
 unfold a1k;rw [List.find?_eq_some_iff_append];refine ⟨by simp [hp],l.take i,l.drop (i + 1),?_,fun q hq=>by simp [ha q hq]⟩;have hl:=a7 h;rw [xd0 hl] at h;rw [<- Option.some.inj h,<- List.drop_eq_getElem_cons hl,xh2]
theorem a3Q {w:World} {x:Fs×Value×Value} (hA:Sl nF w 4 x.2.1 (x.1.areas.map arC)) (hP:Sl nF w 2 x.2.2 (x.1.pages.map fpC)) (t:Int):Fn Tryz.prog 21 [.agg (fsC x).toArray,.int .i64 t] w (RBf (.tuple #[.string ⟨(((a1k x.1.pages t).map (·.data)).getD []).toArray⟩,.bool (a1k x.1.pages t).isSome]) w):=by
 obtain ⟨⟨live,ars,pgs⟩,va,vp⟩:=x;dsimp only at hA hP |-;have bp:=hP.bound;obtain ⟨pa,ca,rfl⟩:=hA.len;obtain ⟨pp,cp,rfl⟩:=hP.len;unfold fsC;dsimp only;refine yEn Tryz.func21 Tryz.ntmps21 (by kernel_rfl) (by kernel_rfl) rfl rfl ?_;have hS:=St.start w
 repeat' (first|(with_reducible apply a4 a0);rfl;rfl;rfl|refine yDn (by with_reducible constructor) ?_|(with_reducible apply f5 hS);rfl;rfl;rfl;clear hS;intro g w' hS)
 refine a8O hS 6 [1,2] rfl pgs.length (fun i=>∀ q ∈ pgs.take i,q.page≠t) 0 rfl (xe7 _) (fun q hq=>by cases hq) ?_;rintro i w1 hi hall hS';clear hS;have hS:=hS';clear hS';by_cases hlt:i < pgs.length;rotate_left
 ·obtain rfl:i=pgs.length:=by omega
  rw [xe9] at hall;have hno:a1k pgs t=none:=a2H fun h=>by
   obtain ⟨q,hq,h2⟩:=xi0.1 h;exact hall q hq h2
  rw [hno]
  repeat' (first|(with_reducible apply a4 a0);rfl;rfl;rfl|(with_reducible apply a5);rfl;(apply Ld.sl a0;rfl;exact hS.blkC 0 rfl rfl);rfl|refine yDn (by with_reducible constructor) ?_|(with_reducible apply i5);rfl;all_goals (intro hb hp;try (exfalso;omega)))
  (refine a1O rfl ?_)
  exact ⟨rfl,hS.sub (xg6 _)⟩
 obtain ⟨p,hpx⟩:=n7 (l:=pgs) (i:=i) (by omega);have hrow:=j3 (f:=fpC) hpx;obtain ⟨b,off,rfl,hro⟩:=hP.at_ (i:=i) hlt;unfold fpC at hrow;by_cases h:p.page=t
 ·have hd:decide (p.page=t)=true:=xh4 h;rw [a5K hpx hall h]
  repeat' (first|(with_reducible apply a4 a0);rfl;rfl;rfl|(with_reducible apply a5);rfl;(first|apply Ld.sc a0;rfl;(first|exact hS.roC0 (by assumption) (by assumption) rfl|exact hS.roC (by assumption) (by assumption) rfl)|apply Ld.sl a0;rfl;exact hS.blkC 0 rfl rfl);rfl|(with_reducible apply p9 a0);rfl;rfl;rfl;rfl;omega;rfl|refine yDn (by with_reducible constructor) ?_|(with_reducible apply b7);rfl;assumption|(with_reducible apply i5);rfl;all_goals (intro hb hp;try (exfalso;omega)))
  (refine a1O rfl ?_)
  exact ⟨rfl,hS.sub (xg6 _)⟩
 ·have hd:decide (p.page=t)=false:=xh3 h
  repeat' (first|(with_reducible apply a4 a0);rfl;rfl;rfl|(with_reducible apply a5);rfl;(first|apply Ld.sc a0;rfl;exact hS.roC0 (by assumption) (by assumption) rfl|apply Ld.sl a0;rfl;exact hS.blkC 0 rfl rfl);rfl|(with_reducible apply p9 a0);rfl;rfl;rfl;rfl;omega;rfl|(with_reducible apply a0n);rfl;rfl;omega;omega;rfl|refine yDn (by with_reducible constructor) ?_|(with_reducible apply j5);rfl;assumption|(with_reducible apply i5);rfl;all_goals (intro hb hp;try (exfalso;omega)))
  exact a8e (i + 1) (by exact Fr.sub_of rfl) (by omega) (fun q hq=>by
   rw [a0V hpx,xd1,xh5] at hq;rcases hq with hq|rfl
   ·exact hall q hq
   ·exact h) (by omega) hS
theorem a3y {w:World} {f:FlV} (hK:FlOk w f) (space:Int) {page:Int} (h1:-9223372036854775808<=page) (h2:page<=9223372036854775807):Fn Tryz.prog 20 [.agg (flC f).toArray,.int .i64 space,.int .i64 page] w (RBf (.tuple #[.string ⟨(a4O f space page).toArray⟩,.int .i64 (a4z f space page)]) w):=by
 have hck:=fun w1 (h:FlOk w1 f)=>a3j h;have hsp0:=fun h=>a4G (f:=f) h;have hpn:=fun w1 gm vsp (h:FlOk w1 f) i x hb0 (hvs:vsp=f.vsp) hx hb=>a8A (w:=w1) (gm:=gm) (vsp:=vsp) (sp:=f.sp) (i:=i) (x:=x) (t:=page) hb0 (hvs ▸ h.sp) hx (h.pg x (xc0 hx)) hb;have hpa:=fun w1 gm vsp (h:FlOk w1 f) i k x y bp op cp hb0 (hvs:vsp=f.vsp) hx=>a8U (w:=w1) (gm:=gm) (vsp:=vsp) (sp:=f.sp) (i:=i) (k:=k) (x:=x) (t:=page) (y:=y) (bp:=bp) (op:=op) (cp:=cp) hb0 (hvs ▸ h.sp) hx (h.pg x (xc0 hx));unfold a4O a4z;have hK0:=hK;generalize j6 f=c at hck hsp0 |-;obtain ⟨slots,sp,pr,out,vsp,vpr,vout⟩:=f;obtain ⟨m1,m2,m3,m4,m5⟩:=hK;have b1:=m1.bound;dsimp only at m1 m2 m3 m4 m5 b1 hsp0 hpn hpa |-;obtain ⟨p1,c1,rfl⟩:=m1.len;obtain ⟨p2,c2,rfl⟩:=m4.len;obtain ⟨p3,c3,rfl⟩:=m5.len;unfold flC at hck |-;dsimp only at hck |-;by_cases h0:c=0;rotate_left
 ·have hd:(!decide (c=0))=true:=by rw [xh3 h0];rfl
  rw [xd7 h0,xd7 h0];refine yEn Tryz.func20 Tryz.ntmps20 (by kernel_rfl) (by kernel_rfl) rfl rfl ?_;have hS:=St.start w
  repeat' (first|(with_reducible apply a4 a0);rfl;rfl;rfl|(with_reducible apply a5);rfl;(apply Ld.st a0;rfl;exact hS.blkR 0 rfl;rfl);rfl|refine yDn (by with_reducible constructor) ?_|(with_reducible apply b7);rfl;assumption|(with_reducible apply f5 hS);rfl;rfl;rfl;clear hS;intro g w' hS|(with_reducible apply d5 hS);rfl;rfl;rfl;refine ⟨_,hck _ (hK0.now hS),?_⟩;clear hS;intro w' hS)
  (refine a1O rfl ?_)
  exact ⟨rfl,hS.sub (xg6 _)⟩
 have hd:(!decide (c=0))=false:=by rw [xh4 h0];rfl
 rw [xd6 h0,xd6 h0];by_cases h3:space < 0\/(sp.length:Int)<=space
 ·rw [xd6 h3,xd6 h3];refine yEn Tryz.func20 Tryz.ntmps20 (by kernel_rfl) (by kernel_rfl) rfl rfl ?_;have hS:=St.start w
  repeat' (first|(with_reducible apply a4 a0);rfl;rfl;rfl|(with_reducible apply a5);rfl;(first|apply Ld.sl a0;rfl;exact hS.blkC 0 rfl rfl|apply Ld.st a0;rfl;exact hS.blkR 0 rfl;rfl);rfl|refine yDn (by with_reducible constructor) ?_|(with_reducible apply i6);(iterate 4 rfl);assumption|(with_reducible apply q8);(iterate 4 rfl);assumption;rfl|(with_reducible apply d7);rfl;assumption;rfl;rfl|(with_reducible apply a9);rfl;assumption;rfl;rfl|(with_reducible apply b7);rfl;rfl|(with_reducible apply j5);rfl;assumption|(with_reducible apply f5 hS);rfl;rfl;rfl;clear hS;intro g w' hS|(with_reducible apply a0f);rfl;rfl;rfl;all_goals (intro hb hp;try (exfalso;omega))|(with_reducible apply i5);rfl;all_goals (intro hb hp;try (exfalso;omega))|(with_reducible apply d5 hS);rfl;rfl;rfl;refine ⟨_,hck _ (hK0.now hS),?_⟩;clear hS;intro w' hS)
  all_goals ((refine a1O rfl ?_))
  all_goals exact ⟨rfl,hS.sub (xg6 _)⟩
 rw [xd7 h3,xd7 h3];obtain ⟨i,rfl⟩:∃ i:Nat,space=(i:Nat):=⟨space.toNat,by omega⟩;have hil:i < sp.length:=by omega
 have hd3:decide ((i:Int) < 0)=false:=xh3 (by omega);have hd4:decide ((i:Int) ≥ (sp.length:Int))=false:=xh3 (by omega);obtain ⟨x,hx⟩:=n7 (l:=sp) (i:=i) (by omega);rw [Int.toNat_natCast,hx];dsimp only;obtain ⟨hri,hbd⟩:=a5P (hsp0 h0 x (xc0 hx));by_cases hm:page ∈ x.1.pages.map fun p=>p.page
 ·obtain ⟨y,hy,hyp,hym⟩:=a6k hm;have hyk:=a7z hri hy;rw [hy];obtain ⟨k,hk⟩:∃ k,k=lbd (x.1.pages.map fun p=>p.page) page:=⟨_,rfl⟩;rw [<- hk] at hyk;have hkl:=a7 hyk;have hpg:=m3 x (xc0 hx);have hrow:=j3 (f:=fpC) hyk;have hbb:∀ q ∈ x.1.pages.map fun e=>e.page,-9223372036854775808<=q - page/\q - page<=9223372036854775807:=fun q hq=>by
   obtain ⟨z,hz,rfl⟩:=xi0.1 hq;have:=hbd z hz;have:=hbd y hym;omega
  obtain ⟨pp,cp,hvp⟩:=hpg.len;have hpg':=hpg;rw [hvp] at hpg';obtain ⟨bp,op,rfl,hro⟩:=hpg'.at_ (i:=k) hkl;have hpa:=fun w1 gm (h:FlOk w1 _) hb0=>hpa w1 gm _ h i k x y bp op cp hb0 rfl hx hvp hri hbb hk.symm hyk hyp;unfold fpC at hrow;refine yEn Tryz.func20 Tryz.ntmps20 (by kernel_rfl) (by kernel_rfl) rfl rfl ?_;have hS:=St.start w
  repeat' (first|(with_reducible apply a4 a0);rfl;rfl;rfl|(with_reducible apply a5);rfl;(first|apply Ld.sc a0;rfl;exact hS.roC (by assumption) (by assumption) rfl|apply Ld.sl a0;rfl;exact hS.blkC 0 rfl rfl|apply Ld.st a0;rfl;exact hS.blkR 0 rfl;rfl);rfl|(with_reducible apply a0m a0);rfl;rfl;exact (rfl:_=some [_,_]);rfl|refine yDn (by with_reducible constructor) ?_|(with_reducible apply i6);(iterate 4 rfl);rfl|(with_reducible apply a9);rfl;rfl;rfl;rfl|((with_reducible apply j5);rfl;first|rfl|assumption)|(with_reducible apply f5 hS);rfl;rfl;rfl;clear hS;intro g w' hS|(with_reducible apply d5 hS);rfl;rfl;rfl;refine ⟨_,hck _ (hK0.now hS),?_⟩;clear hS;intro w' hS|(with_reducible apply d5 hS);rfl;rfl;rfl;refine ⟨_,hpa _ _ (hK0.now hS) (Bs.of (hS.blkC 0 rfl rfl)),?_⟩;clear hS;intro w' hS)
  (refine a1O rfl ?_)
  exact ⟨rfl,hS.sub (xg6 _)⟩
 ·rw [a2H hm];have hpn:=fun w1 gm (h:FlOk w1 _) hb0=>hpn w1 gm _ h i x hb0 rfl hx fun y hy=>a8q (hbd y hy).1 (hbd y hy).2 h1 h2 fun e=>hm (xi0.2 ⟨y,hy,e⟩);refine yEn Tryz.func20 Tryz.ntmps20 (by kernel_rfl) (by kernel_rfl) rfl rfl ?_;have hS:=St.start w
  repeat' (first|(with_reducible apply a4 a0);rfl;rfl;rfl|(with_reducible apply a5);rfl;(first|apply Ld.sl a0;rfl;exact hS.blkC 0 rfl rfl|apply Ld.st a0;rfl;exact hS.blkR 0 rfl;rfl);rfl|(with_reducible apply a0m a0);rfl;rfl;exact (rfl:_=some [_,_]);rfl|refine yDn (by with_reducible constructor) ?_|(with_reducible apply i6);(iterate 4 rfl);rfl|(with_reducible apply a9);rfl;rfl;rfl;rfl|(with_reducible apply b7);rfl;rfl|(with_reducible apply j5);rfl;assumption|(with_reducible apply f5 hS);rfl;rfl;rfl;clear hS;intro g w' hS|(with_reducible apply d5 hS);rfl;rfl;rfl;refine ⟨_,hck _ (hK0.now hS),?_⟩;clear hS;intro w' hS|(with_reducible apply d5 hS);rfl;rfl;rfl;refine ⟨_,hpn _ _ (hK0.now hS) (Bs.of (hS.blkC 0 rfl rfl)),?_⟩;clear hS;intro w' hS)
  (refine a1O rfl ?_)
  exact ⟨rfl,hS.sub (xg6 _)⟩
inductive Rs (α:Type) where
 |ok (a:α)
 |no (p:String)
inductive SA where
 |blk (L:List Value)
 |row (e sz:Nat) (rows:List (List Value)) (cap:Nat) (u:Bool)
 |smap (t:Nat) (es:List (Value×Value))
 |siter (l:List UInt8) (pos:Nat)
abbrev SH:=List (Nat×SA)
noncomputable def ifB {α:Type} (b:Bool) (x y:α):α:=@Bool.rec (fun _=>α) y x b
noncomputable def d4 {α:Type} (l:List (Nat×α)) (i:Nat):Option α:=@List.rec (Nat×α) (fun _=>Option α) none (fun p _ ih=>@Bool.rec (fun _=>Option α) ih (some p.2) (Nat.beq p.1 i)) l
noncomputable def a0L {α:Type} (l:List α):Nat->Option α:=@List.rec α (fun _=>Nat->Option α) (fun _=>none) (fun p _ ih i=>@Nat.rec (fun _=>Option α) (some p) (fun i _=>ih i) i) l
inductive BT (α:Type) where
 |nil
 |node (k:Nat) (v:α) (l r:BT α)
noncomputable def BT.get {α:Type} (t:BT α) (i:Nat):Option α:=@BT.rec α (fun _=>Option α) none (fun k v _ _ l r=>@Bool.rec (fun _=>Option α) (@Bool.rec (fun _=>Option α) r l (Nat.blt i k)) (some v) (Nat.beq i k)) t
noncomputable def y5 (H:SH) (i:Nat) (t:SA):SH:=@List.rec (Nat×SA) (fun _=>SH) [] (fun p r ih=>@Bool.rec (fun _=>SH) (p::ih) ((p.1,t)::r) (Nat.beq p.1 i)) H
noncomputable def p8 {α:Type} (l:List (Nat×α)) (i:Nat):List (Nat×α):=@List.rec (Nat×α) (fun _=>List (Nat×α)) [] (fun p _ ih=>@Bool.rec (fun _=>List (Nat×α)) (p::ih) ih (Nat.beq p.1 i)) l
noncomputable def x9 (H:SH) (i:Nat) (t:SA):SH:=@List.rec (Nat×SA) (fun _=>SH) [(i,t)] (fun p r ih=>@Bool.rec (fun _=>SH) (p::ih) ((i,t)::p::r) (Nat.blt p.1 i)) H
def cOk:Value->Bool
 |.bool _|.int _ _|.string _|.pointer none|.slice none _ _|.map none|.nilFunc|.nilIface=>true
 |_=>false
noncomputable def sEv (E:Fr):Operand->Option Value
 |.tmp t=>d4 E t
 |.const v=>ifB (cOk v) (some v) none
 |.func f=>some (.func (.func f) #[] #[])
 |.global _=>none
noncomputable def a4q (E:Fr) (l:List Operand):Option (List Value):=@List.rec Operand (fun _=>Option (List Value)) (some []) (fun x _ ih=>match sEv E x,ih with
  |some v,some vs=>some (v::vs)
  |_,_=>none) l
noncomputable def a63 (E:Fr) (l:List (Nat×Operand)):Option (List (Nat×Value)):=@List.rec (Nat×Operand) (fun _=>Option (List (Nat×Value))) (some []) (fun x _ ih=>match sEv E x.2,ih with
  |some v,some vs=>some ((x.1,v)::vs)
  |_,_=>none) l
noncomputable def a2K (k:IntKind) (n:Int):Int:=match k,n with
 |.i64,.ofNat m=>ifB (Nat.blt m 9223372036854775808) (.ofNat m) (IntKind.i64.wrap (.ofNat m))
 |k,n=>k.wrap n
def a5b (f:(n:Nat)->BitVec n->BitVec n->BitVec n) (k:IntKind) (m n:Int):Value:=.int k (k.wrap (f k.bits (BitVec.ofInt k.bits m) (BitVec.ofInt k.bits n)).toNat)
noncomputable def a40 (op:BinOp) (k:IntKind) (m n:Int):Option Value:=match op with
 |.add=>some (.int k (a2K k (m + n)))
 |.sub=>some (.int k (a2K k (m - n)))
 |.mul=>some (.int k (a2K k (m * n)))
 |.quo=>ifB (decide (n=0)) none (some (.int k (a2K k (m.tdiv n))))
 |.rem=>ifB (decide (n=0)) none (some (.int k (m.tmod n)))
 |.and=>some (a5b (fun _ a b=>a &&& b) k m n)
 |.or=>some (a5b (fun _ a b=>a|||b) k m n)
 |.xor=>some (a5b (fun _ a b=>a ^^^ b) k m n)
 |.lss=>some (.bool (decide (m < n)))
 |.leq=>some (.bool (decide (m<=n)))
 |.gtr=>some (.bool (decide (n < m)))
 |.geq=>some (.bool (decide (n<=m)))
 |.eql=>some (.bool (decide (m=n)))
 |.neq=>some (.bool (!decide (m=n)))
 |_=>none
noncomputable def a5L (op:BinOp) (k k':IntKind) (m n:Int):Option Value:=match op with
 |.shl=>ifB (decide (n < 0)) none (some (.int k (k.wrap (m * 2 ^ min n.toNat k.bits))))
 |.shr=>ifB (decide (n < 0)) none (some (.int k (m.fdiv (2 ^ min n.toNat k.bits))))
 |op=>ifB (kb k k') (a40 op k m n) none
def sEqS:List Nat->List Value->List Value->Option Bool
 |[],[],[]=>some true
 |0::s,.int .i64 a::l,.int .i64 b::r=>(sEqS s l r).map (decide (a=b) && ·)
 |1::s,.string ⟨⟨a⟩⟩::l,.string ⟨⟨b⟩⟩::r=>(sEqS s l r).map (decide (a=b) && ·)
 |2::s,.bool a::l,.bool b::r=>(sEqS s l r).map (decide (a=b) && ·)
 |_,_,_=>none
abbrev EqT:=List (Nat×List Nat)
abbrev TT:=BT TI
noncomputable def a9o (op:BinOp) (l l':List UInt8):Option Value:=match op with
 |.eql=>some (.bool (decide (l=l')))
 |.neq=>some (.bool (!decide (l=l')))
 |.add=>ifB (Nat.ble (l.length + l'.length) 1000000) (some (.string ⟨(l++l').toArray⟩)) none
 |_=>none
noncomputable def a9s (T:TT) (op:BinOp) (t:TypeId) (a b:Bool):Option Value:=match T.get t,op with
 |some (.sc .bool _ _),.eql=>some (.bool (decide (a=b)))
 |some (.sc .bool _ _),.neq=>some (.bool (!decide (a=b)))
 |_,_=>none
noncomputable def a9x (q:EqT) (op:BinOp) (t:TypeId) (l l':List Value):Option Value:=match d4 q t with
 |some s=>match sEqS s l l',op with
  |some b,.eql=>some (.bool b)
  |some b,.neq=>some (.bool (!b))
  |_,_=>none
 |none=>none
noncomputable def a9z (T:TT) (op:BinOp) (t:TypeId) (p:Option Addr):Option Value:=match T.get t,op with
 |some (.sl _ _ _ _ _),.eql=>some (.bool p.isNone)
 |_,_=>none
noncomputable def a9F (T:TT) (op:BinOp) (t:TypeId) (p:Option Addr):Option Value:=match T.get t,op with
 |some (.sc (.pointer _) _ _),.eql=>some (.bool p.isNone)
 |_,_=>none
noncomputable def b1i (T:TT) (q:EqT) (op:BinOp) (t:TypeId):Value->Value->Option Value
 |.int k m,.int k' n=>a5L op k k' m n
 |.string ⟨⟨l⟩⟩,.string ⟨⟨l'⟩⟩=>a9o op l l'
 |.bool a,.bool b=>a9s T op t a b
 |.slice p _ _,.slice none 0 0=>a9z T op t p
 |.pointer p,.pointer none=>a9F T op t p
 |.agg ⟨l⟩,.agg ⟨l'⟩=>a9x q op t l l'
 |_,_=>none
noncomputable def a76 (E:Fr) (c a b:Operand):Option Value:=match sEv E c with
 |some (.bool true)=>sEv E a
 |some (.bool false)=>sEv E b
 |_=>none
noncomputable def b0t (E:Fr) (x:Operand):Option Value:=match sEv E x with
 |some (.pointer (some p))=>some (.pointer (some p))
 |_=>none
noncomputable def sFA (T:TT) (E:Fr) (s:TypeId) (x:Operand) (f:Nat):Option Value:=match T.get s,sEv E x with
 |some (.st _ fs _),some (.pointer (some ⟨g,k,none⟩))=>match a0L fs f with
  |some (o,_,_)=>some (.pointer (some ⟨g,k + o,none⟩))
  |none=>none
 |_,_=>none
noncomputable def b0C (E:Fr) (x:Operand) (i:Nat):Option Value:=match sEv E x with
 |some (.tuple vs)=>a0L vs.toList i
 |_=>none
noncomputable def a9R (E:Fr) (op:UnOp) (x:Operand):Option Value:=match op,sEv E x with
 |.not,some (.bool b)=>some (.bool (!b))
 |_,_=>none
noncomputable def sBO (T:TT) (q:EqT) (E:Fr) (op:BinOp) (t:TypeId) (x y:Operand):Option Value:=match sEv E x,sEv E y with
 |some u,some v=>b1i T q op t u v
 |_,_=>none
noncomputable def sMF (E:Fr) (fn:Go.Fn) (a b:Array Operand):Option Value:=match a4q E a.toList,a4q E b.toList with
 |some us,some vs=>some (.func fn us.toArray vs.toArray)
 |_,_=>none
noncomputable def sCv (T:TT) (E:Fr) (src dst:TypeId) (x:Operand):Option Value:=match T.get src,T.get dst,sEv E x with
 |some _,some (.sc (.int k) _ _),some (.int _ n)=>some (.int k (k.wrap n))
 |some _,some (.sc .string _ _),some (.string s)=>some (.string s)
 |_,_,_=>none
noncomputable def b1D (T:TT) (t:TypeId) (v:Value):Option Value:=match T.get t,v with
 |some (.sl _ _ _ _ _),.slice _ n _=>some (.int .i64 n)
 |some (.sc .string _ _),.string ⟨⟨l⟩⟩=>some (.int .i64 l.length)
 |_,_=>none
noncomputable def b1u (T:TT) (t:TypeId) (v:Value):Option Value:=match T.get t,v with
 |some (.sl _ _ _ _ _),.slice none _ c=>some (.int .i64 c)
 |_,_=>none
noncomputable def b1B (T:TT) (E:Fr) (b:Builtin) (args:List Operand) (ats:List TypeId):Option Value:=match b,args,ats with
 |.len,[x],[t]=>match sEv E x with
  |some v=>b1D T t v
  |none=>none
 |.cap,[x],[t]=>match sEv E x with
  |some v=>b1u T t v
  |none=>none
 |.min,[x,y],_=>match sEv E x,sEv E y with
  |some (.int .i64 m),some (.int .i64 k)=>some (.int .i64 (min m k))
  |_,_=>none
 |_,_,_=>none
noncomputable def sCP (T:TT) (E:Fr) (c:Call):Option Value:=match c.callee with
 |.builtin b=>b1B T E b c.args.toList c.argTypes.toList
 |_=>none
noncomputable def a9N (T:TT) (E:Fr) (s:TypeId) (x:Operand) (f:Nat):Option Value:=match T.get s,sEv E x with
 |some (.st _ fs _),some (.agg c)=>match a0L fs f with
  |some (o,n,true)=>some (.agg ((c.toList.drop o).take n).toArray)
  |some (o,_,false)=>a0L c.toList o
  |none=>none
 |_,_=>none
noncomputable def a95 (T:TT) (E:Fr) (t:TypeId) (parts:Array (Nat×Operand)):Option Value:=match T.get t,a63 E parts.toList with
 |some (.st _ fs z),some ps=>(y6 (fun i=>(a0L fs i).map fun f=>(f.1,f.2.1)) z ps).map fun L=>.agg L.toArray
 |_,_=>none
noncomputable def sIA (T:TT) (E:Fr) (t:TypeId) (x y:Operand):Option Value:=match T.get t,sEv E x,sEv E y with
 |some (.sl _ sz _ _ _),some (.slice (some ⟨b,off,none⟩) m _),some (.int .i64 (.ofNat i))=>ifB (Nat.blt i m) (some (.pointer (some ⟨b,off + i * sz,none⟩))) none
 |some (.ar _ len sz _ _),some (.pointer (some ⟨b,off,none⟩)),some (.int .i64 (.ofNat i))=>ifB (Nat.blt i len) (some (.pointer (some ⟨b,off + i * sz,none⟩))) none
 |_,_,_=>none
noncomputable def sIx (T:TT) (E:Fr) (t:TypeId) (x y:Operand):Option Value:=match T.get t,sEv E x,sEv E y with
 |some (.sc .string _ _),some (.string ⟨⟨l⟩⟩),some (.int .i64 (.ofNat i))=>(a0L l i).map fun c=>.int .u8 c.toNat
 |_,_,_=>none
noncomputable def sBd:Option Value->Nat->Nat->Option Nat
 |none,z,_=>some z
 |some (.int _ (.ofNat i)),_,y=>ifB (Nat.ble i y) (some i) none
 |_,_,_=>none
noncomputable def a8m (E:Fr):Option Operand->Option (Option Value)
 |none=>some none
 |some x=>(sEv E x).map some
noncomputable def a7R (E:Fr) (lo hi:Option Operand) (len cap:Nat):Option (Nat×Nat):=match a8m E lo,a8m E hi with
 |some lo,some hi=>match sBd hi len cap with
  |some h=>match sBd lo 0 h with
   |some a=>some (a,h)
   |none=>none
  |none=>none
 |_,_=>none
noncomputable def sSl (T:TT) (E:Fr) (t:TypeId) (x:Operand) (lo hi mx:Option Operand):Option Value:=match mx,T.get t,sEv E x with
 |none,some (.sc .string _ _),some (.string ⟨⟨l⟩⟩)=>match a7R E lo hi l.length l.length with
  |some (a,h)=>some (.string ⟨((l.drop a).take (h - a)).toArray⟩)
  |none=>none
 |none,some (.sl _ sz _ _ _),some (.slice (some ⟨b,off,none⟩) m c)=>match a7R E lo hi m c with
  |some (a,h)=>ifB (Nat.beq a 0||Nat.blt a c) (some (.slice (some ⟨b,off + a * sz,none⟩) (h - a) (c - a))) none
  |none=>none
 |none,some (.sl _ _ _ _ _),some (.slice none m c)=>match a7R E lo hi m c with
  |some (a,h)=>some (.slice none (h - a) (c - a))
  |none=>none
 |_,_,_=>none
noncomputable def a5k (T:TT) (q:EqT) (E:Fr):Op->Option Value
 |.move x=>sEv E x
 |.assign x=>sEv E x
 |.pick c a b=>a76 E c a b
 |.nilCheck x=>b0t E x
 |.fieldAddr s x f=>sFA T E s x f
 |.extract x i=>b0C E x i
 |.unOp op _ x=>a9R E op x
 |.binOp op t x y _=>sBO T q E op t x y
 |.makeFunc fn a b=>sMF E fn a b
 |.convert src dst x=>sCv T E src dst x
 |.call c=>sCP T E c
 |.field s x f=>a9N T E s x f
 |.build t parts=>a95 T E t parts
 |.indexAddr t x y=>sIA T E t x y
 |.index t x y=>sIx T E t x y
 |.slice t x lo hi mx=>sSl T E t x lo hi mx
 |_=>none
noncomputable def d9 (H:SH) (i o n:Nat):Option (List Value):=match d4 H i with
 |some (.blk L)=>ifB (Nat.ble (o + n) L.length) (some ((L.drop o).take n)) none
 |some (.row _ sz rows _ _)=>match a0L rows (o / sz) with
  |some r=>ifB (Nat.ble (o % sz + n) r.length) (some ((r.drop (o % sz)).take n)) none
  |none=>none
 |_=>none
noncomputable def a2v (T:TT) (H:SH) (t:TypeId):Value->Option Value
 |.pointer (some ⟨i,o,none⟩)=>match T.get t with
  |some (.sc _ _ _)|some (.sl _ _ _ _ _)=>match d9 H i o 1 with
   |some [v]=>some v
   |_=>none
  |some (.st s _ _)|some (.ar s _ _ _ _)=>(d9 H i o s).map fun L=>.agg L.toArray
  |none=>none
 |_=>none
noncomputable def b0W (H:SH) (i o s:Nat) (c:List Value):Option SH:=ifB (Nat.beq c.length s && c.all (·.oneCell')) (match d4 H i with
 |some (.blk L)=>ifB (Nat.ble (o + s) L.length) (some (y5 H i (.blk (l9 L o c)))) none
 |some (.row e sz rows cap u)=>match a0L rows (o / sz) with
  |some r=>ifB (Nat.ble (o % sz + s) sz) (some (y5 H i (.row e sz (rows.set (o / sz) (l9 r (o % sz) c)) cap u))) none
  |none=>none
 |_=>none) none
noncomputable def a4o (T:TT) (H:SH) (t:TypeId) (v:Value):Value->Option SH
 |.pointer (some ⟨i,o,none⟩)=>match T.get t,celL v with
  |some ti,some c=>b0W H i o ti.size c
  |_,_=>none
 |_=>none
noncomputable def a0R (H:SH) (sz:Nat):Value->Option (List (List Value))
 |.slice none 0 _=>some []
 |.slice (some _) 0 _=>some []
 |.slice (some ⟨i,o,none⟩) m _=>match d4 H i with
  |some (.row _ sz' rows _ _)=>ifB (Nat.beq sz sz' && (Nat.beq (o % sz) 0 && Nat.ble (o / sz + m) rows.length)) (some ((rows.drop (o / sz)).take m)) none
  |_=>none
 |_=>none
noncomputable def a3g:List (List Value)->Option (List UInt8)
 |[]=>some []
 |[.int .u8 (.ofNat n)]::r=>ifB (Nat.blt n 256) ((a3g r).map (UInt8.ofNat n::·)) none
 |_=>none
abbrev OpR:=Option (Option Value×SH×Nat)
noncomputable def a6u (H:SH) (n e sz:Nat) (rows:List (List Value)):OpR:=some (some (.slice (some ⟨n,0,none⟩) rows.length rows.length),x9 H n (.row e sz rows rows.length true),n + 1)
noncomputable def a9q (H:SH) (n e sz m c:Nat) (news:List (List Value)) (i:Nat):OpR:=match d4 H i with
 |some (.row e' sz' rows cap u)=>ifB (Nat.beq e e' && Nat.beq sz sz')
   (ifB (Nat.beq m rows.length && Nat.beq c cap) (a6u (p8 H i) n e sz (rows++news))
    (ifB (Nat.ble (m + news.length) rows.length && Nat.ble (m + news.length) c) (some (some (.slice (some ⟨i,0,none⟩) (m + news.length) c),y5 H i (.row e sz (a0B rows news m) cap u),n)) none)) none
 |_=>none
noncomputable def a5a (H:SH) (n e sz eb:Nat) (news:List (List Value)):Value->OpR
 |.slice p m c=>match news with
  |[]=>ifB (Nat.ble m c) (some (some (.slice p m c),H,n)) none
  |_::_=>ifB (Nat.ble ((m + news.length) * (eb + 1)) 1000000) (match p with
   |none=>ifB (Nat.beq m 0 && Nat.beq c 0) (a6u H n e sz news) none
   |some ⟨i,0,none⟩=>a9q H n e sz m c news i
   |_=>none) none
 |_=>none
noncomputable def a9J (H:SH) (n e sz eb q:Nat) (z:List Value):Value->OpR
 |.slice none 0 0=>ifB (Nat.blt 0 q && (Nat.ble (q * (eb + 1)) 1000000 && z.all (·.oneCell'))) (a6u H n e sz (List.replicate q z)) none
 |_=>none
noncomputable def a42 (T:TT) (H:SH) (n:Nat) (t t':TypeId) (s u:Value):OpR:=match T.get t with
 |some (.sl e sz eb _ z)=>ifB (Nat.beq t t') (match a0R H sz u with
   |some news=>a5a H n e sz eb news s
   |none=>none) (match T.get t',u with
   |some (.sc (.int .i64) _ _),.int .i64 (.ofNat q)=>a9J H n e sz eb q z s
   |_,_=>none)
 |_=>none
noncomputable def a6U (T:TT) (H:SH) (t:TypeId) (v:Value):Option (Nat×Nat×Nat×List UInt8×Bool):=match T.get t,v with
 |some (.sl e 1 1 false [.int .u8 (.ofNat 0)]),.slice (some ⟨i,0,none⟩) m c=>match d4 H i with
  |some (.row e' 1 rows cap u)=>ifB (Nat.beq e e' && (Nat.beq m rows.length && Nat.beq c cap)) ((a3g rows).map fun l=>(i,e,cap,l,u)) none
  |_=>none
 |_,_=>none
noncomputable def a6n (T:TT) (H:SH) (n:Nat) (t:TypeId) (s u:Value):OpR:=match a6U T H t s,u with
 |some (i,e,cap,old,ub),.string ⟨⟨l⟩⟩=>some (some (.int .i64 (l.take old.length).length),y5 H i (.row e 1 (bR (l.take old.length++old.drop (l.take old.length).length)) cap ub),n)
 |_,_=>none
noncomputable def a7m (H:SH) (n:Nat) (t:TypeId) (v:Value):OpR:=match v with
 |.map (some i)=>match d4 H i with
  |some (.smap t' es)=>ifB (Nat.beq t t') (some (some (.int .i64 es.length),H,n)) none
  |_=>none
 |_=>none
noncomputable def b0B (T:TT) (E:Fr) (H:SH) (n:Nat) (b:Builtin) (args:List Operand) (ats:List TypeId):OpR:=match b,args,ats with
 |.append,[x,y],[t,t']=>match sEv E x,sEv E y with
  |some s,some u=>a42 T H n t t' s u
  |_,_=>none
 |.copy,[x,y],[t,_]=>match sEv E x,sEv E y with
  |some s,some u=>a6n T H n t s u
  |_,_=>none
 |.len,[x],[t]=>match sEv E x with
  |some v=>a7m H n t v
  |none=>none
 |_,_,_=>none
noncomputable def a83:Value->Value->Option Bool
 |.int .i64 a,.int .i64 b=>some (decide (a=b))
 |.string ⟨⟨a⟩⟩,.string ⟨⟨b⟩⟩=>some (decide (a=b))
 |_,_=>none
noncomputable def a09 (k:Value):List (Value×Value)->Option (Option Value)
 |[]=>some none
 |(x,v)::r=>match a83 k x with
  |some true=>some (some v)
  |some false=>a09 k r
  |none=>none
noncomputable def a5Y (k v:Value):List (Value×Value)->List (Value×Value)
 |[]=>[(k,v)]
 |(x,u)::r=>match a83 k x with
  |some true=>(k,v)::r
  |_=>(x,u)::a5Y k v r
noncomputable def sKO (T:TT) (t:TypeId) (k:Value):Bool:=match T.get t with
 |some (.sc (.map K _) _ _)=>match T.get K,k with
  |some (.sc (.int .i64) _ _),.int .i64 _=>true
  |some (.sc .string _ _),.string _=>true
  |_,_=>false
 |_=>false
noncomputable def a3V (T:TT) (H:SH) (t:TypeId) (i:Nat) (k:Value):Option (List (Value×Value)):=match d4 H i with
 |some (.smap t' es)=>ifB (Nat.beq t t' && sKO T t k) (some es) none
 |_=>none
noncomputable def a6R (T:TT) (ez:List (Nat×Value)) (H:SH) (n:Nat) (t:TypeId) (ok:Bool) (m k:Value):OpR:=match m with
 |.map (some i)=>match a3V T H t i k with
  |some es=>match a09 k es with
   |some (some v)=>some (some (ifB ok (.tuple #[v,.bool true]) v),H,n)
   |some none=>(d4 ez t).map fun z=>(some (ifB ok (.tuple #[z,.bool false]) z),H,n)
   |none=>none
  |none=>none
 |_=>none
noncomputable def a7H (T:TT) (H:SH) (n:Nat) (t:TypeId) (m k v:Value):OpR:=match m with
 |.map (some i)=>match a3V T H t i k with
  |some es=>match a09 k es with
   |some _=>some (none,y5 H i (.smap t (a5Y k v es)),n)
   |none=>none
  |none=>none
 |_=>none
noncomputable def b0b (T:TT) (E:Fr) (H:SH) (n:Nat) (src dst:TypeId) (x:Operand):OpR:=match T.get dst,sEv E x with
 |some (.sc .string _ _),some v=>match a6U T H src v with
  |some (_,e,_,l,_)=>match T.get e with
   |some (.sc (.int .u8) 1 (.int .u8 (.ofNat 0)))=>ifB (Nat.blt 0 l.length) (some (some (.string ⟨l.toArray⟩),H,n)) none
   |_=>none
  |none=>none
 |_,_=>none
noncomputable def sBS (T:TT) (E:Fr) (H:SH) (n:Nat) (t:TypeId) (len:Nat) (parts:Array (Nat×Operand)):OpR:=match T.get t,a63 E parts.toList with
 |some (.sl e sz _ _ _),some ps=>match a0N 0 sz ps with
  |some rows=>ifB (Nat.beq rows.length len && (Nat.ble (len * sz) 16777216 && a1t rows)) (some (some (.slice (some ⟨n,0,none⟩) len len),x9 H n (.row e sz rows len false),n + 1)) none
  |none=>none
 |_,_=>none
noncomputable def sMk (T:TT) (E:Fr) (H:SH) (n:Nat) (t:TypeId) (x y:Operand):OpR:=match T.get t,sEv E x,sEv E y with
 |some (.sl e sz eb _ z),some (.int .i64 (.ofNat i)),some (.int .i64 (.ofNat j))=>ifB (Nat.beq i j && (Nat.ble (i * (eb + 1)) 1000000 && z.all (·.oneCell'))) (some (some (.slice (some ⟨n,0,none⟩) i i),x9 H n (.row e sz (List.replicate i z) i false),n + 1)) none
 |_,_,_=>none
noncomputable def a92 (T:TT) (E:Fr) (H:SH) (n:Nat) (t:TypeId) (x:Operand) (lo hi mx:Option Operand):OpR:=match T.get t,sEv E x,a8m E lo,hi,mx with
 |some (.sl _ _ _ _ _),some (.slice (some ⟨_,_,none⟩) m _),some (some (.int .i64 (.ofNat i))),none,none=>ifB (Nat.ble i m) (some (none,H,n)) none
 |_,_,_,_,_=>none
noncomputable def a7G (E:Fr) (H:SH) (n:Nat) (x:Operand):OpR:=match sEv E x with
 |some (.pointer (some ⟨i,0,none⟩))=>match d4 H i with
  |some (.siter l k)=>match a0L l k with
   |some b=>ifB (Nat.blt b.toNat 128) (some (some (.tuple #[.bool true,.int .i64 k,.int .i32 b.toNat]),y5 H i (.siter l (k + 1)),n)) none
   |none=>some (some (.tuple #[.bool false]),H,n)
  |_=>none
 |_=>none
noncomputable def a9U (H:SH) (n:Nat) (s:SA):OpR:=some (some (.pointer (some ⟨n,0,none⟩)),x9 H n s,n + 1)
noncomputable def sOp (T:TT) (ez:List (Nat×Value)) (E:Fr) (H:SH) (n:Nat):Op->OpR
 |.load t x=>match sEv E x with
  |some p=>(a2v T H t p).map fun v=>(some v,H,n)
  |none=>none
 |.store t x y=>match sEv E x,sEv E y with
  |some p,some v=>(a4o T H t v p).map fun H'=>(none,H',n)
  |_,_=>none
 |.box _ x=>match sEv E x with
  |some v=>match celL v with
   |some L=>a9U H n (.blk L)
   |none=>none
  |none=>none
 |.alloc t=>match T.get t with
  |some ti=>a9U H n (.blk ti.zeroCells)
  |none=>none
 |.buildSlice t len parts=>sBS T E H n t len parts
 |.makeSlice t x y=>sMk T E H n t x y
 |.call c=>match c.callee with
  |.builtin b=>b0B T E H n b c.args.toList c.argTypes.toList
  |_=>none
 |.convert src dst x=>b0b T E H n src dst x
 |.makeMap t none=>match T.get t with
  |some (.sc (.map K _) _ _)=>match T.get K with
   |some _=>some (some (.map (some n)),x9 H n (.smap t []),n + 1)
   |none=>none
  |_=>none
 |.lookup t m x ok=>match sEv E m,sEv E x with
  |some m,some k=>a6R T ez H n t ok m k
  |_,_=>none
 |.mapUpdate t m x y=>match sEv E m,sEv E x,sEv E y with
  |some m,some k,some v=>a7H T H n t m k v
  |_,_,_=>none
 |.insert t m x y=>match sEv E m,sEv E x,sEv E y with
  |some m,some k,some v=>a7H T H n t m k v
  |_,_,_=>none
 |.slice t x lo hi mx=>a92 T E H n t x lo hi mx
 |.range t x=>match T.get t,sEv E x with
  |some (.sc .string _ _),some (.string ⟨⟨l⟩⟩)=>a9U H n (.siter l 0)
  |_,_=>none
 |.next x true=>a7G E H n x
 |_=>none
inductive Pl where
 |nil
 |stop
 |take (i:Nat) (k:Pl)
 |one (i:Nat) (drop:List Nat) (k:Pl)
 |grp (w:Nat) (k:Pl)
 |alt (i:Nat) (drop:List Nat) (k more:Pl)
inductive SX where
 |normal
 |exit (i:Nat)
 |ret
structure Cx where
 T:TT
 q:EqT
 ez:List (Nat×Value)
 F:BT (Func×List (Nat×Pl))
 M:List (Nat×(List Value->Option Value))
 I:List (Nat×List (String×Nat))
abbrev a0p:=List (Nat×TypeId×Value×Value)
abbrev a11:=Nat->List Value->SH->Nat->Rs (Value×SH×Nat)
abbrev a10:=Fr->SH->Nat->Rs (SX×Fr×SH×Nat)
noncomputable def a12 (ops:List Oper) (E:Fr) (o:Oper):Option Bool:=match o.guard with
 |none=>some true
 |some (j,b)=>match a0L ops j with
  |some oj=>match oj.dst with
   |some dj=>match d4 E dj with
    |some (.bool c)=>some (c == b)
    |some _=>some false
    |none=>none
   |none=>none
  |none=>none
noncomputable def z6 (E:Fr):Option Nat->Option Value->Fr
 |some d,some v=>(d,v)::E
 |some d,none=>p8 E d
 |none,_=>E
noncomputable def a2T (E:Fr):List Nat->Fr:=@List.rec (Nat×Value) (fun _=>List Nat->Fr) (fun _=>[]) (fun p _ ih s=>bif @List.rec Nat (fun _=>Bool) false (fun x _ h=>bif Nat.beq p.1 x then true else h) s then ih s else p::ih (p.1::s)) E
noncomputable def a1S (E:Fr):Fr:=bif Nat.blt 400 (@List.rec (Nat×Value) (fun _=>Nat) 0 (fun _ _ n=>n + 1) E) then a2T E [] else E
mutual
def vEq:Nat->Value->Value->Bool
 |0,_,_=>false
 |k + 1,a,b=>match a,b with
  |.bool a,.bool b=>a == b
  |.int j a,.int j' b=>kb j j' && decide (a=b)
  |.string ⟨⟨a⟩⟩,.string ⟨⟨b⟩⟩=>decide (a=b)
  |.pointer none,.pointer none=>true
  |.pointer (some ⟨i,o,none⟩),.pointer (some ⟨j,p,none⟩)=>Nat.beq i j && Nat.beq o p
  |.slice none m c,.slice none m' c'=>Nat.beq m m' && Nat.beq c c'
  |.slice (some ⟨i,o,none⟩) m c,.slice (some ⟨j,p,none⟩) m' c'=>Nat.beq i j && (Nat.beq o p && (Nat.beq m m' && Nat.beq c c'))
  |.map none,.map none=>true
  |.map (some i),.map (some j)=>Nat.beq i j
  |.nilFunc,.nilFunc=>true
  |.func (.func f) ⟨a⟩ ⟨b⟩,.func (.func g) ⟨c⟩ ⟨d⟩=>Nat.beq f g && (a3d k a c && a3d k b d)
  |.nilIface,.nilIface=>true
  |.iface t a,.iface t' b=>Nat.beq t t' && vEq k a b
  |.agg ⟨a⟩,.agg ⟨b⟩=>a3d k a b
  |.tuple ⟨a⟩,.tuple ⟨b⟩=>a3d k a b
  |_,_=>false
def a3d:Nat->List Value->List Value->Bool
 |0,_,_=>false
 |_ + 1,[],[]=>true
 |k + 1,a::l,b::r=>vEq k a b && a3d k l r
 |_,_,_=>false
end
def a5c:List (List Value)->List (List Value)->Bool
 |[],[]=>true
 |a::l,b::r=>a3d 1000 a b && a5c l r
 |_,_=>false
def a8L:List (Value×Value)->List (Value×Value)->Bool
 |[],[]=>true
 |(a,c)::l,(b,d)::r=>vEq 1000 a b && (vEq 1000 c d && a8L l r)
 |_,_=>false
def a9Y:SA->SA->Bool
 |.blk a,.blk b=>a3d 1000 a b
 |.row e s r c u,.row e' s' r' c' u'=>Nat.beq e e' && (Nat.beq s s' && (Nat.beq c c' && ((u == u') && a5c r r')))
 |.smap t a,.smap t' b=>Nat.beq t t' && a8L a b
 |.siter a i,.siter b j=>Nat.beq i j && decide (a=b)
 |_,_=>false
def hEq:SH->SH->Bool
 |[],[]=>true
 |(i,a)::l,(j,b)::r=>Nat.beq i j && (a9Y a b && hEq l r)
 |_,_=>false
noncomputable def a2O (E1 E2:Fr):Fr->Bool
 |[]=>true
 |(d,_)::r=>(match d4 E1 d,d4 E2 d with
  |some u,some v=>vEq 1000 u v
  |_,_=>false) && a2O E1 E2 r
noncomputable def a0F (T:TT) (H:SH):a0p->Bool
 |[]=>true
 |(_,t,p,v)::r=>(match a2v T H t p with
  |some u=>vEq 1000 u v
  |none=>false) && a0F T H r
def a0a (dr:List Nat) (L:a0p):a0p:=L.filter fun e=>!dr.any (Nat.beq e.1)
noncomputable def a6b (T:TT) (E:Fr) (H:SH):List ResultVar->Option (List Value)
 |[]=>some []
 |.tmp t::r=>match d4 E t,a6b T E H r with
  |some v,some vs=>some (v::vs)
  |_,_=>none
 |.cell p t::r=>match d4 E p with
  |some a=>match a2v T H t a,a6b T E H r with
   |some v,some vs=>some (v::vs)
   |_,_=>none
  |none=>none
def inR (m e i:Nat):Bool:=bif Nat.blt i m then true else Nat.ble e i
mutual
def a52:Nat->Nat->Nat->Value->Bool
 |0,_,_,_=>false
 |k + 1,m,e,v=>match v with
  |.pointer (some a)|.slice (some a) _ _=>inR m e a.block
  |.map (some i)=>inR m e i
  |.func _ ⟨a⟩ ⟨b⟩=>a2S k m e a && a2S k m e b
  |.agg ⟨a⟩|.tuple ⟨a⟩=>a2S k m e a
  |.iface _ v=>a52 k m e v
  |_=>true
def a2S:Nat->Nat->Nat->List Value->Bool
 |0,_,_,_=>false
 |_ + 1,_,_,[]=>true
 |k + 1,m,e,a::l=>a52 k m e a && a2S k m e l
end
def a9A (m e:Nat):SA->Bool
 |.blk L=>a2S 1000 m e L
 |.row _ _ rows _ _=>rows.all (a2S 1000 m e)
 |.smap _ es=>es.all fun p=>a52 1000 m e p.1 && a52 1000 m e p.2
 |.siter _ _=>true
noncomputable def a9u (m e:Nat) (H:SH):Nat:=@List.rec (Nat×SA) (fun _=>Nat) 0 (fun p _ ih=>bif Nat.ble e p.1 then ih else bif Nat.blt p.1 m then 0 else ih + 1) H
noncomputable def a5W (m e:Nat) (H:SH):SH:=@List.rec (Nat×SA) (fun _=>SH) [] (fun p _ ih=>@Bool.rec (fun _=>SH) ih (p::ih) (inR m e p.1)) H
noncomputable def gc (m e:Nat) (v:Value) (H:SH):SH:=bif Nat.blt 20 (a9u m e H) && (a52 1000 m e v && (a5W m e H).all fun p=>a9A m e p.2) then a5W m e H else H
noncomputable def a8Q (l:List (String×Nat)) (x:String):Option Nat:=@List.rec (String×Nat) (fun _=>Option Nat) none (fun p _ ih=>@Bool.rec (fun _=>Option Nat) ih (some p.2) (decide (p.1=x))) l
section
variable (C:Cx) (call:a11)
noncomputable def b0h (pos:String) (E:Fr) (H:SH) (n:Nat) (f:Operand) (args:List Operand):Rs (Option Value×SH×Nat):=match sEv E f,a4q E args with
 |some (.func (.func g) first caps),some vs=>match call g (first.toList++vs++caps.toList) H n with
  |.ok (v,r)=>.ok (some v,r)
  |.no p=>.no p
 |_,_=>.no pos
noncomputable def a8i (op:Op) (pos:String) (E:Fr) (H:SH) (n:Nat):Rs (Option Value×SH×Nat):=match a5k C.T C.q E op with
 |some v=>.ok (some v,H,n)
 |none=>match sOp C.T C.ez E H n op with
  |some r=>.ok r
  |none=>.no pos
noncomputable def a98 (pos:String) (E:Fr) (H:SH) (n:Nat) (f:Operand) (name:String) (args:List Operand):Rs (Option Value×SH×Nat):=match sEv E f,a4q E args with
 |some (.iface t u),some vs=>match d4 C.I t with
  |some ms=>match a8Q ms name with
   |some g=>match call g (u::vs) H n with
    |.ok (v,r)=>.ok (some v,r)
    |.no p=>.no p
   |none=>.no name
  | none => .no "type"
 | _, _ => .no "receiver"
noncomputable def b0K (pos:String) (E:Fr) (H:SH) (n:Nat) (t:TypeId) (x:Operand):Rs (Option Value×SH×Nat):=match d4 C.I t,sEv E x with
 |some _,some v=>.ok (some (.iface t v),H,n)
 |_,_=>.no pos
noncomputable def a2N (op:Op) (pos:String) (E:Fr) (H:SH) (n:Nat):Rs (Option Value×SH×Nat):=match op with
 |.call c=>match c.callee with
  |.value f=>b0h call pos E H n f c.args.toList
  |.invoke f name=>a98 C call pos E H n f name c.args.toList
  |_=>a8i C (.call c) pos E H n
 |.makeInterface t x=>b0K C pos E H n t x
 |op=>a8i C op pos E H n
noncomputable def a2W (ops l:List Oper):Fr->SH->Nat->Rs (Fr×SH×Nat):=@List.rec Oper (fun _=>Fr->SH->Nat->Rs (Fr×SH×Nat)) (fun E H n=>.ok (E,H,n)) (fun o _ ih E H n=>match a12 ops E o with
  |some true=>match a2N C call o.op o.pos E H n with
   |.ok (v,H',n')=>ih (z6 E o.dst v) H' n'
   |.no p=>.no p
  |some false=>ih (z6 E o.dst (some undef)) H n
  | none => .no "guard") l
abbrev XPl:=Nat->Nat->a0p->Fr->SH->Nat->Rs (Fr×SH×Nat)
noncomputable def a7s (ops:List Oper) (i:Nat) (ih:XPl):XPl:=fun b z L E H n=>match a0L ops i with
 |some o=>match a12 ops E o with
  |some false=>ih b z L (z6 E o.dst (some undef)) H n
  |some true=>match o.op with
   |.load t x=>match sEv E x with
    |some a=>match a2v C.T H t a with
     |some v=>ih b z ((i,t,a,v)::L) (z6 E o.dst (some v)) H n
     | none => .no "load"
    | none => .no "loadx"
   |op=>match a5k C.T C.q E op with
    |some v=>ih b z L (z6 E o.dst (some v)) H n
    | none => .no "pure"
  | none => .no "guard"
 | none => .no "take"
noncomputable def a9M (ops:List Oper) (i:Nat) (dr:List Nat) (ih:XPl):XPl:=fun b z L E H n=>match a0L ops i with
 |some o=>match a12 ops E o with
  |some w=>match (bif w then a2N C call o.op o.pos E H n else .ok (some undef,H,n)) with
   | .ok (v, H', n') => bif a0F C.T H' (a0a dr L) then ih b z (a0a dr L) (z6 E o.dst v) H' n' else .no "early"
   |.no p=>.no p
  | none => .no "guard"
 | none => .no "one"
noncomputable def b0Q (ops:List Oper) (i:Nat) (dr:List Nat) (ih:XPl) (last:Bool) (more:XPl):XPl:=fun b z L E H n=>match a0L ops i with
 |some o=>match a12 ops E o with
  |some w=>match (bif w then a2N C call o.op o.pos E H (b + z * i) else .ok (some undef,H,b + z * i)) with
   |.ok (v,H',n')=>bif Nat.ble n' (b + z * (i + 1)) && a0F C.T H' (a0a dr L) then
     (bif last then ih b z (a0a dr L) (z6 E o.dst v) H' n
      else match ih b z (a0a dr L) (z6 E o.dst v) H' n,more b z L E H n with
       | .ok (E1, H1, n1), .ok (E2, H2, n2) => bif a2O E1 E2 E1 && (hEq H1 H2 && Nat.beq n1 n2) then .ok (E1, H1, n1) else .no "ways"
       |.no p,_=>.no p
       |_,.no p=>.no p)
    else .no "early"
   |.no p=>.no p
  | none => .no "guard"
 | none => .no "alt"
def Pl.isStop:Pl->Bool
 |.stop=>true
 |_=>false
noncomputable def xPl (ops : List Oper) (p : Pl) : XPl := @Pl.rec (fun _ => XPl) (fun _ _ _ E H n => .ok (E, H, n)) (fun _ _ _ _ _ _ => .no "stop") (fun i _ ih => a7s C ops i ih) (fun i dr _ ih => a9M C call ops i dr ih) (fun w _ ih _ _ L E H n => ih n w L E H (n + w * ops.length)) (fun i dr _ more ih im => b0Q C call ops i dr ih more.isStop im) p
noncomputable def a5y (f : a10) (k : Nat) : a10 := @Nat.rec (fun _ => a10) (fun _ _ _ => .no "loop") (fun _ ih E H n => match f E H n with
 |.ok (.normal,E',H',n')=>ih (a1S E') H' n'
 |r=>r) k
def a6H:Nat:=100000
noncomputable def a1D (pl:List (Nat×Pl)) (c:Code):a10:=@Code.rec (fun _=>a10)
 (fun E H n=>.ok (.normal,E,H,n))
 (fun id ops draw E H n=>bif draw then (match d4 pl id with
   |some p=>match xPl C call ops.toList p n 0 [] E H n with
    |.ok (E',H',n')=>.ok (.normal,E',H',n')
    |.no p=>.no p
   | none => .no "plan") else (match a2W C call ops.toList ops.toList E H n with
   |.ok (E',H',n')=>.ok (.normal,E',H',n')
   |.no p=>.no p))
 (fun _ _ x y E H n=>match x E H n with
   |.ok (.normal,E',H',n')=>y E' H' n'
   |r=>r)
 (fun o _ _ x y E H n=>match sEv E o with
   |some (.bool true)=>x E H n
   |some (.bool false)=>y E H n
   | _ => .no "cond")
 (fun i _ x E H n=>match x E H n with
   |.ok (.exit j,E',H',n')=>bif Nat.beq j i then .ok (.normal,E',H',n') else .ok (.exit j,E',H',n')
   |r=>r)
 (fun _ x=>a5y x a6H)
 (fun _ _ _ _ _ _ _ _ _ => .no "range")
 (fun i E H n=>.ok (.exit i,E,H,n))
 (fun _ _ _ _ _ => .no "scope")
 (fun _ _ _ _ => .no "label")
 (fun _ _ _ _ => .no "goto")
 (fun E H n=>.ok (.ret,E,H,n))
 (fun _ _ _ _ => .no "refuse") c
noncomputable def a6N (g:Nat) (vs:List Value) (H:SH) (n:Nat):Rs (Value×SH×Nat):=match d4 C.M g with
 |some f=>match f vs with
  |some v=>.ok (v,H,n)
  | none => .no "summary"
 |none=>match C.F.get g with
  |some (fn,pl)=>match fn.body with
   |some c=>bif Nat.ble vs.length fn.ntmps then (match a1D C call pl c (a1H 0 vs) H n with
     | .ok (.exit _, _) => .no "exit"
     |.ok (_,E',H',n')=>match a6b C.T E' H' fn.results.toList with
      |some rs=>.ok (a1b rs,gc n n' (a1b rs) H',n')
      |none=>.no fn.name
     | .no p => .no p) else .no "args"
   | none => .no "body"
  | none => .no "function"
end
noncomputable def a9H (C : Cx) (k : Nat) : a11 := @Nat.rec (fun _ => a11) (fun _ _ _ _ => .no "depth") (fun _ ih => a6N C ih) k
abbrev Ren:=Nat->Option (Nat×Nat)
mutual
def m8 (ρ:Ren):Value->Option Value
 |.bool b=>some (.bool b)
 |.int k n=>some (.int k n)
 |.string s=>some (.string s)
 |.nilFunc=>some .nilFunc
 |.nilIface=>some .nilIface
 |.pointer none=>some (.pointer none)
 |.pointer (some ⟨i,o,none⟩)=>(ρ i).map fun x=>.pointer (some ⟨x.1,o,none⟩)
 |.slice none n c=>some (.slice none n c)
 |.slice (some ⟨i,o,none⟩) n c=>(ρ i).map fun x=>.slice (some ⟨x.1,o,none⟩) n (c + x.2)
 |.map none=>some (.map none)
 |.map (some i)=>(ρ i).map fun x=>.map (some x.1)
 |.func f ⟨a⟩ ⟨b⟩=>(a0t ρ a).bind fun a'=>(a0t ρ b).map fun b'=>.func f ⟨a'⟩ ⟨b'⟩
 |.agg ⟨l⟩=>(a0t ρ l).map fun l'=>.agg ⟨l'⟩
 |.tuple ⟨l⟩=>(a0t ρ l).map fun l'=>.tuple ⟨l'⟩
 |.iface t v=>(m8 ρ v).map fun u=>.iface t u
 |_=>none
def a0t (ρ:Ren):List Value->Option (List Value)
 |[]=>some []
 |v::l=>(m8 ρ v).bind fun u=>(a0t ρ l).map fun m=>u::m
end
def VR (ρ:Ren) (v u:Value):Prop:=m8 ρ v=some u
def LR (ρ:Ren) (l m:List Value):Prop:=a0t ρ l=some m
def Rle (ρ σ:Ren):Prop:=∀ i x,ρ i=some x->σ i=some x
section
variable {ρ σ:Ren} {v u:Value} {l m:List Value}
theorem LR.nil:LR ρ [] []:=by unfold LR a0t;rfl
theorem LR.cons (h:VR ρ v u) (h2:LR ρ l m):LR ρ (v::l) (u::m):=by
 unfold LR VR at *;unfold a0t;rw [h,h2];rfl
theorem LR.inv (h:LR ρ (v::l) m):∃ u r,m=u::r/\VR ρ v u/\LR ρ l r:=by
 unfold LR a0t at h;obtain ⟨u,hu,h⟩:=xi4.1 h;obtain ⟨r,hr,h⟩:=xk1.1 h;exact ⟨u,r,h.symm,hu,hr⟩
theorem LR.nil_inv (h:LR ρ [] m):m=[]:=by
 unfold LR a0t at h
 cases h
 rfl
mutual
theorem VR.mono (hl:Rle ρ σ):∀ {v u:Value},VR ρ v u->VR σ v u
 |.bool _,_,h|.int _ _,_,h|.string _,_,h|.nilFunc,_,h|.nilIface,_,h|.pointer none,_,h|.slice none _ _,_,h|.map none,_,h=>by
  unfold VR m8 at *;exact h
 |.pointer (some ⟨i,o,none⟩),u,h=>by
  unfold VR m8 at *;obtain ⟨x,hx,hu⟩:=xk1.1 h;rw [hl i x hx,<- hu];rfl
 |.slice (some ⟨i,o,none⟩) n c,u,h=>by
  unfold VR m8 at *;obtain ⟨x,hx,hu⟩:=xk1.1 h;rw [hl i x hx,<- hu];rfl
 |.map (some i),u,h=>by
  unfold VR m8 at *;obtain ⟨x,hx,hu⟩:=xk1.1 h;rw [hl i x hx,<- hu];rfl
 |.func f ⟨a⟩ ⟨b⟩,u,h=>by
  unfold VR m8 at *;obtain ⟨a',ha,h⟩:=xi4.1 h;obtain ⟨b',hb,h⟩:=xk1.1 h;rw [show a0t σ a=some a' from LR.mono hl ha,show a0t σ b=some b' from LR.mono hl hb,<- h];rfl
 |.agg ⟨l⟩,u,h=>by
  unfold VR m8 at *;obtain ⟨a',ha,h⟩:=xk1.1 h;rw [show a0t σ l=some a' from LR.mono hl ha,<- h];rfl
 |.tuple ⟨l⟩,u,h=>by
  unfold VR m8 at *;obtain ⟨a',ha,h⟩:=xk1.1 h;rw [show a0t σ l=some a' from LR.mono hl ha,<- h];rfl
 |.iface t v,u,h=>by
  unfold VR m8 at *;obtain ⟨a',ha,h⟩:=xk1.1 h;rw [show m8 σ v=some a' from VR.mono hl ha,<- h];rfl
 |.pointer (some ⟨_,_,some _⟩),_,h|.slice (some ⟨_,_,some _⟩) _ _,_,h|.float _ _,_,h|.complex _ _ _,_,h|.chan _,_,h=>by
  unfold VR m8 at h;cases h
theorem LR.mono (hl:Rle ρ σ):∀ {l m:List Value},LR ρ l m->LR σ l m
 |[],_,h=>by rw [LR.nil_inv h];exact LR.nil
 |v::l,m,h=>by
  obtain ⟨u,r,rfl,h1,h2⟩:=LR.inv h;exact LR.cons (VR.mono hl h1) (LR.mono hl h2)
end
theorem LR.len:∀ {l m:List Value},LR ρ l m->m.length=l.length
 |[],_,h=>by rw [LR.nil_inv h]
 |v::l,m,h=>by
  obtain ⟨u,r,rfl,h1,h2⟩:=LR.inv h;simp [LR.len h2]
theorem LR.get:∀ {l m:List Value} {i:Nat} {v:Value},LR ρ l m->l[i]?=some v->∃ u,m[i]?=some u/\VR ρ v u
 |[],_,_,_,_,h=>by simp at h
 |x::l,m,i,v,hr,h=>by
  obtain ⟨u,r,rfl,h1,h2⟩:=LR.inv hr
  cases i with
  |zero=>simp at h;subst h;exact ⟨u,rfl,h1⟩
  |succ i=>simpa using LR.get h2 (by simpa using h)
theorem LR.app {l' m':List Value}:∀ {l m:List Value},LR ρ l m->LR ρ l' m'->LR ρ (l++l') (m++m')
 |[],_,h,h2=>by rw [LR.nil_inv h];exact h2
 |v::l,m,h,h2=>by
  obtain ⟨u,r,rfl,h1,h3⟩:=LR.inv h;exact LR.cons h1 (LR.app h3 h2)
theorem LR.drop:∀ {l m:List Value} (k:Nat),LR ρ l m->LR ρ (l.drop k) (m.drop k)
 |l,m,0,h=>by simpa using h
 |[],_,k + 1,h=>by rw [LR.nil_inv h];exact LR.nil
 |v::l,m,k + 1,h=>by
  obtain ⟨u,r,rfl,h1,h2⟩:=LR.inv h
  simpa using LR.drop k h2
theorem LR.take:∀ {l m:List Value} (k:Nat),LR ρ l m->LR ρ (l.take k) (m.take k)
 |l,m,0,h=>by simpa using LR.nil
 |[],_,k + 1,h=>by rw [LR.nil_inv h];exact LR.nil
 |v::l,m,k + 1,h=>by
  obtain ⟨u,r,rfl,h1,h2⟩:=LR.inv h
  simpa using LR.cons h1 (LR.take k h2)
theorem LR.set:∀ {l m:List Value} (k:Nat) {v u:Value},LR ρ l m->VR ρ v u->LR ρ (l.set k v) (m.set k u)
 |[],_,k,_,_,h,_=>by rw [LR.nil_inv h];exact LR.nil
 |x::l,m,0,_,_,h,hv=>by
  obtain ⟨u,r,rfl,h1,h2⟩:=LR.inv h;exact LR.cons hv h2
 |x::l,m,k + 1,_,_,h,hv=>by
  obtain ⟨u,r,rfl,h1,h2⟩:=LR.inv h;exact LR.cons h1 (LR.set k h2 hv)
theorem LR.setLs:∀ {c d l m:List Value} {k:Nat},LR ρ l m->LR ρ c d->LR ρ (l9 l k c) (l9 m k d)
 |[],_,l,m,k,h,h2=>by rw [LR.nil_inv h2];exact h
 |x::c,d,l,m,k,h,h2=>by
  obtain ⟨u,r,rfl,h3,h4⟩:=LR.inv h2;exact (LR.setLs (k:=k + 1) (LR.set k h h3) h4:LR ρ (l9 (l.set k x) (k + 1) c) (l9 (m.set k u) (k + 1) r))
theorem VR.one (h:VR ρ v u):u.oneCell'=v.oneCell':=by
 unfold VR at h;unfold m8 at h
 split at h
 all_goals first
  |(cases h;rfl;done)
  |(obtain ⟨_,_,rfl⟩:=xk1.1 h;rfl;done)
  |(obtain ⟨_,_,h⟩:=xi4.1 h;obtain ⟨_,_,rfl⟩:=xk1.1 h;rfl;done)
  |cases h
theorem LR.one:∀ {l m:List Value},LR ρ l m->m.all (·.oneCell')=l.all (·.oneCell')
 |[],_,h=>by rw [LR.nil_inv h]
 |v::l,m,h=>by
  obtain ⟨u,r,rfl,h1,h2⟩:=LR.inv h;simp [VR.one h1,LR.one h2]
theorem VR.celL {L:List Value} (h:VR ρ v u) (hc:celL v=some L):∃ M,Go.Proofs.YtejnpppejalhfadGreat.celL u=some M/\LR ρ L M:=by
 have h0:=h;unfold VR m8 at h
 split at h
 all_goals first
  |(cases h;cases hc;exact ⟨_,rfl,LR.cons h0 LR.nil⟩;done)
  |(obtain ⟨x,hx,rfl⟩:=xk1.1 h;cases hc;exact ⟨_,rfl,LR.cons h0 LR.nil⟩;done)
  |(obtain ⟨x,hx,rfl⟩:=xk1.1 h;cases hc;exact ⟨_,rfl,hx⟩;done)
  |(obtain ⟨_,_,h⟩:=xi4.1 h;obtain ⟨_,_,rfl⟩:=xk1.1 h;cases hc;exact ⟨_,rfl,LR.cons h0 LR.nil⟩;done)
  |(obtain ⟨x,hx,rfl⟩:=xk1.1 h;cases hc;done)
  |(cases h;done)
theorem VR.int {k:IntKind} {n:Int} (h:VR ρ (.int k n) u):u=.int k n:=by unfold VR m8 at h;cases h;rfl
theorem VR.bool {b:Bool} (h:VR ρ (.bool b) u):u=.bool b:=by unfold VR m8 at h;cases h;rfl
theorem VR.str {s:ByteArray} (h:VR ρ (.string s) u):u=.string s:=by unfold VR m8 at h;cases h;rfl
theorem VR.ptr {i o:Nat} (h:VR ρ (.pointer (some ⟨i,o,none⟩)) u):∃ x,ρ i=some x/\u=.pointer (some ⟨x.1,o,none⟩):=by
 unfold VR m8 at h;obtain ⟨x,hx,hu⟩:=xk1.1 h;exact ⟨x,hx,hu.symm⟩
theorem VR.ptr0 (h:VR ρ (.pointer none) u):u=.pointer none:=by unfold VR m8 at h;cases h;rfl
theorem VR.sl {i o n c:Nat} (h:VR ρ (.slice (some ⟨i,o,none⟩) n c) u):∃ x,ρ i=some x/\u=.slice (some ⟨x.1,o,none⟩) n (c + x.2):=by
 unfold VR m8 at h;obtain ⟨x,hx,hu⟩:=xk1.1 h;exact ⟨x,hx,hu.symm⟩
theorem VR.sl0 {n c:Nat} (h:VR ρ (.slice none n c) u):u=.slice none n c:=by unfold VR m8 at h;cases h;rfl
theorem VR.slAny {p:Option Addr} {n c:Nat} (h:VR ρ (.slice p n c) u):∃ p' c',u=.slice p' n c'/\p'.isNone=p.isNone:=by
 match p with
 |none=>exact ⟨_,_,VR.sl0 h,rfl⟩
 |some ⟨i,o,none⟩=>obtain ⟨x,_,hu⟩:=VR.sl h;exact ⟨_,_,hu,rfl⟩
 |some ⟨i,o,some s⟩=>unfold VR m8 at h;cases h
theorem VR.ptrAny {p:Option Addr} (h:VR ρ (.pointer p) u):∃ p',u=.pointer p'/\p'.isNone=p.isNone:=by
 match p with
 |none=>exact ⟨_,VR.ptr0 h,rfl⟩
 |some ⟨i,o,none⟩=>obtain ⟨x,_,hu⟩:=VR.ptr h;exact ⟨_,hu,rfl⟩
 |some ⟨i,o,some s⟩=>unfold VR m8 at h;cases h
theorem VR.mp {i:Nat} (h:VR ρ (.map (some i)) u):∃ x,ρ i=some x/\u=.map (some x.1):=by
 unfold VR m8 at h;obtain ⟨x,hx,hu⟩:=xk1.1 h;exact ⟨x,hx,hu.symm⟩
theorem VR.agg (h:VR ρ (.agg ⟨l⟩) u):∃ m,u=.agg ⟨m⟩/\LR ρ l m:=by
 unfold VR m8 at h;obtain ⟨x,hx,hu⟩:=xk1.1 h;exact ⟨x,hu.symm,hx⟩
theorem VR.tup (h:VR ρ (.tuple ⟨l⟩) u):∃ m,u=.tuple ⟨m⟩/\LR ρ l m:=by
 unfold VR m8 at h;obtain ⟨x,hx,hu⟩:=xk1.1 h;exact ⟨x,hu.symm,hx⟩
theorem VR.fun_ {f:Go.Fn} {a b:List Value} (h:VR ρ (.func f ⟨a⟩ ⟨b⟩) u):∃ a' b',u=.func f ⟨a'⟩ ⟨b'⟩/\LR ρ a a'/\LR ρ b b':=by
 unfold VR m8 at h;obtain ⟨a',ha,h⟩:=xi4.1 h;obtain ⟨b',hb,h⟩:=xk1.1 h;exact ⟨a',b',h.symm,ha,hb⟩
theorem VR.mkAgg (h:LR ρ l m):VR ρ (.agg ⟨l⟩) (.agg ⟨m⟩):=by unfold VR m8;rw [show a0t ρ l=some m from h];rfl
theorem VR.mkTup (h:LR ρ l m):VR ρ (.tuple ⟨l⟩) (.tuple ⟨m⟩):=by unfold VR m8;rw [show a0t ρ l=some m from h];rfl
theorem VR.mkPtr {i o:Nat} {x:Nat×Nat} (h:ρ i=some x):VR ρ (.pointer (some ⟨i,o,none⟩)) (.pointer (some ⟨x.1,o,none⟩)):=by unfold VR m8;rw [h];rfl
theorem VR.mkSl {i o n c:Nat} {x:Nat×Nat} (h:ρ i=some x):VR ρ (.slice (some ⟨i,o,none⟩) n c) (.slice (some ⟨x.1,o,none⟩) n (c + x.2)):=by unfold VR m8;rw [h];rfl
theorem VR.mkMap {i:Nat} {x:Nat×Nat} (h:ρ i=some x):VR ρ (.map (some i)) (.map (some x.1)):=by unfold VR m8;rw [h];rfl
theorem VR.mkFun {f:Go.Fn} {a b a' b':List Value} (h1:LR ρ a a') (h2:LR ρ b b'):VR ρ (.func f ⟨a⟩ ⟨b⟩) (.func f ⟨a'⟩ ⟨b'⟩):=by unfold VR m8;rw [show a0t ρ a=some a' from h1,show a0t ρ b=some b' from h2];rfl
theorem VR.cOk (h:cOk v=true):VR ρ v v:=by
 unfold Go.Proofs.YtejnpppejalhfadGreat.cOk at h
 split at h
 all_goals first
  |(unfold VR m8;rfl)
  |cases h
theorem VR.fn {u':Value} (h:VR ρ v u) (h2:VR ρ v u'):u'=u:=by unfold VR at *;rw [h] at h2;cases h2;rfl
end
structure HasR (ρ:Ren) (N:Nat) (ds:List Deferred) (a:Act) (E:Fr):Prop where
 size:a.tmps.size=N
 defers:a.defers=ds
 at_:∀ t v,d4 E t=some v->∃ u,VR ρ v u/\a.tmps[t]?=some u
theorem e9 {α:Type} (k:Nat) (v:α) (r:List (Nat×α)) (i:Nat):d4 ((k,v)::r) i=if k=i then some v else d4 r i:=by
 show @Bool.rec (fun _=>Option α) (d4 r i) (some v) (Nat.beq k i)=_;by_cases h:k=i
 ·subst h;rw [xk2,xd6 rfl]
 ·rw [a2x h,xd7 h]
theorem a3N {α:Type} (i:Nat):d4 ([]:List (Nat×α)) i=none:=rfl
theorem a0A {α:Type} {l:List (Nat×α)} {i:Nat} {v:α} (h:d4 l i=some v):(i,v) ∈ l:=by
 induction l with
 |nil=>cases h
 |cons p r ih=>
  obtain ⟨k,u⟩:=p;rw [e9] at h;by_cases e:k=i
  ·rw [xd6 e] at h;cases h;subst e;exact xb4
  ·rw [xd7 e] at h;exact xb5 _ (ih h)
theorem n9 {α:Type}:∀ (l:List α) (i:Nat),a0L l i=l[i]?
 |[],i=>rfl
 |p::r,0=>rfl
 |p::r,i + 1=>by
  show a0L r i=_;rw [n9 r i];rfl
theorem b0H {α:Type} (b:Bool) (x y:α):ifB b x y=if b=true then x else y:=by cases b <;> rfl
theorem a1h {α:Type} {b:Bool} {x y:Option α} {z:α} (h:ifB b x y=some z):(b=true/\x=some z)\/(b=false/\y=some z):=by
 cases b
 ·exact xc3 ⟨rfl,h⟩
 ·exact xc6 ⟨rfl,h⟩
theorem a8 {α:Type} {b:Bool} {x:Option α} {z:α} (h:ifB b x none=some z):b=true/\x=some z:=by
 rcases a1h h with h|⟨_,h⟩
 ·exact h
 ·cases h
theorem w7 {α:Type} {b:Bool} {x:Option α} {z:α} (h:ifB b none x=some z):b=false/\x=some z:=by
 rcases a1h h with ⟨_,h⟩|h
 ·cases h
 ·exact h
section
variable {ρ σ:Ren} {N:Nat} {ds:List Deferred} {a:Act} {E:Fr}
def t9 (a:Act):Fr:=(List.range a.tmps.size).map fun t=>(t,a.tmps.getD t undef)
theorem a1r {t:Nat} {u:Value} (h:a.tmps[t]?=some u):Fr.get (t9 a) t=some u:=by
 have key:∀ (l:List Nat),t ∈ l->Fr.get (l.map fun t=>(t,a.tmps.getD t undef)) t=some (a.tmps.getD t undef):=by
  intro l
  induction l with
  |nil=>intro h;cases h
  |cons x r ih=>
   intro hm;rw [xa9];simp only [Fr.get];by_cases e:x=t
   ·subst e;rw [xk2];rfl
   ·rw [a2x e];rcases xb3.1 hm with h|h
    ·exact (e h.symm).elim
    ·exact ih h
 have hlt:t < a.tmps.size:=(xa7.1 h).1;unfold t9;rw [key _ (xh1.2 hlt)];rw [xb1,h];rfl
theorem a7E {t:Nat} {u:Value} (h:Fr.get (t9 a) t=some u):a.tmps.getD t undef=u:=by
 have hm:=Fr.get_mem h;unfold t9 at hm;obtain ⟨k,_,e⟩:=xi0.1 hm
 cases e
 rfl
theorem HasR.full (h:HasR ρ N ds a E):Has N ds a (t9 a):=⟨h.size,h.defers,fun _ _=>a7E⟩
theorem HasR.mono (h:HasR ρ N ds a E) (hl:Rle ρ σ):HasR σ N ds a E:=⟨h.size,h.defers,fun t v ht=>by
 obtain ⟨u,h1,h2⟩:=h.at_ t v ht;exact ⟨u,h1.mono hl,h2⟩⟩
theorem HasR.ev (h:HasR ρ N ds a E) {x:Operand} {v:Value} (hx:sEv E x=some v):∃ u,VR ρ v u/\Fr.ev (t9 a) x=some u:=by
 cases x with
 |tmp t=>obtain ⟨u,h1,h2⟩:=h.at_ t v hx;exact ⟨u,h1,a1r h2⟩
 |const c=>
  obtain ⟨h1,h2⟩:=a8 (show ifB (cOk c) (some c) none=some v from hx)
  cases h2
  exact ⟨_,VR.cOk h1,rfl⟩
 |global g=>cases hx
 |func f=>cases hx;exact ⟨_,VR.mkFun LR.nil LR.nil,rfl⟩
theorem a5M (x:Operand) (r:List Operand):a4q E (x::r)=(match sEv E x,a4q E r with|some v,some vs=>some (v::vs)|_,_=>none):=rfl
theorem HasR.evs (h:HasR ρ N ds a E):∀ {xs:List Operand} {vs:List Value},a4q E xs=some vs->∃ us,LR ρ vs us/\Fr.evs (t9 a) xs=some us
 |[],vs,hx=>by cases hx;exact ⟨_,LR.nil,rfl⟩
 |x::r,vs,hx=>by
  rw [a5M] at hx
  split at hx
  ·rename_i v ws h1 h2
   cases hx
   obtain ⟨u,h3,h4⟩:=h.ev h1;obtain ⟨us,h5,h6⟩:=HasR.evs h h2;refine ⟨u::us,LR.cons h3 h5,?_⟩;simp only [Fr.evs,h4,h6]
  ·cases hx
def PR (ρ:Ren) (l m:List (Nat×Value)):Prop:=m.map (·.1)=l.map (·.1)/\LR ρ (l.map (·.2)) (m.map (·.2))
theorem HasR.evP (h:HasR ρ N ds a E):∀ {xs:List (Nat×Operand)} {vs:List (Nat×Value)},a63 E xs=some vs->∃ us,PR ρ vs us/\Go.Proofs.YtejnpppejalhfadGreat.evP (t9 a) xs=some us
 |[],vs,hx=>by cases hx;exact ⟨[],⟨rfl,LR.nil⟩,rfl⟩
 |(i,x)::r,vs,hx=>by
  rw [show a63 E ((i,x)::r)=(match sEv E x,a63 E r with|some v,some vs=>some ((i,v)::vs)|_,_=>none) from rfl] at hx
  split at hx
  ·rename_i v ws h1 h2
   cases hx
   obtain ⟨u,h3,h4⟩:=h.ev h1;obtain ⟨us,⟨h5,h6⟩,h7⟩:=HasR.evP h h2;refine ⟨(i,u)::us,⟨by simp [h5],LR.cons h3 h6⟩,?_⟩;simp only [Go.Proofs.YtejnpppejalhfadGreat.evP,h4,h7]
  ·cases hx
theorem HasR.put (h:HasR ρ N ds a E) (d:Nat) {v u:Value} (hd:d < N) (hv:VR ρ v u):HasR ρ N ds (a.put (some d) u) ((d,v)::E):=by
 refine ⟨by simpa [Act.put] using h.size,by simpa [Act.put] using h.defers,fun t w ht=>?_⟩;rw [e9] at ht;have hs:=h.size;by_cases e:d=t
 ·subst e;rw [xd6 rfl] at ht
  cases ht
  exact ⟨u,hv,by simp [Act.put,hs,hd]⟩
 ·rw [xd7 e] at ht;obtain ⟨x,h1,h2⟩:=h.at_ t w ht;exact ⟨x,h1,by simp only [Act.put];rw [xb2 e];exact h2⟩
theorem a0e {α:Type} (E:List (Nat×α)) (d:Nat) (t:Nat):d4 (p8 E d) t=if d=t then none else d4 E t:=by
 induction E with
 |nil=>simp [a3N,show p8 ([]:List (Nat×α)) d=[] from rfl]
 |cons p r ih=>
  obtain ⟨k,v⟩:=p;have e:p8 ((k,v)::r) d=if k=d then p8 r d else (k,v)::p8 r d:=by
   show @Bool.rec (fun _=>List (Nat×α)) ((k,v)::p8 r d) (p8 r d) (Nat.beq k d)=_;by_cases h:k=d
   ·subst h;rw [xk2,xd6 rfl]
   ·rw [a2x h,xd7 h]
  rw [e,e9];by_cases h:k=d
  ·subst h;rw [xd6 rfl,ih];by_cases h2:k=t
   ·simp [h2]
   ·simp [h2]
  ·rw [xd7 h,e9,ih];by_cases h2:k=t
   ·subst h2;rw [xd6 rfl,xd6 rfl,xd7 (fun e=>h e.symm)]
   ·simp [h2]
theorem HasR.erase (h:HasR ρ N ds a E) (d:Nat) (u:Value):HasR ρ N ds (a.put (some d) u) (p8 E d):=by
 refine ⟨by simpa [Act.put] using h.size,by simpa [Act.put] using h.defers,fun t w ht=>?_⟩;rw [a0e] at ht;by_cases e:d=t
 ·rw [xd6 e] at ht;cases ht
 ·rw [xd7 e] at ht;obtain ⟨x,h1,h2⟩:=h.at_ t w ht;exact ⟨x,h1,by simp only [Act.put];rw [xb2 e];exact h2⟩
def OR (ρ:Ren):Option Value->Value->Prop
 |some v,u=>VR ρ v u
 |none,_=>True
theorem HasR.putE (h:HasR ρ N ds a E) (d:Option Nat) {v:Option Value} {u:Value} (hd:∀ k,d=some k->k < N) (hv:OR ρ v u):HasR ρ N ds (a.put d u) (z6 E d v):=by
 cases d with
 |none=>cases v <;> exact h
 |some k=>
  cases v with
  |none=>exact h.erase k u
  |some v=>exact h.put k (hd k rfl) hv
end
def TOk (P:Program) (T:TT):Prop:=∀ t ti,T.get t=some ti->a3m P t=some ti/\ti.okB=true
def QOk (P:Program) (q:EqT):Prop:=∀ t s,d4 q t=some s->∀ l l' b,sEqS s l l'=some b->a6M P t l l' b
section
variable {P:Program} {T:TT} {q:EqT} {ρ:Ren} {N:Nat} {ds:List Deferred} {a:Act} {E:Fr} {ty:TypeId} {pos:String} {after:Array Edge} {dst:Option Nat}
theorem TOk.tabs (hT:TOk P T):∀ (ts:List Nat),∃ Tb:Tab,TabOk P Tb/\∀ t ti,t ∈ ts->T.get t=some ti->Tb.get t=some ti
 |[]=>⟨[],TabOk.nil P,fun _ _ h=>by cases h⟩
 |t::r=>by
  obtain ⟨Tb,h1,h2⟩:=TOk.tabs hT r
  cases e:T.get t with
  |none=>
   refine ⟨Tb,h1,fun t' ti hm ht=>?_⟩;rcases xb3.1 hm with rfl|hm
   ·rw [e] at ht;cases ht
   ·exact h2 t' ti hm ht
  |some ti=>
   refine ⟨(t,ti)::Tb,TabOk.cons (hT t ti e).1 (hT t ti e).2 h1,fun t' ti' hm ht=>?_⟩;simp only [Tab.get];by_cases h:t=t'
   ·subst h;rw [e] at ht
    cases ht
    rw [xk2];rfl
   ·rw [a2x h];rcases xb3.1 hm with rfl|hm
    ·exact (h rfl).elim
    ·exact h2 t' ti' hm ht
theorem a3R (k:IntKind) (n:Int):a2K k n=k.wrap n:=by
 unfold a2K
 split
 ·rename_i m;rw [b0H]
  split
  ·rename_i h;have h:m < 9223372036854775808:=by simpa [xb0] using h
   exact (a07 (m:=Int.ofNat m) (by show (-9223372036854775808:Int)<=(m:Int);omega) (by show (m:Int)<=9223372036854775807;omega)).symm
  ·rfl
 ·rfl
theorem a6S {op:BinOp} {k k':IntKind} {m n:Int} {v:Value} {t:TypeId} (h:a5L op k k' m n=some v) (w:World):(binOp op t (.int k m) (.int k' n)).run P w=.ok v w:=by
 unfold a5L at h
 split at h
 ·obtain ⟨h1,h2⟩:=w7 h
  cases h2
  have h1:¬ n < 0:=by simpa using h1
  simp [binOp,Op.shift,h1]
 ·obtain ⟨h1,h2⟩:=w7 h
  cases h2
  have h1:¬ n < 0:=by simpa using h1
  simp [binOp,Op.shift,h1]
 ·obtain ⟨h1,h2⟩:=a8 h;clear h;obtain rfl:=a7J h1;unfold a40 at h2
  split at h2
  all_goals first
   |(cases h2;simp [binOp,Op.intArith,a3R];done)
   |(cases h2;simp [binOp,Op.intCmp,bne,a2q];done)
   |(cases h2;simp [binOp,Op.intBits,a5b];done)
   |(cases h2;done)
   |skip
  all_goals
   obtain ⟨h3,h4⟩:=w7 h2
   cases h4
   have h3:¬ n=0:=by simpa using h3
   simp [binOp,Op.intDiv,h3,a3R]
theorem a30 {op:BinOp} {k k':IntKind} {m n:Int} {v:Value} (h:a5L op k k' m n=some v):VR ρ v v:=by
 apply VR.cOk;unfold a5L at h
 split at h
 ·obtain ⟨_,h2⟩:=w7 h;cases h2;rfl
 ·obtain ⟨_,h2⟩:=w7 h;cases h2;rfl
 ·obtain ⟨_,h2⟩:=a8 h;clear h;unfold a40 at h2
  split at h2
  all_goals first
   |(cases h2;done)
   |(cases h2;rfl;done)
   |(obtain ⟨_,h3⟩:=w7 h2;cases h3;rfl;done)
theorem a8C {op:BinOp} {t:TypeId} {x y:Operand} {k k':IntKind} {m n:Int} (w:World):(eqGuard op t x y (.int k m) (.int k' n)).run P w=.ok () w:=by
 unfold eqGuard
 cases op <;> rfl
theorem b0d {op:BinOp} {t yt:TypeId} {x y:Operand} {k k':IntKind} {m n:Int} {v:Value} (ha:HasR ρ N ds a E) (hx:Fr.ev (t9 a) x=some (.int k m)) (hy:Fr.ev (t9 a) y=some (.int k' n)) (h:a5L op k k' m n=some v):t8 P ⟨dst,.binOp op t x y yt,ty,pos,after,none⟩ a v:=fun w=>by
 have h1:=a6S (P:=P) (t:=t) h w;have h2:=a8C (P:=P) (op:=op) (t:=t) (x:=x) (y:=y) (k:=k) (k':=k') (m:=m) (n:=n) w;simp [execOp,ha.full.ev hx,ha.full.ev hy,h1,h2,Result.andThen]
theorem a35:∀ {s:List Nat} {l l' m:List Value} {b:Bool},sEqS s l l'=some b->LR ρ l m->m=l:=by
 intro s l l'
 induction s,l,l' using sEqS.induct with
 |case1=>intro m b _ hr;rw [LR.nil_inv hr]
 |case2 s a l b r ih=>
  intro m c h hr;obtain ⟨u,q,rfl,h1,h2⟩:=LR.inv hr;unfold sEqS at h;obtain ⟨b',hb,_⟩:=xk1.1 h;rw [VR.int h1,ih hb h2]
 |case3 s a l b r ih=>
  intro m c h hr;obtain ⟨u,q,rfl,h1,h2⟩:=LR.inv hr;unfold sEqS at h;obtain ⟨b',hb,_⟩:=xk1.1 h;rw [VR.str h1,ih hb h2]
 |case4 s a l b r ih=>
  intro m c h hr;obtain ⟨u,q,rfl,h1,h2⟩:=LR.inv hr;unfold sEqS at h;obtain ⟨b',hb,_⟩:=xk1.1 h;rw [VR.bool h1,ih hb h2]
 |case5=>intro m b h hr;simp_all [sEqS]
theorem a2C:∀ {s:List Nat} {l l' m:List Value} {b:Bool},sEqS s l l'=some b->LR ρ l' m->m=l':=by
 intro s l l'
 induction s,l,l' using sEqS.induct with
 |case1=>intro m b _ hr;rw [LR.nil_inv hr]
 |case2 s a l b r ih=>
  intro m c h hr;obtain ⟨u,q,rfl,h1,h2⟩:=LR.inv hr;unfold sEqS at h;obtain ⟨b',hb,_⟩:=xk1.1 h;rw [VR.int h1,ih hb h2]
 |case3 s a l b r ih=>
  intro m c h hr;obtain ⟨u,q,rfl,h1,h2⟩:=LR.inv hr;unfold sEqS at h;obtain ⟨b',hb,_⟩:=xk1.1 h;rw [VR.str h1,ih hb h2]
 |case4 s a l b r ih=>
  intro m c h hr;obtain ⟨u,q,rfl,h1,h2⟩:=LR.inv hr;unfold sEqS at h;obtain ⟨b',hb,_⟩:=xk1.1 h;rw [VR.bool h1,ih hb h2]
 |case5=>intro m b h hr;simp_all [sEqS]
end
end Go.Proofs.YtejnpppejalhfadGreat
