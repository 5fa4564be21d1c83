/- Texts that the proof stands on, one behind the other: Ke1, PlLnk3, Lk4, Lk5, PlLnk4, Lk6, PlLnk5, PlFix, PlLay, PlLink, Lk8, Lk7. -/
import Derived.Test.YtejnpppejalhfabGreatPKernelStarts5
namespace Go.Proofs.YtejnpppejalhfabGreat
set_option maxRecDepth 100000
set_option maxHeartbeats 8000000
open Go.RowKit Go.Sort
theorem b2X (S:Sh) (u:Value) (t:Int) (w:World) (ho:u.oneCell'=true) (h1:-9223372036854775808<=S.page - t) (h2:S.page - t<=9223372036854775807):Fn Tryz.prog 131 [.agg (shC S u).toArray,.int .i64 t] w (RBf (.int .i64 (S.page - t)) w):=by
 unfold shC;refine yEn Tryz.func131 Tryz.ntmps131 (by kernel_rfl) (by kernel_rfl) rfl rfl ?_;have hS:=St.start w
 repeat' (first|(with_reducible apply b9 b8);rfl;rfl;rfl|(with_reducible apply c9);rfl;(apply Ld.sc b8;rfl;exact hS.blkC 0 rfl rfl);rfl|(with_reducible apply a0R);rfl;rfl;omega;omega;rfl|refine yDn (by with_reducible constructor) ?_|(with_reducible apply k9 hS);rfl;rfl;rfl;clear hS;intro g w' hS)
 (refine j4 rfl ?_)
 exact ⟨rfl,hS.sub (xh2 _)⟩
theorem b2Y (e:En) (t:Int) (w:World) (h1:-9223372036854775808<=e.page - t) (h2:e.page - t<=9223372036854775807):Fn Tryz.prog 129 [.agg (enC e).toArray,.int .i64 t] w (RBf (.int .i64 (e.page - t)) w):=by
 unfold enC;refine yEn Tryz.func129 Tryz.ntmps129 (by kernel_rfl) (by kernel_rfl) rfl rfl ?_;have hS:=St.start w
 repeat' (first|(with_reducible apply b9 b8);rfl;rfl;rfl|(with_reducible apply c9);rfl;(apply Ld.sc b8;rfl;exact hS.blkC 0 rfl rfl);rfl|(with_reducible apply a0R);rfl;rfl;omega;omega;rfl|refine yDn (by with_reducible constructor) ?_|(with_reducible apply k9 hS);rfl;rfl;rfl;clear hS;intro g w' hS)
 (refine j4 rfl ?_)
 exact ⟨rfl,hS.sub (xh2 _)⟩
def BsV (l:List Int) (t:Int):Value:=.tuple #[.int .i64 (lbd l t:Nat),.bool (decide (t ∈ l))]
theorem b5U {L:List (Sh×Value)} {w:World} {v:Value} {t:Int} (hL:Sl nF w 3 v (L.map fun p=>shC p.1 p.2)) (hr:Rises (L.map fun p=>p.1.page)) (hb:∀ q ∈ L.map fun p=>p.1.page,-9223372036854775808<=q - t/\q - t<=9223372036854775807) (ho:∀ p ∈ L,p.2.oneCell'=true) :
  Fn Tryz.prog 130 [v,.int .i64 t,.func (.func 131) #[] #[]] w (RBf (BsV (L.map fun p=>p.1.page) t) w):=by
 have hc:=fun (x:Sh×Value) (hx:x ∈ L) w=>b2X x.1 x.2 t w (ho x hx);have bnd:=hL.bound;obtain ⟨p,c,rfl⟩:=hL.len;refine yEn Tryz.func130 Tryz.ntmps130 (by kernel_rfl) (by kernel_rfl) rfl rfl ?_;have hS:=St.start w
 repeat' (first|(with_reducible apply b9 b8);rfl;rfl;rfl|refine yDn (by with_reducible constructor) ?_)
 refine l4 (X:=Nat×Nat) (fun x=>[(9,.int .i64 (x.1:Nat)),(10,.int .i64 (x.2:Nat))]) [0,1,2,8] rfl (fun _=>[]) (fun x=>x.1<=x.2/\x.2<=L.length/\(∀ (j:Nat) (q:Int),j < x.1->(L.map (fun p=>p.1.page))[j]?=some q->q < t)/\(∀ (j:Nat) (q:Int),x.2<=j->(L.map (fun p=>p.1.page))[j]?=some q->t<=q)) (fun x=>x.2 - x.1) (0,L.length) (by exact Fr.sub_of rfl) ⟨xi5 _,xd4 _,fun j q h=>by omega,fun j q h hq=>by have:=e7 hq;rw [xh1] at this;omega⟩ hS ?_;clear hS;rintro ⟨i,j⟩ w1 ⟨hij,hj,hlo,hhi⟩ hS;dsimp only [List.cons_append,List.nil_append] at hij hj hlo hhi hS |-;by_cases hlt:i < j
 ·obtain ⟨hm0,hm1⟩:i<=(i + j) / 2/\(i + j) / 2 < j:=by omega
  obtain ⟨h,hh⟩:∃ h,h=(i + j) / 2:=⟨_,rfl⟩;rw [<- hh] at hm0 hm1;have ehi:((i:Int) + (j:Int)) / 2=(h:Nat):=by omega
  obtain ⟨x,hx⟩:=i9 (l:=L) (i:=h) (by omega);have hrow:=d9 (f:=(fun p=>shC p.1 p.2)) hx;have hpx:=d9 (f:=(fun p=>p.1.page)) hx;have hbx:=hb _ (xd0 hpx);obtain ⟨b,off,rfl,hro⟩:=hL.at_ (i:=h) (by omega);have hcmp:=hc x (xd0 hx)
  repeat' (first|(with_reducible apply b9 b8);rfl;rfl;rfl|(with_reducible apply a4G b8);rfl;rfl|refine yDn (by with_reducible constructor) ?_|(with_reducible apply d7);rfl;all_goals (intro hb hp;try (exfalso;omega))|(with_reducible apply b38);rfl;rfl;rfl)
  rw [a8d (by omega) (by omega) ehi (by omega)];by_cases hp:x.1.page < t
  ·have hd:decide (x.1.page - t < 0)=true:=xi0 (by omega)
   repeat' (first|(with_reducible apply b9 b8);rfl;rfl;rfl|(with_reducible apply c9);rfl;(apply Ld.st b8;rfl;exact hS.roR (by assumption) (by assumption);rfl);rfl|(with_reducible apply l8 b8);rfl;rfl;rfl;rfl;omega;rfl|(with_reducible apply f9);rfl;rfl;omega;omega;rfl|refine yDn (by with_reducible constructor) ?_|(with_reducible apply e8);rfl;assumption|(with_reducible apply d8 hS);rfl;rfl;rfl;refine ⟨_,hcmp _ (by omega) (by omega),?_⟩;clear hS;intro w' hS)
   refine f8 (h + 1,j) (by exact Fr.sub_of rfl) ⟨by show h + 1<=j;omega,hj,fun k q hk hq=>?_,hhi⟩ hS (by show j - (h + 1) < j - i;omega);rcases xq4 k h with h1|h1
   ·exact Int.lt_trans (hr.at_ h1 hq hpx) hp
   ·obtain rfl:k=h:=by have:k < h + 1:=hk;omega
    rw [hpx] at hq
    cases hq
    exact hp
  ·have hd:decide (x.1.page - t < 0)=false:=xh9 (by omega)
   repeat' (first|(with_reducible apply b9 b8);rfl;rfl;rfl|(with_reducible apply c9);rfl;(apply Ld.st b8;rfl;exact hS.roR (by assumption) (by assumption);rfl);rfl|(with_reducible apply l8 b8);rfl;rfl;rfl;rfl;omega;rfl|refine yDn (by with_reducible constructor) ?_|(with_reducible apply f6);rfl;assumption|(with_reducible apply d8 hS);rfl;rfl;rfl;refine ⟨_,hcmp _ (by omega) (by omega),?_⟩;clear hS;intro w' hS)
   refine f8 (i,h) (by exact Fr.sub_of rfl) ⟨by show i<=h;omega,by show h<=_;omega,hlo,fun k q hk hq=>?_⟩ hS (by show h - i < j - i;omega);rcases xq4 h k with h1|h1
   ·have:=hr.at_ h1 hpx hq;have hp':¬ x.1.page < t:=hp;omega
   ·obtain rfl:k=h:=by have:h<=k:=hk;omega
    rw [hpx] at hq
    cases hq
    have hp':¬ x.1.page < t:=hp;omega
 ·obtain rfl:i=j:=by omega
  have hlb:lbd (L.map (fun p=>p.1.page)) t=i:=b0L (by rw [xh1];omega) hlo (fun q hq=>hhi i q (xd4 _) hq);unfold BsV;rw [hlb];by_cases hil:i < L.length
  ·obtain ⟨x,hx⟩:=i9 (l:=L) (i:=i) (by omega);have hrow:=d9 (f:=(fun p=>shC p.1 p.2)) hx;have hpx:=d9 (f:=(fun p=>p.1.page)) hx;have hbx:=hb _ (xd0 hpx);obtain ⟨b,off,rfl,hro⟩:=hL.at_ (i:=i) (by omega);have hcmp:=hc x (xd0 hx);have hiff:=a1m hr t;rw [hlb,hpx] at hiff;have hdm:decide (t ∈ L.map (fun p=>p.1.page))=decide (x.1.page - t=0):=by
    rw [xk7,<- hiff];constructor
    ·intro h;have h2:x.1.page=t:=Option.some.inj h;omega
    ·intro h;have h2:x.1.page=t:=by omega
     rw [h2]
   rw [hdm]
   repeat' (first|(with_reducible apply b9 b8);rfl;rfl;rfl|(with_reducible apply c9);rfl;(apply Ld.st b8;rfl;exact hS.roR (by assumption) (by assumption);rfl);rfl|(with_reducible apply l8 b8);rfl;rfl;rfl;rfl;omega;rfl|refine yDn (by with_reducible constructor) ?_|(with_reducible apply k6);(iterate 4 rfl);assumption|(with_reducible apply i7);rfl;assumption;rfl;rfl|(with_reducible apply n9);rfl;rfl;rfl;all_goals (intro hb hp;try (exfalso;omega))|(with_reducible apply d7);rfl;all_goals (intro hb hp;try (exfalso;omega))|(with_reducible apply d8 hS);rfl;rfl;rfl;refine ⟨_,hcmp _ (by omega) (by omega),?_⟩;clear hS;intro w' hS)
   trace_state
   (refine a2O rfl ?_)
   exact ⟨rfl,hS.sub (xh2 _)⟩
  ·have hdm:decide (t ∈ L.map (fun p=>p.1.page))=false:=by
    rw [xm0,<- a1m hr t,hlb,xm2 (by rw [xh1];omega)];simp
   rw [hdm]
   repeat' (first|(with_reducible apply b9 b8);rfl;rfl;rfl|refine yDn (by with_reducible constructor) ?_|(with_reducible apply q8);(iterate 4 rfl);assumption;rfl|(with_reducible apply e9);rfl;assumption;rfl;rfl|(with_reducible apply n9);rfl;rfl;rfl;all_goals (intro hb hp;try (exfalso;omega))|(with_reducible apply d7);rfl;all_goals (intro hb hp;try (exfalso;omega)))
   (refine a2O rfl ?_)
   exact ⟨rfl,hS.sub (xh2 _)⟩
theorem b1J {L:List En} {w:World} {v:Value} {t:Int} (hL:Sl nF w 3 v (L.map enC)) (hr:Rises (L.map fun e=>e.page)) (hb:∀ q ∈ L.map fun e=>e.page,-9223372036854775808<=q - t/\q - t<=9223372036854775807) :
  Fn Tryz.prog 128 [v,.int .i64 t,.func (.func 129) #[] #[]] w (RBf (BsV (L.map fun e=>e.page) t) w):=by
 have hc:=fun (x:En) (_:x ∈ L) w=>b2Y x t w;have bnd:=hL.bound;obtain ⟨p,c,rfl⟩:=hL.len;refine yEn Tryz.func128 Tryz.ntmps128 (by kernel_rfl) (by kernel_rfl) rfl rfl ?_;have hS:=St.start w
 repeat' (first|(with_reducible apply b9 b8);rfl;rfl;rfl|refine yDn (by with_reducible constructor) ?_)
 refine l4 (X:=Nat×Nat) (fun x=>[(9,.int .i64 (x.1:Nat)),(10,.int .i64 (x.2:Nat))]) [0,1,2,8] rfl (fun _=>[]) (fun x=>x.1<=x.2/\x.2<=L.length/\(∀ (j:Nat) (q:Int),j < x.1->(L.map (fun e=>e.page))[j]?=some q->q < t)/\(∀ (j:Nat) (q:Int),x.2<=j->(L.map (fun e=>e.page))[j]?=some q->t<=q)) (fun x=>x.2 - x.1) (0,L.length) (by exact Fr.sub_of rfl) ⟨xi5 _,xd4 _,fun j q h=>by omega,fun j q h hq=>by have:=e7 hq;rw [xh1] at this;omega⟩ hS ?_;clear hS;rintro ⟨i,j⟩ w1 ⟨hij,hj,hlo,hhi⟩ hS;dsimp only [List.cons_append,List.nil_append] at hij hj hlo hhi hS |-;by_cases hlt:i < j
 ·obtain ⟨hm0,hm1⟩:i<=(i + j) / 2/\(i + j) / 2 < j:=by omega
  obtain ⟨h,hh⟩:∃ h,h=(i + j) / 2:=⟨_,rfl⟩;rw [<- hh] at hm0 hm1;have ehi:((i:Int) + (j:Int)) / 2=(h:Nat):=by omega
  obtain ⟨x,hx⟩:=i9 (l:=L) (i:=h) (by omega);have hrow:=d9 (f:=enC) hx;have hpx:=d9 (f:=(fun e=>e.page)) hx;have hbx:=hb _ (xd0 hpx);obtain ⟨b,off,rfl,hro⟩:=hL.at_ (i:=h) (by omega);have hcmp:=hc x (xd0 hx)
  repeat' (first|(with_reducible apply b9 b8);rfl;rfl;rfl|(with_reducible apply a4G b8);rfl;rfl|refine yDn (by with_reducible constructor) ?_|(with_reducible apply d7);rfl;all_goals (intro hb hp;try (exfalso;omega))|(with_reducible apply b38);rfl;rfl;rfl)
  rw [a8d (by omega) (by omega) ehi (by omega)];by_cases hp:x.page < t
  ·have hd:decide (x.page - t < 0)=true:=xi0 (by omega)
   repeat' (first|(with_reducible apply b9 b8);rfl;rfl;rfl|(with_reducible apply c9);rfl;(apply Ld.st b8;rfl;exact hS.roR (by assumption) (by assumption);rfl);rfl|(with_reducible apply l8 b8);rfl;rfl;rfl;rfl;omega;rfl|(with_reducible apply f9);rfl;rfl;omega;omega;rfl|refine yDn (by with_reducible constructor) ?_|(with_reducible apply e8);rfl;assumption|(with_reducible apply d8 hS);rfl;rfl;rfl;refine ⟨_,hcmp _ (by omega) (by omega),?_⟩;clear hS;intro w' hS)
   refine f8 (h + 1,j) (by exact Fr.sub_of rfl) ⟨by show h + 1<=j;omega,hj,fun k q hk hq=>?_,hhi⟩ hS (by show j - (h + 1) < j - i;omega);rcases xq4 k h with h1|h1
   ·exact Int.lt_trans (hr.at_ h1 hq hpx) hp
   ·obtain rfl:k=h:=by have:k < h + 1:=hk;omega
    rw [hpx] at hq
    cases hq
    exact hp
  ·have hd:decide (x.page - t < 0)=false:=xh9 (by omega)
   repeat' (first|(with_reducible apply b9 b8);rfl;rfl;rfl|(with_reducible apply c9);rfl;(apply Ld.st b8;rfl;exact hS.roR (by assumption) (by assumption);rfl);rfl|(with_reducible apply l8 b8);rfl;rfl;rfl;rfl;omega;rfl|refine yDn (by with_reducible constructor) ?_|(with_reducible apply f6);rfl;assumption|(with_reducible apply d8 hS);rfl;rfl;rfl;refine ⟨_,hcmp _ (by omega) (by omega),?_⟩;clear hS;intro w' hS)
   refine f8 (i,h) (by exact Fr.sub_of rfl) ⟨by show i<=h;omega,by show h<=_;omega,hlo,fun k q hk hq=>?_⟩ hS (by show h - i < j - i;omega);rcases xq4 h k with h1|h1
   ·have:=hr.at_ h1 hpx hq;have hp':¬ x.page < t:=hp;omega
   ·obtain rfl:k=h:=by have:h<=k:=hk;omega
    rw [hpx] at hq
    cases hq
    have hp':¬ x.page < t:=hp;omega
 ·obtain rfl:i=j:=by omega
  have hlb:lbd (L.map (fun e=>e.page)) t=i:=b0L (by rw [xh1];omega) hlo (fun q hq=>hhi i q (xd4 _) hq);unfold BsV;rw [hlb];by_cases hil:i < L.length
  ·obtain ⟨x,hx⟩:=i9 (l:=L) (i:=i) (by omega);have hrow:=d9 (f:=enC) hx;have hpx:=d9 (f:=(fun e=>e.page)) hx;have hbx:=hb _ (xd0 hpx);obtain ⟨b,off,rfl,hro⟩:=hL.at_ (i:=i) (by omega);have hcmp:=hc x (xd0 hx);have hiff:=a1m hr t;rw [hlb,hpx] at hiff;have hdm:decide (t ∈ L.map (fun e=>e.page))=decide (x.page - t=0):=by
    rw [xk7,<- hiff];constructor
    ·intro h;have h2:x.page=t:=Option.some.inj h;omega
    ·intro h;have h2:x.page=t:=by omega
     rw [h2]
   rw [hdm]
   repeat' (first|(with_reducible apply b9 b8);rfl;rfl;rfl|(with_reducible apply c9);rfl;(apply Ld.st b8;rfl;exact hS.roR (by assumption) (by assumption);rfl);rfl|(with_reducible apply l8 b8);rfl;rfl;rfl;rfl;omega;rfl|refine yDn (by with_reducible constructor) ?_|(with_reducible apply k6);(iterate 4 rfl);assumption|(with_reducible apply i7);rfl;assumption;rfl;rfl|(with_reducible apply n9);rfl;rfl;rfl;all_goals (intro hb hp;try (exfalso;omega))|(with_reducible apply d7);rfl;all_goals (intro hb hp;try (exfalso;omega))|(with_reducible apply d8 hS);rfl;rfl;rfl;refine ⟨_,hcmp _ (by omega) (by omega),?_⟩;clear hS;intro w' hS)
   trace_state
   (refine a2O rfl ?_)
   exact ⟨rfl,hS.sub (xh2 _)⟩
  ·have hdm:decide (t ∈ L.map (fun e=>e.page))=false:=by
    rw [xm0,<- a1m hr t,hlb,xm2 (by rw [xh1];omega)];simp
   rw [hdm]
   repeat' (first|(with_reducible apply b9 b8);rfl;rfl;rfl|refine yDn (by with_reducible constructor) ?_|(with_reducible apply q8);(iterate 4 rfl);assumption;rfl|(with_reducible apply e9);rfl;assumption;rfl;rfl|(with_reducible apply n9);rfl;rfl;rfl;all_goals (intro hb hp;try (exfalso;omega))|(with_reducible apply d7);rfl;all_goals (intro hb hp;try (exfalso;omega)))
   (refine a2O rfl ?_)
   exact ⟨rfl,hS.sub (xh2 _)⟩
structure Ob where
 im:Im
 vn:Value
 vs:Value
 vy:Value
 vr:Value
 at_:Int
def imC (I:Im) (vn vs vy vr:Value):List Value:=[.string ⟨I.name.toArray⟩,vn,vs,vy,vr,.int .i64 I.entry]
def obC (o:Ob):List Value:=[.string ⟨o.im.name.toArray⟩,o.vn,o.vs,o.vy,o.vr,.int .i64 o.im.entry,.int .i64 o.at_]
abbrev ObV (w:World) (o:Ob):Prop:=ImV w o.im o.vn o.vs o.vy o.vr
def a79 (ys:List Sy) (nm:List UInt8):Option Int:=(ys.find? (fun s=>decide (s.name=nm))).map (·.at_)
def adr:List (Im×Int)->List UInt8->Option Int
 |[],_=>none
 |o::r,nm=>match a79 o.1.syms nm with
  |some a=>some (o.2 + a)
  |none=>adr r nm
def obP (os:List Ob):List (Im×Int):=os.map fun o=>(o.im,o.at_)
theorem b7c {os:List Ob} {i:Nat} {o:Ob} (h:os[i]?=some o):(obP os)[i]?=some (o.im,o.at_):=by unfold obP;rw [xm3,h];rfl
theorem b5E (os:List Ob):(obP os).length=os.length:=by unfold obP;simp
theorem b2y {ys:List Sy} {nm:List UInt8} {k:Nat} {s:Sy} (h:(ys.take k).all (fun s=>!decide (s.name=nm))=true) (hs:ys[k]?=some s) (hn:s.name=nm):a79 ys nm=some s.at_:=by
 unfold a79;have e:ys=ys.take k++s::ys.drop (k + 1):=by
  obtain ⟨h1,rfl⟩:=xa7.1 hs;rw [List.getElem_cons_drop,xm4]
 rw [e,List.find?_append];have:(ys.take k).find? (fun s=>decide (s.name=nm))=none:=by
  rw [xj0];intro t ht;have:=xc7.1 h t ht
  simpa using this
 rw [this,Option.none_or,xq1,xi0 hn];rfl
theorem b1h {ys:List Sy} {nm:List UInt8} {k:Nat} (h:(ys.take k).all (fun s=>!decide (s.name=nm))=true) (hk:ys.length<=k):a79 ys nm=none:=by
 unfold a79;rw [xa0 hk] at h;have:ys.find? (fun s=>decide (s.name=nm))=none:=by
  rw [xj0];intro t ht;have:=xc7.1 h t ht
  simpa using this
 rw [this];rfl
theorem b4C {l:List (Im×Int)} {nm:List UInt8} {i:Nat} {o:Im×Int} (h:l[i]?=some o):adr (l.drop i) nm=match a79 o.1.syms nm with
  |some a=>some (o.2 + a)
  |none=>adr (l.drop (i + 1)) nm:=by
 have:l.drop i=o::l.drop (i + 1):=by
  obtain ⟨h1,rfl⟩:=xa7.1 h;exact xp4 h1
 rw [this];rfl
def b7J (o:Option Int):Value:=.tuple #[.int .i64 (o.getD 0),.bool o.isSome]
def rgt (s:Sg):Int:=(if s.wr then 1 else 0) + (if s.ex then 2 else 0)
theorem b2M (s:Sg) (w:World):Fn Tryz.prog 98 [.agg (sgC s).toArray] w (RBf (.int .i64 (rgt s)) w):=by
 have o1:∀ a b:Int,bits .or .i64 0 1=1:=fun _ _=>by decide
 have o2:bits .or .i64 0 2=2:=by decide
 have o3:bits .or .i64 1 2=3:=by decide
 obtain ⟨pg,n,d,wr,ex⟩:=s;refine yEn Tryz.func98 Tryz.ntmps98 (by kernel_rfl) (by kernel_rfl) rfl rfl ?_;have hS:=St.start w;unfold sgC
 cases wr <;> cases ex
 all_goals (repeat' (first|(with_reducible apply b9 b8);rfl;rfl;rfl|(with_reducible apply c9);rfl;(apply Ld.sc b8;rfl;exact hS.blkC 0 rfl rfl);rfl|refine yDn (by with_reducible constructor) ?_|(with_reducible apply e8);rfl;rfl|(with_reducible apply f6);rfl;rfl|(with_reducible apply k9 hS);rfl;rfl;rfl;clear hS;intro g w' hS|(with_reducible apply b8j);rfl;rfl;(first|exact o1 0 0|exact o2|exact o3);rfl))
 all_goals ((refine j4 rfl ?_))
 all_goals exact ⟨rfl,hS.sub (xh2 _)⟩
theorem b1a {os:List Ob} {w:World} {gw:Nat} {lv:Value} (nm:List UInt8) (hc:Bs nF w ⟨gw,2,none⟩ lv) (hl:Sl nF w 7 lv (os.map obC)) (hO:∀ o ∈ os,ObV w o) (hr:∀ o ∈ os,∀ s ∈ o.im.syms,-9223372036854775808<=o.at_ + s.at_/\o.at_ + s.at_<=9223372036854775807):Fn Tryz.prog 95 [.pointer (some ⟨gw,0,none⟩),.string ⟨nm.toArray⟩] w (RBf (b7J (adr (obP os) nm)) w):=by
 have bnd:=hl.bound;obtain ⟨p,c,rfl⟩:=hl.len;refine yEn Tryz.func95 Tryz.ntmps95 (by kernel_rfl) (by kernel_rfl) rfl rfl ?_;have hS:=St.start w;have hc0:Bs nF w ⟨gw,0 + 2,none⟩ _:=hc
 repeat' (first|(with_reducible apply b9 b8);rfl;rfl;rfl|(with_reducible apply c9);rfl;(apply Ld.sl b8;rfl;exact hS.bs (by assumption));rfl|refine yDn (by with_reducible constructor) ?_)
 refine l4 (X:=Nat) (fun x=>[(15,.int .i64 (x:Nat))]) [0,1,13,14] rfl (fun _=>[]) (fun x=>x<=os.length/\adr (obP os) nm=adr ((obP os).drop x) nm) (fun x=>os.length - x) 0 (by exact Fr.sub_of rfl) (by simp) hS ?_;clear hS;intro i w1 hI hS;obtain ⟨hi,had⟩:=hI;dsimp only [List.cons_append,List.nil_append] at hi had hS |-;by_cases hlt:i < os.length;rotate_left
 ·rw [xn8 (by rw [b5E];omega)] at had
  repeat' (first|(with_reducible apply b9 b8);rfl;rfl;rfl|refine yDn (by with_reducible constructor) ?_|(with_reducible apply d7);rfl;all_goals (intro hb hp;try (exfalso;omega)))
  (refine a2O rfl ?_)
  exact ⟨by rw [had];rfl,hS.sub (xh2 _)⟩
 obtain ⟨o,ho⟩:=i9 (l:=os) (i:=i) (by omega);have hrow:=d9 (f:=obC) ho;obtain ⟨b,off,rfl,hro⟩:=hl.at_ (i:=i) hlt;have hst:=b4C (nm:=nm) (b7c ho);have hov:=hO o (xd0 ho);have hor:=hr o (xd0 ho);rw [hst] at had;obtain ⟨I,vn,vs,vy,vr,at_⟩:=o;dsimp only at had hor;replace hov:ImV w I vn vs vy vr:=hov;have by_:=hov.syms.bound;have hsy:=hov.syms;obtain ⟨pn,cn,rfl⟩:=hov.needs.len;obtain ⟨ps,cs,rfl⟩:=hov.segs.len;obtain ⟨py,cy,rfl⟩:=hov.syms.len;obtain ⟨pr,cr,rfl⟩:=hov.rels.len;unfold obC at hrow
 repeat' (first|(with_reducible apply b9 b8);rfl;rfl;rfl|(with_reducible apply c9);rfl;(first|apply Ld.sl b8;rfl;exact hS.blkC 0 rfl rfl|apply Ld.st b8;rfl;exact hS.roR (by assumption) (by assumption);rfl);rfl|(with_reducible apply l8 b8);rfl;rfl;rfl;rfl;omega;rfl|refine yDn (by with_reducible constructor) ?_|(with_reducible apply d6 hS b8);rfl;rfl;rfl;clear hS;intro g w' hS|(with_reducible apply d5 hS b8 (i:=0));(iterate 8 rfl);exact (rfl:_=[_,_,_,_,_,_,_]);clear hS;intro w' hS;simp only [List.set] at hS|(with_reducible apply d7);rfl;all_goals (intro hb hp;try (exfalso;omega)))
 rename Nat=>g7
 refine l4 (X:=Nat) (fun x=>[(23,.int .i64 (x:Nat))]) [0,1,13,14,15,7,21,22] rfl (fun _=>[]) (fun x=>x<=I.syms.length/\(I.syms.take x).all (fun s=>!decide (s.name=nm))=true) (fun x=>I.syms.length - x) 0 (by exact Fr.sub_of rfl) (by simp) hS ?_;clear hS;intro k w2 hK hS;obtain ⟨hk,hall⟩:=hK;dsimp only [List.cons_append,List.nil_append] at hk hall hS |-;by_cases hkt:k < I.syms.length
 ·obtain ⟨y,hy⟩:=i9 (l:=I.syms) (i:=k) (by omega);have hrow2:=d9 (f:=syC) hy;obtain ⟨b2,off2,rfl,hro2⟩:=hsy.at_ (i:=k) hkt;have hyr:=hor y (xd0 hy);by_cases hn:y.name=nm
  ·have hd:decide (y.name=nm)=true:=xi0 hn;rw [b2y hall hy hn] at had
   repeat' (first|(with_reducible apply b9 b8);rfl;rfl;rfl|(with_reducible apply c9);rfl;(first|apply Ld.sc b8;rfl;(first|exact hS.blkC 0 rfl rfl|exact hS.blkC 1 rfl rfl)|apply Ld.st b8;rfl;exact hS.roR (by assumption) (by assumption);rfl);rfl|(with_reducible apply l8 b8);rfl;rfl;rfl;rfl;omega;rfl|(with_reducible apply f9);rfl;rfl;omega;omega;rfl|refine yDn (by with_reducible constructor) ?_|(with_reducible apply e8);rfl;assumption|(with_reducible apply d6 hS b8);rfl;rfl;rfl;clear hS;intro g w' hS|(with_reducible apply d5 hS b8 (i:=0));(iterate 8 rfl);exact (rfl:_=[_,_]);clear hS;intro w' hS;simp only [List.set] at hS|(with_reducible apply d7);rfl;all_goals (intro hb hp;try (exfalso;omega)))
   (refine a2O rfl ?_)
   exact ⟨by rw [had];rfl,hS.sub (xh2 _)⟩
  ·have hd:decide (y.name=nm)=false:=xh9 hn
   repeat' (first|(with_reducible apply b9 b8);rfl;rfl;rfl|(with_reducible apply c9);rfl;(first|apply Ld.sc b8;rfl;exact hS.blkC 0 rfl rfl|apply Ld.st b8;rfl;exact hS.roR (by assumption) (by assumption);rfl);rfl|(with_reducible apply l8 b8);rfl;rfl;rfl;rfl;omega;rfl|(with_reducible apply f9);rfl;rfl;omega;omega;rfl|refine yDn (by with_reducible constructor) ?_|(with_reducible apply f6);rfl;assumption|(with_reducible apply d6 hS b8);rfl;rfl;rfl;clear hS;intro g w' hS|(with_reducible apply d5 hS b8 (i:=0));(iterate 8 rfl);exact (rfl:_=[_,_]);clear hS;intro w' hS;simp only [List.set] at hS|(with_reducible apply d7);rfl;all_goals (intro hb hp;try (exfalso;omega)))
   exact f8 (k + 1) (by exact Fr.sub_of rfl) ⟨by show k + 1<=I.syms.length;omega,o5 hall hy (by simp [hn])⟩ hS.drop (by show I.syms.length - (k + 1) < I.syms.length - k;omega)
 ·rw [b1h hall (by omega)] at had
  repeat' (first|(with_reducible apply b9 b8);rfl;rfl;rfl|(with_reducible apply f9);rfl;rfl;omega;omega;rfl|refine yDn (by with_reducible constructor) ?_|(with_reducible apply d7);rfl;all_goals (intro hb hp;try (exfalso;omega)))
  exact f8 (i + 1) (by exact Fr.sub_of rfl) ⟨by show i + 1<=os.length;omega,had⟩ hS.drop (by show os.length - (i + 1) < os.length - i;omega)
def stK (l:List UInt8):Value:=.string ⟨l.toArray⟩
def PlI (es:Array MapEntry) (os:List Ob):Prop:=∃ L,MapG .string es L/\L.map (·.1)=os.map fun o=>stK o.im.name
abbrev LkS (gw rb rp:Nat) (p:Option Addr) (c:Nat) (next:Int) (es:Array MapEntry) (cc:Nat) (os:List Ob):List Asr :=
 [.blk gw [.map (some rb),.map (some rp),.slice p os.length c,.int .i64 next],.obj rp (.map es cc),.row 112 7 (.slice p os.length c) (os.map obC)]
theorem PlI.mem {es:Array MapEntry} {os:List Ob} {L:List (Value×Value)} (h:L.map (·.1)=os.map fun o=>stK o.im.name) (nm:List UInt8):(∃ v,(stK nm,v) ∈ L) ↔ ∃ o ∈ os,o.im.name=nm:=by
 constructor
 ·rintro ⟨v,hv⟩;have:stK nm ∈ L.map (·.1):=xh0.2 ⟨_,hv,rfl⟩;rw [h] at this;obtain ⟨o,ho,e⟩:=xh0.1 this;unfold stK at e;exact ⟨o,ho,by simpa using e⟩
 ·rintro ⟨o,ho,rfl⟩;have:stK o.im.name ∈ L.map (·.1):=by rw [h];exact xh0.2 ⟨o,ho,rfl⟩
  obtain ⟨p,hp,e⟩:=xh0.1 this;exact ⟨p.2,by rw [<- e];exact hp⟩
theorem Sl.atF {F:Nat->Prop} {w:World} {sz:Nat} {α:Type} {f:α->List Value} {l:List α} {p:Option Addr} {n c i:Nat} (h:Sl F w sz (.slice p n c) (l.map f)) (hi:i < l.length):∃ b off,p=some ⟨b,off,none⟩/\RoAt F w b off sz (l.map f):=by
 rcases h.parts.2 with h2|⟨b,off,rfl,_,_,hro⟩
 ·have:=congrArg List.length h2;rw [xh1,xa2] at this;omega
 ·exact ⟨b,off,rfl,hro⟩
def a8W (os:List Ob) (nm:List UInt8):Bool:=os.any fun o=>decide (o.im.name=nm)
theorem a4Z {os:List Ob} {nm:List UInt8}:a8W os nm=true ↔ ∃ o ∈ os,o.im.name=nm:=by unfold a8W;simp
def a1S (I:Im):Int:=match I.segs.getLast? with
 |some s=>s.pg + s.n
 |none=>0
def a7C (os:List Ob) (next:Int) (I:Im) (vn vs vy vr:Value):List Ob:=if a8W os I.name=true then os else os++[⟨I,vn,vs,vy,vr,next * 16⟩]
def a4t (os:List Ob) (next:Int) (I:Im):Int:=if a8W os I.name=true then next else next + a1S I
theorem a5G:(Tryz.prog).underlying 105=some (.map 9 3):=by kernel_rfl
theorem a1Q:(Tryz.prog).underlying 9=some .string:=by kernel_rfl
theorem b7o:((Tryz.prog).info? 3).bind (·.zero)=some (.int .i64 0):=by kernel_rfl
theorem a93 {F:Nat->Prop} {w0 w:World} {Γ:List Asr} {gw rb rp c cc:Nat} {p:Option Addr} {next:Int} {es:Array MapEntry} {os:List Ob} {I:Im} {vn vs vy vr:Value} (hS0:St F w0 w (LkS gw rb rp p c next es cc os++Γ)) (hP:PlI es os) (hI:ImV w I vn vs vy vr) (hIs:Sl (fps (LkS gw rb rp p c next es cc os)) w 5 vs (I.segs.map sgC)) (hs1:1<=I.segs.length) (hs2:I.segs.all a2N=true) (hs3:I.segs.length<=6) (hn0:0<=next) (hn1:next<=100000) (hol:os.length<=1000) :
  Fn Tryz.prog 93 [.pointer (some ⟨gw,0,none⟩),imA I vn vs vy vr] w (fun v w'=>v=.int .i64 0/\∃ p' c' es' cc',PlI es' (a7C os next I vn vs vy vr)/\St (fps (LkS gw rb rp p c next es cc os)) w w' (LkS gw rb rp p' c' (a4t os next I) es' cc' (a7C os next I vn vs vy vr))):=by
 obtain ⟨L,hL,hLk⟩:=hP;have hmem:=PlI.mem (es:=es) hLk I.name;unfold a7C a4t;obtain ⟨pn,cn,rfl⟩:=hI.needs.len;obtain ⟨ps,cs,rfl⟩:=hI.segs.len;obtain ⟨py,cy,rfl⟩:=hI.syms.len;obtain ⟨pr,cr,rfl⟩:=hI.rels.len;refine yEn Tryz.func93 Tryz.ntmps93 (by kernel_rfl) (by kernel_rfl) rfl rfl ?_;have hS:=St.startM hS0;simp only [LkS] at hS;by_cases hpl:a8W os I.name=true
 ·obtain ⟨v,hv⟩:=hmem.2 (a4Z.1 hpl);rw [xf0 hpl,xf0 hpl]
  repeat' (first|(with_reducible apply b9 b8);rfl;rfl;rfl|refine yDn (by with_reducible constructor) ?_|(with_reducible apply k9 hS);rfl;rfl;rfl;clear hS;intro g w' hS)
  (focus ((with_reducible apply e6 _ _ _ (by kernel_rfl) (by kernel_rfl) hS);(repeat' (first|(first|(with_reducible apply j3 b8);rfl;rfl|(with_reducible apply j0);rfl;(intro wd hd;replace hd:St _ _ wd _:=hd;(apply Ld.sc b8;rfl;(first|exact hd.blkC 0 rfl rfl|exact hd.blkC 1 rfl rfl)));rfl)|(with_reducible apply b4X);rfl;rfl;exact b3I 2 a5G a1Q rfl hL (k:=stK I.name) trivial hv true;rfl));all_goals ((with_reducible apply k8);intro w' hS';clear hS;have hS:=hS';clear hS')))
  repeat' (first|(with_reducible apply b9 b8);rfl;rfl;rfl|refine yDn (by with_reducible constructor) ?_|(with_reducible apply e8);rfl;rfl)
  (refine j4 rfl ?_)
  exact ⟨rfl,p,c,es,cc,⟨L,hL,hLk⟩,hS.drop⟩
 ·rw [xf1 hpl,xf1 hpl];have hno:∀ v,(stK I.name,v) ∉ L:=fun v hv=>hpl (a4Z.2 (hmem.1 ⟨v,hv⟩))
  repeat' (first|(with_reducible apply b9 b8);rfl;rfl;rfl|refine yDn (by with_reducible constructor) ?_|(with_reducible apply k9 hS);rfl;rfl;rfl;clear hS;intro g w' hS)
  rename Nat=>g3
  (focus ((with_reducible apply e6 _ _ _ (by kernel_rfl) (by kernel_rfl) hS);(repeat' (first|(first|(with_reducible apply j3 b8);rfl;rfl|(with_reducible apply j0);rfl;(intro wd hd;replace hd:St _ _ wd _:=hd;(apply Ld.sc b8;rfl;(first|exact hd.blkC 0 rfl rfl|exact hd.blkC 1 rfl rfl)));rfl)|(with_reducible apply b4X);rfl;rfl;exact b2C 2 a5G a1Q b7o rfl hL (k:=stK I.name) trivial hno true;rfl));all_goals ((with_reducible apply k8);intro w' hS';clear hS;have hS:=hS';clear hS')))
  obtain ⟨k,hk⟩:∃ k,I.segs.length=k + 1:=⟨I.segs.length - 1,by omega⟩;have hix:((k:Nat):Int)=(I.segs.length:Int) - 1:=by omega
  have hlt:k < I.segs.length:=by omega
  obtain ⟨y,hy⟩:=i9 (l:=I.segs) (i:=k) (by omega);have hrow:(I.segs.map sgC)[k]?=some [.int .i64 y.pg,.int .i64 y.n,.string ⟨y.data.toArray⟩,.bool y.wr,.bool y.ex]:=d9 (f:=sgC) hy;obtain ⟨b,off,rfl,hro⟩:=hIs.atF (i:=k) hlt;have hle:a1S I=y.pg + y.n:=by
   unfold a1S;rw [List.getLast?_eq_getElem?,show I.segs.length - 1=k by omega,hy]
  have hyo:=xc7.1 hs2 y (xd0 hy);unfold a2N at hyo;replace hyo:=xl4 hyo;obtain ⟨y1,y2,y3,y4,-⟩:=hyo;rw [hle]
  repeat' (first|(with_reducible apply b9 b8);rfl;rfl;rfl|(with_reducible apply c9);rfl;(first|apply Ld.sl b8;rfl;exact hS.blkC 0 rfl rfl|apply Ld.st b8;rfl;exact hS.roR (by assumption) (by assumption);rfl);rfl|(with_reducible apply l8 b8);rfl;rfl;rfl;assumption;omega;rfl|(with_reducible apply a0R);rfl;rfl;omega;omega;rfl|refine yDn (by with_reducible constructor) ?_|(with_reducible apply f6);rfl;rfl|(with_reducible apply d6 hS b8);rfl;rfl;rfl;clear hS;intro g w' hS|(with_reducible apply d5 hS b8 (i:=0));(iterate 8 rfl);exact (rfl:_=[_,_,_,_,_]);clear hS;intro w' hS;simp only [List.set] at hS)
  (focus ((with_reducible apply a1f _ _ _ 11 (by kernel_rfl) (by kernel_rfl) hS);(simp only [xh3,xh4,xk3,xk4]);(repeat' ((first|(with_reducible apply j3 b8);rfl;rfl|(with_reducible apply j0);rfl;(intro wd hd;replace hd:St _ _ wd _:=hd;(first|apply Ld.sc b8;rfl;(first|exact hd.blkC 1 rfl rfl|exact hd.blkC 2 rfl rfl)|apply Ld.sl b8;rfl;exact hd.blkC 2 rfl rfl));rfl)));all_goals ((with_reducible apply k8);intro w' hS';clear hS;have hS:=hS';clear hS')))
  refine a2j (a8K hS (i:=3) a5G a1Q rfl rfl rfl rfl hL (k:=stK I.name) trivial hno) ?_;rintro - w9 ⟨es',cc',hL',hS'⟩;simp only [List.set] at hS';clear hS;have hS:=hS';clear hS'
  repeat' ((refine yDn (by with_reducible constructor) ?_))
  refine a3P (fun w'=>(Asr.blk gw [.map (some rb),.map (some rp),.slice p os.length c,.int .i64 next]).holds w'/\(Asr.blk g3 [.string ⟨I.name.toArray⟩,.slice pn I.needs.length cn,.slice (some ⟨b,off,none⟩) I.segs.length cs,.slice py I.syms.length cy,.slice pr I.rels.length cr,.int .i64 I.entry]).holds w') 16 17 rfl hS (by kernel_rfl) ?_;intro w10 hS';clear hS;have hS:=hS';clear hS';have hH:=And.intro (hS.at_ (i:=2) rfl) (hS.at_ (i:=1) rfl)
  ((with_reducible apply a0Y (nn 0) b8);rfl;kernel_rfl;kernel_rfl;kernel_rfl;rfl;exact (fun _ _ _ h=>h);exact xd3 hH;rfl;rfl)
  ((with_reducible apply a0Y (nn 1) b8);rfl;kernel_rfl;kernel_rfl;kernel_rfl;rfl;exact (fun _ _ _ h=>h);exact xd3 hH;rfl;rfl)
  ((with_reducible apply a0Y (nn 2) b8);rfl;kernel_rfl;kernel_rfl;kernel_rfl;rfl;exact (fun _ _ _ h=>h);exact xd3 hH;rfl;rfl)
  ((with_reducible apply a0Y (nn 3) b8);rfl;kernel_rfl;kernel_rfl;kernel_rfl;rfl;exact (fun _ _ _ h=>h);exact xd3 hH;rfl;rfl)
  ((with_reducible apply a5m (nn 4));rfl;kernel_rfl;kernel_rfl;kernel_rfl;kernel_rfl;rfl;rfl;exact (fun _ _ _ h=>h);exact hH;rfl;(intro w2 hw2;(apply Ld.sl b8;rfl;exact a3o hw2.1 rfl));rfl)
  ((with_reducible apply a5m (nn 5));rfl;kernel_rfl;kernel_rfl;kernel_rfl;kernel_rfl;rfl;rfl;exact (fun _ _ _ h=>h);exact hH;rfl;(intro w2 hw2;(apply Ld.st b8;rfl;(exact fun j v hj=>by rw [xb1];exact a3o hw2.2 hj);rfl));rfl)
  ((with_reducible apply a0Y (nn 6) b8);rfl;kernel_rfl;kernel_rfl;kernel_rfl;rfl;exact (fun _ _ _ h=>h);exact xd3 hH;rfl;rfl)
  ((with_reducible apply a0Y (nn 7) b8);rfl;kernel_rfl;kernel_rfl;kernel_rfl;rfl;exact (fun _ _ _ h=>h);exact xd3 hH;rfl;rfl)
  ((with_reducible apply a0Y (nn 8) b8);rfl;kernel_rfl;kernel_rfl;kernel_rfl;rfl;exact (fun _ _ _ h=>h);exact xd3 hH;rfl;rfl)
  ((with_reducible apply a5m (nn 9));rfl;kernel_rfl;kernel_rfl;kernel_rfl;kernel_rfl;rfl;rfl;exact (fun _ _ _ h=>h);exact hH;rfl;(intro w2 hw2;(apply Ld.sc b8;rfl;exact a3o hw2.1 rfl));rfl)
  refine n8 (i:=10) (by kernel_rfl) ?_;refine m8 rfl (Gets.of_runs fun a ha=>b6N rfl rfl (by omega) (by omega) a ha _) rfl ?_;rintro _ _ ⟨rfl,rfl⟩;refine ⟨xd3 (xd3 hH),?_⟩;refine n8 (i:=11) (by kernel_rfl) ?_
  ((with_reducible apply b1I b8);rfl;rfl;rfl;exact (rfl:_=some [_,_,_,_,_,_,_]);rfl)
  refine ⟨xd3 (xd3 hH),?_⟩;refine n8 (i:=12) (by kernel_rfl) ?_;refine m8 rfl (o0 hS b8 rfl rfl rfl rfl rfl rfl) rfl ?_;rintro _ w' ⟨g9,rfl,hS'⟩;clear hS;have hS:=hS';clear hS';refine ⟨xd3 (xd3 ⟨hS.at_ (i:=3) rfl,hS.at_ (i:=2) rfl⟩),?_⟩;refine n8 (i:=13) (by kernel_rfl) ?_;refine m8 rfl (a0t hS b8 (i:=5) rfl rfl rfl rfl (hS.rowRo 0 rfl) rfl (by simp only [xh1];omega)) rfl ?_;rintro _ w' ⟨p',c',rfl,hS'⟩;simp only [List.set] at hS';clear hS;have hS:=hS';clear hS';have hH:=And.intro (hS.at_ (i:=3) rfl) (hS.at_ (i:=2) rfl);refine ⟨xd3 (xd3 hH),?_⟩
  ((with_reducible apply a0Y (nn 14) b8);rfl;kernel_rfl;kernel_rfl;kernel_rfl;rfl;exact (fun _ _ _ h=>h);exact xd3 hH;rfl;rfl)
  ((with_reducible apply a0Y (nn 15) b8);rfl;kernel_rfl;kernel_rfl;kernel_rfl;rfl;exact (fun _ _ _ h=>h);exact xd3 hH;rfl;rfl)
  refine n8 (i:=16) (by kernel_rfl) ?_;refine a0I (Φ:=fun _ w'=>St _ _ w' _) rfl (j9 hS b8 (i:=3) rfl rfl rfl rfl rfl (xg4 rfl) (by intro u hu;simp [Value.cells] at hu;subst hu;rfl)) ?_;intro _ w' hS';simp only [List.set] at hS';clear hS;have hS:=hS';clear hS';refine ⟨xd6 rfl,?_⟩;refine a1e (by kernel_rfl) ?_
  repeat' ((refine yDn (by with_reducible constructor) ?_))
  (focus ((with_reducible apply a1f _ _ _ 12 (by kernel_rfl) (by kernel_rfl) hS);(simp only [xh3,xh4,xk3,xk4]);(repeat' ((first|(with_reducible apply a12);rfl;rfl;omega;omega;rfl|(with_reducible apply j3 b8);rfl;rfl|(with_reducible apply j0);rfl;(intro wd hd;replace hd:St _ _ wd _:=hd;(apply Ld.sc b8;rfl;(first|exact hd.blkC 1 rfl rfl|exact hd.blkC 3 rfl rfl)));rfl)));all_goals ((with_reducible apply k8);intro w' hS';clear hS;have hS:=hS';clear hS')))
  repeat' (first|(with_reducible apply b9 b8);rfl;rfl;rfl|refine yDn (by with_reducible constructor) ?_|(with_reducible apply d5 hS b8 (i:=3));(iterate 8 rfl);exact (rfl:_=[_,_,_,_]);clear hS;intro w' hS;simp only [List.set] at hS)
  (refine j4 rfl ?_)
  have hS2:=hS.drop.drop.drop;clear hS;refine ⟨rfl,p',c',es',cc',⟨_,hL',?_⟩,?_⟩
  ·rw [xk1,hLk,xk1];rfl
  ·unfold LkS;rw [xe9,xk1];rw [xh1] at hS2;exact hS2
structure ImF (F:Nat->Prop) (w:World) (o:Ob):Prop where
 needs:Sl F w 1 o.vn (o.im.needs.map stC)
 segs:Sl F w 5 o.vs (o.im.segs.map sgC)
 syms:Sl F w 2 o.vy (o.im.syms.map syC)
 rels:Sl F w 3 o.vr (o.im.rels.map rlC)
theorem ImF.now {F:Nat->Prop} {w w':World} {Γ:List Asr} {o:Ob} (h:ImF F w o) (hS:St F w w' Γ):ObV w' o:=⟨h.needs.now hS,h.segs.now hS,h.syms.now hS,h.rels.now hS⟩
def a7z (o:Ob):Value:=.agg (imC o.im o.vn o.vs o.vy o.vr).toArray
def OfB (B:List Ob) (o:Ob):Prop:=∃ a:Int,{ o with at_:=a } ∈ B
structure b1A (I:Im):Prop where
 s1:1<=I.segs.length
 s2:I.segs.all a2N=true
 s3:I.segs.length<=6
def x6 (s:List Ob×Int) (o:Ob):List Ob×Int:=(a7C s.1 s.2 o.im o.vn o.vs o.vy o.vr,a4t s.1 s.2 o.im)
def a51 (B:List Ob) (nm:List UInt8):Option Ob:=B.find? fun o=>decide (o.im.name=nm)
def a1L (B:List Ob):List (List UInt8)->List Ob×Int->Option (List Ob×Int)
 |[],s=>some s
 |nm::r,s=>match a51 B nm with
  |none=>none
  |some o=>a1L B r (x6 s o)
def a3X (B:List Ob):Nat->Nat->List Ob×Int->Option (List Ob×Int)
 |0,_,s=>some s
 |f + 1,n,s=>match s.1[n]? with
  |none=>some s
  |some o=>match a1L B o.im.needs s with
   |none=>none
   |some s'=>a3X B f (n + 1) s'
structure AllI (B:List Ob) (s:List Ob×Int):Prop where
 sub:∀ o ∈ s.1,OfB B o
 nd:(s.1.map fun o=>o.im.name).Nodup
 lo:1<=s.2
 hi:s.2<=1 + 255 * s.1.length
theorem a5x {α:Type} [DecidableEq α]:∀ {l m:List α},l.Nodup->(∀ x ∈ l,x ∈ m)->l.length<=m.length
 |[],_,_,_=>by simp
 |a::l,m,h,hs=>by
  rw [List.nodup_cons] at h;have ha:=hs a (by simp);have:=a5x (l:=l) (m:=m.erase a) h.2 fun x hx=>by
   refine (List.mem_erase_of_ne ?_).2 (hs x (xc6 _ hx));rintro rfl;exact h.1 hx
  rw [List.length_erase_of_mem ha] at this;have hm:0 < m.length:=xn3 ha;rw [xb3];omega
theorem AllI.len {B:List Ob} {s:List Ob×Int} (h:AllI B s):s.1.length<=B.length:=by
 have:=a5x (m:=B.map fun o=>o.im.name) h.nd fun x hx=>by
  obtain ⟨o,ho,rfl⟩:=xh0.1 hx;obtain ⟨a,ha⟩:=h.sub o ho;exact xh0.2 ⟨_,ha,rfl⟩
 simpa using this
theorem a7s {I:Im} (h:b1A I):0<=a1S I/\a1S I<=255:=by
 unfold a1S
 split
 ·rename_i s hs;have:=xc7.1 h.s2 s (List.mem_of_getLast? hs);unfold a2N at this;have:=xl4 this;omega
 ·omega
theorem AllI.step {B:List Ob} {s:List Ob×Int} {o:Ob} (h:AllI B s) (ho:o ∈ B) (hI:b1A o.im):AllI B (x6 s o):=by
 unfold x6 a7C a4t;by_cases hp:a8W s.1 o.im.name=true
 ·rw [xf0 hp,xf0 hp];exact h
 ·rw [xf1 hp,xf1 hp];have hl:=a7s hI;refine ⟨fun x hx=>?_,?_,?_,?_⟩
  ·rcases xe3.1 hx with h1|h1
   ·exact h.sub x h1
   ·have:x=⟨o.im,o.vn,o.vs,o.vy,o.vr,s.2 * 16⟩:=by simpa using h1
    exact ⟨o.at_,by rw [this];exact ho⟩
  ·rw [xk1,xq6];refine ⟨h.nd,by simp,fun a ha b hb=>?_⟩;have:b=o.im.name:=by simpa using hb
   subst this;rintro rfl;obtain ⟨x,hx,e⟩:=xh0.1 ha;exact hp (a4Z.2 ⟨x,hx,e⟩)
  ·have:=h.lo;show 1<=s.2 + a1S o.im;omega
  ·have:=h.hi;show s.2 + a1S o.im<=1 + 255 * ((s.1++[_]).length:Int);rw [xe9];simp only [xb3,xa2];omega
theorem a7Z {B:List Ob} {nm:List UInt8} {o:Ob} (h:a51 B nm=some o):o ∈ B/\o.im.name=nm:=by
 unfold a51 at h;exact ⟨xj3 h,by simpa using xg8 h⟩
theorem b1d {B:List Ob} {nm:List UInt8} (h:a51 B nm=none):∀ o ∈ B,o.im.name≠nm:=by
 unfold a51 at h;rw [xj0] at h;exact fun o ho=>by simpa using h o ho
theorem a9n {B:List Ob} {l:List (List UInt8)} {k:Nat} {nm:List UInt8} {s:List Ob×Int} (h:l[k]?=some nm):a1L B (l.drop k) s=match a51 B nm with
  |none=>none
  |some o=>a1L B (l.drop (k + 1)) (x6 s o):=by
 have:l.drop k=nm::l.drop (k + 1):=by
  obtain ⟨h1,rfl⟩:=xa7.1 h;exact xp4 h1
 rw [this];rfl
theorem a2m:(Tryz.prog).underlying 104=some (.map 9 27):=by kernel_rfl
theorem b34:((Tryz.prog).info? 27).bind (·.zero)=some (.agg [.string ⟨[].toArray⟩,.slice none 0 0,.slice none 0 0,.slice none 0 0,.slice none 0 0,.int .i64 0].toArray):=by kernel_rfl
theorem b04 (s:List Ob×Int) (o:Ob):s.1.length<=(x6 s o).1.length:=by
 unfold x6 a7C
 split
 ·exact xd4 _
 ·simp
abbrev LkM (gw rb rp:Nat) (p:Option Addr) (c:Nat) (es:Array MapEntry) (cc:Nat) (s:List Ob×Int):List Asr:=LkS gw rb rp p c s.2 es cc s.1
def b7y (r:Option (List Ob×Int)):Int:=match r with
 |none=>6
 |some s=>if s.2 > 256 then 3 else 0
theorem b7l {F:Nat->Prop} {w0 w:World} {Γ:List Asr} {gw rb rp c cc cb:Nat} {p:Option Addr} {es esb:Array MapEntry} {B:List Ob} {M:Ob} (hS0:St F w0 w ((LkM gw rb rp p c es cc ([],1)++[.obj rb (.map esb cb)])++Γ)) (hP:PlI es []) (hB:MapG .string esb (B.map fun o=>(stK o.im.name,a7z o))) (hF:∀ o ∈ B,ImF (fps (LkM gw rb rp p c es cc ([],1)++[.obj rb (.map esb cb)])) w o) (hok:∀ o ∈ B,b1A o.im) (hM:M ∈ B) (hl:B.length<=7) :
  Fn Tryz.prog 39 [.pointer (some ⟨gw,0,none⟩),a7z M] w (fun v w'=>v=.int .i64 (b7y (a3X B 8 0 (x6 ([],1) M)))/\∃ p' c' es' cc' s,PlI es' s.1/\AllI B s/\(∀ s',a3X B 8 0 (x6 ([],1) M)=some s'->s=s')/\St (fps (LkM gw rb rp p c es cc ([],1)++[.obj rb (.map esb cb)])) w w' (LkM gw rb rp p' c' es' cc' s++[.obj rb (.map esb cb)])):=by
 have hMF:=hF M hM;have hMo:=hok M hM;have hA0:AllI B ([],1):=⟨by simp,by simp,by simp,by simp⟩;have hA1:=hA0.step hM hMo;generalize hR:a3X B 8 0 (x6 ([],1) M)=R;have hMv:=hMF.now (St.startM hS0);have hMs:=hMF.segs.nowM (Θ:=LkM gw rb rp p c es cc ([],1)) (St.startM hS0);refine yEn Tryz.func39 Tryz.ntmps39 (by kernel_rfl) (by kernel_rfl) rfl rfl ?_;have hS:=St.startM hS0;generalize hG:fps (LkM gw rb rp p c es cc ([],1)++[.obj rb (.map esb cb)])=G at hS hF |-;obtain ⟨I,vn,vs,vy,vr,a0⟩:=M;replace hMv:ImV w I vn vs vy vr:=hMv;replace hMo:b1A I:=hMo;replace hMs:Sl (fps (LkM gw rb rp p c es cc ([],1))) w 5 vs (I.segs.map sgC):=hMs;obtain ⟨pn,cn,rfl⟩:=hMv.needs.len;obtain ⟨ps,cs,rfl⟩:=hMv.segs.len;obtain ⟨py,cy,rfl⟩:=hMv.syms.len;obtain ⟨pr,cr,rfl⟩:=hMv.rels.len;simp only [LkM,LkS,List.cons_append,List.nil_append] at hS;unfold a7z imC
 repeat' (first|(with_reducible apply b9 b8);rfl;rfl;rfl|(with_reducible apply c9);rfl;(apply Ld.st b8;rfl;exact hS.blkR 0 rfl;rfl);rfl|refine yDn (by with_reducible constructor) ?_|(with_reducible apply k9 hS);rfl;rfl;rfl;clear hS;intro g w' hS)
 replace hS:=St.reorder [1,2,3,4] hS (by decide) rfl;have hMs1:=(hF _ hM).segs.nowM (Θ:=LkM gw rb rp p c es cc ([],1)) hS;have hMv1:=(hF _ hM).now hS
 ((with_reducible apply y7);rfl;rfl;exact a93 (p:=p) (c:=c) (es:=es) (cc:=cc) (os:=[]) (next:=1) hS hP hMv1 hMs1 hMo.s1 hMo.s2 hMo.s3 (by omega) (by omega) (by simp);rfl;rintro _ w' ⟨rfl,p1,c1,es1,cc1,hP1,hS'⟩)
 replace hS:=St.transM (Θ:=LkM gw rb rp p c es cc ([],1)) hS hS';clear hS' hMs1 hMv1 hMs hMv
 repeat' (first|(with_reducible apply b9 b8);rfl;rfl;rfl|refine yDn (by with_reducible constructor) ?_)
 replace hS:St G w w' (LkM gw rb rp p1 c1 es1 cc1 (x6 ([],1) _)++[.obj rb (.map esb cb)]):=hS;replace hP1:PlI es1 (x6 ([],1) _).1:=hP1;generalize x6 ([],1) _=s1 at hS hP1 hA1 hR;clear hMF hMo hM hP;refine l4 (X:=Nat×(List Ob×Int)×(Option Addr×Nat)×(Array MapEntry×Nat)) (fun x=>[(5,.int .i64 (x.1:Nat))]) [0] rfl (fun x=>LkM gw rb rp x.2.2.1.1 x.2.2.1.2 x.2.2.2.1 x.2.2.2.2 x.2.1) (fun x=>PlI x.2.2.2.1 x.2.1.1/\AllI B x.2.1/\R=a3X B (8 - x.1) x.1 x.2.1/\x.1<=x.2.1.1.length) (fun x=>8 - x.1) (0,s1,(p1,c1),(es1,cc1)) (by exact Fr.sub_of rfl) ⟨hP1,hA1,hR.symm,xi5 _⟩ hS ?_;clear hS hP1 hA1 hR;rintro ⟨n,s,⟨p2,c2⟩,⟨es2,cc2⟩⟩ w2 ⟨hP2,hA2,hR2,hn⟩ hS;dsimp only [LkM,LkS,List.cons_append,List.nil_append] at hP2 hA2 hR2 hn hS |-;have hlen:=hA2.len;have hnx:=hA2.hi;have hnl:=hA2.lo;by_cases hlt:n < s.1.length;rotate_left
 ·have hd:s.1[n]?=none:=xm2 (by omega);have hR3:R=some s:=by
   rw [hR2]
   cases 8 - n with
   |zero=>rfl
   |succ k=>unfold a3X;rw [hd]
  repeat' (first|(with_reducible apply b9 b8);rfl;rfl;rfl|(with_reducible apply c9);rfl;(first|apply Ld.sc b8;rfl;exact hS.blkC 0 rfl rfl|apply Ld.sl b8;rfl;exact hS.blkC 0 rfl rfl);rfl|refine yDn (by with_reducible constructor) ?_|(with_reducible apply d7);rfl;all_goals (intro hb hp;try (exfalso;omega)))
  ·(refine j4 rfl ?_)
   refine ⟨?_,p2,c2,es2,cc2,s,hP2,hA2,fun s' hs'=>?_,hS⟩
   ·rw [hR3];show _=Value.int .i64 (if s.2 > 256 then 3 else 0);rw [xf0 (by omega)]
   ·rw [hR3] at hs';exact Option.some.inj hs'
  ·(refine j4 rfl ?_)
   refine ⟨?_,p2,c2,es2,cc2,s,hP2,hA2,fun s' hs'=>?_,hS⟩
   ·rw [hR3];show _=Value.int .i64 (if s.2 > 256 then 3 else 0);rw [xf1 (by omega)]
   ·rw [hR3] at hs';exact Option.some.inj hs'
 obtain ⟨o,ho⟩:=i9 (l:=s.1) (i:=n) (by omega);obtain ⟨a1,hob⟩:=hA2.sub o (xd0 ho);have hoF:=hF _ hob;have hrow:=d9 (f:=obC) ho;have hR3:R=match a1L B o.im.needs s with
   |none=>none
   |some s'=>a3X B (8 - (n + 1)) (n + 1) s':=by
  rw [hR2,show 8 - n=(8 - (n + 1)) + 1 by omega];show (match s.1[n]? with
   |none=>some s
   |some o=>match a1L B o.im.needs s with
    |none=>none
    |some s'=>a3X B (8 - (n + 1)) (n + 1) s')=_
  rw [ho]
 clear hR2;obtain ⟨J,un,us,uy,ur,at_⟩:=o;have hnd:Sl G w 1 un (J.needs.map stC):=hoF.needs;obtain ⟨qn,dn,rfl⟩:=(hnd.now hS).len;have hbn:=(hnd.now hS).bound;unfold obC at hrow;rcases hS.rowForm 2 rfl with ⟨h1,h2⟩|⟨b,cap,h1,h2,h3⟩
 ·exfalso;simp only [Value.slice.injEq] at h1;omega
 simp only [Value.slice.injEq] at h1;obtain ⟨rfl,-,rfl⟩:=h1;dsimp only at hR3 hrow;clear hob hoF h2 h3
 repeat' (first|(with_reducible apply b9 b8);rfl;rfl;rfl|(with_reducible apply c9);rfl;(apply Ld.sl b8;rfl;(first|exact hS.blkC 0 rfl rfl|exact hS.rowCj 2 rfl (by assumption) rfl));rfl|(with_reducible apply l8 b8);rfl;rfl;rfl;rfl;omega;rfl|refine yDn (by with_reducible constructor) ?_|(with_reducible apply d7);rfl;all_goals (intro hb hp;try (exfalso;omega)))
 refine l4 (X:=Nat×(List Ob×Int)×(Option Addr×Nat)×(Array MapEntry×Nat)) (fun x=>[(32,.int .i64 (x.1:Nat))]) [0,5,30,31] rfl (fun x=>LkM gw rb rp x.2.2.1.1 x.2.2.1.2 x.2.2.2.1 x.2.2.2.2 x.2.1) (fun x=>PlI x.2.2.2.1 x.2.1.1/\AllI B x.2.1/\a1L B J.needs s=a1L B (J.needs.drop x.1) x.2.1/\n < x.2.1.1.length/\x.1<=J.needs.length) (fun x=>J.needs.length - x.1) (0,s,(some ⟨b,0,none⟩,c2),(es2,cc2)) (by exact Fr.sub_of rfl) ⟨hP2,hA2,rfl,hlt,xi5 _⟩ hS ?_;clear hS hP2 hrow;rintro ⟨k,s3,⟨p3,c3⟩,⟨es3,cc3⟩⟩ w3 ⟨hP3,hA3,hN3,hn3,hk3⟩ hS;dsimp only [LkM,LkS,List.cons_append,List.nil_append] at hP3 hA3 hN3 hn3 hk3 hS |-;have hlen3:=hA3.len;have hnx3:=hA3.hi;have hnl3:=hA3.lo;by_cases hkt:k < J.needs.length;rotate_left
 ·rw [xn8 (by omega)] at hN3;rw [hN3] at hR3;replace hR3:R=a3X B (8 - (n + 1)) (n + 1) s3:=hR3
  repeat' (first|(with_reducible apply b9 b8);rfl;rfl;rfl|(with_reducible apply f9);rfl;rfl;omega;omega;rfl|refine yDn (by with_reducible constructor) ?_|(with_reducible apply d7);rfl;all_goals (intro hb hp;try (exfalso;omega)))
  exact f8 (n + 1,s3,(p3,c3),(es3,cc3)) (by exact Fr.sub_of rfl) ⟨hP3,hA3,hR3,by show n + 1<=s3.1.length;omega⟩ hS (by show 8 - (n + 1) < 8 - n;omega)
 obtain ⟨nm,hnm⟩:=i9 (l:=J.needs) (i:=k) (by omega);have hrow:=d9 (f:=stC) hnm;obtain ⟨b2,off2,rfl,hro⟩:=hnd.atF (i:=k) hkt;rw [a9n hnm] at hN3;unfold stC at hrow
 cases hlk:a51 B nm with
 |none=>
  rw [hlk] at hN3;replace hN3:a1L B J.needs s=none:=hN3;rw [hN3] at hR3;replace hR3:R=none:=hR3;have hno:∀ v,(stK nm,v) ∉ (B.map fun o=>(stK o.im.name,a7z o)):=fun v hv=>by
   obtain ⟨x,hx,e⟩:=xh0.1 hv;have e1:=congrArg Prod.fst e;unfold stK at e1;exact b1d hlk x hx (by simpa using e1)
  repeat' (first|(with_reducible apply b9 b8);rfl;rfl;rfl|(with_reducible apply c9);rfl;(apply Ld.sc b8;rfl;(first|exact hS.blkC 0 rfl rfl|exact hS.roC0 (by assumption) (by assumption) rfl));rfl|(with_reducible apply l8 b8);rfl;rfl;rfl;rfl;omega;rfl|refine yDn (by with_reducible constructor) ?_|(with_reducible apply e8);rfl;rfl|(with_reducible apply d6 hS b8);rfl;rfl;rfl;clear hS;intro g w' hS|(with_reducible apply d5 hS b8 (i:=0));(iterate 8 rfl);exact (rfl:_=[_,_,_,_,_,_]);clear hS;intro w' hS;simp only [List.set] at hS|(with_reducible apply d7);rfl;all_goals (intro hb hp;try (exfalso;omega))|(with_reducible apply z8);rfl;exact b6D hS (i:=3) a2m a1Q b34 rfl rfl rfl hB (k:=stK nm) trivial hno true;rintro _ _ ⟨rfl,rfl⟩)
  (refine j4 rfl ?_)
  refine ⟨by rw [hR3];rfl,p3,c3,es3,cc3,s3,hP3,hA3,fun s' hs'=>(by rw [hR3] at hs';cases hs'),?_⟩;exact hS.drop
 |some y=>
  rw [hlk] at hN3;replace hN3:a1L B J.needs s=a1L B (J.needs.drop (k + 1)) (x6 s3 y):=hN3;obtain ⟨hy,hyn⟩:=a7Z hlk;have hv:(stK nm,a7z y) ∈ (B.map fun o=>(stK o.im.name,a7z o)):=xh0.2 ⟨y,hy,by rw [hyn]⟩;have hyF:=hF _ hy;have hyo:=hok _ hy;have hA4:=hA3.step hy hyo;have hpl:=b04 s3 y;obtain ⟨Y,wn,ws,wy,wr,b0⟩:=y;have hyv:ImV w3 Y wn ws wy wr:=hyF.now hS;obtain ⟨rn,en,rfl⟩:=hyv.needs.len;obtain ⟨rs,es_,rfl⟩:=hyv.segs.len;obtain ⟨ry,ey,rfl⟩:=hyv.syms.len;obtain ⟨rr,er,rfl⟩:=hyv.rels.len;unfold a7z imC at hv
  repeat' (first|(with_reducible apply b9 b8);rfl;rfl;rfl|(with_reducible apply c9);rfl;(first|apply Ld.sc b8;rfl;(first|exact hS.blkC 0 rfl rfl|exact hS.roC0 (by assumption) (by assumption) rfl)|apply Ld.st b8;rfl;exact hS.blkR 0 rfl;rfl);rfl|(with_reducible apply l8 b8);rfl;rfl;rfl;rfl;omega;rfl|refine yDn (by with_reducible constructor) ?_|(with_reducible apply f6);rfl;rfl|(with_reducible apply d6 hS b8);rfl;rfl;rfl;clear hS;intro g w' hS|(with_reducible apply d5 hS b8 (i:=0));(iterate 8 rfl);exact (rfl:_=[_,_,_,_,_,_]);clear hS;intro w' hS;simp only [List.set] at hS|(with_reducible apply d7);rfl;all_goals (intro hb hp;try (exfalso;omega))|(with_reducible apply z8);rfl;exact b1y hS (i:=3) a2m a1Q rfl rfl rfl hB (k:=stK nm) trivial hv true;rintro _ _ ⟨rfl,rfl⟩)
  repeat' (fail)
  replace hS:=St.reorder [1,2,3,4] hS (by decide) rfl;have hMs1:=hyF.segs.nowM (Θ:=LkM gw rb rp p3 c3 es3 cc3 s3) hS;have hMv1:=hyF.now hS
  ((with_reducible apply y7);rfl;rfl;exact a93 (p:=p3) (c:=c3) (es:=es3) (cc:=cc3) (os:=s3.1) (next:=s3.2) hS hP3 hMv1 hMs1 hyo.s1 hyo.s2 hyo.s3 (by omega) (by omega) (by omega);rfl;rintro _ w' ⟨rfl,p4,c4,es4,cc4,hP4,hS'⟩)
  replace hS:=St.transM (Θ:=LkM gw rb rp p3 c3 es3 cc3 s3) hS hS';clear hS' hMs1 hMv1;obtain ⟨s4,hs4⟩:∃ s4,s4=x6 s3 ⟨Y,.slice rn Y.needs.length en,.slice rs Y.segs.length es_,.slice ry Y.syms.length ey,.slice rr Y.rels.length er,b0⟩:=⟨_,rfl⟩;rw [<- hs4] at hA4 hN3 hpl;replace hP4:PlI es4 s4.1:=by rw [hs4];exact hP4
  replace hS:St G w w' (LkM gw rb rp p4 c4 es4 cc4 s4++[.obj rb (.map esb cb)]):=by rw [hs4];exact hS
  clear hs4;simp only [LkM,LkS,List.cons_append,List.nil_append] at hS
  repeat' (first|(with_reducible apply b9 b8);rfl;rfl;rfl|(with_reducible apply f9);rfl;rfl;omega;omega;rfl|refine yDn (by with_reducible constructor) ?_)
  exact f8 (k + 1,s4,(p4,c4),(es4,cc4)) (by exact Fr.sub_of rfl) ⟨hP4,hA4,hN3,xb9 hn3 hpl,by show k + 1<=_;omega⟩ hS (by show _ - (k + 1) < _ - k;omega)
section
variable {F:Nat->Prop} {w0 w w':World} {Γ Δ:List Asr}
theorem St.reorderT (m:Nat) (is:List Nat) (h:St F w0 w Γ) (hn:is.Nodup/\∀ i ∈ is,i < m) (hp:a9C Γ is=some Δ):St F w0 w (s7 Δ (Γ.drop m)):=by
 rw [a6h];have h1:=h.reorder is hn.1 hp;have h2:=h.sub (List.drop_sublist m Γ);refine ⟨h.os,h.tape,h.output,h.size,h.base,fun A hA=>?_,fun A hA=>?_,?_⟩
 ·rcases xe3.1 hA with hA|hA
  ·exact h1.holds A hA
  ·exact h2.holds A hA
 ·rcases xe3.1 hA with hA|hA
  ·exact h1.own A hA
  ·exact h2.own A hA
 ·rw [xe4];refine ⟨h1.apart,h2.apart,fun a ha b hb=>?_⟩;obtain ⟨j,hj⟩:=xd9.1 ha;obtain ⟨k,hk⟩:=xd9.1 hb;obtain ⟨i,hi,hi2⟩:=a5f hp j a hj;rw [xb8] at hk;have:=hn.2 i (xd0 hi);exact a3H h.apart hi2 hk (by omega)
end
structure Bx where
 g:Nat
 pg:Int
 data:List UInt8
 p:Option Addr
 c:Nat
 fx:List Fx
def Bx.v (b:Bx):Value:=.slice b.p b.fx.length b.c
def bxB (b:Bx):Asr:=.blk b.g [.int .i64 b.pg,.string ⟨b.data.toArray⟩,.slice b.p b.fx.length b.c]
def bxR (b:Bx):Asr:=.row 96 2 (.slice b.p b.fx.length b.c) (b.fx.map fxC)
def bxs (l:List Bx):List Asr:=l.map bxB++l.map bxR
def kvB (b:Bx):Value×Value:=(.int .i64 b.pg,.pointer (some ⟨b.g,0,none⟩))
def a2T (b:Bx):Int×List UInt8×List Fx:=(b.pg,b.data,b.fx)
theorem a9h (b:Bx) (l:List Bx):(bxs (b::l)).Perm (bxB b::bxR b::bxs l):=by
 unfold bxs;simp only [xc2,List.cons_append];exact List.Perm.cons _ xp2
theorem a9I {l m:List Bx} (h:l.Perm m):(bxs l).Perm (bxs m):=(h.map bxB).append (h.map bxR)
theorem b3M (b:Bx) (l:List Bx):(bxB b::bxR b::bxs l).Perm (bxs (l++[b])):=(a9h b l).symm.trans (a9I (xi2 (l₁:=[b]) (l₂:=l)))
theorem a1p {α:Type}:∀ {l:List α} {k:Nat} {b:α},l[k]?=some b->l.Perm (b::l.eraseIdx k):=by
 intro l
 induction l with
 |nil=>intro k b h;simp at h
 |cons a l ih=>
  intro k b h
  cases k with
  |zero=>simp at h;subst h;simp
  |succ k=>
   simp only [List.getElem?_cons_succ] at h;rw [List.eraseIdx_cons_succ];exact ((ih h).cons a).trans (List.Perm.swap b a _)
theorem a9r {l:List Bx} {k:Nat} {b:Bx} (h:l[k]?=some b):(bxs l).Perm (bxB b::bxR b::bxs (l.eraseIdx k)):=(a9I (a1p h)).trans (a9h b _)
theorem a2X {α:Type}:∀ {l:List α} {k:Nat} {b:α},(l.set k b).eraseIdx k=l.eraseIdx k:=by
 intro l
 induction l with
 |nil=>intro k b;simp
 |cons a l ih=>
  intro k b
  cases k with
  |zero=>simp
  |succ k=>simp only [List.set_cons_succ,List.eraseIdx_cons_succ,ih]
theorem b5D {l:List Bx} {k:Nat} {b0 b:Bx} (h:l[k]?=some b0):(bxB b::bxR b::bxs (l.eraseIdx k)).Perm (bxs (l.set k b)):=by
 have h1:=a9r (l:=l.set k b) (k:=k) (b:=b) (by rw [xe0];simp [(xa7.1 h).1]);rw [a2X] at h1;exact h1.symm
def a19 (d:List UInt8) (n:Nat):List UInt8:=(d.drop (n * 16)).take 16++List.replicate (16 - ((d.drop (n * 16)).take 16).length) 0
theorem a6V (d:List UInt8) (n:Nat):(a19 d n).length=16:=by
 unfold a19;simp only [xe9,xb0,xa1];omega
def pgK (b0:Int) (s:Sg) (n:Nat):Int×List UInt8×List Fx:=(b0 + s.pg + n,a19 s.data n,[])
def a3t (b0:Int) (s:Sg) (m:Nat):List (Int×List UInt8×List Fx):=(List.range m).map (pgK b0 s)
def a1b (b0:Int) (l:List Sg):List (Int×List UInt8×List Fx):=l.flatMap fun s=>a3t b0 s s.n.toNat
theorem b3w (b0:Int) (s:Sg) (m:Nat):a3t b0 s (m + 1)=a3t b0 s m++[pgK b0 s m]:=by
 unfold a3t;rw [List.range_succ,xk1];rfl
theorem a7O {b0:Int} {l:List Sg} {j:Nat} {s:Sg} (h:l[j]?=some s):a1b b0 (l.take (j + 1))=a1b b0 (l.take j)++a3t b0 s s.n.toNat:=by
 unfold a1b;rw [xp5,h];simp
theorem a8v:(Tryz.prog).underlying 3=some (.int .i64):=by kernel_rfl
theorem a39:(Tryz.prog).underlying 188=some (.map 3 199):=by kernel_rfl
def a4B (at_:Int) (s:List UInt8) (pg:Int):List Fx :=
 let fr:=at_ - 16 * pg;let a:=max fr 0;let e:=min (fr + s.length) 16
 if a < e then [⟨a,(s.drop (a - fr).toNat).take (e - a).toNat⟩] else []
theorem a2y {α:Type} (s:List α) (d i m:Nat) (h:i + m<=d):((s.take d).drop i).take m=(s.drop i).take m:=by
 rw [List.drop_take,List.take_take,xo0 (by omega)]
theorem a8k {at_:Int} {s:List UInt8} {d n:Nat} {off:Int} (h0:0<=at_) (hd:d < s.length) (hoff:off=(at_ + d) % 16) (hal:d=0\/off=0) (hn:(n:Int)=min ((s.length:Int) - d) (16 - off)) (pg:Int) :
  a4B at_ (s.take (d + n)) pg=a4B at_ (s.take d) pg++(if pg=(at_ + d) / 16 then [⟨off,(s.drop d).take n⟩] else []):=by
 have hl1:(s.take (d + n)).length=d + n:=by rw [xa1];omega
 have hl2:(s.take d).length=d:=by rw [xa1];omega
 unfold a4B;dsimp only [];rw [hl1,hl2];by_cases hp:pg=(at_ + d) / 16
 ·rw [xf0 hp];have h1:¬ max (at_ - 16 * pg) 0 < min (at_ - 16 * pg + (d:Nat)) 16:=by omega
  have h2:max (at_ - 16 * pg) 0 < min (at_ - 16 * pg + ((d + n:Nat):Int)) 16:=by omega
  rw [xf1 h1,xf0 h2,List.nil_append];have h3:max (at_ - 16 * pg) 0=off:=by omega
  have h4:min (at_ - 16 * pg + ((d + n:Nat):Int)) 16=off + n:=by omega
  rw [h3,h4,show (off - (at_ - 16 * pg)).toNat=d by omega,show (off + n - off).toNat=n by omega,a2y _ _ _ _ (by omega)]
 ·rw [xf1 hp,List.append_nil];by_cases hlt:pg < (at_ + d) / 16
  ·have h3:min (at_ - 16 * pg + ((d + n:Nat):Int)) 16=16:=by omega
   have h4:min (at_ - 16 * pg + (d:Int)) 16=16:=by omega
   rw [h3,h4];by_cases ha:max (at_ - 16 * pg) 0 < 16
   ·rw [xf0 ha,xf0 ha,a2y _ _ _ _ (by omega),a2y _ _ _ _ (by omega)]
   ·rw [xf1 ha,xf1 ha]
  ·rw [xf1 (by omega),xf1 (by omega)]
theorem b39 (at_ pg:Int):a4B at_ [] pg=[]:=by
 unfold a4B;rw [xf1 (by simp only [xa2];omega)]
def a2A (os:List (Im×Int)) (at_:Int) (r:Rl):Option (List UInt8):=(if r.name=[] then some at_ else adr os r.name).map fun t=>leB (IntKind.i64.wrap (t + r.add)) 8
def a8H (os:List (Im×Int)) (at_:Int) (r:Rl):List UInt8:=(a2A os at_ r).getD []
def a7q (os:List (Im×Int)) (at_:Int) (l:List Rl):Bool:=l.all fun r=>(a2A os at_ r).isSome
def a55 (os:List (Im×Int)) (at_:Int) (l:List Rl) (pg:Int):List Fx:=l.flatMap fun r=>a4B (at_ + r.at_) (a8H os at_ r) pg
def b8m (os:List (Im×Int)) (at_:Int) (l:List Rl) (k:Int×List UInt8×List Fx):Sh:=⟨k.1,k.2.1,a55 os at_ l k.1⟩
def shO (os:List (Im×Int)) (I:Im) (b0:Int):List Sh:=(a1b b0 I.segs).map (b8m os (b0 * 16) I.rels)
def a4g (b0:Int) (s:Sg):Ar:=⟨b0 + s.pg,s.n,rgt s,false⟩
def a6f (A:List Ar) (b0:Int) (l:List Sg):List Ar:=(l.map (a4g b0)).foldl a0j A
theorem a9D (at_:Int) (s:List UInt8) (pg:Int):(a4B at_ s pg).length<=1:=by
 unfold a4B;dsimp only []
 split <;> simp
theorem b3t (os:List (Im×Int)) (at_:Int) (l:List Rl) (pg:Int):(a55 os at_ l pg).length<=l.length:=by
 unfold a55
 induction l with
 |nil=>simp
 |cons r l ih=>
  have:=a9D (at_ + r.at_) (a8H os at_ r) pg;simp only [xj6,xe9,xb3];omega
theorem b0y {os:List (Im×Int)} {at_:Int} {l:List Rl} {j:Nat} {r:Rl} (h:l[j]?=some r) (pg:Int):a55 os at_ (l.take (j + 1)) pg=a55 os at_ (l.take j) pg++a4B (at_ + r.at_) (a8H os at_ r) pg:=by
 unfold a55;rw [xp5,h];simp
theorem b2z {A:List Ar} {b0:Int} {l:List Sg} {j:Nat} {s:Sg} (h:l[j]?=some s):a6f A b0 (l.take (j + 1))=a0j (a6f A b0 (l.take j)) (a4g b0 s):=by
 unfold a6f;rw [xp5,h];simp
theorem a65 {b0:Int} {s:Sg} {m:Nat} {k:Int×List UInt8×List Fx} (h:k ∈ a3t b0 s m):∃ n:Nat,n < m/\k=pgK b0 s n:=by
 unfold a3t at h;obtain ⟨n,hn,rfl⟩:=xh0.1 h;exact ⟨n,xi8.1 hn,rfl⟩
theorem a92 (b0:Int):∀ {l:List Sg},Ch l->l.all a2N=true->(∀ k ∈ a1b b0 l,∀ s,l[0]?=some s->b0 + s.pg<=k.1)/\(a1b b0 l).Pairwise fun a b=>a.1 < b.1
 |[],_,_=>⟨by simp,by simp [a1b]⟩
 |s::l,hch,hs=>by
  have hch':Ch l:=fun j a b h1 h2=>hch (j + 1) a b (by simpa using h1) (by simpa using h2);simp only [xl3,xb4] at hs;obtain ⟨i1,i2⟩:=a92 b0 hch' hs.2;have e:a1b b0 (s::l)=a3t b0 s s.n.toNat++a1b b0 l:=by unfold a1b;simp
  have hso:=hs.1;unfold a2N at hso;have hso:=xl4 hso;have later:∀ k ∈ a1b b0 l,b0 + s.pg + s.n<=k.1:=fun k hk=>by
   cases l with
   |nil=>simp [a1b] at hk
   |cons t l=>
    have h1:=i1 k hk t rfl;have h2:=hch 0 s t rfl rfl;omega
  rw [e];refine ⟨fun k hk s' hs'=>?_,?_⟩
  ·simp only [List.getElem?_cons_zero,Option.some.injEq] at hs';subst hs';rcases xe3.1 hk with h|h
   ·obtain ⟨n,-,rfl⟩:=a65 h;show _<=b0 + s.pg + (n:Int);omega
   ·have:=later k h;omega
  ·rw [xe4];refine ⟨?_,i2,fun a ha b hb=>?_⟩
   ·unfold a3t;rw [List.pairwise_map];refine List.pairwise_lt_range.imp ?_;intro a b hab;show b0 + s.pg + (a:Int) < b0 + s.pg + (b:Int);omega
   ·obtain ⟨n,hn,rfl⟩:=a65 ha;have:=later b hb;show b0 + s.pg + (n:Int) < b.1;omega
theorem b2L {b0:Int} {l:List Sg} (hch:Ch l) (hs:l.all a2N=true):((a1b b0 l).map (·.1)).Nodup:=by
 have:=(a92 b0 hch hs).2;unfold List.Nodup;rw [List.pairwise_map];exact this.imp fun h=>by omega
theorem a6B (b0:Int) (s:Sg) (m:Nat):(a3t b0 s m).length=m:=by unfold a3t;simp
theorem b6g {b0:Int} {l:List Sg} {j n:Nat} {s:Sg} (h:l[j]?=some s) (hn:n < s.n.toNat):(a1b b0 l)[(a1b b0 (l.take j)).length + n]?=some (pgK b0 s n):=by
 have e:a1b b0 l=a1b b0 (l.take j)++(a3t b0 s s.n.toNat++a1b b0 (l.drop (j + 1))):=by
  conv=>lhs;rw [<- xm4 j l,a2z h]
  unfold a1b;simp
 rw [e,xa5 (by omega),Nat.add_sub_cancel_left,xa6 (by rw [a6B];exact hn)];unfold a3t;rw [xm3,List.getElem?_range hn];rfl
theorem a7h {b0:Int} {l:List Sg} (hs:l.all a2N=true):(a1b b0 l).length<=255 * l.length:=by
 induction l with
 |nil=>simp [a1b]
 |cons s l ih=>
  simp only [xl3,xb4] at hs;have hso:=hs.1;unfold a2N at hso;have hso:=xl4 hso;have e:a1b b0 (s::l)=a3t b0 s s.n.toNat++a1b b0 l:=by unfold a1b;simp
  have:=ih hs.2;rw [e,xe9,a6B,xb3];omega
theorem b2K {b0:Int} {l:List Sg} {x:Int} (h:(own l x).isSome=true):∃ k ∈ a1b b0 l,k.1=(b0 * 16 + x) / 16:=by
 obtain ⟨s,hs⟩:=xg7.1 h;unfold own at hs;have hm:=xj3 hs;have hin:=xg8 hs;unfold a7a at hin;have hin:=xl4 hin;refine ⟨pgK b0 s (x / 16 - s.pg).toNat,?_,?_⟩
 ·unfold a1b a3t;refine xg9.2 ⟨s,hm,xh0.2 ⟨_,xi8.2 ?_,rfl⟩⟩;omega
 ·show b0 + s.pg + ((x / 16 - s.pg).toNat:Int)=_;omega
def AOk (A:List Ar):Prop:=∀ a ∈ A,a.z=false/\0<=a.pg/\0<=a.n/\a.pg + a.n<=200000/\0<=a.prot/\a.prot<=3
theorem AOk.step {A:List Ar} {a:Ar} (h:AOk A) (ha:a.z=false/\0<=a.pg/\0<=a.n/\a.pg + a.n<=200000/\0<=a.prot/\a.prot<=3):AOk (a0j A a):=by
 unfold a0j
 split
 ·rename_i b hb;have hbm:=h b (List.mem_of_getLast? hb)
  split
  ·rename_i hal;unfold Ar.alike at hal;intro x hx;rcases xe3.1 hx with h1|h1
   ·exact h x ((List.dropLast_sublist A).subset h1)
   ·obtain rfl:x={ b with n:=b.n + a.n }:=by simpa using h1
    have e1:b.fin=a.pg:=hal.1;unfold Ar.fin at e1;obtain ⟨q1,q2,q3,q4,q5,q6⟩:=hbm;obtain ⟨p1,p2,p3,p4,p5,p6⟩:=ha;refine ⟨q1,q2,?_,?_,q5,q6⟩
    ·show 0<=b.n + a.n;omega
    ·show b.pg + (b.n + a.n)<=200000;omega
  ·intro x hx;rcases xe3.1 hx with h1|h1
   ·exact h x h1
   ·obtain rfl:x=a:=by simpa using h1
    exact ha
 ·intro x hx;rcases xe3.1 hx with h1|h1
  ·exact h x h1
  ·obtain rfl:x=a:=by simpa using h1
   exact ha
def imR (o:Ob):List Value:=imC o.im o.vn o.vs o.vy o.vr
def a1Z:List Ob->Int
 |[]=>0
 |o::l=>a1S o.im + a1Z l
theorem b2u (l m:List Ob):a1Z (l++m)=a1Z l + a1Z m:=by
 induction l with
 |nil=>simp [a1Z]
 |cons o l ih=>simp only [List.cons_append,a1Z,ih];omega
structure PkI (s:List Ob×Int):Prop where
 nx:s.2=1 + a1Z s.1
 at_:∀ (i:Nat) (o:Ob),s.1[i]?=some o->o.at_=(1 + a1Z (s.1.take i)) * 16
theorem PkI.start:PkI ([],1):=⟨rfl,fun i o h=>by simp at h⟩
theorem PkI.step {s:List Ob×Int} (o:Ob) (h:PkI s):PkI (x6 s o):=by
 unfold x6 a7C a4t;by_cases hp:a8W s.1 o.im.name=true
 ·rw [xf0 hp,xf0 hp];exact h
 ·rw [xf1 hp,xf1 hp];refine ⟨?_,fun i x hx=>?_⟩
  ·show s.2 + a1S o.im=1 + a1Z (s.1++[_]);rw [b2u,h.nx];simp only [a1Z];omega
  ·dsimp only at hx |-;rcases xq4 i s.1.length with hi|hi
   ·rw [xa6 hi] at hx;rw [List.take_append_of_le_length (by omega)];exact h.at_ i x hx
   ·rw [xa5 hi] at hx;obtain ⟨h1,h2⟩:=xa7.1 hx;simp only [xn2] at h1;obtain rfl:i=s.1.length:=by omega
    simp only [xf8,xp9] at h2;subst h2;rw [List.take_left];show s.2 * 16=_;rw [h.nx]
theorem b0w {B:List Ob} {Inv:List Ob×Int->Prop} (hst:∀ s o,Inv s->o ∈ B->Inv (x6 s o)):∀ {l:List (List UInt8)} {s s':List Ob×Int},a1L B l s=some s'->Inv s->Inv s':=by
 intro l
 induction l with
 |nil=>intro s s' h hI;cases h;exact hI
 |cons nm l ih=>
  intro s s' h hI;unfold a1L at h
  cases hl:a51 B nm with
  |none=>rw [hl] at h;cases h
  |some o=>rw [hl] at h;exact ih h (hst s o hI (a7Z hl).1)
theorem a9R {B:List Ob} {Inv:List Ob×Int->Prop} (hst:∀ s o,Inv s->o ∈ B->Inv (x6 s o)):∀ {f n:Nat} {s s':List Ob×Int},a3X B f n s=some s'->Inv s->Inv s':=by
 intro f
 induction f with
 |zero=>intro n s s' h hI;cases h;exact hI
 |succ f ih=>
  intro n s s' h hI;unfold a3X at h
  split at h
  ·cases h;exact hI
  ·split at h
   ·cases h
   ·rename_i s2 h2;exact ih h (b0w hst h2 hI)
def a3Y (l:List Ob):List Ar:=(l.flatMap fun o=>o.im.segs.map (a4g (o.at_ / 16))).foldl a0j []
def a5u (os:List (Im×Int)) (l:List Ob):List Sh:=l.flatMap fun o=>shO os o.im (o.at_ / 16)
def a6g (os:List (Im×Int)) (l:List Ob):Bool:=l.all fun o=>a7q os o.at_ o.im.rels
theorem a9v {l:List Ob} {j:Nat} {o:Ob} (h:l[j]?=some o):a3Y (l.take (j + 1))=a6f (a3Y (l.take j)) (o.at_ / 16) o.im.segs:=by
 unfold a3Y a6f;rw [xp5,h];simp only [xm9,xj5,xj6,xj7,List.append_nil,xj4]
theorem a9T {os:List (Im×Int)} {l:List Ob} {j:Nat} {o:Ob} (h:l[j]?=some o):a5u os (l.take (j + 1))=a5u os (l.take j)++shO os o.im (o.at_ / 16):=by
 unfold a5u;rw [xp5,h];simp only [xm9,xj5,xj6,xj7,List.append_nil]
theorem b6x {A:List Ar} {b0:Int} (hA:AOk A) (h0:1<=b0) (h1:b0<=100000):∀ {l:List Sg},l.all a2N=true->AOk (a6f A b0 l)/\(a6f A b0 l).length<=A.length + l.length:=by
 intro l;unfold a6f
 induction l generalizing A with
 |nil=>exact fun _=>⟨hA,xd4 _⟩
 |cons s l ih=>
  intro hs;simp only [xl3,xb4] at hs;have hso:=hs.1;unfold a2N at hso;have hso:=xl4 hso;have hrg:0<=rgt s/\rgt s<=3:=by unfold rgt;split <;> split <;> decide
  have h2:AOk (a0j A (a4g b0 s)):=by
   refine hA.step ⟨rfl,?_,?_,?_,hrg⟩
   ·show 0<=b0 + s.pg;omega
   ·show 0<=s.n;omega
   ·show b0 + s.pg + s.n<=200000;omega
  obtain ⟨i1,i2⟩:=ih h2 hs.2;refine ⟨i1,?_⟩;have h3:(a0j A (a4g b0 s)).length<=A.length + 1:=by
   unfold a0j
   split
   ·split
    ·simp
    ·simp
   ·simp
  simp only [xc2,xg3,xb3];omega
theorem a14 {I:Im} (h:t9 I=0):b1A I/\I.rels.length<=16/\Ch I.segs/\Plc I:=by
 unfold t9 at h;have e1:a9F I=true:=by
  cases hq:a9F I with
  |true=>rfl
  |false=>rw [xf0 hq] at h;omega
 rw [xf1 (by rw [e1];simp)] at h;have e2:b0o I=true:=by
  cases hq:b0o I with
  |true=>rfl
  |false=>rw [xf0 hq] at h;omega
 rw [xf1 (by rw [e2];simp)] at h;have e3:a5y I=true:=by
  cases hq:a5y I with
  |true=>rfl
  |false=>rw [xf0 hq] at h;omega
 rw [xf1 (by rw [e3];simp)] at h;have e4:a7u I=true:=by
  cases hq:a7u I with
  |true=>rfl
  |false=>rw [xf0 hq] at h;omega
 rw [xf1 (by rw [e4];simp)] at h;have e5:a9H I=true:=by
  cases hq:a9H I with
  |true=>rfl
  |false=>rw [xf0 hq] at h;omega
 have c:=xl4 e2;exact ⟨⟨by omega,e3,by omega⟩,by omega,(b4z.1 e4).1,b4z.1 e5⟩
theorem a8s {l:List Sg} {x:Int} {s:Sg} (hs:l.all a2N=true) (h:own l x=some s):0<=x/\x < 4096:=by
 unfold own at h;have hm:=xj3 h;have hin:=xg8 h;unfold a7a at hin;have hin:=xl4 hin;have hso:=xc7.1 hs s hm;unfold a2N at hso;have hso:=xl4 hso;omega
noncomputable def a4S (M:Ob) (Lb:List Ob):Int :=
 if 6 < Lb.length then 2 else
 match (M::Lb).find? (fun o=>!decide (t9 o.im=0)) with
 |some o=>t9 o.im
 |none=>if ((M::Lb).map fun o=>o.im.name).Nodup then
   match a3X (M::Lb) 8 0 (x6 ([],1) M) with
   |none=>6
   |some s=>if s.2 > 256 then 3 else if a6g (obP s.1) s.1=true then 0 else 7
  else 5
def Fst (M:Ob) (s:List Ob×Int):Prop:=∃ r,s.1={ M with at_:=16 }::r
theorem b2F (M:Ob):Fst M (x6 ([],1) M):=⟨[],rfl⟩
theorem b41 {M:Ob} {s:List Ob×Int} (o:Ob) (h:Fst M s):Fst M (x6 s o):=by
 obtain ⟨r,hr⟩:=h;unfold x6 a7C
 split
 ·exact ⟨r,hr⟩
 ·exact ⟨r++[_],by show s.1++[_]=_;rw [hr];rfl⟩
def gK (b:Bx):Nat×Int×List UInt8×List Fx:=(b.g,a2T b)
def gF (at_:Int) (s:List UInt8) (b:Bx):Nat×Int×List UInt8×List Fx:=(b.g,b.pg,b.data,b.fx++a4B at_ s b.pg)
theorem b6G {bs bs':List Bx} {at_:Int} {s:List UInt8} {d n k:Nat} {off:Int} {b1 b2:Bx} (hK:bs'.map gK=bs.map (gF at_ (s.take d))) (hnd:(bs.map (·.pg)).Nodup) (hk:bs'[k]?=some b1) (hpg:b1.pg=(at_ + d) / 16) (hb:(b2.g,a2T b2)=(b1.g,b1.pg,b1.data,b1.fx++[⟨off,(s.drop d).take n⟩]))
  (h0:0<=at_) (hd:d < s.length) (hoff:off=(at_ + d) % 16) (hal:d=0\/off=0) (hn:(n:Int)=min ((s.length:Int) - d) (16 - off)):(bs'.set k b2).map gK=bs.map (gF at_ (s.take (d + n))):=by
 have hat:∀ j:Nat,(bs'[j]?).map gK=(bs[j]?).map (gF at_ (s.take d)):=fun j=>by
  have:=congrArg (fun l:List (Nat×Int×List UInt8×List Fx)=>l[j]?) hK
  simpa only [xm3] using this
 have hkl:=(xa7.1 hk).1;obtain ⟨b0,hb0⟩:∃ b0,bs[k]?=some b0:=by
  have:=hat k;rw [hk] at this
  cases h:bs[k]? with
  |none=>rw [h] at this;cases this
  |some x=>exact ⟨x,rfl⟩
 have hk0:=hat k;rw [hk,hb0] at hk0;simp only [xn5,Option.some.injEq,gK,gF,a2T,Prod.mk.injEq] at hk0 hb;obtain ⟨e1,e2,e3,e4⟩:=hk0;obtain ⟨f1,f2,f3,f4⟩:=hb;apply xm8;intro j;rw [xm3,xm3,xe0];by_cases hj:k=j
 ·subst hj;rw [xf0 rfl,xf0 hkl,hb0];simp only [xn5,gK,gF,a2T,Option.some.injEq,Prod.mk.injEq];refine ⟨by rw [f1,e1],by rw [f2,e2],by rw [f3,e3],?_⟩;rw [f4,e4,a8k h0 hd hoff hal hn,xf0 (by rw [<- e2];exact hpg),xg2]
 ·rw [xf1 hj,hat j]
  cases hj2:bs[j]? with
  |none=>rfl
  |some x=>
   have hne:x.pg≠(at_ + d) / 16:=fun e=>by
    have h1:(bs.map (·.pg))[j]?=some ((at_ + d) / 16):=by rw [xm3,hj2];simp [e]
    have h2:(bs.map (·.pg))[k]?=some ((at_ + d) / 16):=by rw [xm3,hb0];simp [<- e2,hpg]
    obtain ⟨l1,v1⟩:=xa7.1 h1;obtain ⟨l2,v2⟩:=xa7.1 h2;exact hj ((List.getElem_inj hnd).1 (v2.trans v1.symm))
   simp only [xn5,gF];rw [a8k h0 hd hoff hal hn,xf1 hne,List.append_nil]
theorem b2f {bs bs':List Bx} {f:Bx->Int×List UInt8×List Fx} (hf:∀ b,(f b).1=b.pg) (h:bs'.map gK=bs.map fun b=>(b.g,f b)):bs'.map kvB=bs.map kvB:=by
 have h2:=congrArg (List.map fun (x:Nat×Int×List UInt8×List Fx)=>(Value.int .i64 x.2.1,Value.pointer (some ⟨x.1,0,none⟩))) h;rw [xl6,xl6] at h2;refine Eq.trans ?_ (h2.trans ?_)
 ·rfl
 ·apply xq2;intro b _;show (Value.int .i64 (f b).1,_)=_;rw [hf];rfl
theorem b4L {F:Nat->Prop} {w0 w:World} {Γ:List Asr} {r c:Nat} {es:Array MapEntry} {bs:List Bx} {at_:Int} {s:List UInt8} (hS0:St F w0 w ((.obj r (.map es c)::bxs bs)++Γ)) (hM:MapG (.int .i64) es (bs.map kvB)) (hs:s.length=8) (h0:0<=at_) (h1:at_<=1000000000) (hp:∀ d:Nat,d < 8->∃ b ∈ bs,b.pg=(at_ + d) / 16) (hnd:(bs.map (·.pg)).Nodup) (hfx:∀ b ∈ bs,b.fx.length<=1000000) :
  Fn Tryz.prog 97 [.map (some r),.int .i64 at_,.string ⟨s.toArray⟩] w (fun _ w'=>∃ bs':List Bx,bs'.map gK=bs.map (gF at_ s)/\St (fps (.obj r (.map es c)::bxs bs)) w w' (.obj r (.map es c)::bxs bs')):=by
 refine yEn Tryz.func97 Tryz.ntmps97 (by kernel_rfl) (by kernel_rfl) rfl rfl ?_;have hS:=St.startM hS0;generalize hG:fps (.obj r (.map es c)::bxs bs)=G at hS |-
 repeat' ((refine yDn (by with_reducible constructor) ?_))
 refine l4 (Γ:=[]) (X:=Nat×Int×List UInt8×List Bx) (fun x=>[(1,.int .i64 x.2.1),(2,.string ⟨x.2.2.1.toArray⟩)]) [0] rfl (fun x=>.obj r (.map es c)::bxs x.2.2.2) (fun x=>x.1<=8/\x.2.1=at_ + (x.1:Nat)/\x.2.2.1=s.drop x.1/\(x.1=0\/x.1=8\/(at_ + (x.1:Nat)) % 16=0)/\x.2.2.2.map gK=bs.map (gF at_ (s.take x.1))) (fun x=>8 - x.1) (0,at_,s,bs) (by exact Fr.sub_of rfl) ⟨by omega,by simp,rfl,xd6 rfl,by unfold gF;simp only [xh4,b39,List.append_nil];rfl⟩ (by simpa only [List.append_nil] using hS) ?_;clear hS;rintro ⟨d,a,t,bs'⟩ w1 ⟨hd,ha,ht,hal,hK⟩ hS;dsimp only [] at hd ha ht hal hK hS |-;simp only [List.append_nil] at hS;have hM':MapG (.int .i64) es (bs'.map kvB):=by rw [b2f (f:=fun b=>(b.pg,b.data,b.fx++a4B at_ (s.take d) b.pg)) (fun _=>rfl) hK];exact hM
 by_cases hlt:d < 8;rotate_left
 ·obtain rfl:d=8:=by omega
  rw [xn8 (by omega)] at ht;subst ht
  repeat' (first|(with_reducible apply b9 b8);rfl;rfl;rfl|refine yDn (by with_reducible constructor) ?_|(with_reducible apply f6);rfl;rfl)
  (apply b3K;repeat ((exact ResL.nil)))
  refine ⟨bs',?_,hS⟩;rw [hK,xa0 (by omega)]
 have hdl:t.length=8 - d:=by rw [ht,xb7];omega
 have hne:(!decide (t=[]))=true:=by rw [xh9 (fun e=>by rw [e] at hdl;simp only [xa2] at hdl;omega)];rfl
 have hat:∀ j:Nat,(bs'[j]?).map gK=(bs[j]?).map (gF at_ (s.take d)):=fun j=>by
  have:=congrArg (fun l:List (Nat×Int×List UInt8×List Fx)=>l[j]?) hK
  simpa only [xm3] using this
 obtain ⟨k,b1,hk,hpg,hfl⟩:∃ (k:Nat) (b1:Bx),bs'[k]?=some b1/\b1.pg=(at_ + d) / 16/\b1.fx.length<=1000001:=by
  obtain ⟨b0,hb0,hb0p⟩:=hp d hlt;obtain ⟨k,hk0⟩:=xd9.1 hb0;have:=hat k;rw [hk0] at this
  cases h:bs'[k]? with
  |none=>rw [h] at this;cases this
  |some x=>
   rw [h] at this;simp only [xn5,Option.some.injEq,gK,gF,a2T,Prod.mk.injEq] at this;refine ⟨k,x,h,by rw [this.2.1];exact hb0p,?_⟩;have h1:=hfx b0 hb0;have h2:=a9D at_ (s.take d) b0.pg;rw [this.2.2.2,xe9];omega
 clear hat;replace hS:=hS.perm ((a9r hk).cons _);have hkv:(Value.int .i64 b1.pg,Value.pointer (some ⟨b1.g,0,none⟩)) ∈ bs'.map kvB:=xh0.2 ⟨_,xd0 hk,rfl⟩;have e1:a.tmod 16=a % 16:=xf3 (by omega);have e2:a.tdiv 16=b1.pg:=by rw [xf2 (by omega),ha];exact hpg.symm
 rw [<- e2] at hkv;obtain ⟨n,hn⟩:∃ n:Nat,(n:Int)=min (t.length:Int) (16 - a.tmod 16):=⟨(min (t.length:Int) (16 - a.tmod 16)).toNat,by omega⟩;have hfin:=fun b2 hb=>b6G (b2:=b2) (n:=n) hK hnd hk hpg hb h0 (by omega) (off:=a.tmod 16) (by omega) (by omega) (by omega);obtain ⟨g,pg,data,p,cp,fx⟩:=b1;unfold bxB bxR at hS;dsimp only at hS hkv hfl hpg e2 hfin
 repeat' (first|(with_reducible apply b9 b8);rfl;rfl;rfl|(with_reducible apply a0R);rfl;rfl;omega;omega;rfl|refine yDn (by with_reducible constructor) ?_|(with_reducible apply e8);rfl;assumption|(with_reducible apply a2q);rfl;rfl;omega;rfl|(with_reducible apply a0q);rfl;rfl;omega;omega;omega;rfl|(with_reducible apply b8a);rfl;rfl;rfl;rw [<- hn]|(with_reducible apply z8);rfl;exact b1y hS (i:=0) a39 a8v rfl rfl rfl hM' (k:=.int .i64 (a.tdiv 16)) rfl hkv false;rintro _ _ ⟨rfl,rfl⟩)
 rw [<- ht] at hfin;refine a3P (fun w'=>(Asr.blk g [Value.int IntKind.i64 pg,Value.string { data:=data.toArray },Value.slice p fx.length cp]).holds w') 14 15 rfl hS (by kernel_rfl) ?_;intro w10 hS';clear hS;have hS:=hS';clear hS';have hH:=hS.at_ (i:=1) rfl
 ((with_reducible apply a0Y (nn 0) b8);rfl;kernel_rfl;kernel_rfl;kernel_rfl;rfl;exact (fun _ _ _ h=>h);exact xd3 hH;rfl;rfl)
 ((with_reducible apply a0Y (nn 1) b8);rfl;kernel_rfl;kernel_rfl;kernel_rfl;rfl;exact (fun _ _ _ h=>h);exact xd3 hH;rfl;rfl)
 ((with_reducible apply a0Y (nn 2) b8);rfl;kernel_rfl;kernel_rfl;kernel_rfl;rfl;exact (fun _ _ _ h=>h);exact xd3 hH;rfl;rfl)
 ((with_reducible apply a0Y (nn 3) b8);rfl;kernel_rfl;kernel_rfl;kernel_rfl;rfl;exact (fun _ _ _ h=>h);exact xd3 hH;rfl;rfl)
 ((with_reducible apply a5m (nn 4));rfl;kernel_rfl;kernel_rfl;kernel_rfl;kernel_rfl;rfl;rfl;exact (fun _ _ _ h=>h);exact hH;rfl;(intro w2 hw2;(apply Ld.sl b8;rfl;exact a3o hw2 rfl));rfl)
 ((with_reducible apply a0Y (nn 5) b8);rfl;kernel_rfl;kernel_rfl;kernel_rfl;rfl;exact (fun _ _ _ h=>h);exact xd3 hH;rfl;rfl)
 ((with_reducible apply a0Y (nn 6) b8);rfl;kernel_rfl;kernel_rfl;kernel_rfl;rfl;exact (fun _ _ _ h=>h);exact xd3 hH;rfl;rfl)
 ((with_reducible apply a0Y (nn 7) b8);rfl;kernel_rfl;kernel_rfl;kernel_rfl;rfl;exact (fun _ _ _ h=>h);exact xd3 hH;rfl;rfl)
 refine n8 (i:=8) (by kernel_rfl) ?_;refine m8 rfl (Gets.of_runs fun a ha=>b2i b8 rfl rfl rfl (by omega) (by omega) a ha _) rfl ?_;rintro _ _ ⟨rfl,rfl⟩;refine ⟨xd3 (xd3 hH),?_⟩;refine n8 (i:=9) (by kernel_rfl) ?_
 ((with_reducible apply b1I b8);rfl;rfl;rfl;exact (rfl:_=some [_,_]);rfl)
 refine ⟨xd3 (xd3 hH),?_⟩;refine n8 (i:=10) (by kernel_rfl) ?_;refine m8 rfl (o0 hS b8 rfl rfl rfl rfl rfl rfl) rfl ?_;rintro _ w' ⟨g9,rfl,hS'⟩;clear hS;have hS:=hS';clear hS';have hH:=hS.at_ (i:=2) rfl;refine ⟨xd3 (xd3 hH),?_⟩;refine n8 (i:=11) (by kernel_rfl) ?_;refine m8 rfl (a0t hS b8 (i:=3) rfl rfl rfl rfl (hS.rowRo 0 rfl) rfl (by simp only [xh1];omega)) rfl ?_;rintro _ w' ⟨p',c',rfl,hS'⟩;simp only [List.set] at hS';clear hS;have hS:=hS';clear hS';have hH:=hS.at_ (i:=2) rfl;refine ⟨xd3 (xd3 hH),?_⟩
 ((with_reducible apply a0Y (nn 12) b8);rfl;kernel_rfl;kernel_rfl;kernel_rfl;rfl;exact (fun _ _ _ h=>h);exact xd3 hH;rfl;rfl)
 ((with_reducible apply a0Y (nn 13) b8);rfl;kernel_rfl;kernel_rfl;kernel_rfl;rfl;exact (fun _ _ _ h=>h);exact xd3 hH;rfl;rfl)
 refine n8 (i:=14) (by kernel_rfl) ?_;refine a0I (Φ:=fun _ w'=>St _ _ w' _) rfl (j9 hS b8 (i:=2) rfl rfl rfl rfl rfl (xg4 rfl) (by intro u hu;simp [Value.cells] at hu;subst hu;rfl)) ?_;intro _ w' hS';simp only [List.set] at hS';clear hS;have hS:=hS';clear hS';refine ⟨xd6 rfl,?_⟩;refine a1e (by kernel_rfl) ?_
 repeat' ((refine yDn (by with_reducible constructor) ?_))
 (focus ((with_reducible apply e6 _ _ _ (by kernel_rfl) (by kernel_rfl) hS);(repeat' (first|(first|(with_reducible apply a12);rfl;rfl;omega;omega;rfl|(with_reducible apply j3 b8);rfl;rfl)|(with_reducible apply b3e b8);rfl;rfl;rfl;omega;omega;rfl));all_goals ((with_reducible apply k8);intro w' hS';clear hS;have hS:=hS';clear hS')))
 repeat' ((refine yDn (by with_reducible constructor) ?_))
 rw [xa9,xh1] at hS;have hf2:=hfin ⟨g,pg,data,p',c',fx++[⟨a.tmod 16,t.take n⟩]⟩ rfl;have hS2:=hS.drop;clear hS;replace hS2:St G w w' (.obj r (.map es c)::bxB ⟨g,pg,data,p',c',fx++[⟨a.tmod 16,t.take n⟩]⟩::bxR ⟨g,pg,data,p',c',fx++[⟨a.tmod 16,t.take n⟩]⟩::bxs (bs'.eraseIdx k)):=by
  unfold bxB bxR;dsimp only [];rw [xe9,xk1];exact hS2
 replace hS2:=hS2.perm ((b5D hk).cons _);exact f8 (d + n,a + n,t.drop (n:Int).toNat,_) (by exact Fr.sub_of rfl) ⟨by show d + n<=8;omega,by show a + n=at_ + ((d + n:Nat):Int);omega,by show t.drop (n:Int).toNat=s.drop (d + n);rw [xa9,ht,xp0],by show d + n=0\/d + n=8\/(at_ + ((d + n:Nat):Int)) % 16=0;omega,hf2⟩ (by simpa only [List.append_nil] using hS2) (by show 8 - (d + n) < 8 - d;omega)
theorem b2w {w:World} {I:Im} {vn vs vy vr:Value} {b0:Int} (hI:ImV w I vn vs vy vr) (hs2:I.segs.all a2N=true) (hch:Ch I.segs) (h0:1<=b0) (h1:b0<=100000) :
  Fn Tryz.prog 94 [.agg (obC ⟨I,vn,vs,vy,vr,b0 * 16⟩).toArray] w (fun v w'=>∃ r es c bs,v=.map (some r)/\MapG (.int .i64) es (bs.map kvB)/\bs.map a2T=a1b b0 I.segs/\St nF w w' (.obj r (.map es c)::bxs bs)):=by
 have bn:=hI.needs.bound;have bs:=hI.segs.bound;have by_:=hI.syms.bound;have br:=hI.rels.bound;obtain ⟨pn,cn,rfl⟩:=hI.needs.len;obtain ⟨ps,cs,rfl⟩:=hI.segs.len;obtain ⟨py,cy,rfl⟩:=hI.syms.len;obtain ⟨pr,cr,rfl⟩:=hI.rels.len;show Fn _ _ [.agg [.string ⟨I.name.toArray⟩,.slice pn I.needs.length cn,.slice ps I.segs.length cs,.slice py I.syms.length cy,.slice pr I.rels.length cr,.int .i64 I.entry,.int .i64 (b0 * 16)].toArray] _ _;refine yEn Tryz.func94 Tryz.ntmps94 (by kernel_rfl) (by kernel_rfl) rfl rfl ?_;have hS:=St.start w
 repeat' (first|(with_reducible apply b9 b8);rfl;rfl;rfl|(with_reducible apply c9);rfl;(apply Ld.sl b8;rfl;exact hS.blkC 1 rfl rfl);rfl|refine yDn (by with_reducible constructor) ?_|(with_reducible apply k9 hS);rfl;rfl;rfl;clear hS;intro g w' hS|(with_reducible apply z8);rfl;exact a7X hS;rintro _ w' ⟨r,rfl,hS'⟩;clear hS;have hS:=hS';clear hS')
 obtain ⟨g1,hg1⟩:∃ g1,g1=g:=⟨_,rfl⟩;rw [<- hg1] at hS |-;clear hg1;refine l4 (Γ:=[]) (X:=Nat×List Bx×Array MapEntry×Nat) (fun x=>[(15,.int .i64 (x.1:Nat))]) [1,3,13,14] rfl (fun x=>.obj r (.map x.2.2.1 x.2.2.2)::.blk g1 [.string ⟨I.name.toArray⟩,.slice pn I.needs.length cn,.slice ps I.segs.length cs,.slice py I.syms.length cy,.slice pr I.rels.length cr,.int .i64 I.entry,.int .i64 (b0 * 16)]::bxs x.2.1) (fun x=>x.1<=I.segs.length/\MapG (.int .i64) x.2.2.1 (x.2.1.map kvB)/\x.2.1.map a2T=a1b b0 (I.segs.take x.1)/\∀ b ∈ x.2.1,∀ s,I.segs[x.1]?=some s->b.pg < b0 + s.pg) (fun x=>I.segs.length - x.1) (0,[],#[],0) (by exact Fr.sub_of rfl) ⟨xi5 _,MapG.nil _,rfl,fun _ h=>nomatch h⟩ hS ?_;clear hS;rintro ⟨j,bs,es,c⟩ w1 ⟨hj,hM,hK,hB⟩ hS;dsimp only [] at hj hM hK hB hS |-;simp only [List.cons_append,List.append_nil] at hS;by_cases hlt:j < I.segs.length;rotate_left
 ·rw [xa0 (by omega)] at hK
  repeat' (first|(with_reducible apply b9 b8);rfl;rfl;rfl|refine yDn (by with_reducible constructor) ?_|(with_reducible apply d7);rfl;all_goals (intro hb hp;try (exfalso;omega)))
  (refine j4 rfl ?_)
  replace hS:=St.reorderT 2 [0] hS (by decide) rfl;simp only [s7,xk3,xk4] at hS;exact ⟨r,es,c,bs,rfl,hM,hK,hS⟩
 obtain ⟨s,hs⟩:=i9 (l:=I.segs) (i:=j) (by omega);have hrow:=d9 (f:=sgC) hs;unfold sgC at hrow;obtain ⟨b,off,rfl,hro⟩:=hI.segs.at_ (i:=j) hlt;obtain ⟨y1,y2,y3,y4,y5⟩:=a7S hs2 hs;obtain ⟨m,hm⟩:∃ m:Nat,(m:Int)=s.n:=⟨s.n.toNat,by omega⟩
 repeat' (first|(with_reducible apply b9 b8);rfl;rfl;rfl|(with_reducible apply c9);rfl;(first|apply Ld.sc b8;rfl;exact hS.blkC 0 rfl rfl|apply Ld.st b8;rfl;exact hS.roR (by assumption) (by assumption);rfl);rfl|(with_reducible apply l8 b8);rfl;rfl;rfl;rfl;omega;rfl|refine yDn (by with_reducible constructor) ?_|(with_reducible apply d6 hS b8);rfl;rfl;rfl;clear hS;intro g w' hS|(with_reducible apply d5 hS b8 (i:=0));(iterate 8 rfl);exact (rfl:_=[_,_,_,_,_]);clear hS;intro w' hS;simp only [List.set] at hS|(with_reducible apply d7);rfl;all_goals (intro hb hp;try (exfalso;omega)))
 rename Nat=>g5
 refine l4 (Γ:=[]) (X:=Nat×List Bx×Array MapEntry×Nat) (fun x=>[(21,.int .i64 (x.1:Nat))]) [1,3,13,14,15,5,20] rfl (fun x=>.blk g5 [.int .i64 s.pg,.int .i64 s.n,.string ⟨s.data.toArray⟩,.bool s.wr,.bool s.ex]::.obj r (.map x.2.2.1 x.2.2.2)::.blk g1 [.string ⟨I.name.toArray⟩,.slice pn I.needs.length cn,.slice (some ⟨b,off,none⟩) I.segs.length cs,.slice py I.syms.length cy,.slice pr I.rels.length cr,.int .i64 I.entry,.int .i64 (b0 * 16)]::bxs x.2.1) (fun x=>x.1<=m/\MapG (.int .i64) x.2.2.1 (x.2.1.map kvB)/\x.2.1.map a2T=a1b b0 (I.segs.take j)++a3t b0 s x.1/\∀ b ∈ x.2.1,b.pg < b0 + s.pg + x.1) (fun x=>m - x.1) (0,bs,es,c) (by exact Fr.sub_of rfl) ⟨xi5 _,hM,by rw [hK];simp [a3t],fun x hx=>by have:=hB x hx s hs;show _ < _ + ((0:Nat):Int);omega⟩ (by simpa only [List.append_nil] using hS) ?_;clear hS hM hK hB;rintro ⟨n,bs,es,c⟩ w2 ⟨hn,hM,hK,hB⟩ hS;dsimp only [] at hn hM hK hB hS |-;simp only [List.cons_append,List.append_nil] at hS;by_cases hnt:n < m;rotate_left
 ·obtain rfl:n=m:=by omega
  repeat' (first|(with_reducible apply b9 b8);rfl;rfl;rfl|(with_reducible apply f9);rfl;rfl;omega;omega;rfl|refine yDn (by with_reducible constructor) ?_|(with_reducible apply d7);rfl;all_goals (intro hb hp;try (exfalso;omega)))
  replace hS:=St.reorderT 3 [1,2] hS (by decide) rfl;simp only [s7,xk3,xk4] at hS;refine f8 (j + 1,bs,es,c) (by exact Fr.sub_of rfl) ⟨by show j + 1<=_;omega,hM,?_,?_⟩ (by simpa only [List.append_nil] using hS) (by show _ - (j + 1) < _ - j;omega)
  ·show bs.map a2T=a1b b0 (I.segs.take (j + 1));rw [a7O hs,hK,show s.n.toNat=n by omega]
  ·intro x hx s' hs';have h2:=hB x hx;have h3:=hch j s s' hs hs';show x.pg < b0 + s'.pg;omega
 have hno:∀ v,(Value.int .i64 (b0 + s.pg + n),v) ∉ bs.map kvB:=fun v hv=>by
  obtain ⟨x,hx,e⟩:=xh0.1 hv;have h2:=hB x hx;unfold kvB at e;simp only [Prod.mk.injEq,Value.int.injEq] at e;omega
 have hquo:(b0 * 16).tdiv 16=b0:=Int.mul_tdiv_cancel _ (by omega);rw [<- hquo] at hno;have fin:∀ (w':World) (g7:Nat),St nF w w' (.row 5 1 (.slice (some ⟨g7,0,none⟩) 16 16) (bR (a19 s.data n))::.blk g5 [.int .i64 s.pg,.int .i64 s.n,.string ⟨s.data.toArray⟩,.bool s.wr,.bool s.ex]::.obj r (.map es c)::.blk g1 [.string ⟨I.name.toArray⟩,.slice pn I.needs.length cn,.slice (some ⟨b,off,none⟩) I.segs.length cs,.slice py I.syms.length cy,.slice pr I.rels.length cr,.int .i64 I.entry,.int .i64 (b0 * 16)]::bxs bs)->∀ (g9:Nat) (w9:World) (es':Array MapEntry) (c':Nat),St nF w w9 (.blk g9 [.int .i64 ((b0 * 16).tdiv 16 + s.pg + n),.string ⟨(a19 s.data n).toArray⟩,.slice none 0 0]::.row 5 1 (.slice (some ⟨g7,0,none⟩) 16 16) (bR (a19 s.data n))::.blk g5 [.int .i64 s.pg,.int .i64 s.n,.string ⟨s.data.toArray⟩,.bool s.wr,.bool s.ex]::.obj r (.map es' c')::.blk g1 [.string ⟨I.name.toArray⟩,.slice pn I.needs.length cn,.slice (some ⟨b,off,none⟩) I.segs.length cs,.slice py I.syms.length cy,.slice pr I.rels.length cr,.int .i64 I.entry,.int .i64 (b0 * 16)]::bxs bs)->MapG (.int .i64) es' (bs.map kvB++[(.int .i64 ((b0 * 16).tdiv 16 + s.pg + n),.pointer (some ⟨g9,0,none⟩))])->∃ bx:Bx,St nF w w9 (.blk g5 [.int .i64 s.pg,.int .i64 s.n,.string ⟨s.data.toArray⟩,.bool s.wr,.bool s.ex]::.obj r (.map es' c')::.blk g1 [.string ⟨I.name.toArray⟩,.slice pn I.needs.length cn,.slice (some ⟨b,off,none⟩) I.segs.length cs,.slice py I.syms.length cy,.slice pr I.rels.length cr,.int .i64 I.entry,.int .i64 (b0 * 16)]::bxs (bs++[bx]))/\MapG (.int .i64) es' ((bs++[bx]).map kvB)/\(bs++[bx]).map a2T=a1b b0 (I.segs.take j)++a3t b0 s (n + 1)/\∀ b ∈ bs++[bx],b.pg < b0 + s.pg + ((n + 1:Nat):Int):=by
  intro w' g7 _ g9 w9 es' c' hS hM';rw [hquo] at hS hM';refine ⟨⟨g9,b0 + s.pg + n,a19 s.data n,none,0,[]⟩,?_,?_,?_,?_⟩
  ·replace hS:=hS.addNil 96 2;replace hS:=St.reorderT 6 [3,4,5,1,0] hS (by decide) rfl;simp only [s7,xk3,xk4] at hS;exact hS.perm ((((b3M ⟨g9,b0 + s.pg + n,a19 s.data n,none,0,[]⟩ bs).cons _).cons _).cons _)
  ·rw [xk1];exact hM'
  ·rw [xk1,hK,b3w,xg2];rfl
  ·intro x hx;rcases xe3.1 hx with h|h
   ·have:=hB x h;omega
   ·have:x.pg=b0 + s.pg + n:=by simp only [xn1] at h;rw [h]
    omega
 by_cases hfr:(n:Int) * 16 < s.data.length
 ·repeat' (first|(with_reducible apply b9 b8);rfl;rfl;rfl|(with_reducible apply c9);rfl;(apply Ld.sc b8;rfl;(first|exact hS.blkC 1 rfl rfl|exact hS.blkC 3 rfl rfl));rfl|(with_reducible apply f9);rfl;rfl;omega;omega;rfl|(with_reducible apply b1Q);rfl;rfl;omega;omega;rfl|refine yDn (by with_reducible constructor) ?_|(with_reducible apply d7);rfl;all_goals (intro hb hp;try (exfalso;omega))|(with_reducible apply a7l hS b8 (m:=16));(iterate 5 rfl);omega;omega;rfl;rfl;intro g7 w' hS';clear hS;have hS:=hS';clear hS'|(with_reducible apply a8p b8);rfl;rfl;rfl;omega;omega;rfl|(with_reducible apply z8);rfl;exact b6z hS b8 (i:=0) (old:=List.replicate 16 0) rfl rfl rfl rfl;rintro _ w' ⟨rfl,hS'⟩;simp only [List.set] at hS';clear hS;have hS:=hS';clear hS'|(with_reducible apply a0q);rfl;rfl;omega;omega;omega;rfl)
  have hd:List.take 16 (List.drop ((n:Int) * 16).toNat s.data)++List.drop (List.take 16 (List.drop ((n:Int) * 16).toNat s.data)).length (List.replicate 16 0)=a19 s.data n:=by
   unfold a19;rw [show ((n:Int) * 16).toNat=n * 16 by omega,List.drop_replicate]
  rw [hd] at hS;have hf:=fin _ _ hS;clear fin
  repeat' (first|(with_reducible apply l6 b8);rfl;rfl;exact (rfl:_=some [_,_,_]);rfl|(with_reducible apply k9 hS);rfl;rfl;rfl;clear hS;intro g w' hS|(with_reducible apply b1H hS b8 0);(iterate 5 rfl);(rw [a6V];omega);rfl)
  refine a2j (a8K hS (i:=3) a39 a8v rfl rfl rfl rfl hM (k:=.int .i64 ((b0 * 16).tdiv 16 + s.pg + n)) rfl hno) ?_;rintro - w9 ⟨es',c',hM',hS'⟩;simp only [List.set] at hS';obtain ⟨bx,hS2,hM2,hK2,hB2⟩:=hf _ w9 es' c' hS' hM';clear hf hS hS' hM';have hS:=hS2
  repeat' (first|(with_reducible apply b9 b8);rfl;rfl;rfl|(with_reducible apply f9);rfl;rfl;omega;omega;rfl|refine yDn (by with_reducible constructor) ?_)
  exact f8 (n + 1,bs++[bx],es',c') (by exact Fr.sub_of rfl) ⟨by show n + 1<=m;omega,hM2,hK2,hB2⟩ (by simpa only [List.append_nil] using hS) (by show m - (n + 1) < m - n;omega)
 ·repeat' (first|(with_reducible apply b9 b8);rfl;rfl;rfl|(with_reducible apply c9);rfl;(apply Ld.sc b8;rfl;(first|exact hS.blkC 1 rfl rfl|exact hS.blkC 3 rfl rfl));rfl|(with_reducible apply f9);rfl;rfl;omega;omega;rfl|(with_reducible apply b1Q);rfl;rfl;omega;omega;rfl|refine yDn (by with_reducible constructor) ?_|(with_reducible apply d7);rfl;all_goals (intro hb hp;try (exfalso;omega))|(with_reducible apply a7l hS b8 (m:=16));(iterate 5 rfl);omega;omega;rfl;rfl;intro g7 w' hS';clear hS;have hS:=hS';clear hS'|(with_reducible apply a0q);rfl;rfl;omega;omega;omega;rfl)
  have hd:List.replicate 16 [Value.int .u8 0]=bR (a19 s.data n):=by
   unfold a19;rw [xn8 (by omega)];rfl
  rw [hd] at hS;have hf:=fin _ _ hS;clear fin
  repeat' (first|(with_reducible apply l6 b8);rfl;rfl;exact (rfl:_=some [_,_,_]);rfl|(with_reducible apply k9 hS);rfl;rfl;rfl;clear hS;intro g w' hS|(with_reducible apply b1H hS b8 0);(iterate 5 rfl);(rw [a6V];omega);rfl)
  refine a2j (a8K hS (i:=3) a39 a8v rfl rfl rfl rfl hM (k:=.int .i64 ((b0 * 16).tdiv 16 + s.pg + n)) rfl hno) ?_;rintro - w9 ⟨es',c',hM',hS'⟩;simp only [List.set] at hS';obtain ⟨bx,hS2,hM2,hK2,hB2⟩:=hf _ w9 es' c' hS' hM';clear hf hS hS' hM';have hS:=hS2
  repeat' (first|(with_reducible apply b9 b8);rfl;rfl;rfl|(with_reducible apply f9);rfl;rfl;omega;omega;rfl|refine yDn (by with_reducible constructor) ?_)
  exact f8 (n + 1,bs++[bx],es',c') (by exact Fr.sub_of rfl) ⟨by show n + 1<=m;omega,hM2,hK2,hB2⟩ (by simpa only [List.append_nil] using hS) (by show m - (n + 1) < m - n;omega)
end Go.Proofs.YtejnpppejalhfabGreat
