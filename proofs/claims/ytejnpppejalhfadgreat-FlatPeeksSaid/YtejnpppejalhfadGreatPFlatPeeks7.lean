/- Texts that the proof stands on, one behind the other: PlImg, PlLnk, PlArea, Hold, PlArea2, Ar1, Ar2, Ar3, Ar4, Ar7, Ar8, Ar9, Ar10, Ar17, Go, As1, As2, Ar19, Ar20, Ar21, Ar22, Ar23, Ar5. -/
import Derived.Handy
import Derived.Test.YtejnpppejalhfadGreatProg
import Derived.Lib.QuietBelow
import Derived.BigQuiet
import Derived.Deep.QuietTactic
import Derived.WalkSpells
import Derived.Deep.DeepAppendWide
import Derived.Laws.OwnMore
import Derived.Laws.Cover2
import Derived.Maps.AppendAt
import Derived.Deep.RegionWith
import Derived.Deep.DeepCutAuto
import Derived.Lib.AppendZerosOnto
import Derived.Lib.Walk
import Derived.Test.YtejnpppejalhfadGreatPFlatPeeks6
set_option linter.unusedVariables false
set_option linter.unusedSimpArgs false
namespace Go.Proofs.YtejnpppejalhfadGreat
set_option maxRecDepth 100000
set_option maxHeartbeats 8000000
open Go.RowKit Go.Sort
structure Sg where
 pg:Int
 n:Int
 data:List UInt8
 wr:Bool
 ex:Bool
 deriving DecidableEq
structure Sy where
 name:List UInt8
 at_:Int
 deriving DecidableEq
structure Rl where
 at_:Int
 name:List UInt8
 add:Int
 deriving DecidableEq
structure Im where
 name:List UInt8
 needs:List (List UInt8)
 segs:List Sg
 syms:List Sy
 rels:List Rl
 entry:Int
 deriving DecidableEq
def stC (l:List UInt8):List Value:=[.string ⟨l.toArray⟩]
def sgC (s:Sg):List Value:=[.int .i64 s.pg,.int .i64 s.n,.string ⟨s.data.toArray⟩,.bool s.wr,.bool s.ex]
def syC (s:Sy):List Value:=[.string ⟨s.name.toArray⟩,.int .i64 s.at_]
def rlC (s:Rl):List Value:=[.int .i64 s.at_,.string ⟨s.name.toArray⟩,.int .i64 s.add]
def okB (b:UInt8):Bool:=decide ((97<=(b.toNat:Int)/\(b.toNat:Int)<=122)\/(48<=(b.toNat:Int)/\(b.toNat:Int)<=57)\/(b.toNat:Int)=95)
def nmB (l:List UInt8):Bool:=decide (1<=(l.length:Int)/\(l.length:Int)<=12) && l.all okB
structure ImV (w:World) (I:Im) (vn vs vy vr:Value):Prop where
 needs:Sl nF w 1 vn (I.needs.map stC)
 segs:Sl nF w 5 vs (I.segs.map sgC)
 syms:Sl nF w 2 vy (I.syms.map syC)
 rels:Sl nF w 3 vr (I.rels.map rlC)
theorem Sl.len {w:World} {sz:Nat} {α:Type} {f:α->List Value} {l:List α} {v:Value} (h:Sl nF w sz v (l.map f)):∃ p c,v=.slice p l.length c:=by
 obtain ⟨p,c,hv⟩:=h.form;rw [xg5] at hv;exact ⟨p,c,hv⟩
theorem ImV.now {w w':World} {Γ:List Asr} {I:Im} {vn vs vy vr:Value} (h:ImV w I vn vs vy vr) (hS:St nF w w' Γ):ImV w' I vn vs vy vr:=⟨h.needs.now hS,h.segs.now hS,h.syms.now hS,h.rels.now hS⟩
theorem Sl.bound {w:World} {sz:Nat} {α:Type} {f:α->List Value} {l:List α} {v:Value} (h:Sl nF w sz v (l.map f)):(l.length:Int)<=9223372036854775807:=by
 rcases h with ⟨p,c,h1,h2⟩|⟨b,off,cap,h1,h2,h3,_⟩
 ·have:=congrArg List.length h2;rw [xg5,xa2] at this;omega
 ·rw [xg5] at h2;unfold maxLen at h3;omega
theorem j3 {α β:Type} {f:α->β} {l:List α} {i:Nat} {x:α} (h:l[i]?=some x):(l.map f)[i]?=some (f x):=by rw [xf7,h];rfl
theorem Sl.at_ {w:World} {sz:Nat} {α:Type} {f:α->List Value} {l:List α} {p:Option Addr} {n c i:Nat} (h:Sl nF w sz (.slice p n c) (l.map f)) (hi:i < l.length):∃ b off,p=some ⟨b,off,none⟩/\RoAt nF w b off sz (l.map f):=by
 rcases h.parts.2 with h2|⟨b,off,rfl,_,_,hro⟩
 ·have:=congrArg List.length h2;rw [xg5,xa2] at this;omega
 ·exact ⟨b,off,rfl,hro⟩
def b1O (I:Im):Bool:=nmB I.name && (I.needs.all nmB && (I.syms.all (fun s=>nmB s.name) && I.rels.all (fun r=>decide (r.name=[])||nmB r.name)))
def b1T (I:Im):Bool:=decide (1<=(I.segs.length:Int)/\(I.segs.length:Int)<=6/\(I.needs.length:Int)<=4/\(I.syms.length:Int)<=12/\(I.rels.length:Int)<=16)
def a9X (s:Sg):Bool:=decide (0<=s.pg/\s.pg<=255/\1<=s.n/\s.n<=255 - s.pg/\(s.data.length:Int)<=s.n * 16)
def b1E (I:Im):Bool:=I.segs.all a9X
noncomputable def pB (p:Prop):Bool:=@decide p (Classical.propDecidable p)
def Ch (l:List Sg):Prop:=∀ (j:Nat) (a b:Sg),l[j]?=some a->l[j + 1]?=some b->a.pg + a.n<=b.pg
def Dup (l:List (List UInt8)):Prop:=∃ (i j:Nat) (x:List UInt8),j < i/\l[i]?=some x/\l[j]?=some x
def b1V (x:Int) (s:Sg):Bool:=decide (s.pg * 16<=x/\x < (s.pg + s.n) * 16)
def own (l:List Sg) (x:Int):Option Sg:=l.find? (b1V x)
structure Plc (I:Im):Prop where
 syms:∀ s ∈ I.syms,(own I.segs s.at_).isSome=true
 rels:∀ (k:Nat) (r:Rl),I.rels[k]?=some r->(0<=r.at_/\r.at_<=4080)/\∀ b:Int,0<=b->b < 8->(own I.segs (r.at_ + b)).isSome=true
 step:∀ (k:Nat) (q r:Rl),I.rels[k]?=some q->I.rels[k + 1]?=some r->q.at_ + 8<=r.at_
 entry:∃ s,own I.segs I.entry=some s/\s.ex=true
 by8:I.entry.tmod 8=0
noncomputable def b1Z (I:Im):Bool:=pB (Ch I.segs/\¬ Dup (I.syms.map (·.name))/\¬ Dup I.needs)
noncomputable def b1F (I:Im):Bool:=pB (Plc I)
noncomputable def a8v (I:Im):Int:=if b1O I=false then 4 else if b1T I=false then 2 else if b1E I=false then 3 else if b1Z I=false then 5 else if b1F I=false then 6 else 0
structure Fx where
 off:Int
 bytes:List UInt8
 deriving DecidableEq
structure Sh where
 page:Int
 data:List UInt8
 fixes:List Fx
 deriving DecidableEq
def fxC (f:Fx):List Value:=[.int .i64 f.off,.string ⟨f.bytes.toArray⟩]
def shC (s:Sh) (u:Value):List Value:=[.int .i64 s.page,.string ⟨s.data.toArray⟩,u]
abbrev ShV (w:World) (s:Sh) (u:Value):Prop:=Sl nF w 2 u (s.fixes.map fxC)
def b1w (free:Int) (f:Fx):Bool:=decide (free<=f.off/\f.off<=16/\f.bytes≠[]/\(f.bytes.length:Int)<=16 - f.off)
def b1g (f:Fx):Int:=f.off + f.bytes.length
def b07:Int->List Fx->Bool
 |_,[]=>true
 |free,f::r=>b1w free f && b07 (b1g f) r
def a98 (s:Sh):Bool:=decide ((1<=s.page/\s.page<=255)/\s.data.length=16) && b07 0 s.fixes
def b05 (d:List UInt8) (l:List Fx):List UInt8:=l.foldl (fun d f=>splice d f.off.toNat f.bytes) d
def b0W (s:Sh):List UInt8:=b05 s.data s.fixes
end Go.Proofs.YtejnpppejalhfadGreat
namespace Go.Proofs.YtejnpppejalhfadGreat
set_option maxRecDepth 100000
set_option maxHeartbeats 8000000
structure Ar where
 pg:Int
 n:Int
 prot:Int
 z:Bool
deriving DecidableEq
namespace Ar
def fin (a:Ar):Int:=a.pg + a.n
def mk' (a:Ar):Int:=1 + 2 * a.prot + (if a.z then 8 else 0)
def ok (a:Ar):Prop:=1<=a.pg/\a.pg<=255/\1<=a.n/\a.n<=256 - a.pg/\0<=a.prot/\a.prot<=3
def alike (a b:Ar):Prop:=a.fin=b.pg/\a.prot=b.prot/\a.z=b.z
end Ar
instance (a b:Ar):Decidable (a.alike b):=by unfold Ar.alike;infer_instance
instance (a:Ar):Decidable a.ok:=by unfold Ar.ok;infer_instance
def i9:Int->List Ar->Prop
 |_,[]=>True
 |e,a::l=>a.ok/\e<=a.pg/\i9 a.fin l
def a0p:List Ar->Prop
 |[]=>True
 |[_]=>True
 |a::b::l=>¬ a.alike b/\a0p (b::l)
def a07 (l:List Ar):Prop:=i9 1 l/\a0p l
def d6:List Ar->Int->Int
 |[],_=>0
 |a::l,p=>if a.pg<=p/\p < a.fin then a.mk' else d6 l p
def t5:List Ar->List Ar
 |[]=>[]
 |[a]=>[{ a with n:=a.n + 1 }]
 |a::l=>a::t5 l
def y9 (b:Int->Int) (out:List Ar) (p:Int):List Ar :=
 if b p=0 then out else if b (p - 1)=b p then t5 out else out++[⟨p,1,(b p - 1) % 8 / 2,decide (8<=b p - 1)⟩]
def l0 (b:Int->Int):Nat->List Ar
 |0=>[]
 |k + 1=>y9 b (l0 b k) (k + 1)
def r8:List Ar->Int->List Ar
 |[],_=>[]
 |a::l,k=>if k < a.pg then [] else if a.fin<=k + 1 then a::r8 l k else [{ a with n:=k + 1 - a.pg }]
theorem m6 {l:List Ar}:∀ {e p:Int},i9 e l->p < e->d6 l p=0:=by
 induction l with
 |nil=>intros;rfl
 |cons a l ih=>
  intro e p h hp;obtain ⟨h1,h2,h3⟩:=h;unfold d6;rw [xd7 (by omega)];exact ih h3 (by unfold Ar.fin;unfold Ar.ok at h1;omega)
theorem b0i {a:Ar} (h:a.ok):1<=a.mk':=by
 unfold Ar.ok at h;unfold Ar.mk';split <;> omega
theorem a3v {a:Ar} (h:a.ok):(a.mk' - 1) % 8 / 2=a.prot:=by
 unfold Ar.ok at h;unfold Ar.mk';split <;> omega
theorem a9V {a:Ar} (h:a.ok):decide (8<=a.mk' - 1)=a.z:=by
 unfold Ar.ok at h;unfold Ar.mk';cases a.z <;> simp <;> omega
theorem b0s {a b:Ar} (ha:a.ok) (hb:b.ok) (h:a.mk'=b.mk'):a.prot=b.prot/\a.z=b.z:=by
 refine ⟨?_,?_⟩
 ·rw [<- a3v ha,<- a3v hb,h]
 ·rw [<- a9V ha,<- a9V hb,h]
theorem a02 {l:List Ar}:∀ {e k:Int},i9 e l->k < e->r8 l k=[]:=by
 cases l with
 |nil=>intros;rfl
 |cons a l=>intro e k h hk;unfold r8;rw [xd6 (by have:=h.2.1;omega)]
theorem a0T (a:Ar) {l:List Ar} (h:l≠[]):t5 (a::l)=a::t5 l:=by
 cases l with
 |nil=>exact absurd rfl h
 |cons b l=>rfl
theorem o8 {a:Ar} {l:List Ar} {p:Int} (h:a.pg<=p/\p < a.fin):d6 (a::l) p=a.mk':=by
 simp only [d6];rw [xd6 h]
theorem l4 {a:Ar} {l:List Ar} {p:Int} (h:¬ (a.pg<=p/\p < a.fin)):d6 (a::l) p=d6 l p:=by
 simp only [d6];rw [xd7 h]
theorem a4P {l:List Ar}:∀ {e p:Int},i9 e l->a0p l->1<=e->e<=p->r8 l p=y9 (d6 l) (r8 l (p - 1)) p:=by
 induction l with
 |nil=>intro e p _ _ _ _;simp [r8,y9,d6]
 |cons a l ih=>
  intro e p h ha he hp;obtain ⟨h1,h2,h3⟩:=h;have hpos:=b0i h1;have hok:=h1;unfold Ar.ok at hok;by_cases c1:p < a.pg
  ·-- ahead of a
   unfold y9;rw [l4 (by omega),m6 h3 (by unfold Ar.fin;omega),xd6 rfl];simp only [r8];rw [xd6 c1,xd6 (by omega)]
  by_cases c2:p=a.pg
  ·-- a begins
   unfold y9;rw [o8 (by unfold Ar.fin;omega),xd7 (by omega),l4 (by omega),m6 h3 (by unfold Ar.fin;omega),xd7 (by omega),a3v h1,a9V h1];simp only [r8];rw [xd7 c1,xd6 (show p - 1 < a.pg by omega)];subst c2;by_cases c3:a.fin<=a.pg + 1
   ·rw [xd6 c3,a02 h3 (by unfold Ar.fin;omega)];have:a.n=1:=by unfold Ar.fin at c3;omega
    cases a;simp_all
   ·rw [xd7 c3];simp only [List.nil_append];rw [show a.pg + 1 - a.pg=1 by omega]
  by_cases c3:p < a.fin
  ·-- within a
   unfold y9;rw [o8 (by omega),xd7 (by omega),o8 (by omega),xd6 rfl];simp only [r8];rw [xd7 c1,xd7 (show ¬ p - 1 < a.pg by omega),xd7 (show ¬ a.fin<=p - 1 + 1 by omega)];unfold t5;by_cases c4:a.fin<=p + 1
   ·rw [xd6 c4,a02 h3 (show p < a.fin by omega)];have:a.n=p + 1 - a.pg:=by unfold Ar.fin at *;omega
    simp only;rw [show p - 1 + 1 - a.pg + 1=a.n by omega]
   ·rw [xd7 c4];simp only;rw [show p - 1 + 1 - a.pg + 1=p + 1 - a.pg by omega]
  ·-- behind a
   have hl:a0p l:=by cases l with
    |nil=>trivial
    |cons b l=>exact ha.2
   have s:=ih h3 hl (by unfold Ar.fin;omega) (show a.fin<=p by omega);have e1:r8 (a::l) p=a::r8 l p:=by simp only [r8];rw [xd7 c1,xd6 (by omega)]
   have e2:r8 (a::l) (p - 1)=a::r8 l (p - 1):=by simp only [r8];rw [xd7 (by omega),xd6 (by omega)]
   rw [e1,e2,s];unfold y9;rw [l4 (by omega)];by_cases c4:d6 l p=0
   ·rw [xd6 c4,xd6 c4]
   rw [xd7 c4,xd7 c4];by_cases c5:a.fin<=p - 1
   ·rw [l4 (by omega)];by_cases c6:d6 l (p - 1)=d6 l p
    ·rw [xd6 c6,xd6 c6,a0T];intro hn
     cases l with
     |nil=>exact c4 rfl
     |cons b l=>
      simp only [r8] at hn;by_cases c7:p - 1 < b.pg
      ·have hb:=h3;have:d6 (b::l) (p - 1)=0:=by
        rw [l4 (by omega),m6 hb.2.2 (by unfold Ar.fin;have:=hb.1;unfold Ar.ok at this;omega)]
       omega
      ·rw [xd7 c7] at hn
       split at hn <;> exact List.cons_ne_nil _ _ hn
    ·rw [xd7 c6,xd7 c6];rfl
   ·-- just behind a
    have c6:p=a.fin:=by omega
    rw [o8 (by omega),m6 h3 (show p - 1 < a.fin by omega),xd7 (by omega),xd7 ?_]
    ·rfl
    ·intro hm
     cases l with
     |nil=>exact c4 rfl
     |cons b l=>
      obtain ⟨g1,g2,g3⟩:=h3;by_cases c7:p < b.pg
      ·exact c4 (by rw [l4 (by omega),m6 g3 (by unfold Ar.fin;unfold Ar.ok at g1;omega)])
      ·have c8:b.pg=p:=by omega
       rw [o8 (by unfold Ar.fin;unfold Ar.ok at g1;omega)] at hm;obtain ⟨q1,q2⟩:=b0s h1 g1 hm;exact ha.1 ⟨by omega,q1,q2⟩
theorem a34 {l:List Ar} (h:a07 l) (k:Nat):l0 (d6 l) k=r8 l k:=by
 induction k with
 |zero=>rw [show ((0:Nat):Int)=0 from rfl,a02 h.1 (by omega)];rfl
 |succ k ih=>
  unfold l0;rw [ih];have:=a4P (p:=(k:Int) + 1) h.1 h.2 (by omega) (by omega);rw [show (k:Int) + 1 - 1=k by omega] at this;rw [<- this];rfl
theorem a5X {l:List Ar}:∀ {e:Int},i9 e l->r8 l 255=l:=by
 induction l with
 |nil=>intros;rfl
 |cons a l ih=>
  intro e h;obtain ⟨h1,h2,h3⟩:=h;have hok:=h1;unfold Ar.ok at hok;simp only [r8];rw [xd7 (by omega),xd6 (by unfold Ar.fin;omega),ih h3]
theorem a0y {l:List Ar} (h:a07 l):l0 (d6 l) 255=l:=by
 rw [a34 h];exact a5X h.1
def a09 (l:List Ar) (i:Nat):Prop:=∃ a,l[i]?=some a/\a.ok/\∀ j b,i=j + 1->l[j]?=some b->b.fin<=a.pg/\¬ b.alike a
theorem a2M {a b:Ar} {l:List Ar} {i:Nat}:a09 (a::b::l) (i + 2) ↔ a09 (b::l) (i + 1):=by
 unfold a09;constructor
 ·rintro ⟨c,h1,h2,h3⟩;exact ⟨c,h1,h2,fun j d hj hd=>h3 (j + 1) d (by omega) (by simpa using hd)⟩
 ·rintro ⟨c,h1,h2,h3⟩;refine ⟨c,h1,h2,fun j d hj hd=>?_⟩
  cases j with
  |zero=>omega
  |succ j=>exact h3 j d (by omega) (by simpa using hd)
theorem a4r {l:List Ar} {e e':Int} (h:i9 e l) (he:e'<=e):i9 e' l:=by
 cases l with
 |nil=>trivial
 |cons a l=>exact ⟨h.1,by have:=h.2.1;omega,h.2.2⟩
theorem a0C (l:List Ar):a07 l ↔ ∀ i,i < l.length->a09 l i:=by
 unfold a07
 induction l with
 |nil=>exact ⟨fun _ i hi=>by simp at hi,fun _=>⟨trivial,trivial⟩⟩
 |cons a l ih=>
  cases l with
  |nil=>
   constructor
   ·rintro ⟨⟨h1,h2,_⟩,_⟩ i hi;have:i=0:=by simpa using hi
    subst this;exact ⟨a,rfl,h1,fun j b hj=>by omega⟩
   ·intro h;obtain ⟨c,hc,h1,_⟩:=h 0 (by simp);simp at hc;subst hc;exact ⟨⟨h1,by unfold Ar.ok at h1;omega,trivial⟩,trivial⟩
  |cons b l=>
   constructor
   ·rintro ⟨⟨h1,h2,h3⟩,h4,h5⟩ i hi;have hb:a07 (b::l):=⟨a4r h3 (by unfold Ar.fin;unfold Ar.ok at h1;omega),h5⟩
    match i with
    |0=>exact ⟨a,rfl,h1,fun j b hj=>by omega⟩
    |1=>
     obtain ⟨c,hc,g1,_⟩:=ih.1 hb 0 (by simp);simp at hc;subst hc;refine ⟨b,rfl,g1,fun j d hj hd=>?_⟩;obtain rfl:j=0:=by omega
     simp at hd;subst hd;exact ⟨h3.2.1,h4⟩
    |i + 2=>exact a2M.2 (ih.1 hb (i + 1) (by simpa using hi))
   ·intro h;have hb:i9 1 (b::l)/\a0p (b::l):=ih.2 fun i hi=>by
     cases i with
     |zero=>
      obtain ⟨c,hc,g1,_⟩:=h 1 (by simp);exact ⟨c,by simpa using hc,g1,fun j d hj=>by omega⟩
     |succ i=>exact a2M.1 (h (i + 2) (by simpa using hi))
    obtain ⟨c,hc,g1,_⟩:=h 0 (by simp);simp at hc;subst hc;obtain ⟨d,hd,g2,g3⟩:=h 1 (by simp);simp at hd;subst hd;obtain ⟨g4,g5⟩:=g3 0 a rfl rfl;exact ⟨⟨g1,by unfold Ar.ok at g1;omega,⟨hb.1.1,g4,hb.1.2.2⟩⟩,g5,hb.2⟩
instance (l:List Ar):Decidable (a07 l):=decidable_of_iff (∀ i:Fin l.length,l[i].ok/\∀ h:0 < i.1,l[i.1 - 1].fin<=l[i].pg/\¬ l[i.1 - 1].alike l[i]) (by
 rw [a0C];constructor
 ·intro h i hi;obtain ⟨h1,h2⟩:=h ⟨i,hi⟩;refine ⟨l[i],by simp [hi],h1,fun j b hj hb=>?_⟩;subst hj;obtain ⟨_,rfl⟩:=xa5.1 hb;exact h2 (by simp)
 ·intro h i;obtain ⟨a,ha,h1,h2⟩:=h i.1 i.2;obtain ⟨_,rfl⟩:=xa5.1 ha;refine ⟨h1,fun h0=>?_⟩;exact h2 (i.1 - 1) _ (by omega) (xa5.2 ⟨by omega,rfl⟩))
def b4 (l:List Ar):Int:=if 255 < l.length then 2 else if a07 l then 0 else 1
def a5G (n:Int):Prop:=n=0\/(1<=n/\n<=16/\n % 2=1)
theorem a9m {a:Ar} (h:a.ok):a5G a.mk':=by
 right;unfold Ar.ok at h;unfold Ar.mk';split <;> omega
theorem a01 {l:List Ar}:∀ {e:Int} (p:Int),i9 e l->a5G (d6 l p):=by
 induction l with
 |nil=>intros;exact xc6 rfl
 |cons a l ih=>
  intro e p h;unfold d6
  split
  ·exact a9m h.1
  ·exact ih p h.2.2
def b0u (b:Int->Int) (k:Int) (l:List Ar):Prop:=∀ a,l.getLast?=some a->a.fin<=k + 1/\(a.fin=k + 1->b k≠0/\a.prot=(b k - 1) % 8 / 2/\a.z=decide (8<=b k - 1)) 
theorem a4l {l:List Ar} {a:Ar} (h:a0p l) (hl:∀ b,l.getLast?=some b->¬ b.alike a):a0p (l++[a]):=by
 induction l with
 |nil=>trivial
 |cons c l ih=>
  cases l with
  |nil=>exact ⟨hl c rfl,trivial⟩
  |cons d l=>exact ⟨h.1,ih h.2 (fun b hb=>hl b (by simpa using hb))⟩
theorem z3 (l:List Ar) (a:Ar):t5 (l++[a])=l++[{ a with n:=a.n + 1 }]:=by
 induction l with
 |nil=>rfl
 |cons c l ih=>rw [List.cons_append,a0T c (by simp),ih];rfl
theorem a4E {l:List Ar} {a a':Ar} (h:a0p (l++[a])) (h1:a'.pg=a.pg) (h2:a'.prot=a.prot) (h3:a'.z=a.z):a0p (l++[a']):=by
 induction l with
 |nil=>trivial
 |cons c l ih=>
  cases l with
  |nil=>
   refine ⟨fun hc=>h.1 ?_,trivial⟩;unfold Ar.alike at *;rw [h1,h2,h3] at hc;exact hc
  |cons d l=>exact ⟨h.1,ih h.2⟩
theorem a1I (b:Int->Int) (hm:∀ p,a5G (b p)) (h0:b 0=0) (k:Nat):a0p (l0 b k)/\b0u b k (l0 b k)/\(b k≠0->∃ l a,l0 b k=l++[a]/\a.fin=(k:Int) + 1):=by
 induction k with
 |zero=>exact ⟨trivial,fun a ha=>by simp [l0] at ha,fun h=>absurd h0 h⟩
 |succ k ih=>
  obtain ⟨h1,h2,h3⟩:=ih;unfold l0 y9;rw [show (k:Int) + 1 - 1=k by omega,show ((k + 1:Nat):Int)=(k:Int) + 1 by omega];by_cases c1:b ((k:Int) + 1)=0
  ·rw [xd6 c1];refine ⟨h1,fun a ha=>?_,fun h=>absurd c1 h⟩;obtain ⟨g1,_⟩:=h2 a ha;exact ⟨by omega,fun g=>by omega⟩
  rw [xd7 c1];by_cases c2:b (k:Int)=b ((k:Int) + 1)
  ·rw [xd6 c2];obtain ⟨l,a,hla,hfin⟩:=h3 (by omega);rw [hla,z3];rw [hla] at h1 h2;obtain ⟨_,g2⟩:=h2 a (by simp);obtain ⟨_,g3,g4⟩:=g2 hfin;refine ⟨a4E h1 rfl rfl rfl,fun a' ha'=>?_,fun _=>⟨l,_,rfl,?_⟩⟩
   ·simp at ha';subst ha';rw [<- c2];exact ⟨by unfold Ar.fin at *;simp only;omega,fun _=>⟨by omega,g3,g4⟩⟩
   ·unfold Ar.fin at *;simp only;omega
  ·rw [xd7 c2];refine ⟨a4l h1 fun c hc hal=>?_,fun a' ha'=>?_,fun _=>⟨_,_,rfl,?_⟩⟩
   ·obtain ⟨g1,g2⟩:=h2 c hc;unfold Ar.alike at hal;simp only at hal;obtain ⟨q1,q2,q3⟩:=hal;obtain ⟨q4,q5,q6⟩:=g2 q1;rw [q5] at q2;rw [q6] at q3;have m1:=hm k;have m2:=hm (k + 1);unfold a5G at m1 m2;have q3':(8<=b k - 1) ↔ (8<=b (k + 1) - 1):=by simpa using q3
    omega
   ·simp at ha';subst ha';exact ⟨by unfold Ar.fin;simp only;omega,fun _=>⟨c1,rfl,rfl⟩⟩
   ·unfold Ar.fin;simp only
theorem a1D {l:List Ar} (h:i9 1 l):l0 (d6 l) 255=l ↔ a0p l:=by
 constructor
 ·intro e;have:=(a1I (d6 l) (fun p=>a01 p h) (m6 h (by omega)) 255).1
  rwa [e] at this
 ·intro ha;exact a0y ⟨h,ha⟩
end Go.Proofs.YtejnpppejalhfadGreat
namespace Go.Proofs.YtejnpppejalhfadGreat
set_option maxRecDepth 100000
set_option maxHeartbeats 8000000
open Go.RowKit Go.Sort
section
variable {P:Program} {w:World} {ops:Array Oper} {rest:List Oper} {o:Oper} {a:Act} {Q:Exit->Act->World->Prop}
theorem b8 (hgd:o.guard=none) (dst:Option Tmp) (hdst:o.dst=dst) (L:List Value) (t:TypeId)
  (hrun:(execOp a.eval o).run P w=.ok (.value (.pointer (some ⟨w.heap.size,0,none⟩))) (w.alloc (.cells L.toArray t))) (B:Nat) (w0:World) (hb:Below B w0 w) (hB:B<=w.heap.size)
  (next:∀ g w',HoldL w' g L->B<=g->Below B w0 w'->(∀ k,k < w.heap.size->w'.heap[k]?=w.heap[k]?)->(∀ k,k < w.heap.size->k≠g)->wpList P ops Q rest (a.put dst (.pointer (some ⟨g,0,none⟩))) w') :
  wpList P ops Q (o::rest) a w :=
 a2v hgd dst hdst L t hrun B w0 hb hB fun w' h1 h2 _ h4=>next _ w' h1 hB h2 h4 fun _ h=>Nat.ne_of_lt h
theorem a1J (hgd:o.guard=none) (t:TypeId) (x:Operand) (ho:o.op=.box t x) (dst:Option Tmp) (hdst:o.dst=dst) (L:List Value) (hx:a.eval x=.agg L.toArray) (B:Nat) (w0:World) (hb:Below B w0 w) (hB:B<=w.heap.size)
  (next:∀ g w',HoldL w' g L->B<=g->Below B w0 w'->(∀ k,k < w.heap.size->w'.heap[k]?=w.heap[k]?)->(∀ k,k < w.heap.size->k≠g)->wpList P ops Q rest (a.put dst (.pointer (some ⟨g,0,none⟩))) w') :
  wpList P ops Q (o::rest) a w :=
 a2n hgd t x ho dst hdst L hx B w0 hb hB fun w' h1 h2 _ h4=>next _ w' h1 hB h2 h4 fun _ h=>Nat.ne_of_lt h
end
end Go.Proofs.YtejnpppejalhfadGreat
namespace Go.Proofs.YtejnpppejalhfadGreat
set_option maxRecDepth 100000
set_option maxHeartbeats 8000000
def t4:Int->List Ar->Int
 |e,[]=>e
 |_,a::l=>t4 a.fin l
theorem w5 {o x:List Ar}:∀ {e:Int},i9 e (o++x) ↔ i9 e o/\i9 (t4 e o) x:=by
 induction o with
 |nil=>intro e;simp [i9,t4]
 |cons a o ih=>intro e;simp only [List.cons_append,i9,t4,ih];exact ⟨fun ⟨a,b,c,d⟩=>⟨⟨a,b,c⟩,d⟩,fun ⟨⟨a,b,c⟩,d⟩=>⟨a,b,c,d⟩⟩
theorem a4u {o:List Ar} {b:Ar}:∀ {e:Int},t4 e (o++[b])=b.fin:=by
 induction o with
 |nil=>intro e;rfl
 |cons a o ih=>intro e;exact ih
theorem a1Z {o:List Ar}:∀ {e:Int},i9 e o->e<=t4 e o:=by
 induction o with
 |nil=>intro e _;exact Int.le_refl _
 |cons a o ih=>
  intro e h;have:=ih h.2.2;have h1:=h.1;have h2:=h.2.1;unfold Ar.ok at h1;unfold t4;unfold Ar.fin at *;omega
def a3Y (out:List Ar) (a:Ar):List Ar :=
 match out.getLast? with
 |some b=>if b.alike a then out.dropLast++[{ b with n:=b.n + a.n }] else out++[a]
 |none=>out++[a]
theorem a3y {l:List Ar}:∀ {e p:Int},i9 e l->t4 e l<=p->d6 l p=0:=by
 induction l with
 |nil=>intros;rfl
 |cons a l ih=>
  intro e p h hp;have:=a1Z h.2.2;unfold t4 at hp;rw [l4 (by omega)];exact ih h.2.2 hp
theorem a5H {o x:List Ar}:∀ {e p:Int},i9 e (o++x)->d6 (o++x) p=d6 o p + d6 x p:=by
 induction o with
 |nil=>intro e p _;simp [d6]
 |cons a o ih=>
  intro e p h;obtain ⟨h1,h2,h3⟩:=h;have h4:=w5.1 h3;have h5:=a1Z h4.1;simp only [List.cons_append,d6];by_cases c:a.pg<=p/\p < a.fin
  ·rw [xd6 c,xd6 c,m6 h4.2 (by omega)];omega
  ·rw [xd7 c,xd7 c];exact ih h3
def o4:List Ar->Int
 |[]=>0
 |a::l=>a.n + o4 l
end Go.Proofs.YtejnpppejalhfadGreat
namespace Go.Proofs.YtejnpppejalhfadGreat
set_option maxRecDepth 100000
set_option maxHeartbeats 8000000
open Go.RowKit Go.Sort
def arC (a:Ar):List Value:=[.int .i64 a.pg,.int .i64 a.n,.int .i64 a.prot,.bool a.z]
def CellsAr (w:World) (b o:Nat) (a:Ar):Prop :=
 w.cell? ⟨b,o,none⟩=some (.int .i64 a.pg)/\w.cell? ⟨b,o + 1,none⟩=some (.int .i64 a.n)/\w.cell? ⟨b,o + 2,none⟩=some (.int .i64 a.prot)/\w.cell? ⟨b,o + 3,none⟩=some (.bool a.z)
def SlAr (w:World) (v:Value) (L:List Ar):Prop :=
 (∃ p c,v=.slice p 0 c/\L=[])\/∃ b off cap,v=.slice (some ⟨b,off,none⟩) L.length cap/\b < w.heap.size/\L.length<=cap/\cap<=maxLen/\∀ i a,L[i]?=some a->CellsAr w b (off + i * 4) a
theorem CellsAr.grown {w w':World} {B b o:Nat} {a:Ar} (h:CellsAr w b o a) (hb:Below B w w') (hB:b < B):CellsAr w' b o a:=by
 obtain ⟨h0,h1,h2,h3⟩:=h;exact ⟨by rw [hb.cell (p:=⟨b,o,none⟩) hB];exact h0,by rw [hb.cell (p:=⟨b,o + 1,none⟩) hB];exact h1,by rw [hb.cell (p:=⟨b,o + 2,none⟩) hB];exact h2,by rw [hb.cell (p:=⟨b,o + 3,none⟩) hB];exact h3⟩
theorem SlAr.grown {w w':World} {v:Value} {L:List Ar} (h:SlAr w v L) (hb:Below w.heap.size w w'):SlAr w' v L:=by
 rcases h with h|⟨b,off,cap,h1,h2,h3,h4,h5⟩
 ·exact xc6 h
 ·exact xc3 ⟨b,off,cap,h1,xa6 h2 hb.size,h3,h4,fun i a ha=>(h5 i a ha).grown hb h2⟩
def a72 (page pages prot:Int):Bool:=decide (1<=page/\page<=255/\1<=pages/\pages<=256 - page/\0<=prot/\prot<=3)
theorem a7k (page pages prot:Int) (w:World):Calls Tryz.prog 143 #[.int .i64 page,.int .i64 pages,.int .i64 prot] w fun e w'=>e=.returned (.bool (a72 page pages prot))/\w=w':=by
 have hs:=hid (show a72 page pages prot=decide (1<=page/\page<=255/\1<=pages/\pages<=256 - page/\0<=prot/\prot<=3) from rfl);generalize a72 page pages prot=r at *
 go_enter Tryz.func143,Tryz.ntmps143
 go_wp2
 all_goals
  go_ret
  refine ⟨g9 ?_,rfl⟩;rw [hs.out,xb9];simp
  try omega
theorem a3b (a:Ar) (w:World):Calls Tryz.prog 144 #[.agg (arC a).toArray] w (RB (.int .i64 (wrap64 a.fin)) w):=by
 unfold arC Ar.fin
 go_enter Tryz.func144,Tryz.ntmps144
 go_wp2
 go_ret
 exact ⟨rfl,(by repeat (first|with_reducible exact Below.refl _ _|with_reducible refine Below.alloc ?_ (by (omega)) _))⟩
theorem a9d (a b:Ar) (w:World) (ha:wrap64 a.fin=a.fin):Calls Tryz.prog 145 #[.agg (arC a).toArray,.agg (arC b).toArray] w (RB (.bool (decide (a.alike b))) w):=by
 have HE:=hid (fun w=>a3b a w);rw [ha] at HE;clear ha;have HS:=hid (show decide (a.alike b)=decide (a.fin=b.pg/\a.prot=b.prot/\a.z=b.z) from rfl);generalize decide (a.alike b)=r at *;generalize a.fin=f at *;unfold arC at *;have key:∀ r1 r2 r3:Bool,(f == b.pg)=r1->(a.prot == b.prot)=r2->(a.z == b.z)=r3->Calls Tryz.prog 145 #[.agg [.int .i64 a.pg,.int .i64 a.n,.int .i64 a.prot,.bool a.z].toArray,.agg [.int .i64 b.pg,.int .i64 b.n,.int .i64 b.prot,.bool b.z].toArray] w (RB (.bool (r1 && r2 && r3)) w):=by
  intro r1 r2 r3 h1 h2 h3
  cases r1
  ·clear h2 h3
   go_enter Tryz.func145,Tryz.ntmps145
   go_wp2
   refine wp_region_quiet_below (by kernel_rfl) (by kernel_rfl) ?_
   repeat ((go_big_quiet_step ((go_at_call 144;exact Calls.regrown_of (HE.out _)))))
   refine wpQuiet_nil ?_;intro wq hw';obtain ⟨⟨dq,osq⟩,hw''⟩:=hw';have hbr:=d8 hw'';clear hw''
   first
    |(have hbn:=bt hbq hbr;clear hcq hfq hzq hbq hbr;have hbq:=hbn;clear hbn)
    |(have hbq:=hbr;clear hbr)
   obtain ⟨hcq,hfq,hzq⟩:=n7 hbq
   go_wp2
   go_ret
   exact ⟨rfl,(by repeat (first|with_reducible exact Below.refl _ _|with_reducible refine Below.alloc ?_ (by first|omega|(simp;done)) _|refine bt ?_ (by with_reducible assumption)))⟩
  cases r2
  ·clear h3
   go_enter Tryz.func145,Tryz.ntmps145
   go_wp2
   refine wp_region_quiet_below (by kernel_rfl) (by kernel_rfl) ?_
   repeat ((go_big_quiet_step ((go_at_call 144;exact Calls.regrown_of (HE.out _)))))
   refine wpQuiet_nil ?_;intro wq hw';obtain ⟨⟨dq,osq⟩,hw''⟩:=hw';have hbr:=d8 hw'';clear hw''
   first
    |(have hbn:=bt hbq hbr;clear hcq hfq hzq hbq hbr;have hbq:=hbn;clear hbn)
    |(have hbq:=hbr;clear hbr)
   obtain ⟨hcq,hfq,hzq⟩:=n7 hbq
   go_wp2
   go_ret
   exact ⟨rfl,(by repeat (first|with_reducible exact Below.refl _ _|with_reducible refine Below.alloc ?_ (by first|omega|(simp;done)) _|refine bt ?_ (by with_reducible assumption)))⟩
  ·go_enter Tryz.func145,Tryz.ntmps145
   go_wp2
   refine wp_region_quiet_below (by kernel_rfl) (by kernel_rfl) ?_
   repeat ((go_big_quiet_step ((go_at_call 144;exact Calls.regrown_of (HE.out _)))))
   refine wpQuiet_nil ?_;intro wq hw';obtain ⟨⟨dq,osq⟩,hw''⟩:=hw';have hbr:=d8 hw'';clear hw''
   first
    |(have hbn:=bt hbq hbr;clear hcq hfq hzq hbq hbr;have hbq:=hbn;clear hbn)
    |(have hbq:=hbr;clear hbr)
   obtain ⟨hcq,hfq,hzq⟩:=n7 hbq
   go_wp2
   go_ret
   exact ⟨g9 (by simp),(by repeat (first|with_reducible exact Below.refl _ _|with_reducible refine Below.alloc ?_ (by first|omega|(simp;done)) _|refine bt ?_ (by with_reducible assumption)))⟩
 have:=key _ _ _ rfl rfl rfl
 rwa [show (f == b.pg && a.prot == b.prot && a.z == b.z)=r from by rw [HS.out,xb9];simp [and_assoc]] at this
theorem j0 (n:Int) (h1:-1000000000000<=n) (h2:n<=1000000000000):wrap64 n=n:=by unfold wrap64;omega
theorem a0A {a:Ar} (h:a.ok):wrap64 a.fin=a.fin:=by unfold Ar.ok at h;unfold Ar.fin;exact j0 _ (by omega) (by omega)
theorem a1y {L:List Ar} (h:255 < L.length):b4 L=2:=by unfold b4;rw [xd6 h]
theorem a3P {L:List Ar} (h:¬ 255 < L.length) (hg:∀ i,i < L.length->a09 L i):b4 L=0:=by unfold b4;rw [xd7 h,xd6 ((a0C L).2 hg)]
theorem p9 {L:List Ar} (h:¬ 255 < L.length) {i:Nat} (hi:i < L.length) (hg:¬ a09 L i):b4 L=1:=by
 unfold b4;rw [xd7 h,xd7 fun g=>hg ((a0C L).1 g i hi)]
theorem a6c (p:Option Addr) (c:Nat) (w:World):Calls Tryz.prog 112 #[.slice p 0 c] w (RB (.int .i64 0) w):=by
 go_enter Tryz.func112,Tryz.ntmps112
 go_wp2
 go_loopw [10] (fun vi wr=>vi=.int .i64 0/\wr=w) (fun _ _=>0)
 case atStart=>exact ⟨rfl,rfl⟩
 case round=>
  obtain ⟨rfl,rfl⟩:=hrel
  go_wp2
  go_ret
  exact ⟨rfl,(by repeat ((with_reducible exact Below.refl _ _)))⟩
theorem a50 {L:List Ar} {a:Ar} (ha:L[0]?=some a) (h:a.ok):a09 L 0:=⟨a,ha,h,fun j b hj=>by omega⟩
theorem a0v {L:List Ar} {i:Nat} {a:Ar} (ha:L[i]?=some a) (h:¬ a.ok):¬ a09 L i:=by
 rintro ⟨c,hc,h1,_⟩;rw [ha] at hc;cases hc;exact h h1
theorem a2D {L:List Ar} {k:Nat} {a b:Ar} (ha:L[k + 1]?=some a) (hb:L[k]?=some b):a09 L (k + 1) ↔ a.ok/\b.fin<=a.pg/\¬ b.alike a:=by
 constructor
 ·rintro ⟨c,hc,h1,h2⟩;rw [ha] at hc;cases hc;exact ⟨h1,h2 k b rfl hb⟩
 ·rintro ⟨h1,h2,h3⟩;refine ⟨a,ha,h1,fun j d hj hd=>?_⟩;obtain rfl:j=k:=by omega
  rw [hb] at hd;cases hd;exact ⟨h2,h3⟩
theorem a5f {L:List Ar} {k:Nat} {b:Ar} (hb:L[k]?=some b) (h:a09 L k):b.ok:=by
 obtain ⟨c,hc,h1,_⟩:=h;rw [hb] at hc;cases hc;exact h1
theorem a51 (b off cap:Nat) (L:List Ar) (w:World) (hbl:b < w.heap.size) (hcap:L.length<=cap) (hmax:cap<=maxLen) (d9:∀ i a,L[i]?=some a->CellsAr w b (off + i * 4) a) :
  Calls Tryz.prog 112 #[.slice (some ⟨b,off,none⟩) L.length cap] w (RB (.int .i64 (b4 L)) w):=by
 unfold maxLen at hmax;by_cases hm:255 < L.length
 ·have HC:=hid (a1y hm);generalize b4 L=r at *
  go_enter Tryz.func112,Tryz.ntmps112
  go_wp2
  go_ret
  exact ⟨j7 HC.out.symm,(by repeat ((with_reducible exact Below.refl _ _)))⟩
 have HC:=hid d9;clear d9;obtain ⟨r,hr⟩:∃ r,r=b4 L:=⟨_,rfl⟩;rw [<- hr];have HR:=hid hr;clear hr
 go_enter Tryz.func112,Tryz.ntmps112
 go_wp2
 go_loopw [10] (fun vi wr=>∃ i:Nat,i<=L.length/\vi=.int .i64 i/\Below w.heap.size w wr/\Hid (∀ j,j < i->a09 L j)) (fun vi _=>L.length - (intOf vi).toNat)
 case atStart=>exact ⟨0,by omega,rfl,Below.refl _ _,fun j hj=>by omega⟩
 case round=>
  obtain ⟨i,hi,rfl,hb,HO⟩:=hrel;by_cases hlt:i < L.length
  ·obtain ⟨a,ha⟩:∃ a,L[i]?=some a:=⟨L[i],by simp [hlt]⟩;obtain ⟨c0,c1,c2,c3⟩:=(HC.out i a ha).grown hb hbl;have hbr:=z7 (xa6 hbl hb.size);have hsz:=hb.size;have HE:Hid True:=hid trivial;have HN:Hid True:=hid trivial;obtain ⟨s,hs⟩:∃ s,s=decide a.ok:=⟨_,rfl⟩;have HS:Hid (∀ w,Calls Tryz.prog 143 #[.int .i64 a.pg,.int .i64 a.n,.int .i64 a.prot] w (RB (.bool s) w)):=fun w=>by rw [hs];exact a5r (a7k a.pg a.n a.prot w)
   cases s
   ·have HX:=hid (a0v ha (by simpa using hs.symm));clear hs
    go_wp2
    refine wp_region_quiet_below (by kernel_rfl) (by kernel_rfl) ?_
    repeat ((go_big_quiet_step ((go_at_call 143;exact Calls.regrown_of (HS.out _)))))
    refine wpQuiet_nil ?_;intro wq hw';obtain ⟨⟨dq,osq⟩,hw''⟩:=hw';have hbr:=d8 hw'';clear hw''
    first
     |(have hbn:=bt hbq hbr;clear hcq hfq hzq hbq hbr;have hbq:=hbn;clear hbn)
     |(have hbq:=hbr;clear hbr)
    obtain ⟨hcq,hfq,hzq⟩:=n7 hbq
    go_wp2
    go_ret
    exact ⟨j7 (by rw [HR.out,p9 hm hlt HX.out]),(by repeat (first|with_reducible assumption|with_reducible refine Below.alloc ?_ (by (omega)) _|refine bt ?_ (by with_reducible assumption)))⟩
   have hok:a.ok:=by simpa using hs.symm
   clear hs
   match i with
   |0=>
    have HX:=hid (a50 ha hok);clear hok;simp only [Nat.zero_mul,xe6] at c0 c1 c2 c3
    go_wp2
    refine wp_region_quiet_below (by kernel_rfl) (by kernel_rfl) ?_
    repeat ((go_big_quiet_step ((go_at_call 143;exact Calls.regrown_of (HS.out _)))))
    refine wpQuiet_nil ?_;intro wq hw';obtain ⟨⟨dq,osq⟩,hw''⟩:=hw';have hbr:=d8 hw'';clear hw''
    first
     |(have hbn:=bt hbq hbr;clear hcq hfq hzq hbq hbr;have hbq:=hbn;clear hbn)
     |(have hbq:=hbr;clear hbr)
    obtain ⟨hcq,hfq,hzq⟩:=n7 hbq
    go_wp2
    go_roundw
    case rel=>
     refine ⟨0 + 1,by omega,by go_num,(by repeat (first|with_reducible assumption|with_reducible refine Below.alloc ?_ (by (omega)) _|refine bt ?_ (by with_reducible assumption))),fun j hj=>?_⟩;rcases xk5.1 hj with h|h
     ·exact HO.out j h
     ·subst h;exact HX.out
    case measure=>simp [intOf];omega
   |k + 1=>
    obtain ⟨q,hq⟩:∃ q,L[k]?=some q:=⟨L[k],by simp⟩;have hqo:=a5f hq (HO.out k (by omega));obtain ⟨d0,d1,d2,d3⟩:=(HC.out k q hq).grown hb hbl;have HA:=hid (a2D ha hq);have HE:=hid (fun w=>a3b q w);rw [a0A hqo] at HE;obtain ⟨o,ho⟩:∃ o,o=decide (q.alike a):=⟨_,rfl⟩;have HN:=hid (fun w=>a9d q a w (a0A hqo));rw [<- ho] at HN;unfold arC at HE HN;have HF:=hid (show q.fin=q.fin from rfl);by_cases hl:a.pg < q.fin
    ·have HX:Hid (¬ a09 L (k + 1)):=fun h=>by have:=(HA.out.1 h).2.1;omega
     have hl':decide (a.pg < q.fin)=true:=by simpa using hl
     clear hl hok hqo ho;generalize q.fin=f at *
     go_wp2
     refine wp_region_quiet_below (by kernel_rfl) (by kernel_rfl) ?_
     repeat ((go_big_quiet_step ((first|go_at_call 143;exact Calls.regrown_of (HS.out _)|go_at_call 144;exact Calls.regrown_of (HE.out _)))))
     refine wpQuiet_nil ?_;intro wq hw';obtain ⟨⟨dq,osq⟩,hw''⟩:=hw';have hbr:=d8 hw'';clear hw''
     first
      |(have hbn:=bt hbq hbr;clear hcq hfq hzq hbq hbr;have hbq:=hbn;clear hbn)
      |(have hbq:=hbr;clear hbr)
     obtain ⟨hcq,hfq,hzq⟩:=n7 hbq
     go_wp2
     go_ret
     exact ⟨j7 (by rw [HR.out,p9 hm hlt HX.out]),(by repeat (first|with_reducible assumption|with_reducible refine Below.alloc ?_ (by (omega)) _|refine bt ?_ (by with_reducible assumption)))⟩
    have hl':decide (a.pg < q.fin)=false:=by simpa using hl
    cases o
    ·have HX:Hid (a09 L (k + 1)):=HA.out.2 ⟨hok,by omega,by simpa using ho.symm⟩;clear hl hok hqo ho;generalize q.fin=f at *
     go_wp2
     refine wp_region_quiet_below (by kernel_rfl) (by kernel_rfl) ?_
     repeat ((go_big_quiet_step ((first|go_at_call 143;exact Calls.regrown_of (HS.out _)|go_at_call 144;exact Calls.regrown_of (HE.out _)|go_at_call 145;exact Calls.regrown_of (HN.out _)))))
     refine wpQuiet_nil ?_;intro wq hw';obtain ⟨⟨dq,osq⟩,hw''⟩:=hw';have hbr:=d8 hw'';clear hw''
     first
      |(have hbn:=bt hbq hbr;clear hcq hfq hzq hbq hbr;have hbq:=hbn;clear hbn)
      |(have hbq:=hbr;clear hbr)
     obtain ⟨hcq,hfq,hzq⟩:=n7 hbq
     go_wp2
     go_roundw
     case rel=>
      refine ⟨(k + 1) + 1,by omega,by go_num,(by repeat (first|with_reducible assumption|with_reducible refine Below.alloc ?_ (by (omega)) _|refine bt ?_ (by with_reducible assumption))),fun j hj=>?_⟩;rcases xk5.1 hj with h|h
      ·exact HO.out j h
      ·subst h;exact HX.out
     case measure=>simp [intOf];omega
    ·have HX:Hid (¬ a09 L (k + 1)):=fun h=>(HA.out.1 h).2.2 (by simpa using ho.symm);clear hl hok hqo ho;generalize q.fin=f at *
     go_wp2
     refine wp_region_quiet_below (by kernel_rfl) (by kernel_rfl) ?_
     repeat ((go_big_quiet_step ((first|go_at_call 143;exact Calls.regrown_of (HS.out _)|go_at_call 144;exact Calls.regrown_of (HE.out _)|go_at_call 145;exact Calls.regrown_of (HN.out _)))))
     refine wpQuiet_nil ?_;intro wq hw';obtain ⟨⟨dq,osq⟩,hw''⟩:=hw';have hbr:=d8 hw'';clear hw''
     first
      |(have hbn:=bt hbq hbr;clear hcq hfq hzq hbq hbr;have hbq:=hbn;clear hbn)
      |(have hbq:=hbr;clear hbr)
     obtain ⟨hcq,hfq,hzq⟩:=n7 hbq
     go_wp2
     go_ret
     exact ⟨j7 (by rw [HR.out,p9 hm hlt HX.out]),(by repeat (first|with_reducible assumption|with_reducible refine Below.alloc ?_ (by (omega)) _|refine bt ?_ (by with_reducible assumption)))⟩
  ·go_wp2
   go_ret
   have:i=L.length:=by omega
   subst this;refine ⟨j7 ?_,hb⟩;rw [HR.out,a3P hm HO.out]
theorem a1h {v:Value} {L:List Ar} {w:World} (h:SlAr w v L):Calls Tryz.prog 112 #[v] w (RB (.int .i64 (b4 L)) w):=by
 rcases h with ⟨p,c,rfl,rfl⟩|⟨b,off,cap,rfl,h2,h3,h4,h5⟩
 ·exact a6c p c w
 ·exact a51 b off cap L w h2 h3 h4 h5
theorem a0K {L:List Ar}:∀ {i:Nat} {a:Ar},L[i]?=some a->o4 (L.take (i + 1))=o4 (L.take i) + a.n:=by
 induction L with
 |nil=>intro i a h;simp at h
 |cons c L ih=>
  intro i a h
  cases i with
  |zero=>simp at h;subst h;simp [o4]
  |succ i=>simp only [xi2,o4];rw [ih (by simpa using h)];omega
theorem a2q {L:List Ar} (h:∀ (i:Nat) (a:Ar),L[i]?=some a->a.ok):∀ i:Nat,i<=L.length->0<=o4 (L.take i)/\o4 (L.take i)<=255 * (i:Int):=by
 intro i
 induction i with
 |zero=>intro _;simp [o4]
 |succ i ih=>
  intro hi;obtain ⟨h1,h2⟩:=ih (by omega);have ha:=h i L[i] (by simp [hi]);rw [a0K (a:=L[i]) (by simp [hi])];unfold Ar.ok at ha;omega
theorem t3 {L:List Ar} (h:a07 L):∀ (i:Nat) (a:Ar),L[i]?=some a->a.ok:=fun i a ha=>a5f ha ((a0C L).1 h i (by
 obtain ⟨hi,_⟩:=xa5.1 ha;exact hi))
theorem m9 {L:List Ar}:b4 L=0 ↔ L.length<=255/\a07 L:=by
 unfold b4
 split
 ·exact ⟨fun h=>by omega,fun h=>by omega⟩
 ·split
  ·exact ⟨fun _=>⟨by omega,by assumption⟩,fun _=>rfl⟩
  ·exact ⟨fun h=>by omega,fun h=>absurd h.2 (by assumption)⟩
theorem a5E {v:Value} {L:List Ar} {w:World} (h:SlAr w v L) (hc:b4 L≠0):Calls Tryz.prog 113 #[v] w (RB (.int .i64 0) w):=by
 have HC:=hid (a1h h);have hn:(b4 L == 0)=false:=by rw [xk2];exact hc
 clear h hc;generalize b4 L=r at *
 go_enter Tryz.func113,Tryz.ntmps113
 go_wp2_with (first|go_at_call 112;(with_reducible refine (HC.out).mono ?_);rintro e w1 ⟨rfl,hb1⟩)
 go_ret
 exact ⟨rfl,(by repeat ((with_reducible assumption)))⟩
theorem a4m {v:Value} {L:List Ar} {w:World} (h:SlAr w v L) (hc:b4 L=0):Calls Tryz.prog 113 #[v] w (RB (.int .i64 (o4 L)) w):=by
 have HC:=hid (a1h h);rw [hc] at HC;obtain ⟨hlen,hg⟩:=m9.1 hc;have hok:=t3 hg;have HB:=hid (a2q hok);clear hc hg;rcases h with ⟨p,c,rfl,rfl⟩|⟨b,off,cap,rfl,hbl,hcap,hmax,d9⟩
 ·go_enter Tryz.func113,Tryz.ntmps113
  go_wp2_with (first|go_at_call 112;(with_reducible refine (HC.out).mono ?_);rintro e w1 ⟨rfl,hb1⟩)
  go_loopw [3,11] (fun vn vi wr=>vn=.int .i64 0/\vi=.int .i64 0/\wr=w1) (fun _ _ _=>0)
  case atStart=>exact ⟨rfl,rfl,rfl⟩
  case round=>
   obtain ⟨rfl,rfl,rfl⟩:=hrel
   go_wp2
   go_ret
   exact ⟨rfl,(by repeat ((with_reducible assumption)))⟩
 ·unfold maxLen at hmax;have HL:=hid d9;have HO:=hid hok;clear d9 hok
  go_enter Tryz.func113,Tryz.ntmps113
  go_wp2_with (first|go_at_call 112;(with_reducible refine (HC.out).mono ?_);rintro e w1 ⟨rfl,hb1⟩)
  go_loopw [3,11] (fun vn vi wr=>∃ i:Nat,i<=L.length/\vi=.int .i64 i/\vn=.int .i64 (o4 (L.take i))/\Below w.heap.size w wr) (fun _ vi _=>L.length - (intOf vi).toNat)
  case atStart=>exact ⟨0,by omega,rfl,by simp [o4],hb1⟩
  case round=>
   obtain ⟨i,hi,rfl,rfl,hb⟩:=hrel;by_cases hlt:i < L.length
   ·obtain ⟨a,ha⟩:∃ a,L[i]?=some a:=⟨L[i],by simp [hlt]⟩;obtain ⟨c0,c1,c2,c3⟩:=(HL.out i a ha).grown hb hbl;have hbr:=z7 (xa6 hbl hb.size);have hsz:=hb.size;have hs:=a0K ha;have hn:=HB.out i hi;have hn2:=HO.out i a ha;unfold Ar.ok at hn2;have hw:wrap64 (o4 (L.take i) + a.n)=o4 (L.take i) + a.n:=j0 _ (by omega) (by omega);have HS:=hid hs;clear hs hn hn2;generalize o4 (L.take i)=q at *
    go_wp2
    go_roundw
    case rel=>exact ⟨i + 1,by omega,by go_num,by rw [HS.out,hw],(by repeat (first|with_reducible assumption|with_reducible refine Below.alloc ?_ (by (omega)) _))⟩
    case measure=>simp [intOf];omega
   ·go_wp2
    go_ret
    have:i=L.length:=by omega
    subst this;exact ⟨j7 (by simp),hb⟩
theorem a4y {v:Value} {L:List Ar} {w:World} (h:SlAr w v L) (hc:b4 L=0):Calls Tryz.prog 57 #[v] w (RB (.int .i64 (o4 L)) w):=by
 obtain ⟨hlen,hg⟩:=m9.1 hc;have hok:=t3 hg;have HB:=hid (a2q hok);clear hc hg;rcases h with ⟨p,c,rfl,rfl⟩|⟨b,off,cap,rfl,hbl,hcap,hmax,d9⟩
 ·go_enter Tryz.func57,Tryz.ntmps57
  go_wp2
  go_loopw [3,4] (fun vn vi wr=>vn=.int .i64 0/\vi=.int .i64 0/\wr=w) (fun _ _ _=>0)
  case atStart=>exact ⟨rfl,rfl,rfl⟩
  case round=>
   obtain ⟨rfl,rfl,rfl⟩:=hrel
   go_wp2
   go_ret
   exact ⟨rfl,(by repeat ((with_reducible exact Below.refl _ _)))⟩
 ·unfold maxLen at hmax;have HL:=hid d9;have HO:=hid hok;clear d9 hok
  go_enter Tryz.func57,Tryz.ntmps57
  go_wp2
  go_loopw [3,4] (fun vn vi wr=>∃ i:Nat,i<=L.length/\vi=.int .i64 i/\vn=.int .i64 (o4 (L.take i))/\Below w.heap.size w wr) (fun _ vi _=>L.length - (intOf vi).toNat)
  case atStart=>exact ⟨0,by omega,rfl,by simp [o4],Below.refl _ _⟩
  case round=>
   obtain ⟨i,hi,rfl,rfl,hb⟩:=hrel;by_cases hlt:i < L.length
   ·obtain ⟨a,ha⟩:∃ a,L[i]?=some a:=⟨L[i],by simp [hlt]⟩;obtain ⟨c0,c1,c2,c3⟩:=(HL.out i a ha).grown hb hbl;have hbr:=z7 (xa6 hbl hb.size);have hsz:=hb.size;have hs:=a0K ha;have hn:=HB.out i hi;have hn2:=HO.out i a ha;unfold Ar.ok at hn2;have hw:wrap64 (o4 (L.take i) + a.n)=o4 (L.take i) + a.n:=j0 _ (by omega) (by omega);have HS:=hid hs;clear hs hn hn2;generalize o4 (L.take i)=q at *
    go_wp2
    go_roundw
    case rel=>exact ⟨i + 1,by omega,by go_num,by rw [HS.out,hw],(by repeat ((with_reducible assumption)))⟩
    case measure=>simp [intOf];omega
   ·go_wp2
    go_ret
    have:i=L.length:=by omega
    subst this;exact ⟨j7 (by simp),hb⟩
def a3d:Ar:=⟨0,0,0,false⟩
def s7 (page:Int) (a:Ar):Bool:=decide (a.pg<=page/\page < a.fin)
def l3 (L:List Ar) (page:Int):Option Ar:=L.find? (s7 page)
theorem a14 {L:List Ar} {page:Int}:∀ {i:Nat} {a:Ar},(∀ (j:Nat) (b:Ar),j < i->L[j]?=some b->s7 page b=false)->L[i]?=some a->s7 page a=true->l3 L page=some a:=by
 unfold l3
 induction L with
 |nil=>intro i a _ h;simp at h
 |cons c L ih=>
  intro i a h1 h2 h3
  cases i with
  |zero=>simp at h2;subst h2;rw [List.find?_cons,h3]
  |succ i=>
   have hc:=h1 0 c (by omega) rfl;rw [List.find?_cons,hc];exact ih (i:=i) (fun j b hj hb=>h1 (j + 1) b (by omega) (by simpa using hb)) (by simpa using h2) h3
theorem a00 {L:List Ar} {page:Int} (h:∀ (j:Nat) (b:Ar),j < L.length->L[j]?=some b->s7 page b=false):l3 L page=none:=by
 unfold l3;rw [List.find?_eq_none];intro x hx;obtain ⟨j,hj,rfl⟩:=List.getElem_of_mem hx;have:=h j L[j] hj (by simp);simp [this]
def zl4:List Value:=[.int .i64 0,.int .i64 0,.int .i64 0,.bool false]
def a1W (o:Option Ar):Value:=.tuple #[.agg (arC (o.getD a3d)).toArray,.bool o.isSome]
theorem a4K {v:Value} {L:List Ar} {w:World} (page:Int) (h:SlAr w v L) (hok:∀ (i:Nat) (a:Ar),L[i]?=some a->a.ok):Calls Tryz.prog 58 #[v,.int .i64 page] w (RB (a1W (l3 L page)) w):=by
 have hsz:(Tryz.prog.info? 119).map (·.size)=some 4:=by kernel_rfl
 have Hsz:=hid hsz;clear hsz;have hbw:=Below.refl w.heap.size w;rcases h with ⟨p,c,rfl,rfl⟩|⟨b,off,cap,rfl,hbl,hcap,hmax,d9⟩
 ·go_enter Tryz.func58,Tryz.ntmps58
  go_wp2_with (first|(with_reducible refine l2 4 ?_);refine b8 rfl (some 4) rfl (zl4) 119 (by kernel_rfl) w.heap.size w hbw hbw.size ?_;intro g4 wn4 hL4 hB4 hbn hkn hnn;skip;clear hbw hkn hnn;have hbw:=hbn;clear hbn)
  go_loopw [6] (fun vi wr=>vi=.int .i64 0/\wr=wn4) (fun _ _=>0)
  case atStart=>exact ⟨rfl,rfl⟩
  case round=>
   obtain ⟨rfl,rfl⟩:=hrel
   go_wp2_with (first|(with_reducible refine j4 4 ?_);refine a6 rfl 119 (.tmp 4) (.tmp 39) rfl rfl g4 (zl4) (zl4) rfl rfl hL4 Hsz.out rfl rfl w.heap.size w hbw hB4 ?_;intro wp4 hLn hbn hon;skip;clear hL4 hbw hon;have hL4:=hLn;have hbw:=hbn;clear hLn hbn)
   refine bodyPost_ret (v:=.tuple #[.agg (zl4).toArray,.bool false]) (i4 rfl _ g4 (zl4) (.bool false) _ rfl rfl hL4 Tryz.underlying119 rfl Hsz.out) rfl ⟨by rw [(show l3 [] page=none from rfl)];rfl,hbw⟩
 ·unfold maxLen at hmax;have HL:=hid d9;have HO:=hid hok;clear d9 hok
  go_enter Tryz.func58,Tryz.ntmps58
  go_wp2_with (first|(with_reducible refine l2 4 ?_);refine b8 rfl (some 4) rfl (zl4) 119 (by kernel_rfl) w.heap.size w hbw hbw.size ?_;intro g4 wn4 hL4 hB4 hbn hkn hnn;skip;clear hbw hkn hnn;have hbw:=hbn;clear hbn)
  go_loopw [6] (fun vi wr=>∃ i:Nat,i<=L.length/\vi=.int .i64 i/\Below w.heap.size w wr/\HoldL wr g4 zl4/\Hid (∀ (j:Nat) (b:Ar),j < i->L[j]?=some b->s7 page b=false)) (fun vi _=>L.length - (intOf vi).toNat)
  case atStart=>exact ⟨0,by omega,rfl,hbw,hL4,fun j b hj=>by omega⟩
  case round=>
   clear hbw hL4;obtain ⟨i,hi,rfl,hbw,hL4,HN⟩:=hrel;by_cases hlt:i < L.length
   ·obtain ⟨a,ha⟩:∃ a,L[i]?=some a:=⟨L[i],by simp [hlt]⟩;obtain ⟨c0,c1,c2,c3⟩:=(HL.out i a ha).grown hbw hbl;have hao:=HO.out i a ha;have hfw:=a0A hao;have hbr:=z7 (xa6 hbl hbw.size);have hsz:=hbw.size;have HF:Hid (s7 page a=decide (a.pg<=page/\page < a.fin)):=hid rfl;have hdef:a.fin=a.pg + a.n:=rfl;rw [hdef] at hfw;have HD:=hid hdef;clear hdef hao;by_cases h1:a.pg<=page
    ·by_cases h2:page < a.fin
     ·have HX:Hid (l3 L page=some a):=a14 HN.out ha (by rw [HF.out];simp [h1,h2]);have h1':decide (a.pg<=page)=true:=by simpa using h1
      have h2':decide (page < a.pg + a.n)=true:=by simpa [<- HD.out] using h2
      clear h1 h2
      go_wp2
      refine wp_region_quiet_below (by kernel_rfl) (by kernel_rfl) ?_
      repeat ((go_big_quiet_step ((fail))))
      refine wpQuiet_nil ?_;intro wq hw';obtain ⟨⟨dq,osq⟩,hw''⟩:=hw';have hbr:=d8 hw'';clear hw''
      first
       |(have hbn:=bt hbq hbr;clear hcq hfq hzq hbq hbr;have hbq:=hbn;clear hbn)
       |(have hbq:=hbr;clear hbr)
      obtain ⟨hcq,hfq,hzq⟩:=n7 hbq;have hL4:=hL4.grown hbq hL4.lt;have hbw:=bt hbw hbq
      go_wp2_with (first|(with_reducible refine j4 4 ?_);refine a6 rfl 119 (.tmp 4) (.tmp 38) rfl rfl g4 ([.int .i64 a.pg,.int .i64 a.n,.int .i64 a.prot,.bool a.z]) (zl4) rfl rfl hL4 Hsz.out rfl rfl w.heap.size w hbw hB4 ?_;intro wp4 hLn hbn hon;skip;clear hL4 hbw hon;have hL4:=hLn;have hbw:=hbn;clear hLn hbn)
      refine bodyPost_ret (v:=.tuple #[.agg ([.int .i64 a.pg,.int .i64 a.n,.int .i64 a.prot,.bool a.z]).toArray,.bool true]) (i4 rfl _ g4 ([.int .i64 a.pg,.int .i64 a.n,.int .i64 a.prot,.bool a.z]) (.bool true) _ rfl rfl hL4 Tryz.underlying119 rfl Hsz.out) rfl ⟨by rw [HX.out];rfl,hbw⟩
     ·have HX:Hid (s7 page a=false):=by refine hid ?_;rw [HF.out];simp [h2]
      have h1':decide (a.pg<=page)=true:=by simpa using h1
      have h2':decide (page < a.pg + a.n)=false:=by simpa [<- HD.out] using h2
      clear h1 h2
      go_wp2
      refine wp_region_quiet_below (by kernel_rfl) (by kernel_rfl) ?_
      repeat ((go_big_quiet_step ((fail))))
      refine wpQuiet_nil ?_;intro wq hw';obtain ⟨⟨dq,osq⟩,hw''⟩:=hw';have hbr:=d8 hw'';clear hw''
      first
       |(have hbn:=bt hbq hbr;clear hcq hfq hzq hbq hbr;have hbq:=hbn;clear hbn)
       |(have hbq:=hbr;clear hbr)
      obtain ⟨hcq,hfq,hzq⟩:=n7 hbq;have hL4:=hL4.grown hbq hL4.lt;have hbw:=bt hbw hbq
      go_wp2
      go_roundw
      case rel=>
       refine ⟨i + 1,by omega,by go_num,hbw,hL4,fun j b hj hb=>?_⟩;rcases xk5.1 hj with h|h
       ·exact HN.out j b h hb
       ·subst h;rw [ha] at hb;cases hb;exact HX.out
      case measure=>simp [intOf];omega
    ·have HX:Hid (s7 page a=false):=by refine hid ?_;rw [HF.out];simp [h1]
     have h1':decide (a.pg<=page)=false:=by simpa using h1
     clear h1
     go_wp2
     refine wp_region_quiet_below (by kernel_rfl) (by kernel_rfl) ?_
     repeat ((go_big_quiet_step ((fail))))
     refine wpQuiet_nil ?_;intro wq hw';obtain ⟨⟨dq,osq⟩,hw''⟩:=hw';have hbr:=d8 hw'';clear hw''
     first
      |(have hbn:=bt hbq hbr;clear hcq hfq hzq hbq hbr;have hbq:=hbn;clear hbn)
      |(have hbq:=hbr;clear hbr)
     obtain ⟨hcq,hfq,hzq⟩:=n7 hbq;have hL4:=hL4.grown hbq hL4.lt;have hbw:=bt hbw hbq
     go_wp2
     go_roundw
     case rel=>
      refine ⟨i + 1,by omega,by go_num,hbw,hL4,fun j b hj hb=>?_⟩;rcases xk5.1 hj with h|h
      ·exact HN.out j b h hb
      ·subst h;rw [ha] at hb;cases hb;exact HX.out
     case measure=>simp [intOf];omega
   ·have:i=L.length:=by omega
    subst this;have HX:=hid (a00 HN.out)
    go_wp2_with (first|(with_reducible refine j4 4 ?_);refine a6 rfl 119 (.tmp 4) (.tmp 39) rfl rfl g4 (zl4) (zl4) rfl rfl hL4 Hsz.out rfl rfl w.heap.size w hbw hB4 ?_;intro wp4 hLn hbn hon;skip;clear hL4 hbw hon;have hL4:=hLn;have hbw:=hbn;clear hLn hbn)
    refine bodyPost_ret (v:=.tuple #[.agg (zl4).toArray,.bool false]) (i4 rfl _ g4 (zl4) (.bool false) _ rfl rfl hL4 Tryz.underlying119 rfl Hsz.out) rfl ⟨by rw [HX.out];rfl,hbw⟩
theorem a6m (prot:Int) (z:Bool) (h:0<=prot/\prot<=3) (w:World):Calls Tryz.prog 140 #[.int .i64 prot,.bool z] w fun e w'=>e=.returned (.int .i64 (1 + 2 * prot + (if z then 8 else 0)))/\w=w':=by
 obtain ⟨h1,h2⟩:=h
 cases z
 ·go_enter Tryz.func140,Tryz.ntmps140
  go_wp2
  go_ret
  exact ⟨j7 (by simp),rfl⟩
 ·go_enter Tryz.func140,Tryz.ntmps140
  go_wp2
  go_ret
  exact ⟨j7 (by simp),rfl⟩
def bdC (b:Int->Int):List Value:=(List.range 256).map fun p:Nat=>Value.int .i64 (b p)
theorem g8 (b:Int->Int):(bdC b).length=256:=by simp [bdC]
theorem a4v (b:Int->Int) (p:Nat) (h:p < 256):(bdC b)[p]?=some (.int .i64 (b p)):=by simp [bdC,h]
theorem a8d (b:Int->Int) (p:Nat) (n:Int):(bdC b).set p (.int .i64 n)=bdC (fun x=>if x=p then n else b x):=by
 apply xf3;intro i;by_cases hi:i < 256
 ·rw [a4v _ _ hi];by_cases e:p=i
  ·subst e;rw [List.getElem?_set_self (by rw [g8];exact hi)];simp
  ·rw [List.getElem?_set_ne e,a4v _ _ hi];rw [xd7 (by omega)]
 ·rw [xf9 (by rw [List.length_set,g8];omega),xf9 (by rw [g8];omega)]
theorem a3i {b b':Int->Int} (h:∀ p:Int,0<=p->p<=255->b p=b' p):bdC b=bdC b':=by
 unfold bdC;apply List.map_congr_left;intro p hp;rw [xh3] at hp;rw [h p (by omega) (by omega)]
theorem a0k (b:Int->Int):(bdC b).all (·.oneCell')=true:=by simp [bdC,Value.oneCell']
theorem a4z {o:List Ar} {a:Ar} {e:Int} (h:i9 e (o++[a])) (p:Int):d6 (o++[a]) p=if a.pg<=p/\p < a.fin then a.mk' else d6 o p:=by
 rw [a5H h];simp only [d6]
 split
 ·rename_i hc;have h2:=w5.1 h;rw [a3y h2.1 (by have:=h2.2.2.1;omega)];omega
 ·omega
theorem a41 {L:List Ar} {i:Nat} {a:Ar} (ha:L[i]?=some a):L.take (i + 1)=L.take i++[a]:=by
 obtain ⟨hi,rfl⟩:=xa5.1 ha;rw [List.take_succ_eq_append_getElem hi]
theorem a5P {L:List Ar} {e:Int} (h:i9 e L) (i:Nat):i9 e (L.take i):=by
 rw [<- xh5 i L] at h;exact (w5.1 h).1
theorem a2R {o:List Ar} {a:Ar} {e:Int}:i9 e (o++[a]) ↔ i9 e o/\a.ok/\t4 e o<=a.pg:=by
 rw [w5];exact ⟨fun ⟨h1,h2,h3,_⟩=>⟨h1,h2,h3⟩,fun ⟨h1,h2,h3⟩=>⟨h1,h2,h3,trivial⟩⟩
def a0w (o:List Ar) (a:Ar) (q:Int) (x:Int):Int:=if a.pg<=x/\x < q then a.mk' else d6 o x
theorem a3p (o:List Ar) (a:Ar):bdC (a0w o a a.pg)=bdC (d6 o):=a3i fun p _ _=>by unfold a0w;rw [xd7 (by omega)]
theorem a3H (o:List Ar) (a:Ar) (q:Nat) (h:a.pg<=q):(bdC (a0w o a q)).set q (.int .i64 a.mk')=bdC (a0w o a ((q:Int) + 1)):=by
 rw [a8d];refine a3i fun p _ _=>?_;unfold a0w;by_cases e:p=q
 ·rw [xd6 e,xd6 (by omega)]
 ·rw [xd7 e];by_cases c:a.pg<=p/\p < q
  ·rw [xd6 c,xd6 (by omega)]
  ·rw [xd7 c,xd7 (by omega)]
theorem a48 {o:List Ar} {a:Ar} {e:Int} (h:i9 e (o++[a])):bdC (a0w o a a.fin)=bdC (d6 (o++[a])):=a3i fun p _ _=>by
 rw [a4z h];rfl
instance riseDec:(e:Int)->(l:List Ar)->Decidable (i9 e l)
 |_,[]=>isTrue trivial
 |e,a::l=>by
  unfold i9;have:=riseDec a.fin l
  infer_instance
def s9 (L:List Ar) (w:World) (e:Ending) (w':World):Prop :=
 ∃ b:Int->Int,e=.returned (.tuple #[.agg (bdC b).toArray,.bool (decide (i9 1 L))])/\Below w.heap.size w w'/\(i9 1 L->bdC b=bdC (d6 L))
theorem a4O {L:List Ar} (h:i9 1 L):1<=t4 1 L:=a1Z h
theorem a5V (p:Option Addr) (c:Nat) (w:World):Calls Tryz.prog 99 #[.slice p 0 c] w (s9 [] w):=by
 have hszb:(Tryz.prog.info? 203).map (·.size)=some 256:=by kernel_rfl
 have Hszb:=hid hszb;clear hszb;have hbw:=Below.refl w.heap.size w
 go_enter Tryz.func99,Tryz.ntmps99
 go_wp2_with (first|(with_reducible refine l2 2 ?_);refine b8 rfl (some 2) rfl (bdC (fun _=>0)) 203 (by kernel_rfl) w.heap.size w hbw hbw.size ?_;intro g2 wn2 hL2 hB2 hbn hkn hnn;skip;clear hbw hkn hnn;have hbw:=hbn;clear hbn|(with_reducible refine l2 4 ?_);refine b8 rfl (some 4) rfl (bdC (fun _=>0)) 203 (by kernel_rfl) w.heap.size w hbw hbw.size ?_;intro g4 wn4 hL4 hB4 hbn hkn hnn;(try have n2_4:=hnn _ hL2.lt);(try have n4_2:=Ne.symm (hnn _ hL2.lt));(try have hL2:=hL2.kept hkn);clear hbw hkn hnn;have hbw:=hbn;clear hbn)
 go_loopw [5,6] (fun vl vi wr=>vl=.int .i64 0/\vi=.int .i64 0/\wr=wn4) (fun _ _ _=>0)
 case atStart=>exact ⟨rfl,rfl,rfl⟩
 case round=>
  obtain ⟨rfl,rfl,rfl⟩:=hrel
  go_wp2_with (first|(with_reducible refine l2 44 ?_);refine x8 rfl 203 (.tmp 4) rfl g4 (bdC (fun _=>0)) rfl hL4 _ Tryz.underlying203 rfl (by rw [Hszb.out,g8]) ?_|(with_reducible refine j4 2 ?_);refine a6 rfl 203 (.tmp 2) (.tmp 44) rfl rfl g2 (bdC (fun _=>0)) (bdC (fun _=>0)) rfl rfl hL2 (by rw [Hszb.out,g8]) (by simp [g8]) (a0k _) w.heap.size w hbw hB2 ?_;intro wp2 hLn hbn hon;(try have hL4:=hL4.other hon n4_2);clear hL2 hbw hon;have hL2:=hLn;have hbw:=hbn;clear hLn hbn)
  refine bodyPost_ret (v:=.tuple #[.agg (bdC (fun _=>0)).toArray,.bool true]) (i4 rfl _ g2 (bdC (fun _=>0)) (.bool true) _ rfl rfl hL2 Tryz.underlying203 rfl (by rw [Hszb.out,g8])) rfl ?_;exact ⟨fun _=>0,rfl,hbw,fun _=>rfl⟩
theorem a58 {L:List Ar} {w:World} (b off cap:Nat) (hbl:b < w.heap.size) (d9:∀ i a,L[i]?=some a->CellsAr w b (off + i * 4) a) (hok:∀ (i:Nat) (a:Ar),L[i]?=some a->a.ok) (hlen:L.length<=255) :
  Calls Tryz.prog 99 #[.slice (some ⟨b,off,none⟩) L.length cap] w (s9 L w):=by
 have hszb:(Tryz.prog.info? 203).map (·.size)=some 256:=by kernel_rfl
 have Hszb:=hid hszb;clear hszb;have hsz:(Tryz.prog.info? 119).map (·.size)=some 4:=by kernel_rfl
 have Hsz:=hid hsz;clear hsz;have hsz:(Tryz.prog.info? 3).map (·.size)=some 1:=by kernel_rfl
 have Hsz1:=hid hsz;clear hsz;have HL:=hid d9;have HO:=hid hok;clear d9 hok;have hbw:=Below.refl w.heap.size w
 go_enter Tryz.func99,Tryz.ntmps99
 go_wp2_with (first|(with_reducible refine l2 2 ?_);refine b8 rfl (some 2) rfl (bdC (fun _=>0)) 203 (by kernel_rfl) w.heap.size w hbw hbw.size ?_;intro g2 wn2 hL2 hB2 hbn hkn hnn;skip;clear hbw hkn hnn;have hbw:=hbn;clear hbn|(with_reducible refine l2 4 ?_);refine b8 rfl (some 4) rfl (bdC (fun _=>0)) 203 (by kernel_rfl) w.heap.size w hbw hbw.size ?_;intro g4 wn4 hL4 hB4 hbn hkn hnn;(try have n2_4:=hnn _ hL2.lt);(try have n4_2:=Ne.symm (hnn _ hL2.lt));(try have hL2:=hL2.kept hkn);clear hbw hkn hnn;have hbw:=hbn;clear hbn)
 go_loopw [5,6] (fun vl vi wr=>∃ i:Nat,i<=L.length/\vi=.int .i64 i/\vl=.int .i64 (t4 1 (L.take i) - 1)/\Below w.heap.size w wr/\HoldL wr g4 (bdC (d6 (L.take i)))/\HoldL wr g2 (bdC (fun _=>0))/\Hid (i9 1 (L.take i))) (fun _ vi _=>L.length - (intOf vi).toNat)
 case atStart=>exact ⟨0,by omega,rfl,rfl,hbw,hL4,hL2,trivial⟩
 case round=>
  clear hbw hL4 hL2;obtain ⟨i,hi,rfl,rfl,hbw,hL4,hL2,HR⟩:=hrel;by_cases hlt:i < L.length
  ·obtain ⟨a,ha⟩:∃ a,L[i]?=some a:=⟨L[i],by simp [hlt]⟩;obtain ⟨c0,c1,c2,c3⟩:=(HL.out i a ha).grown hbw hbl;have hao:=HO.out i a ha;have hbr:=z7 (xa6 hbl hbw.size);have HT:=hid (a41 ha);by_cases hr:t4 1 (L.take i)<=a.pg
   ·have HX:Hid (i9 1 (L.take i++[a])):=a2R.2 ⟨HR.out,hao,hr⟩;have hpos:=a4O HR.out;have hok:=hao;unfold Ar.ok at hok;have hfin:a.fin=a.pg + a.n:=rfl;have hw1:wrap64 (a.pg + a.n)=a.fin:=by rw [hfin];exact j0 _ (by omega) (by omega)
    have hw2:wrap64 (a.fin - 1)=a.fin - 1:=by rw [hfin];exact j0 _ (by omega) (by omega)
    have hlt2:t4 1 (L.take i) - 1 < a.pg:=by omega
    obtain ⟨q0,hq0⟩:=Int.eq_ofNat_of_zero_le (show 0<=a.pg by omega);have hmk:Hid (a.mk'=1 + 2 * a.prot + (if a.z then 8 else 0)):=hid rfl;have HM:=hid (fun w=>a5r (a6m a.prot a.z ⟨by omega,by omega⟩ w));rw [<- hmk.out] at HM;have HS:=hid (a3p (L.take i) a);have HE:=hid (a48 HX.out);have HP:=hid (fun q:Nat=>a3H (L.take i) a q);have HK:=hid (show ∀ q:Nat,(q:Int) < a.fin->q < 256 from fun q h=>by omega);have hqb:(q0:Int)<=a.fin:=by omega
    have HQ:=hid hq0;clear hr hao hok hpos hfin hq0;have HLT:=hid hlt;generalize hlst:t4 1 (L.take i) - 1=lst at *;clear hlst
    go_wp2_with (first|(with_reducible refine l2 7 ?_);refine b8 rfl (some 7) rfl (zl4) 119 (by kernel_rfl) w.heap.size w hbw hbw.size ?_;intro g7 wn7 hL7 hB7 hbn hkn hnn;(try have n2_7:=hnn _ hL2.lt);(try have n7_2:=Ne.symm (hnn _ hL2.lt));(try have hL2:=hL2.kept hkn);(try have n4_7:=hnn _ hL4.lt);(try have n7_4:=Ne.symm (hnn _ hL4.lt));(try have hL4:=hL4.kept hkn);clear hbw hkn hnn;have hbw:=hbn;clear hbn|((with_reducible refine j4 7 ?_);refine a6 rfl 119 (.tmp 7) (.tmp 18) rfl rfl g7 ([.int .i64 a.pg,.int .i64 a.n,.int .i64 a.prot,.bool a.z]) (zl4) rfl rfl hL7 Hsz.out rfl rfl w.heap.size w hbw hB7 ?_;intro wp7 hLn hbn hon;(try have hL2:=hL2.other hon n2_7);(try have hL4:=hL4.other hon n4_7);clear hL7 hbw hon;have hL7:=hLn;have hbw:=hbn;clear hLn hbn);have d0:wp7.cell? ⟨g7,0,none⟩=some (.int .i64 a.pg):=hL7.cell 0;have d1:wp7.cell? ⟨g7,1,none⟩=some (.int .i64 a.n):=hL7.cell 1)
    rw [hw1,hw2];clear hw1 hw2
    go_loopw [8] (fun vp wr=>∃ q:Nat,(a.pg<=q/\(q:Int)<=a.fin)/\vp=.int .i64 q/\Below w.heap.size w wr/\HoldL wr g4 (bdC (a0w (L.take i) a q))/\HoldL wr g2 (bdC (fun _=>0))/\HoldL wr g7 [.int .i64 a.pg,.int .i64 a.n,.int .i64 a.prot,.bool a.z]) (fun vp _=>(a.fin - intOf vp).toNat)
    case atStart=>
     refine ⟨q0,⟨Int.le_of_eq HQ.out,hqb⟩,by rw [HQ.out],hbw,?_,hL2,hL7⟩;have:=HS.out;rw [HQ.out] at this;rw [this];exact hL4
    case round=>
     clear hbw hL4 hL2 hL7;obtain ⟨q,⟨hq1,hq2⟩,rfl,hbw,hL4,hL2,hL7⟩:=hrel;have e2:=hL7.cell 2;have e3:=hL7.cell 3;by_cases hq:(q:Int) < a.fin
     ·have hq256:=HK.out q hq;have hq6:(q:Int) < 256:=by omega
      have hle:(q:Int)<=a.fin - 1:=by omega
      have HMONO:Hid (a.pg<=((q + 1:Nat):Int)/\((q + 1:Nat):Int)<=a.fin):=hid (by omega);have HMS:Hid ((a.fin - ((q:Int) + 1)).toNat < (a.fin - (q:Int)).toNat):=hid (by omega);have HWS:Hid (wrap64 ((q:Int) + 1)=(q:Int) + 1):=hid (j0 _ (by omega) (by omega));have HQ1:=hid hq1;clear hq1 hq2 hq hq256
      go_wp2_with (first|(go_at_call 140;(with_reducible refine (HM.out _).mono ?_);rintro e wc ⟨rfl,hbc⟩);have hL4:=hL4.grown hbc hL4.lt;have hL2:=hL2.grown hbc hL2.lt;have hL7:=hL7.grown hbc hL7.lt;have hbn:=bt hbw hbc;clear hbw hbc;have hbw:=hbn;clear hbn|(with_reducible refine j4 43 ?_);refine a1O rfl 3 (.tmp 43) (.tmp 42) rfl rfl Hsz1.out g4 q a.mk' rfl rfl (bdC (a0w (L.take i) a q)) hL4 (by rw [g8];exact Int.ofNat_lt.1 hq6) w.heap.size w hbw hB4 ?_;intro w6 hL46 hbw6 ho6;rw [HP.out q HQ1.out] at hL46;have hL2:=hL2.other ho6 n2_4;have hL7:=hL7.other ho6 n7_4)
      go_roundw
      case rel=>exact ⟨q + 1,HMONO.out,rfl,hbw6,hL46,hL2,hL7⟩
      case measure=>exact HMS.out
     ·have hqe:(q:Int)=a.fin:=by omega
      have hnl:a.fin - 1 < (q:Int):=by omega
      rw [hqe,HE.out] at hL4;have HQE:=hid hqe;clear hqe;have HWI:Hid (wrap64 ((i:Int) + 1)=(i:Int) + 1):=hid (j0 _ (by omega) (by omega));have HMS:Hid (L.length - ((i:Int) + 1).toNat < L.length - (i:Int).toNat):=hid (by omega);clear hq1 hq2 hq
      go_wp2
      refine ⟨⟨i + 1,hlt,rfl,?_,hbw,?_,hL2,?_⟩,?_⟩
      ·rw [HT.out,a4u]
      ·rw [HT.out];exact hL4
      ·rw [HT.out];exact HX.out
      ·exact HMS.out
   ·have HX:Hid (¬ i9 1 L):=fun h=>by
     have:=a5P h (i + 1);rw [HT.out,a2R] at this;exact hr this.2.2
    have hle:a.pg<=t4 1 (L.take i) - 1:=by omega
    clear hr HT hao;generalize t4 1 (L.take i) - 1=lst at *;generalize d6 (L.take i)=bb at *
    go_wp2_with (first|(with_reducible refine l2 7 ?_);refine b8 rfl (some 7) rfl (zl4) 119 (by kernel_rfl) w.heap.size w hbw hbw.size ?_;intro g7 wn7 hL7 hB7 hbn hkn hnn;(try have n2_7:=hnn _ hL2.lt);(try have n7_2:=Ne.symm (hnn _ hL2.lt));(try have hL2:=hL2.kept hkn);(try have n4_7:=hnn _ hL4.lt);(try have n7_4:=Ne.symm (hnn _ hL4.lt));(try have hL4:=hL4.kept hkn);clear hbw hkn hnn;have hbw:=hbn;clear hbn|((with_reducible refine j4 7 ?_);refine a6 rfl 119 (.tmp 7) (.tmp 18) rfl rfl g7 ([.int .i64 a.pg,.int .i64 a.n,.int .i64 a.prot,.bool a.z]) (zl4) rfl rfl hL7 Hsz.out rfl rfl w.heap.size w hbw hB7 ?_;intro wp7 hLn hbn hon;(try have hL2:=hL2.other hon n2_7);(try have hL4:=hL4.other hon n4_7);clear hL7 hbw hon;have hL7:=hLn;have hbw:=hbn;clear hLn hbn);have d0:wp7.cell? ⟨g7,0,none⟩=some (.int .i64 a.pg):=hL7.cell 0|(with_reducible refine l2 23 ?_);refine x8 rfl 203 (.tmp 4) rfl g4 (bdC bb) rfl hL4 _ Tryz.underlying203 rfl (by rw [Hszb.out,g8]) ?_|(with_reducible refine j4 2 ?_);refine a6 rfl 203 (.tmp 2) (.tmp 23) rfl rfl g2 (bdC bb) (bdC (fun _=>0)) rfl rfl hL2 (by rw [Hszb.out,g8]) (by simp [g8]) (a0k _) w.heap.size w hbw hB2 ?_;intro wp2 hLn hbn hon;(try have hL4:=hL4.other hon n4_2);(try have hL7:=hL7.other hon n7_2);clear hL2 hbw hon;have hL2:=hLn;have hbw:=hbn;clear hLn hbn)
    refine bodyPost_ret (v:=.tuple #[.agg (bdC bb).toArray,.bool false]) (i4 rfl _ g2 (bdC bb) (.bool false) _ rfl rfl hL2 Tryz.underlying203 rfl (by rw [Hszb.out,g8])) rfl ?_;exact ⟨bb,by rw [xg8 HX.out],hbw,fun h=>absurd h HX.out⟩
  ·have:i=L.length:=by omega
   subst this;rw [xe9] at hL4 HR
   go_wp2_with (first|(with_reducible refine l2 44 ?_);refine x8 rfl 203 (.tmp 4) rfl g4 (bdC (d6 L)) rfl hL4 _ Tryz.underlying203 rfl (by rw [Hszb.out,g8]) ?_|(with_reducible refine j4 2 ?_);refine a6 rfl 203 (.tmp 2) (.tmp 44) rfl rfl g2 (bdC (d6 L)) (bdC (fun _=>0)) rfl rfl hL2 (by rw [Hszb.out,g8]) (by simp [g8]) (a0k _) w.heap.size w hbw hB2 ?_;intro wp2 hLn hbn hon;(try have hL4:=hL4.other hon n4_2);clear hL2 hbw hon;have hL2:=hLn;have hbw:=hbn;clear hLn hbn)
   refine bodyPost_ret (v:=.tuple #[.agg (bdC (d6 L)).toArray,.bool true]) (i4 rfl _ g2 (bdC (d6 L)) (.bool true) _ rfl rfl hL2 Tryz.underlying203 rfl (by rw [Hszb.out,g8])) rfl ?_;exact ⟨d6 L,by rw [xg6 HR.out],hbw,fun _=>rfl⟩
def a0O (L:List Ar):List Value:=L.flatMap arC
theorem a1n (L:List Ar):(a0O L).length=L.length * 4:=by
 induction L with
 |nil=>rfl
 |cons a L ih=>unfold a0O at *;simp [arC,ih];omega
theorem a0H (L:List Ar) (a:Ar):a0O (L++[a])=a0O L++arC a:=by simp [a0O]
theorem a5I (L:List Ar) (a:Ar) (n:Int):a0O (L++[{ a with n:=n }])=(a0O (L++[a])).set (L.length * 4 + 1) (.int .i64 n):=by
 rw [a0H,a0H,List.set_append_right _ _ (by rw [a1n];omega),a1n,show L.length * 4 + 1 - L.length * 4=1 by omega];rfl
theorem a9h (L:List Ar) (a:Ar) (j:Nat) (h:j < 4):(a0O (L++[a]))[L.length * 4 + j]?=(arC a)[j]?:=by
 rw [a0H,xa3 (by rw [a1n];omega),a1n,show L.length * 4 + j - L.length * 4=j by omega]
theorem a1f {L:List Ar}:∀ {i:Nat} {a:Ar},L[i]?=some a->∀ j:Nat,j < 4->(a0O L)[i * 4 + j]?=(arC a)[j]?:=by
 induction L with
 |nil=>intro i a h;simp at h
 |cons c L ih=>
  intro i a h j hj;have e:a0O (c::L)=arC c++a0O L:=rfl;rw [e]
  cases i with
  |zero=>
   simp at h;subst h;rw [xa4 (by simp [arC];omega)];simp
  |succ i=>
   rw [xa3 (by simp [arC];omega),show (i + 1) * 4 + j - (arC c).length=i * 4 + j by simp [arC];omega];exact ih (by simpa using h) j hj
theorem a4n {w:World} {base:Nat} {e:TypeId} {v:Value} {L:List Ar} (h:w.ownsRow base e 4 v L.length (a0O L)):SlAr w v L:=by
 rcases h.2 with ⟨rfl,hn⟩|⟨g,cap,cur,rfl,hb,hg,hnc,hcm,_⟩
 ·exact xc6 ⟨_,_,rfl,xd9 hn⟩
 ·have hlt:=(xa7.1 hg).1;refine xc3 ⟨g,0,cap,rfl,hlt,hnc,hcm,fun i a ha=>?_⟩;obtain ⟨hi,_⟩:=xa5.1 ha;refine ⟨?_,?_,?_,?_⟩
  ·have:=h.cellAt (i * 4 + 0) (by omega);rw [a1f ha 0 (by decide)] at this;simpa [arC] using this
  ·have:=h.cellAt (i * 4 + 1) (by omega);rw [a1f ha 1 (by decide)] at this;simpa [arC] using this
  ·have:=h.cellAt (i * 4 + 2) (by omega);rw [a1f ha 2 (by decide)] at this;simpa [arC] using this
  ·have:=h.cellAt (i * 4 + 3) (by omega);rw [a1f ha 3 (by decide)] at this;simpa [arC] using this
theorem a2O {w w':World} {base:Nat} {e:TypeId} {size n:Nat} {v:Value} {xs:List Value} (h:w.ownsRow base e size v n xs) (hb:Below w.heap.size w w'):w'.ownsRow base e size v n xs:=by
 refine ⟨h.1,?_⟩;rcases h.2 with hn|⟨g,cap,cur,rfl,hbg,hgg,rest⟩
 ·exact .inl hn
 ·exact .inr ⟨g,cap,cur,rfl,hbg,by rw [hb.block g (xa7.1 hgg).1];exact hgg,rest⟩
theorem a5D (b:Int->Int) (k:Nat):∀ a ∈ l0 b k,1<=a.pg/\1<=a.n:=by
 induction k with
 |zero=>intro a h;simp [l0] at h
 |succ k ih=>
  unfold l0 y9
  split
  ·exact ih
  split
  ·intro a h;rcases List.eq_nil_or_concat (l0 b k) with e|⟨l,c,e⟩
   ·rw [e] at h;simp [t5] at h
   ·rw [e] at ih h;simp only [List.concat_eq_append] at ih h;rw [z3] at h;rcases xd1.1 h with h|h
    ·exact ih a (xd1.2 (xc6 h))
    ·have:a={ c with n:=c.n + 1 }:=by simpa using h
     subst this;have:=ih c (by simp);exact ⟨this.1,by simp only;omega⟩
  ·intro a h;rcases xd1.1 h with h|h
   ·exact ih a h
   ·rw [xh6] at h;rw [h];exact ⟨by simp only;omega,by simp only;omega⟩
theorem a5K (b:Int->Int) (k:Nat):(l0 b k).length<=k:=by
 induction k with
 |zero=>simp [l0]
 |succ k ih=>
  unfold l0 y9
  split
  ·omega
  split
  ·rcases List.eq_nil_or_concat (l0 b k) with e|⟨l,c,e⟩
   ·rw [e];simp [t5]
   ·rw [e] at ih |-;simp only [List.concat_eq_append] at ih |-;rw [z3];simp at ih |-;omega
  ·simp;omega
def a9z (base:Nat) (w:World) (v:Value) (L:List Ar):Prop:=w.ownsRow base 119 4 v L.length (a0O L)
theorem a7h {w:World} {base base':Nat} {v:Value} {L:List Ar} (h:w.ownsRow base 119 4 v L.length (a0O L)) (hb:base'<=base):a9z base' w v L:=by
 refine ⟨h.1,?_⟩;rcases h.2 with hn|⟨g,cap,cur,rfl,hg,rest⟩
 ·exact .inl hn
 ·exact .inr ⟨g,cap,cur,rfl,xc5 hb hg,rest⟩
def a6a (L:List Ar) (w:World) (e:Ending) (w':World):Prop:=∃ v,e=.returned v/\a9z w.heap.size w' v L/\Below w.heap.size w w'
theorem a54:∃ i,(Tryz.prog).info? 119=some i/\i.zero=some (.agg #[.int .i64 0,.int .i64 0,.int .i64 0,.bool false])/\i.size=4/\i.bytes=32:=by
 have h:((Tryz.prog).info? 119).map (fun i=>(i.zero,i.size,i.bytes))=some (some (.agg #[.int .i64 0,.int .i64 0,.int .i64 0,.bool false]),4,32):=by kernel_rfl
 cases hq:(Tryz.prog).info? 119 with
 |none=>simp [hq] at h
 |some i=>
  simp [hq] at h;exact ⟨i,rfl,h.1,h.2.1,h.2.2⟩
theorem a5N (W:World) (c0 c1 c2 c3:Value) (t:TypeId):∀ (j:Nat) (u:Value),[c0,c1,c2,c3][j]?=some u->(W.alloc (.cells #[c0,c1,c2,c3] t)).cell? ((⟨W.heap.size,0,none⟩:Addr).add j)=some u:=by
 intro j u h;rw [show (⟨W.heap.size,0,none⟩:Addr).add j=⟨W.heap.size,j,none⟩ from by unfold Addr.add;split <;> simp_all];rw [World.cell?_alloc_mark,<- h];simp
theorem ms4 {k:Nat} (h:k < 255):(256 - ((k:Int) + 1 + 1)).toNat < (256 - ((k:Int) + 1)).toNat:=by omega
theorem a1H (b:Int->Int) (hm:∀ p,a5G (b p)) (h0:b 0=0) (w:World):Calls Tryz.prog 100 #[.agg (bdC b).toArray] w (a6a (l0 b 255) w):=by
 obtain ⟨i0,hi0,hz0,hs0,hy0⟩:=a54;have HI:=hid hi0;have HZ:=hid hz0;have HSZ:=hid hs0;have HY:=hid hy0;have HA:=hid (a1I b hm h0);have HP:=hid (a5D b);have HN:=hid (a5K b);have HM:=hid hm;have HB:=hid (a4v b);clear hi0 hz0 hs0 hy0 hm h0;have hbw:=Below.refl w.heap.size w;obtain ⟨B,hB⟩:∃ B,B=bdC b:=⟨_,rfl⟩;rw [<- hB] at HB |-;clear hB
 go_enter Tryz.func100,Tryz.ntmps100
 go_wp2_with (first|(with_reducible refine l2 1 ?_);refine a1J rfl 203 (.tmp 0) rfl (some 1) rfl (B) rfl w.heap.size w hbw hbw.size ?_;intro g1 wn1 hL1 hB1 hbn hkn hnn;skip;clear hbw hkn hnn;have hbw:=hbn;clear hbn)
 go_loopw [3,4] (fun vo vp wr=>∃ k:Nat,k<=255/\vp=.int .i64 ((k:Int) + 1)/\Below wn1.heap.size wn1 wr/\wr.ownsRow wn1.heap.size 119 4 vo (l0 b k).length (a0O (l0 b k))) (fun _ vp _=>(256 - intOf vp).toNat)
 case atStart=>exact ⟨0,by omega,rfl,Below.refl _ _,World.ownsRow_nil _ _ _ _⟩
 case round=>
  obtain ⟨k,hk,rfl,hb2,hown⟩:=hrel;by_cases hlt:k < 255
  ·have h1b:=hL1.grown hb2 hL1.lt;have e0:=(h1b.cell k).trans (HB.out k (by omega));have e1:=(h1b.cell (k + 1)).trans (HB.out (k + 1) (by omega));rw [show ((k + 1:Nat):Int)=(k:Int) + 1 by omega] at e1;have z1:=z7 h1b.lt;have HS:Hid (l0 b (k + 1)=y9 b (l0 b k) ((k:Int) + 1)):=hid rfl;by_cases c1:b ((k:Int) + 1)=0
   ·have c1':(b ((k:Int) + 1) == 0)=true:=by simpa using c1
    have HX:Hid (l0 b (k + 1)=l0 b k):=by refine hid ?_;rw [HS.out];unfold y9;rw [xd6 c1]
    clear c1;generalize b ((k:Int) + 1)=bp at *;have HMS:=hid (ms4 hlt)
    go_wp2
    exact ⟨⟨k + 1,hlt,rfl,hb2,by rw [HX.out];exact hown⟩,HMS.out⟩
   have c1':(b ((k:Int) + 1) == 0)=false:=by simpa using c1
   have hmk:=HM.out ((k:Int) + 1);by_cases c2:b k=b ((k:Int) + 1)
   ·have c2':(b k == b ((k:Int) + 1))=true:=by simpa using c2
    obtain ⟨l,a,hla,hfin⟩:=(HA.out k).2.2 (by rw [c2];exact c1);have HX:Hid (l0 b (k + 1)=l++[{ a with n:=a.n + 1 }]):=by
     refine hid ?_;rw [HS.out];unfold y9;rw [xd7 c1,xd6 (by rw [show (k:Int) + 1 - 1=k by omega];exact c2),hla,z3]
    have hpg:=HP.out k a (by rw [hla];simp);have hfn:a.fin=a.pg + a.n:=rfl;have hw:wrap64 (a.n + 1)=a.n + 1:=by
     exact j0 _ (by omega) (by omega)
    have HF:=hid (a5I l a (a.n + 1));have HAT:=hid (a9h l a 1 (by decide));rw [hla,show (l++[a]).length=l.length + 1 by simp] at hown;have hlen:l.length<=255:=by have:=HN.out k;rw [hla] at this;simp at this;omega
    rcases hown.2 with ⟨_,h⟩|⟨g,cap,cur,rfl,hbg,hgg,hnc,hcm,hrest⟩
    ·omega
    have hglt:=(xa7.1 hgg).1;clear hgg hcm hrest cur;have HMS:=hid (ms4 hlt);clear c1 c2 hla hfin hpg hfn hmk;generalize b ((k:Int) + 1)=bp at *;generalize b k=bk at *;have t0:wr.cell? ⟨g,l.length * 4 + 1,none⟩=some (.int .i64 a.n):=(hown.cellAt (l.length * 4 + 1) (by omega)).trans HAT.out;have t1:=hown.frozenAt (l.length * 4 + 1);have zg:=z7 hglt
    go_wp2
    refine wp_region_quiet_below (by kernel_rfl) (by kernel_rfl) ?_
    repeat ((go_big_quiet_step ((fail))))
    refine wpQuiet_nil ?_;intro wq hw';obtain ⟨⟨dq,osq⟩,hw''⟩:=hw';have hbr:=d8 hw'';clear hw''
    first
     |(have hbn:=bt hbq hbr;clear hcq hfq hzq hbq hbr;have hbq:=hbn;clear hbn)
     |(have hbq:=hbr;clear hbr)
    obtain ⟨hcq,hfq,hzq⟩:=n7 hbq;have hown:=a2O hown hbq;have hb2:=bt hb2 hbq;have HS2:=hid (hown.stored (l.length * 4 + 1) (.int .i64 (a.n + 1)))
    go_wp2
    refine ⟨⟨k + 1,hlt,rfl,hb2.setCell hbg _,?_⟩,HMS.out⟩;rw [HX.out,HF.out]
    simpa using HS2.out.1
   ·have c2':(b k == b ((k:Int) + 1))=false:=by simpa using c2
    have HX:Hid (l0 b (k + 1)=l0 b k++[⟨(k:Int) + 1,1,(b ((k:Int) + 1) - 1) % 8 / 2,decide (8<=b ((k:Int) + 1) - 1)⟩]):=by
     refine hid ?_;rw [HS.out];unfold y9;rw [xd7 c1,xd7 (by rw [show (k:Int) + 1 - 1=k by omega];exact c2)]
    have HMS:=hid (ms4 hlt);have hlen:=HN.out k;have hmk2:1<=b ((k:Int) + 1)/\b ((k:Int) + 1)<=16:=by unfold a5G at hmk;omega
    obtain ⟨m1,m2⟩:=hmk2;have hr1:(b ((k:Int) + 1) - 1).tmod 8=(b ((k:Int) + 1) - 1) % 8:=Int.tmod_eq_emod_of_nonneg (by omega);have hr2:((b ((k:Int) + 1) - 1) % 8).tdiv 2=(b ((k:Int) + 1) - 1) % 8 / 2:=Int.tdiv_eq_ediv_of_nonneg (by omega);clear c1 c2 hmk;generalize l0 b k=U at *;generalize b ((k:Int) + 1)=bp at *;generalize b k=bk at *
    go_wp2
    refine wp_region_quiet_below (by kernel_rfl) (by kernel_rfl) ?_
    repeat ((go_big_quiet_step ((fail))))
    refine wpQuiet_nil ?_;intro wq hw';obtain ⟨⟨dq,osq⟩,hw''⟩:=hw';have hbr:=d8 hw'';clear hw''
    first
     |(have hbn:=bt hbq hbr;clear hcq hfq hzq hbq hbr;have hbq:=hbn;clear hbn)
     |(have hbq:=hbr;clear hbr)
    obtain ⟨hcq,hfq,hzq⟩:=n7 hbq;have hown:=a2O hown hbq;have hb2:=bt hb2 hbq
    go_wp2_with (first|(with_reducible refine l2 45 ?_);go_must (refine wpList_append_own_wide _ rfl (.tmp 36) (.tmp 44) 57 rfl wn1.heap.size 119 i0 (.agg #[.int .i64 0,.int .i64 0,.int .i64 0,.bool false]) 4 32 Tryz.underlying57 HI.out HZ.out HSZ.out HY.out rfl (by decide) u3 U.length (a0O U) rfl (hown.alloc _) ⟨wq.heap.size,0,none⟩ 1 1 [.int .i64 ((k:Int) + 1),.int .i64 1,.int .i64 ((bp - 1) % 8 / 2),.bool (decide (8<=bp - 1))] rfl rfl (a5N wq _ _ _ _ _) (by intro u hu;simp at hu;rcases hu with rfl|rfl|rfl|rfl <;> rfl) (by unfold maxLen;omega) (by omega) (by have:=hb2.size;simp;omega) ?_);intro v3 w3 hown3 hg3 hn3)
    have hb3:=(hb2.alloc hb2.size _).grown hg3 (by have:=hb2.size;simp;omega) (fun j hj=>(hown.lt j hj).1);refine ⟨⟨k + 1,hlt,rfl,hb3,?_⟩,HMS.out⟩;rw [HX.out,a0H,xd4];exact hown3
  ·go_wp2
   go_ret
   obtain rfl:k=255:=by omega
   exact ⟨_,rfl,a7h hown hbw.size,bt hbw hb2⟩
theorem a4S {A B:List Ar} (hl:A.length=B.length) (h:∀ (i:Nat) (a b:Ar),A[i]?=some a->B[i]?=some b->a=b):A=B:=by
 apply List.ext_getElem hl;intro i h1 h2;exact h i _ _ (by simp [h1]) (by simp [h2])
theorem a7y {A B:List Ar} {i:Nat} {a b:Ar} (ha:A[i]?=some a) (hb:B[i]?=some b) (h:a≠b):A≠B:=fun e=>by
 subst e;rw [ha] at hb;cases hb;exact h rfl
theorem a8Y {A B:List Ar} (h:A.length≠B.length):A≠B:=fun e=>h (by rw [e])
theorem ms5 {i n:Nat} (h:i < n):n - ((i:Int) + 1).toNat < n - (i:Int).toNat:=by omega
theorem a42 (h n:Nat) (h1:h < n) (h2:n<=9223372036854775807):wrap64 ((h:Int) + 1)=(h:Int) + 1:=by unfold wrap64;omega
theorem a5B {A B:List Ar} {w:World} (b1 off1 cap1 b2 off2 cap2:Nat) (hb1:b1 < w.heap.size) (hb2:b2 < w.heap.size) (hc1:∀ i a,A[i]?=some a->CellsAr w b1 (off1 + i * 4) a) (hc2:∀ i a,B[i]?=some a->CellsAr w b2 (off2 + i * 4) a) (hl:A.length=B.length) (hmax:A.length<=9223372036854775807) :
  Calls Tryz.prog 31 #[.slice (some ⟨b1,off1,none⟩) A.length cap1,.slice (some ⟨b2,off2,none⟩) B.length cap2] w (RB (.bool (decide (A=B))) w):=by
 have HA:=hid hc1;have HB:=hid hc2;have HL:=hid hl;have HM:=hid hmax;rw [<- hl];clear hc1 hc2 hl hmax
 go_enter Tryz.func31,Tryz.ntmps31
 go_wp2
 go_loopw [5] (fun vi wr=>∃ i:Nat,i<=A.length/\vi=.int .i64 i/\Below w.heap.size w wr/\Hid (∀ (j:Nat) (a b:Ar),j < i->A[j]?=some a->B[j]?=some b->a=b)) (fun vi _=>A.length - (intOf vi).toNat)
 case atStart=>exact ⟨0,by omega,rfl,Below.refl _ _,fun j a b hj=>by omega⟩
 case round=>
  obtain ⟨i,hi,rfl,hb,HO⟩:=hrel;by_cases hlt:i < A.length
  ·obtain ⟨a,ha⟩:∃ a,A[i]?=some a:=⟨A[i],by simp [hlt]⟩;obtain ⟨b,hbb⟩:∃ b,B[i]?=some b:=⟨B[i]'(by have:=HL.out;omega),by simp⟩;obtain ⟨c0,c1,c2,c3⟩:=(HA.out i a ha).grown hb hb1;obtain ⟨d0,d1,d2,d3⟩:=(HB.out i b hbb).grown hb hb2;have z1:=z7 (xa6 hb1 hb.size);have z2:=z7 (xa6 hb2 hb.size);by_cases e:a=b
   ·have HX:=hid e;subst e;have hli:(i:Int) < A.length:=Int.ofNat_lt.2 hlt;have hws:=a42 i A.length hlt HM.out;have HMS:=hid (ms5 hlt)
    go_wp2
    refine wp_region_quiet_below (by kernel_rfl) (by kernel_rfl) ?_
    repeat (first|go_big_quiet_step ((fail))|quiet_step ((fail)))
    refine wpQuiet_nil ?_;intro wq hw';obtain ⟨⟨dq,osq⟩,hw''⟩:=hw';have hbr:=d8 hw'';clear hw''
    first
     |(have hbn:=bt hbq hbr;clear hcq hfq hzq hbq hbr;have hbq:=hbn;clear hbn)
     |(have hbq:=hbr;clear hbr)
    obtain ⟨hcq,hfq,hzq⟩:=n7 hbq
    go_wp2
    go_roundw
    case rel=>
     refine ⟨i + 1,hlt,by first|rfl|(rw [hws];rfl),bt hb hbq,fun j x y hj hx hy=>?_⟩;rcases xk5.1 hj with h|h
     ·exact HO.out j x y h hx hy
     ·subst h;rw [ha] at hx;rw [hbb] at hy;cases hx;cases hy;rfl
    case measure=>first|exact HMS.out|(rw [hws];exact HMS.out)
   ·have HX:=hid (a7y ha hbb e);by_cases e1:a.pg=b.pg
    ·by_cases e2:a.n=b.n
     ·by_cases e3:a.prot=b.prot
      ·have e4:¬ a.z=b.z:=fun h=>e (by cases a;cases b;simp_all);have f1:(a.pg == b.pg)=true:=by simpa using e1
       have f2:(a.n == b.n)=true:=by simpa using e2
       have f3:(a.prot == b.prot)=true:=by simpa using e3
       have f4:(a.z == b.z)=false:=by simpa using e4
       clear e e1 e2 e3 e4
       go_wp2
       refine wp_region_quiet_below (by kernel_rfl) (by kernel_rfl) ?_
       repeat (first|go_big_quiet_step ((fail))|quiet_step ((fail)))
       refine wpQuiet_nil ?_;intro wq hw';obtain ⟨⟨dq,osq⟩,hw''⟩:=hw';have hbr:=d8 hw'';clear hw''
       first
        |(have hbn:=bt hbq hbr;clear hcq hfq hzq hbq hbr;have hbq:=hbn;clear hbn)
        |(have hbq:=hbr;clear hbr)
       obtain ⟨hcq,hfq,hzq⟩:=n7 hbq
       go_wp2
       go_ret
       exact ⟨g9 (xg8 HX.out).symm,bt hb hbq⟩
      ·have f1:(a.pg == b.pg)=true:=by simpa using e1
       have f2:(a.n == b.n)=true:=by simpa using e2
       have f3:(a.prot == b.prot)=false:=by simpa using e3
       clear e e1 e2 e3
       go_wp2
       refine wp_region_quiet_below (by kernel_rfl) (by kernel_rfl) ?_
       repeat (first|go_big_quiet_step ((fail))|quiet_step ((fail)))
       refine wpQuiet_nil ?_;intro wq hw';obtain ⟨⟨dq,osq⟩,hw''⟩:=hw';have hbr:=d8 hw'';clear hw''
       first
        |(have hbn:=bt hbq hbr;clear hcq hfq hzq hbq hbr;have hbq:=hbn;clear hbn)
        |(have hbq:=hbr;clear hbr)
       obtain ⟨hcq,hfq,hzq⟩:=n7 hbq
       go_wp2
       go_ret
       exact ⟨g9 (xg8 HX.out).symm,bt hb hbq⟩
     ·have f1:(a.pg == b.pg)=true:=by simpa using e1
      have f2:(a.n == b.n)=false:=by simpa using e2
      clear e e1 e2
      go_wp2
      refine wp_region_quiet_below (by kernel_rfl) (by kernel_rfl) ?_
      repeat (first|go_big_quiet_step ((fail))|quiet_step ((fail)))
      refine wpQuiet_nil ?_;intro wq hw';obtain ⟨⟨dq,osq⟩,hw''⟩:=hw';have hbr:=d8 hw'';clear hw''
      first
       |(have hbn:=bt hbq hbr;clear hcq hfq hzq hbq hbr;have hbq:=hbn;clear hbn)
       |(have hbq:=hbr;clear hbr)
      obtain ⟨hcq,hfq,hzq⟩:=n7 hbq
      go_wp2
      go_ret
      exact ⟨g9 (xg8 HX.out).symm,bt hb hbq⟩
    ·have f1:(a.pg == b.pg)=false:=by simpa using e1
     clear e e1
     go_wp2
     refine wp_region_quiet_below (by kernel_rfl) (by kernel_rfl) ?_
     repeat (first|go_big_quiet_step ((fail))|quiet_step ((fail)))
     refine wpQuiet_nil ?_;intro wq hw';obtain ⟨⟨dq,osq⟩,hw''⟩:=hw';have hbr:=d8 hw'';clear hw''
     first
      |(have hbn:=bt hbq hbr;clear hcq hfq hzq hbq hbr;have hbq:=hbn;clear hbn)
      |(have hbq:=hbr;clear hbr)
     obtain ⟨hcq,hfq,hzq⟩:=n7 hbq
     go_wp2
     go_ret
     exact ⟨g9 (xg8 HX.out).symm,bt hb hbq⟩
  ·go_wp2
   go_ret
   obtain rfl:i=A.length:=by omega
   exact ⟨g9 (xg6 (a4S HL.out fun j x y hx hy=>HO.out j x y (xa5.1 hx).1 hx hy)).symm,hb⟩
inductive Dn:Prop->Prop->Prop where
 |a {P:Program} {n:Nat} {ds:List Deferred} {E:Fr} {w:World} {Q:Exit->Act->World->Prop} {x y:Code}:Dn (WC P (.seq x y) Q n ds E w) (WC P x (Exit.then (y.wp P Q) Q) n ds E w)
 |b {P:Program} {n:Nat} {ds:List Deferred} {E:Fr} {w:World} {Q:Exit->Act->World->Prop} {i:Nat} {l:List Oper}:Dn (WC P (.region i l.toArray false) Q n ds E w) (WL P l.toArray Q l n ds E w)
 |c {P:Program} {n:Nat} {ds:List Deferred} {E:Fr} {w:World} {Q:Exit->Act->World->Prop} {ops:Array Oper}:Dn (WL P ops Q [] n ds E w) (WQ Q .normal n ds E w)
 |d {P:Program} {n:Nat} {ds:List Deferred} {E:Fr} {w:World} {Q:Exit->Act->World->Prop} {y:Code} {Q2:Exit->Act->World->Prop}:Dn (WQ (Exit.then (y.wp P Q2) Q) .normal n ds E w) (WC P y Q2 n ds E w)
 |e {P:Program} {n:Nat} {ds:List Deferred} {E:Fr} {w:World} {Q:Exit->Act->World->Prop}:Dn (WC P .skip Q n ds E w) (WQ Q .normal n ds E w)
 |f {P:Program} {n:Nat} {ds:List Deferred} {E:Fr} {w:World} {Q:Exit->Act->World->Prop} {i:Nat} {c:Code}:Dn (WC P (.block i c) Q n ds E w) (WC P c (Exit.inBlock i Q) n ds E w)
 |g {P:Program} {n:Nat} {ds:List Deferred} {E:Fr} {w:World} {Q:Exit->Act->World->Prop} {i:Nat}:Dn (WC P (.exit i) Q n ds E w) (WQ Q (.exit i) n ds E w)
 |h {P:Program} {n:Nat} {ds:List Deferred} {E:Fr} {w:World} {Q:Exit->Act->World->Prop}:Dn (WC P .ret Q n ds E w) (WQ Q .ret n ds E w)
 |i {n:Nat} {ds:List Deferred} {E:Fr} {w:World} {Q:Exit->Act->World->Prop} {N:Act->World->Prop} {k:Nat}:Dn (WQ (Exit.then N Q) (.exit k) n ds E w) (WQ Q (.exit k) n ds E w)
 |j {n:Nat} {ds:List Deferred} {E:Fr} {w:World} {Q:Exit->Act->World->Prop} {N:Act->World->Prop}:Dn (WQ (Exit.then N Q) .ret n ds E w) (WQ Q .ret n ds E w)
 |k {n:Nat} {ds:List Deferred} {E:Fr} {w:World} {Q:Exit->Act->World->Prop} {k:Nat}:Dn (WQ (Exit.inBlock k Q) .normal n ds E w) (WQ Q .normal n ds E w)
 |l {n:Nat} {ds:List Deferred} {E:Fr} {w:World} {Q:Exit->Act->World->Prop} {k:Nat}:Dn (WQ (Exit.inBlock k Q) .ret n ds E w) (WQ Q .ret n ds E w)
 |m {n:Nat} {ds:List Deferred} {E:Fr} {w:World} {Q:Exit->Act->World->Prop} {k:Nat}:Dn (WQ (Exit.inBlock k Q) (.exit k) n ds E w) (WQ Q .normal n ds E w)
theorem yDn {p q:Prop} (h:Dn p q) (k:q):p:=by
 cases h with
 |a=>exact b1v k
 |b=>exact a7o k
 |c=>exact b1p k
 |d=>exact a9P k
 |e=>exact a9T k
 |f=>exact a9l k
 |g=>exact b0z k
 |h=>exact b1q k
 |i=>exact a3I k
 |j=>exact a47 k
 |k=>exact a8M k
 |l=>exact a39 k
 |m=>exact a3u k
theorem Fr.sub_of {F G:Fr} (h:G.map (fun p=>F.get p.1)=G.map fun p=>some p.2):Fr.sub G F:=fun p hp=>by
 obtain ⟨i,hi⟩:=xc8.1 hp;have h2:=congrArg (fun l=>l[i]?) h;simp only [xf7,hi,xf8,Option.some.injEq] at h2;exact h2
theorem ck4 {a b c d:Bool} (h:(a && (b && (c && !d)))=true):a=true/\b=true/\c=true/\d=false:=by
 revert h
 cases a <;> cases b <;> cases c <;> cases d <;> simp
section
variable {P:Program} {n:Nat} {ds:List Deferred} {E:Fr} {w:World} {Q:Exit->Act->World->Prop} {ops:Array Oper} {rest:List Oper} {d:Nat} {ty:TypeId} {pos:String} {after:Array Edge} {F:Nat->Prop} {w0:World} {Γ Γ':List Asr} {T:Tab}
def b1Y:Op->Bool
 |.binOp .add ..|.binOp .sub ..|.binOp .mul ..=>true
 |_=>false
theorem a4 (hT:TabOk P T) {op:Op} {v:Value} (_ho:b1Y op=false) (h:k6 T E op=some v) (hd:Nat.blt d n=true) (k:WL P ops Q rest n ds ((d,v)::E) w):WL P ops Q (⟨some d,op,ty,pos,after,none⟩::rest) n ds E w:=a2u hT h hd k
theorem a8q {f:FuncId} {x:Operand} {args:Array Operand} {ats:Array TypeId} {vs:List Value} {first caps:List Value} (hx:E.ev x=some (.func (.func f) first.toArray caps.toArray)) (hv:E.evs args.toList=some vs) (hd:Nat.blt d n=true) (k:∃ Φ,Fn P f (first++vs++caps) w Φ/\∀ v w',Φ v w'->WL P ops Q rest n ds ((d,v)::E) w') :
  WL P ops Q (⟨some d,.call { callee:=.value x,args:=args,argTypes:=ats },ty,pos,after,none⟩::rest) n ds E w:=k.elim fun _ h=>a64 hx hv h.1 hd h.2
theorem d5 {f:FuncId} {x:Operand} {args:Array Operand} {ats:Array TypeId} {vs:List Value} {first caps:List Value} (hS:St F w0 w Γ) (hx:E.ev x=some (.func (.func f) first.toArray caps.toArray)) (hv:E.evs args.toList=some vs) (hd:Nat.blt d n=true) (k:∃ v,Fn P f (first++vs++caps) w (RBf v w)/\∀ w',St F w0 w' Γ->WL P ops Q rest n ds ((d,v)::E) w') :
  WL P ops Q (⟨some d,.call { callee:=.value x,args:=args,argTypes:=ats },ty,pos,after,none⟩::rest) n ds E w:=k.elim fun _ h=>a64 hx hv h.1 hd (by rintro _ w' ⟨rfl,h2⟩;exact h.2 w' (hS.trans h2))
theorem i7 {K:Act->Prop} {f:FuncId} {x:Operand} {args:Array Operand} {ats:Array TypeId} {vs:List Value} {first caps:List Value} (hx:E.ev x=some (.func (.func f) first.toArray caps.toArray)) (hv:E.evs args.toList=some vs) (hd:Nat.blt d n=true)
  (k:∃ v,(∀ w,St F w0 w Γ->Fn P f (first++vs++caps) w (RBf v w))/\WD P ops (fun w'=>St F w0 w' Γ) K rest n ds ((d,v)::E)):WD P ops (fun w'=>St F w0 w' Γ) K (⟨some d,.call { callee:=.value x,args:=args,argTypes:=ats },ty,pos,after,none⟩::rest) n ds E:=k.elim fun _ h=>a92 hx hv h.1 hd h.2
theorem a0E (hT:TabOk P T) {t:TypeId} {x:Operand} {g kk s:Nat} {fs:List (Nat×Nat×Bool)} {z:List Value} (hx:E.ev x=some (.pointer (some ⟨g,kk,none⟩))) (ht:T.get t=some (.st s fs z)) (hd:Nat.blt d n=true) (k:∃ L:List Value,w.rangeAt g kk L/\L.length=s/\WL P ops Q rest n ds ((d,.agg L.toArray)::E) w):WL P ops Q (⟨some d,.load t x,ty,pos,after,none⟩::rest) n ds E w:=k.elim fun _ h=>a5 hx (Ld.st hT ht h.1 h.2.1) hd h.2.2
end
section
variable {P:Program} {n:Nat} {ds:List Deferred} {E:Fr} {w:World} {Q:Exit->Act->World->Prop} {ops:Array Oper} {S:World->Prop} {q fuel:Nat} {li:Array Bool} {d:Nat} {op:Op} {ty:TypeId} {pos:String} {after:Array Edge} {T:Tab}
theorem p7 {i:Nat} (C:Nn i) {v:Value} (hT:TabOk P T) (hi:ops[i]?=some ⟨some d,op,ty,pos,after,none⟩) (hc:(Region.noSelect ops && (Region.free .any ops li i && ((Region.ready .any ops li).contains i && !false)))=true)
  (hQ:∀ c (a:Act) w,Q (.panic c) (a.put (some d) v) w->Q (.panic c) a w) (hS:S w) (hv:k6 T E op=some v) (hd:Nat.blt d n=true) (k:WA P ops Q S fuel (li.setIfInBounds i true) n ds ((d,v)::E) w):WA P ops Q S (fuel + 1) li n ds E w :=
 b0E C hT hi (ck4 hc).1 (ck4 hc).2.1 (ck4 hc).2.2.1 hQ hS hv hd k
theorem a2e {i:Nat} (C:Nn i) {t:TypeId} {x:Operand} {p:Addr} {v:Value} (hi:ops[i]?=some ⟨some d,.load t x,ty,pos,after,none⟩) (hc:(Region.noSelect ops && (Region.free .any ops li i && ((Region.ready .any ops li).contains i && !false)))=true)
  (hQ:∀ c (a:Act) w,Q (.panic c) (a.put (some d) v) w->Q (.panic c) a w) (hS:S w) (hx:E.ev x=some (.pointer (some p))) (hl:∀ w,S w->Ld P t p v w) (hd:Nat.blt d n=true) (k:WA P ops Q S fuel (li.setIfInBounds i true) n ds ((d,v)::E) w):WA P ops Q S (fuel + 1) li n ds E w :=
 a8b C hi (ck4 hc).1 (ck4 hc).2.1 (ck4 hc).2.2.1 hQ hS hx hl hd k
end
theorem yEn {P : Program} {f : FuncId} {fn : Func} {c : Code} {args : List Value} {w : World} {Φ : Value -> World -> Prop} {m : Nat} (h1 : P.funcs[f]? = some fn) (hm : fn.ntmps = m) (h2 : (fn.name == "runtime.NumGoroutine") = false) (h3 : fn.body.isNone = false) (hb : fn.body = some c) (hl : Nat.ble args.length m = true) (h : WC P c (bodyPost P fn (fun e w' => ∃ v, e = .returned v /\ Φ v w')) m [] (a1F 0 args) w) : Fn P f args w Φ := a7H ⟨h1, h2, h3⟩ hb hm hl h
def a7C (E:Fr):List ResultVar->Option (List Value)
 |[]=>some []
 |.tmp t::r=>match E.get t,a7C E r with
  |some v,some vs=>some (v::vs)
  |_,_=>none
 |.cell _ _::_=>none
theorem a3a {P:Program} {E:Fr} {w:World}:∀ {rs:List ResultVar} {vs:List Value},a7C E rs=some vs->ResL P E w rs vs
 |[],vs,h=>by cases h;exact .nil
 |.tmp t::r,vs,h=>by
  simp only [a7C] at h
  split at h
  ·rename_i v us h1 h2
   cases h
   exact .tmp h1 (a3a h2)
  ·cases h
 |.cell _ _::_,_,h=>by cases h
section
variable {P:Program} {n:Nat} {E:Fr} {w:World} {fn:Func} {Φ:Value->World->Prop} {v v1 v2 v3 v4:Value}
theorem i2 (h:a7C E fn.results.toList=some [v]) (hΦ:Φ v w):WQ (bodyPost P fn (fun e w'=>∃ v,e=.returned v/\Φ v w')) .ret n [] E w:=a94 (a3a h) hΦ
theorem a1P (h:a7C E fn.results.toList=some [v1,v2]) (hΦ:Φ (.tuple #[v1,v2]) w):WQ (bodyPost P fn (fun e w'=>∃ v,e=.returned v/\Φ v w')) .ret n [] E w:=b0P (a3a h) hΦ
end
theorem a9j {L:List Ar}:∀ {e:Int},i9 e L->∀ (i:Nat) (a:Ar),L[i]?=some a->a.ok:=by
 induction L with
 |nil=>intro e _ i a h;simp at h
 |cons b L ih=>
  intro e h i a ha
  cases i with
  |zero=>simp at ha;subst ha;exact h.1
  |succ i=>exact ih h.2.2 i a (by simpa using ha)
def RowsApart (v u:Value):Prop:=v.ownBlock=none\/v.ownBlock≠u.ownBlock
theorem RowsApart.symm {v u:Value} (h:RowsApart v u):RowsApart u v:=by
 unfold RowsApart at *
 cases hv:v.ownBlock <;> cases hu:u.ownBlock <;> simp_all
 omega
theorem SlAr.below {w w':World} {v:Value} {L:List Ar} (h:SlAr w v L) (hb:Below w.heap.size w w'):SlAr w' v L:=by
 rcases h with h|⟨b,off,cap,rfl,h2,h3,h4,h5⟩
 ·exact xc6 h
 ·exact xc3 ⟨b,off,cap,rfl,xa6 h2 hb.size,h3,h4,fun i a ha=>(h5 i a ha).grown hb h2⟩
def a1M (a:Ar) (page:Int):Int:=if wrap64 a.fin<=page then -1 else 1
theorem a5q (a:Ar) (page:Int) (w:World):Calls Tryz.prog 147 #[.agg (arC a).toArray,.int .i64 page] w (RB (.int .i64 (a1M a page)) w):=by
 have HE:=hid (fun w=>a3b a w);have HC:Hid (a1M a page=if wrap64 a.fin<=page then -1 else 1):=hid rfl;generalize wrap64 a.fin=f at *;unfold arC at *;by_cases h:f<=page
 ·go_enter Tryz.func147,Tryz.ntmps147
  go_wp2_with (first|go_at_call 144;(with_reducible refine (HE.out _).mono ?_);rintro e w1 ⟨rfl,hb1⟩)
  go_ret
  exact ⟨j7 (by rw [HC.out,xd6 h]),(by repeat (first|with_reducible exact Below.refl _ _|with_reducible refine Below.alloc ?_ (by (omega)) _|refine bt ?_ (by with_reducible assumption)))⟩
 ·go_enter Tryz.func147,Tryz.ntmps147
  go_wp2_with (first|go_at_call 144;(with_reducible refine (HE.out _).mono ?_);rintro e w1 ⟨rfl,hb1⟩)
  go_ret
  exact ⟨j7 (by rw [HC.out,xd7 (by omega)]),(by repeat (first|with_reducible exact Below.refl _ _|with_reducible refine Below.alloc ?_ (by (omega)) _|refine bt ?_ (by with_reducible assumption)))⟩
theorem b0x (a:Ar) (page:Int):(a1M a page == 0)=false:=by unfold a1M;split <;> decide
theorem a7i {a:Ar} {page:Int}:a1M a page < 0 ↔ wrap64 a.fin<=page:=by unfold a1M;split <;> omega
theorem a2o {L:List Ar} (h:a07 L):∀ {j k:Nat} {a b:Ar},j < k->L[j]?=some a->L[k]?=some b->a.fin<=b.pg:=by
 have ok:=(a0C L).1 h;intro j k
 induction k with
 |zero=>intro a b hj;omega
 |succ k ih=>
  intro a b hj ha hb;obtain ⟨hk,_⟩:=xa5.1 hb;obtain ⟨c,hc⟩:∃ c,L[k]?=some c:=⟨L[k],by simp⟩;have h1:=((a2D hb hc).1 (ok (k + 1) hk)).2.1;rcases xk5.1 hj with h2|h2
  ·have h3:=ih h2 ha hc;have h4:=t3 h k c hc;unfold Ar.ok at h4;unfold Ar.fin at *;omega
  ·subst h2;rw [ha] at hc;cases hc;exact h1
def a0P (L:List Ar) (page:Int) (i j:Nat):Prop:=a07 L->(∀ (t:Nat) (a:Ar),t < i->L[t]?=some a->a.fin<=page)/\(∀ (t:Nat) (a:Ar),j<=t->L[t]?=some a->page < a.fin)
theorem a3M (L:List Ar) (page:Int):a0P L page 0 L.length:=fun _=>⟨fun t a h=>by omega,fun t a h ha=>by obtain ⟨h2,_⟩:=xa5.1 ha;omega⟩
theorem a8x {L:List Ar} {page:Int} {i j h:Nat} {a:Ar} (hI:a0P L page i j) (ha:L[h]?=some a) (hc:a1M a page < 0):a0P L page (h + 1) j:=fun hg=>by
 have hok:=t3 hg h a ha;rw [a7i,a0A hok] at hc;refine ⟨fun t b ht hb=>?_,(hI hg).2⟩;rcases xk5.1 ht with h1|h1
 ·have:=a2o hg h1 hb ha;have hb':=t3 hg t b hb;unfold Ar.ok at hok;unfold Ar.fin at *;omega
 ·subst h1;rw [ha] at hb;cases hb;exact hc
theorem a7Z {L:List Ar} {page:Int} {i j h:Nat} {a:Ar} (hI:a0P L page i j) (ha:L[h]?=some a) (hc:¬ a1M a page < 0):a0P L page i h:=fun hg=>by
 have hok:=t3 hg h a ha;rw [a7i,a0A hok] at hc;refine ⟨(hI hg).1,fun t b ht hb=>?_⟩;rcases Nat.lt_or_eq_of_le ht with h1|h1
 ·have:=a2o hg h1 ha hb;have hb':=t3 hg t b hb;unfold Ar.ok at hb';unfold Ar.fin at *;omega
 ·subst h1;rw [ha] at hb;cases hb;omega
def a4X (L:List Ar) (page:Int) (w:World) (e:Ending) (w':World):Prop:=∃ i:Nat,i<=L.length/\e=.returned (.tuple #[.int .i64 i,.bool false])/\Below w.heap.size w w'/\a0P L page i i
theorem a7x (i j n:Nat) (hi:i<=n) (hj:j<=n) (h:n<=9223372036854775807):IntKind.u64.wrap (wrap64 ((i:Int) + j))=(i:Int) + j:=by
 rw [IntKind.wrap_u64];unfold wrap64;omega
theorem a6b (i j n:Nat) (hi:i<=n) (hj:j<=n) (h:n<=9223372036854775807):IntKind.u64.wrap ((i:Int) + j)=(i:Int) + j:=by
 rw [IntKind.wrap_u64];omega
theorem a55 (h n:Nat) (h1:h < n) (h2:n<=9223372036854775807):wrap64 ((h:Int) + 1)=(h:Int) + 1:=by unfold wrap64;omega
theorem a5g {n cap:Nat} (h:n<=cap) (hm:cap<=maxLen):n<=9223372036854775807:=xc5 h hm
theorem ms1 {i j h:Nat} (h1:i<=h) (h2:h < j):(j:Int).toNat - ((h:Int) + 1).toNat < (j:Int).toNat - (i:Int).toNat:=by omega
theorem ms2 {i j h:Nat} (h1:i<=h) (h2:h < j):(h:Int).toNat - (i:Int).toNat < (j:Int).toNat - (i:Int).toNat:=by omega
theorem a5L (i j n:Nat) (hi:i<=n) (hj:j<=n) (h:n<=9223372036854775807):wrap64 (((i:Int) + j) / 2)=((i + j) / 2:Nat):=by
 unfold wrap64;omega
theorem b0L {L:List Ar} {w:World} (b off cap:Nat) (page:Int) (hbl:b < w.heap.size) (hcap:L.length<=cap) (hmax:cap<=maxLen) (d9:∀ i a,L[i]?=some a->CellsAr w b (off + i * 4) a) :
  Calls Tryz.prog 146 #[.slice (some ⟨b,off,none⟩) L.length cap,.int .i64 page,.func (.func 147) #[] #[]] w (a4X L page w):=by
 have hlen:=a5g hcap hmax;clear hmax hcap;have HLEN:=hid hlen;clear hlen;have HL:=hid d9;have HI:=hid (a3M L page);clear d9
 go_enter Tryz.func146,Tryz.ntmps146
 go_wp2
 go_loopw [9,10] (fun vi vj wr=>∃ i j:Nat,i<=j/\j<=L.length/\vi=.int .i64 i/\vj=.int .i64 j/\Below w.heap.size w wr/\Hid (a0P L page i j)) (fun vi vj _=>(intOf vj).toNat - (intOf vi).toNat)
 case atStart=>exact ⟨0,L.length,by omega,by omega,rfl,rfl,Below.refl _ _,HI.out⟩
 case round=>
  clear HI;obtain ⟨i,j,hij,hj,rfl,rfl,hb,HI⟩:=hrel;by_cases hlt:i < j
  ·obtain ⟨h,hh⟩:∃ h,h=(i + j) / 2:=⟨_,rfl⟩;have hhj:h < j:=by omega
   have hih:i<=h:=by omega
   obtain ⟨a,ha⟩:∃ a,L[h]?=some a:=⟨L[h]'(by omega),by simp⟩;obtain ⟨c0,c1,c2,c3⟩:=(HL.out h a ha).grown hb hbl;have hbr:=z7 (xa6 hbl hb.size);have hsz:=hb.size;have hq0:=a6b i j L.length (xc5 hij hj) hj HLEN.out;have hq1:=a7x i j L.length (xc5 hij hj) hj HLEN.out;have hq2:=a5L i j L.length (xc5 hij hj) hj HLEN.out;rw [<- hh] at hq2;have HC:=hid (fun w=>a5q a page w);unfold arC at HC;have hw1:wrap64 ((h:Int) + 1)=(h:Int) + 1:=a55 h L.length (xa6 hhj hj) HLEN.out;have hlh:(h:Int) < L.length:=Int.ofNat_lt.2 (xa6 hhj hj);clear hh
   go_upto_region 5 with fail
   rw [hq2];clear hq0 hq1 hq2;by_cases hc:a1M a page < 0
   ·have HX:=hid (a8x HI.out ha hc);generalize a1M a page=cv at *
    go_wp2_with (first|go_at_call 147;(with_reducible refine (HC.out _).mono ?_);rintro e w1 ⟨rfl,hb1⟩)
    go_roundw
    case rel=>exact ⟨h + 1,j,Nat.succ_le_of_lt hhj,hj,by rw [hw1];rfl,rfl,(by repeat (first|with_reducible assumption|refine bt ?_ (by with_reducible assumption))),HX.out⟩
    case measure=>(rw [hw1];exact ms1 hih hhj)
   ·have HX:=hid (a7Z HI.out ha hc);generalize a1M a page=cv at *
    go_wp2_with (first|go_at_call 147;(with_reducible refine (HC.out _).mono ?_);rintro e w1 ⟨rfl,hb1⟩)
    go_roundw
    case rel=>exact ⟨i,h,hih,Nat.le_of_lt (xa6 hhj hj),rfl,rfl,(by repeat (first|with_reducible assumption|refine bt ?_ (by with_reducible assumption))),HX.out⟩
    case measure=>exact ms2 hih hhj
  ·obtain rfl:i=j:=by omega
   by_cases hn:i < L.length
   ·obtain ⟨a,ha⟩:∃ a,L[i]?=some a:=⟨L[i],by simp [hn]⟩;obtain ⟨c0,c1,c2,c3⟩:=(HL.out i a ha).grown hb hbl;have hbr:=z7 (xa6 hbl hb.size);have hsz:=hb.size;have HC:=hid (fun w=>a5q a page w);have hz:=b0x a page;unfold arC at HC;generalize a1M a page=cv at *
    go_wp2_with (first|go_at_call 147;(with_reducible refine (HC.out _).mono ?_);rintro e w1 ⟨rfl,hb1⟩)
    go_ret2
    exact ⟨i,hj,rfl,(by repeat (first|with_reducible assumption|refine bt ?_ (by with_reducible assumption))),HI.out⟩
   ·go_wp2
    go_ret2
    exact ⟨i,hj,rfl,(by repeat ((with_reducible assumption))),HI.out⟩
end Go.Proofs.YtejnpppejalhfadGreat
