/- Texts that the proof stands on, one behind the other: Go, As1, As2, Ar19, Ar20, Ar21, Ar22, Ar23, Ar5, Ar11, Ar12, Ar13, Ar14, Ar15, Ar16, As3, As4, Ar6, As5, PlArea3, PlLnk2, PlKer, Sc18, Sc19, Map, Sc20, Sc21, Sc22, Sc23, Bits. -/
import Derived.Maps.AppendAt
import Derived.Deep.RegionWith
import Derived.Deep.DeepCutAuto
import Derived.Lib.AppendZerosOnto
import Derived.Lib.Walk
import Derived.MapKept
import Derived.Laws.IdiomCopy
import Derived.Test.YtejnpppejalhfabGreatProg
import Derived.Handy
import Derived.BigQuiet
import Derived.Deep.QuietTactic
import Derived.WalkSpells
import Derived.Test.YtejnpppejalhfabGreatPKernelStarts3
namespace Go.Proofs.YtejnpppejalhfabGreat
set_option maxRecDepth 100000
set_option maxHeartbeats 8000000
open Go.RowKit Go.Sort
inductive Dn:Prop->Prop->Prop where
 |a {P:Program} {n:Nat} {ds:List Deferred} {E:Fr} {w:World} {Q:Exit->Act->World->Prop} {x y:Code}:Dn (WC P (.seq x y) Q n ds E w) (WC P x (Exit.then (y.wp P Q) Q) n ds E w)
 |b {P:Program} {n:Nat} {ds:List Deferred} {E:Fr} {w:World} {Q:Exit->Act->World->Prop} {i:Nat} {l:List Oper}:Dn (WC P (.region i l.toArray false) Q n ds E w) (WL P l.toArray Q l n ds E w)
 |c {P:Program} {n:Nat} {ds:List Deferred} {E:Fr} {w:World} {Q:Exit->Act->World->Prop} {ops:Array Oper}:Dn (WL P ops Q [] n ds E w) (WQ Q .normal n ds E w)
 |d {P:Program} {n:Nat} {ds:List Deferred} {E:Fr} {w:World} {Q:Exit->Act->World->Prop} {y:Code} {Q2:Exit->Act->World->Prop}:Dn (WQ (Exit.then (y.wp P Q2) Q) .normal n ds E w) (WC P y Q2 n ds E w)
 |e {P:Program} {n:Nat} {ds:List Deferred} {E:Fr} {w:World} {Q:Exit->Act->World->Prop}:Dn (WC P .skip Q n ds E w) (WQ Q .normal n ds E w)
 |f {P:Program} {n:Nat} {ds:List Deferred} {E:Fr} {w:World} {Q:Exit->Act->World->Prop} {i:Nat} {c:Code}:Dn (WC P (.block i c) Q n ds E w) (WC P c (Exit.inBlock i Q) n ds E w)
 |g {P:Program} {n:Nat} {ds:List Deferred} {E:Fr} {w:World} {Q:Exit->Act->World->Prop} {i:Nat}:Dn (WC P (.exit i) Q n ds E w) (WQ Q (.exit i) n ds E w)
 |h {P:Program} {n:Nat} {ds:List Deferred} {E:Fr} {w:World} {Q:Exit->Act->World->Prop}:Dn (WC P .ret Q n ds E w) (WQ Q .ret n ds E w)
 |i {n:Nat} {ds:List Deferred} {E:Fr} {w:World} {Q:Exit->Act->World->Prop} {N:Act->World->Prop} {k:Nat}:Dn (WQ (Exit.then N Q) (.exit k) n ds E w) (WQ Q (.exit k) n ds E w)
 |j {n:Nat} {ds:List Deferred} {E:Fr} {w:World} {Q:Exit->Act->World->Prop} {N:Act->World->Prop}:Dn (WQ (Exit.then N Q) .ret n ds E w) (WQ Q .ret n ds E w)
 |k {n:Nat} {ds:List Deferred} {E:Fr} {w:World} {Q:Exit->Act->World->Prop} {k:Nat}:Dn (WQ (Exit.inBlock k Q) .normal n ds E w) (WQ Q .normal n ds E w)
 |l {n:Nat} {ds:List Deferred} {E:Fr} {w:World} {Q:Exit->Act->World->Prop} {k:Nat}:Dn (WQ (Exit.inBlock k Q) .ret n ds E w) (WQ Q .ret n ds E w)
 |m {n:Nat} {ds:List Deferred} {E:Fr} {w:World} {Q:Exit->Act->World->Prop} {k:Nat}:Dn (WQ (Exit.inBlock k Q) (.exit k) n ds E w) (WQ Q .normal n ds E w)
theorem yDn {p q:Prop} (h:Dn p q) (k:q):p:=by
 cases h with
 |a=>exact a61 k
 |b=>exact a62 k
 |c=>exact b1R k
 |d=>exact a5z k
 |e=>exact b7z k
 |f=>exact b5W k
 |g=>exact b7x k
 |h=>exact b6X k
 |i=>exact a9f k
 |j=>exact a7e k
 |k=>exact b6m k
 |l=>exact b0b k
 |m=>exact a8D k
theorem Fr.sub_of {F G:Fr} (h:G.map (fun p=>F.get p.1)=G.map fun p=>some p.2):Fr.sub G F:=fun p hp=>by
 obtain ⟨i,hi⟩:=xd9.1 hp;have h2:=congrArg (fun l=>l[i]?) h;simp only [xm3,hi,xn5,Option.some.injEq] at h2;exact h2
theorem ck4 {a b c d:Bool} (h:(a && (b && (c && !d)))=true):a=true/\b=true/\c=true/\d=false:=by
 revert h
 cases a <;> cases b <;> cases c <;> cases d <;> simp
section
variable {P:Program} {n:Nat} {ds:List Deferred} {E:Fr} {w:World} {Q:Exit->Act->World->Prop} {ops:Array Oper} {rest:List Oper} {d:Nat} {ty:TypeId} {pos:String} {after:Array Edge} {F:Nat->Prop} {w0:World} {Γ Γ':List Asr} {T:Tab}
def b8k:Op->Bool
 |.binOp .add ..|.binOp .sub ..|.binOp .mul ..=>true
 |_=>false
theorem b9 (hT:TabOk P T) {op:Op} {v:Value} (_ho:b8k op=false) (h:a2R T E op=some v) (hd:Nat.blt d n=true) (k:WL P ops Q rest n ds ((d,v)::E) w):WL P ops Q (⟨some d,op,ty,pos,after,none⟩::rest) n ds E w:=a4G hT h hd k
theorem a0o {f:FuncId} {x:Operand} {args:Array Operand} {ats:Array TypeId} {vs:List Value} {first caps:List Value} (hx:E.ev x=some (.func (.func f) first.toArray caps.toArray)) (hv:E.evs args.toList=some vs) (hd:Nat.blt d n=true) (k:∃ Φ,Fn P f (first++vs++caps) w Φ/\∀ v w',Φ v w'->WL P ops Q rest n ds ((d,v)::E) w') :
  WL P ops Q (⟨some d,.call { callee:=.value x,args:=args,argTypes:=ats },ty,pos,after,none⟩::rest) n ds E w:=k.elim fun _ h=>y7 hx hv h.1 hd h.2
theorem d8 {f:FuncId} {x:Operand} {args:Array Operand} {ats:Array TypeId} {vs:List Value} {first caps:List Value} (hS:St F w0 w Γ) (hx:E.ev x=some (.func (.func f) first.toArray caps.toArray)) (hv:E.evs args.toList=some vs) (hd:Nat.blt d n=true) (k:∃ v,Fn P f (first++vs++caps) w (RBf v w)/\∀ w',St F w0 w' Γ->WL P ops Q rest n ds ((d,v)::E) w') :
  WL P ops Q (⟨some d,.call { callee:=.value x,args:=args,argTypes:=ats },ty,pos,after,none⟩::rest) n ds E w:=k.elim fun _ h=>y7 hx hv h.1 hd (by rintro _ w' ⟨rfl,h2⟩;exact h.2 w' (hS.trans h2))
theorem m7 {K:Act->Prop} {f:FuncId} {x:Operand} {args:Array Operand} {ats:Array TypeId} {vs:List Value} {first caps:List Value} (hx:E.ev x=some (.func (.func f) first.toArray caps.toArray)) (hv:E.evs args.toList=some vs) (hd:Nat.blt d n=true)
  (k:∃ v,(∀ w,St F w0 w Γ->Fn P f (first++vs++caps) w (RBf v w))/\WD P ops (fun w'=>St F w0 w' Γ) K rest n ds ((d,v)::E)):WD P ops (fun w'=>St F w0 w' Γ) K (⟨some d,.call { callee:=.value x,args:=args,argTypes:=ats },ty,pos,after,none⟩::rest) n ds E:=k.elim fun _ h=>b7v hx hv h.1 hd h.2
theorem a5c (hT:TabOk P T) {t:TypeId} {x:Operand} {p:Addr} {dd:TypeDesc} {s:Nat} {z:Value} (hx:E.ev x=some (.pointer (some p))) (ht:T.get t=some (.sc dd s z)) (hd:Nat.blt d n=true) (k:∃ v,w.cell? p=some v/\WL P ops Q rest n ds ((d,v)::E) w):WL P ops Q (⟨some d,.load t x,ty,pos,after,none⟩::rest) n ds E w:=k.elim fun _ h=>c9 hx (Ld.sc hT ht h.1) hd h.2
theorem z7 (hT:TabOk P T) {t:TypeId} {x:Operand} {p:Addr} {el e b:Nat} {g:Bool} {z:List Value} (hx:E.ev x=some (.pointer (some p))) (ht:T.get t=some (.sl el e b g z)) (hd:Nat.blt d n=true) (k:∃ v,w.cell? p=some v/\WL P ops Q rest n ds ((d,v)::E) w):WL P ops Q (⟨some d,.load t x,ty,pos,after,none⟩::rest) n ds E w:=k.elim fun _ h=>c9 hx (Ld.sl hT ht h.1) hd h.2
theorem a6q (hT:TabOk P T) {t:TypeId} {x:Operand} {g kk s:Nat} {fs:List (Nat×Nat×Bool)} {z:List Value} (hx:E.ev x=some (.pointer (some ⟨g,kk,none⟩))) (ht:T.get t=some (.st s fs z)) (hd:Nat.blt d n=true) (k:∃ L:List Value,w.rangeAt g kk L/\L.length=s/\WL P ops Q rest n ds ((d,.agg L.toArray)::E) w):WL P ops Q (⟨some d,.load t x,ty,pos,after,none⟩::rest) n ds E w:=k.elim fun _ h=>c9 hx (Ld.st hT ht h.1 h.2.1) hd h.2.2
end
section
variable {P:Program} {n:Nat} {ds:List Deferred} {E:Fr} {w:World} {Q:Exit->Act->World->Prop} {ops:Array Oper} {S:World->Prop} {q fuel:Nat} {li:Array Bool} {d:Nat} {op:Op} {ty:TypeId} {pos:String} {after:Array Edge} {T:Tab}
theorem f7 {i:Nat} (C:Nn i) {v:Value} (hT:TabOk P T) (hi:ops[i]?=some ⟨some d,op,ty,pos,after,none⟩) (hc:(Region.noSelect ops && (Region.free .any ops li i && ((Region.ready .any ops li).contains i && !Nat.beq q i)))=true)
  (hQ:∀ c (a:Act) w,Q (.panic c) (a.put (some d) v) w->Q (.panic c) a w) (hS:li.getD q false=true\/S w) (hv:a2R T E op=some v) (hd:Nat.blt d n=true) (k:WT P ops Q S q fuel (li.setIfInBounds i true) n ds ((d,v)::E) w):WT P ops Q S q (fuel + 1) li n ds E w :=
 a0Y C hT hi (ck4 hc).1 (ck4 hc).2.1 (ck4 hc).2.2.1 (ck4 hc).2.2.2 hQ hS hv hd k
theorem n6 {i:Nat} (C:Nn i) {t:TypeId} {x:Operand} {p:Addr} {v:Value} (hi:ops[i]?=some ⟨some d,.load t x,ty,pos,after,none⟩) (hc:(Region.noSelect ops && (Region.free .any ops li i && ((Region.ready .any ops li).contains i && !Nat.beq q i)))=true) (hw:a8L ops q i=true) (hnq:li.getD q false=false)
  (hQ:∀ c (a:Act) w,Q (.panic c) (a.put (some d) v) w->Q (.panic c) a w) (hS:S w) (hx:E.ev x=some (.pointer (some p))) (hl:∀ w,S w->Ld P t p v w) (hd:Nat.blt d n=true) (k:WT P ops Q S q fuel (li.setIfInBounds i true) n ds ((d,v)::E) w):WT P ops Q S q (fuel + 1) li n ds E w :=
 a5m C hi (ck4 hc).1 (ck4 hc).2.1 (ck4 hc).2.2.1 hw (ck4 hc).2.2.2 hnq hQ hS hx hl hd k
theorem g8 {i:Nat} (C:Nn i) {v:Value} (hT:TabOk P T) (hi:ops[i]?=some ⟨some d,op,ty,pos,after,none⟩) (hc:(Region.noSelect ops && (Region.free .any ops li i && ((Region.ready .any ops li).contains i && !false)))=true)
  (hQ:∀ c (a:Act) w,Q (.panic c) (a.put (some d) v) w->Q (.panic c) a w) (hS:S w) (hv:a2R T E op=some v) (hd:Nat.blt d n=true) (k:WA P ops Q S fuel (li.setIfInBounds i true) n ds ((d,v)::E) w):WA P ops Q S (fuel + 1) li n ds E w :=
 a3a C hT hi (ck4 hc).1 (ck4 hc).2.1 (ck4 hc).2.2.1 hQ hS hv hd k
theorem n5 {i:Nat} (C:Nn i) {t:TypeId} {x:Operand} {p:Addr} {v:Value} (hi:ops[i]?=some ⟨some d,.load t x,ty,pos,after,none⟩) (hc:(Region.noSelect ops && (Region.free .any ops li i && ((Region.ready .any ops li).contains i && !false)))=true)
  (hQ:∀ c (a:Act) w,Q (.panic c) (a.put (some d) v) w->Q (.panic c) a w) (hS:S w) (hx:E.ev x=some (.pointer (some p))) (hl:∀ w,S w->Ld P t p v w) (hd:Nat.blt d n=true) (k:WA P ops Q S fuel (li.setIfInBounds i true) n ds ((d,v)::E) w):WA P ops Q S (fuel + 1) li n ds E w :=
 a4Y C hi (ck4 hc).1 (ck4 hc).2.1 (ck4 hc).2.2.1 hQ hS hx hl hd k
end
theorem yEn {P : Program} {f : FuncId} {fn : Func} {c : Code} {args : List Value} {w : World} {Φ : Value -> World -> Prop} {m : Nat} (h1 : P.funcs[f]? = some fn) (hm : fn.ntmps = m) (h2 : (fn.name == "runtime.NumGoroutine") = false) (h3 : fn.body.isNone = false) (hb : fn.body = some c) (hl : Nat.ble args.length m = true) (h : WC P c (bodyPost P fn (fun e w' => ∃ v, e = .returned v /\ Φ v w')) m [] (a9p 0 args) w) : Fn P f args w Φ := b0f ⟨h1, h2, h3⟩ hb hm hl h
def b0x (E:Fr):List ResultVar->Option (List Value)
 |[]=>some []
 |.tmp t::r=>match E.get t,b0x E r with
  |some v,some vs=>some (v::vs)
  |_,_=>none
 |.cell _ _::_=>none
theorem a45 {P:Program} {E:Fr} {w:World}:∀ {rs:List ResultVar} {vs:List Value},b0x E rs=some vs->ResL P E w rs vs
 |[],vs,h=>by cases h;exact .nil
 |.tmp t::r,vs,h=>by
  simp only [b0x] at h
  split at h
  ·rename_i v us h1 h2
   cases h
   exact .tmp h1 (a45 h2)
  ·cases h
 |.cell _ _::_,_,h=>by cases h
section
variable {P:Program} {n:Nat} {E:Fr} {w:World} {fn:Func} {Φ:Value->World->Prop} {v v1 v2 v3 v4:Value}
theorem b7m (h:b0x E fn.results.toList=some []) (hΦ:Φ (.tuple #[]) w):WQ (bodyPost P fn (fun e w'=>∃ v,e=.returned v/\Φ v w')) .ret n [] E w:=b3K (a45 h) hΦ
theorem a7x (h:b0x E fn.results.toList=some []) (hΦ:Φ (.tuple #[]) w):WQ (bodyPost P fn (fun e w'=>∃ v,e=.returned v/\Φ v w')) .normal n [] E w:=b7u (a45 h) hΦ
theorem j4 (h:b0x E fn.results.toList=some [v]) (hΦ:Φ v w):WQ (bodyPost P fn (fun e w'=>∃ v,e=.returned v/\Φ v w')) .ret n [] E w:=a0r (a45 h) hΦ
theorem a2O (h:b0x E fn.results.toList=some [v1,v2]) (hΦ:Φ (.tuple #[v1,v2]) w):WQ (bodyPost P fn (fun e w'=>∃ v,e=.returned v/\Φ v w')) .ret n [] E w:=a05 (a45 h) hΦ
end
theorem b50 {L:List Ar}:∀ {e:Int},v8 e L->∀ (i:Nat) (a:Ar),L[i]?=some a->a.ok:=by
 induction L with
 |nil=>intro e _ i a h;simp at h
 |cons b L ih=>
  intro e h i a ha
  cases i with
  |zero=>simp at ha;subst ha;exact h.1
  |succ i=>exact ih h.2.2 i a (by simpa using ha)
def RowsApart (v u:Value):Prop:=v.ownBlock=none\/v.ownBlock≠u.ownBlock
theorem RowsApart.symm {v u:Value} (h:RowsApart v u):RowsApart u v:=by
 unfold RowsApart at *
 cases hv:v.ownBlock <;> cases hu:u.ownBlock <;> simp_all
 omega
theorem SlAr.below {w w':World} {v:Value} {L:List Ar} (h:SlAr w v L) (hb:Below w.heap.size w w'):SlAr w' v L:=by
 rcases h with h|⟨b,off,cap,rfl,h2,h3,h4,h5⟩
 ·exact xd6 h
 ·exact xd3 ⟨b,off,cap,rfl,xb9 h2 hb.size,h3,h4,fun i a ha=>(h5 i a ha).grown hb h2⟩
def a56 (a:Ar) (page:Int):Int:=if wrap64 a.fin<=page then -1 else 1
theorem b1F (a:Ar) (page:Int) (w:World):Calls Tryz.prog 126 #[.agg (arC a).toArray,.int .i64 page] w (RB (.int .i64 (a56 a page)) w):=by
 have HE:=hid (fun w=>a8B a w);have HC:Hid (a56 a page=if wrap64 a.fin<=page then -1 else 1):=hid rfl;generalize wrap64 a.fin=f at *;unfold arC at *;by_cases h:f<=page
 ·go_enter Tryz.func126,Tryz.ntmps126
  go_wp2_with (first|go_at_call 127;(with_reducible refine (HE.out _).mono ?_);rintro e w1 ⟨rfl,hb1⟩)
  go_ret
  exact ⟨a0l (by rw [HC.out,xf0 h]),(by repeat (first|with_reducible exact Below.refl _ _|with_reducible refine Below.alloc ?_ (by (omega)) _|refine bt ?_ (by with_reducible assumption)))⟩
 ·go_enter Tryz.func126,Tryz.ntmps126
  go_wp2_with (first|go_at_call 127;(with_reducible refine (HE.out _).mono ?_);rintro e w1 ⟨rfl,hb1⟩)
  go_ret
  exact ⟨a0l (by rw [HC.out,xf1 (by omega)]),(by repeat (first|with_reducible exact Below.refl _ _|with_reducible refine Below.alloc ?_ (by (omega)) _|refine bt ?_ (by with_reducible assumption)))⟩
theorem b7F (a:Ar) (page:Int):(a56 a page == 0)=false:=by unfold a56;split <;> decide
theorem b31 {a:Ar} {page:Int}:a56 a page < 0 ↔ wrap64 a.fin<=page:=by unfold a56;split <;> omega
theorem a64 {L:List Ar} (h:a4K L):∀ {j k:Nat} {a b:Ar},j < k->L[j]?=some a->L[k]?=some b->a.fin<=b.pg:=by
 have ok:=(a3y L).1 h;intro j k
 induction k with
 |zero=>intro a b hj;omega
 |succ k ih=>
  intro a b hj ha hb;obtain ⟨hk,_⟩:=xa7.1 hb;obtain ⟨c,hc⟩:∃ c,L[k]?=some c:=⟨L[k],by simp⟩;have h1:=((a8c hb hc).1 (ok (k + 1) hk)).2.1;rcases xi9.1 hj with h2|h2
  ·have h3:=ih h2 ha hc;have h4:=a00 h k c hc;unfold Ar.ok at h4;unfold Ar.fin at *;omega
  ·subst h2;rw [ha] at hc;cases hc;exact h1
def a4m (L:List Ar) (page:Int) (i j:Nat):Prop:=a4K L->(∀ (t:Nat) (a:Ar),t < i->L[t]?=some a->a.fin<=page)/\(∀ (t:Nat) (a:Ar),j<=t->L[t]?=some a->page < a.fin)
theorem a94 (L:List Ar) (page:Int):a4m L page 0 L.length:=fun _=>⟨fun t a h=>by omega,fun t a h ha=>by obtain ⟨h2,_⟩:=xa7.1 ha;omega⟩
theorem b53 {L:List Ar} {page:Int} {i j h:Nat} {a:Ar} (hI:a4m L page i j) (ha:L[h]?=some a) (hc:a56 a page < 0):a4m L page (h + 1) j:=fun hg=>by
 have hok:=a00 hg h a ha;rw [b31,a3C hok] at hc;refine ⟨fun t b ht hb=>?_,(hI hg).2⟩;rcases xi9.1 ht with h1|h1
 ·have:=a64 hg h1 hb ha;have hb':=a00 hg t b hb;unfold Ar.ok at hok;unfold Ar.fin at *;omega
 ·subst h1;rw [ha] at hb;cases hb;exact hc
theorem b4p {L:List Ar} {page:Int} {i j h:Nat} {a:Ar} (hI:a4m L page i j) (ha:L[h]?=some a) (hc:¬ a56 a page < 0):a4m L page i h:=fun hg=>by
 have hok:=a00 hg h a ha;rw [b31,a3C hok] at hc;refine ⟨(hI hg).1,fun t b ht hb=>?_⟩;rcases Nat.lt_or_eq_of_le ht with h1|h1
 ·have:=a64 hg h1 ha hb;have hb':=a00 hg t b hb;unfold Ar.ok at hb';unfold Ar.fin at *;omega
 ·subst h1;rw [ha] at hb;cases hb;omega
def b08 (L:List Ar) (page:Int) (w:World) (e:Ending) (w':World):Prop:=∃ i:Nat,i<=L.length/\e=.returned (.tuple #[.int .i64 i,.bool false])/\Below w.heap.size w w'/\a4m L page i i
theorem b3X (i j n:Nat) (hi:i<=n) (hj:j<=n) (h:n<=9223372036854775807):IntKind.u64.wrap (wrap64 ((i:Int) + j))=(i:Int) + j:=by
 rw [IntKind.wrap_u64];unfold wrap64;omega
theorem b20 (i j n:Nat) (hi:i<=n) (hj:j<=n) (h:n<=9223372036854775807):IntKind.u64.wrap ((i:Int) + j)=(i:Int) + j:=by
 rw [IntKind.wrap_u64];omega
theorem b2R (h n:Nat) (h1:h < n) (h2:n<=9223372036854775807):wrap64 ((h:Int) + 1)=(h:Int) + 1:=by unfold wrap64;omega
theorem b13 {n cap:Nat} (h:n<=cap) (hm:cap<=maxLen):n<=9223372036854775807:=xd5 h hm
theorem ms1 {i j h:Nat} (h1:i<=h) (h2:h < j):(j:Int).toNat - ((h:Int) + 1).toNat < (j:Int).toNat - (i:Int).toNat:=by omega
theorem ms2 {i j h:Nat} (h1:i<=h) (h2:h < j):(h:Int).toNat - (i:Int).toNat < (j:Int).toNat - (i:Int).toNat:=by omega
theorem b2V (i j n:Nat) (hi:i<=n) (hj:j<=n) (h:n<=9223372036854775807):wrap64 (((i:Int) + j) / 2)=((i + j) / 2:Nat):=by
 unfold wrap64;omega
theorem b7C {L:List Ar} {w:World} (b off cap:Nat) (page:Int) (hbl:b < w.heap.size) (hcap:L.length<=cap) (hmax:cap<=maxLen) (hcells:∀ i a,L[i]?=some a->CellsAr w b (off + i * 4) a) :
  Calls Tryz.prog 125 #[.slice (some ⟨b,off,none⟩) L.length cap,.int .i64 page,.func (.func 126) #[] #[]] w (b08 L page w):=by
 have hlen:=b13 hcap hmax;clear hmax hcap;have HLEN:=hid hlen;clear hlen;have HL:=hid hcells;have HI:=hid (a94 L page);clear hcells
 go_enter Tryz.func125,Tryz.ntmps125
 go_wp2
 go_loopw [9,10] (fun vi vj wr=>∃ i j:Nat,i<=j/\j<=L.length/\vi=.int .i64 i/\vj=.int .i64 j/\Below w.heap.size w wr/\Hid (a4m L page i j)) (fun vi vj _=>(intOf vj).toNat - (intOf vi).toNat)
 case atStart=>exact ⟨0,L.length,by omega,by omega,rfl,rfl,Below.refl _ _,HI.out⟩
 case round=>
  clear HI;obtain ⟨i,j,hij,hj,rfl,rfl,hb,HI⟩:=hrel;by_cases hlt:i < j
  ·obtain ⟨h,hh⟩:∃ h,h=(i + j) / 2:=⟨_,rfl⟩;have hhj:h < j:=by omega
   have hih:i<=h:=by omega
   obtain ⟨a,ha⟩:∃ a,L[h]?=some a:=⟨L[h]'(by omega),by simp⟩;obtain ⟨c0,c1,c2,c3⟩:=(HL.out h a ha).grown hb hbl;have hbr:=a2Y (xb9 hbl hb.size);have hsz:=hb.size;have hq0:=b20 i j L.length (xd5 hij hj) hj HLEN.out;have hq1:=b3X i j L.length (xd5 hij hj) hj HLEN.out;have hq2:=b2V i j L.length (xd5 hij hj) hj HLEN.out;rw [<- hh] at hq2;have HC:=hid (fun w=>b1F a page w);unfold arC at HC;have hw1:wrap64 ((h:Int) + 1)=(h:Int) + 1:=b2R h L.length (xb9 hhj hj) HLEN.out;have hlh:(h:Int) < L.length:=xp6.2 (xb9 hhj hj);clear hh
   go_upto_region 5 with fail
   rw [hq2];clear hq0 hq1 hq2;by_cases hc:a56 a page < 0
   ·have HX:=hid (b53 HI.out ha hc);generalize a56 a page=cv at *
    go_wp2_with (first|go_at_call 126;(with_reducible refine (HC.out _).mono ?_);rintro e w1 ⟨rfl,hb1⟩)
    go_roundw
    case rel=>exact ⟨h + 1,j,Nat.succ_le_of_lt hhj,hj,by rw [hw1];rfl,rfl,(by repeat (first|with_reducible assumption|refine bt ?_ (by with_reducible assumption))),HX.out⟩
    case measure=>(rw [hw1];exact ms1 hih hhj)
   ·have HX:=hid (b4p HI.out ha hc);generalize a56 a page=cv at *
    go_wp2_with (first|go_at_call 126;(with_reducible refine (HC.out _).mono ?_);rintro e w1 ⟨rfl,hb1⟩)
    go_roundw
    case rel=>exact ⟨i,h,hih,Nat.le_of_lt (xb9 hhj hj),rfl,rfl,(by repeat (first|with_reducible assumption|refine bt ?_ (by with_reducible assumption))),HX.out⟩
    case measure=>exact ms2 hih hhj
  ·obtain rfl:i=j:=by omega
   by_cases hn:i < L.length
   ·obtain ⟨a,ha⟩:∃ a,L[i]?=some a:=⟨L[i],by simp [hn]⟩;obtain ⟨c0,c1,c2,c3⟩:=(HL.out i a ha).grown hb hbl;have hbr:=a2Y (xb9 hbl hb.size);have hsz:=hb.size;have HC:=hid (fun w=>b1F a page w);have hz:=b7F a page;unfold arC at HC;generalize a56 a page=cv at *
    go_wp2_with (first|go_at_call 126;(with_reducible refine (HC.out _).mono ?_);rintro e w1 ⟨rfl,hb1⟩)
    go_ret2
    exact ⟨i,hj,rfl,(by repeat (first|with_reducible assumption|refine bt ?_ (by with_reducible assumption))),HI.out⟩
   ·go_wp2
    go_ret2
    exact ⟨i,hj,rfl,(by repeat ((with_reducible assumption))),HI.out⟩
theorem a6n {va vb:Value} {A B:List Ar} {w:World} (ha:SlAr w va A) (hb:SlAr w vb B):Calls Tryz.prog 61 #[va,vb] w (RB (.bool (decide (A=B))) w):=by
 rcases ha with ⟨p,c,rfl,rfl⟩|⟨b1,off1,cap1,rfl,h2,h3,h4,h5⟩
 ·rcases hb with ⟨p2,c2,rfl,rfl⟩|⟨b2,off2,cap2,rfl,k2,k3,k4,k5⟩
  ·go_enter Tryz.func61,Tryz.ntmps61
   go_wp2
   go_loopw [5] (fun vi wr=>vi=.int .i64 0/\wr=w) (fun _ _=>0)
   case atStart=>exact ⟨rfl,rfl⟩
   case round=>
    obtain ⟨rfl,rfl⟩:=hrel
    go_wp2
    go_ret
    exact ⟨a0i (by simp),Below.refl _ _⟩
  ·cases B with
   |nil=>
    simp only [xa2]
    go_enter Tryz.func61,Tryz.ntmps61
    go_wp2
    go_loopw [5] (fun vi wr=>vi=.int .i64 0/\wr=w) (fun _ _=>0)
    case atStart=>exact ⟨rfl,rfl⟩
    case round=>
     obtain ⟨rfl,rfl⟩:=hrel
     go_wp2
     go_ret
     exact ⟨a0i (by simp),Below.refl _ _⟩
   |cons c B=>
    have hn:((0:Int) != ((c::B).length:Nat))=true:=by rw [bne_iff_ne];simp;omega
    generalize hD:(c::B).length=n at *
    go_enter Tryz.func61,Tryz.ntmps61
    go_wp2
    go_ret
    exact ⟨a0i (by simp),Below.refl _ _⟩
 ·rcases hb with ⟨p2,c2,rfl,rfl⟩|⟨b2,off2,cap2,rfl,k2,k3,k4,k5⟩
  ·cases A with
   |nil=>
    simp only [xa2]
    go_enter Tryz.func61,Tryz.ntmps61
    go_wp2
    go_loopw [5] (fun vi wr=>vi=.int .i64 0/\wr=w) (fun _ _=>0)
    case atStart=>exact ⟨rfl,rfl⟩
    case round=>
     obtain ⟨rfl,rfl⟩:=hrel
     go_wp2
     go_ret
     exact ⟨a0i (by simp),Below.refl _ _⟩
   |cons c A=>
    have hn:(((c::A).length:Int) != 0)=true:=by rw [bne_iff_ne];simp;omega
    generalize hD:(c::A).length=n at *
    go_enter Tryz.func61,Tryz.ntmps61
    go_wp2
    go_ret
    exact ⟨a0i (by simp),Below.refl _ _⟩
  ·by_cases hl:A.length=B.length
   ·exact b3o b1 off1 cap1 b2 off2 cap2 h2 k2 h5 k5 hl (b13 h3 h4)
   ·have HX:=hid (b6n hl);have hn:((A.length:Int) != B.length)=true:=by rw [bne_iff_ne];omega
    clear hl h4 k4 h5 k5 h3 k3
    go_enter Tryz.func61,Tryz.ntmps61
    go_wp2
    go_ret
    exact ⟨a0i (xh9 HX.out).symm,Below.refl _ _⟩
theorem a4x (n lo hi:Int) (w:World):Calls Tryz.prog 56 #[.int .i64 n,.int .i64 lo,.int .i64 hi] w fun e w'=>e=.returned (.bool (decide (lo<=n/\n<=hi)))/\w=w':=by
 by_cases h1:lo<=n
 ·by_cases h2:n<=hi
  ·go_enter Tryz.func56,Tryz.ntmps56
   go_wp2
   go_ret
   exact ⟨a0i (by simp [h1,h2]),rfl⟩
  ·go_enter Tryz.func56,Tryz.ntmps56
   go_wp2
   go_ret
   exact ⟨a0i (by simp [h1,h2]),rfl⟩
 ·go_enter Tryz.func56,Tryz.ntmps56
  go_wp2
  go_ret
  exact ⟨a0i (by simp;omega),rfl⟩
theorem a1E {P:Program} {w:World} {ops:Array Oper} {rest:List Oper} {o:Oper} {a:Act} {Q:Exit->Act->World->Prop} (hw:Region.wanted o (yielded ops a.tmps)=true) (ty:TypeId) (x:Operand) (ho:o.op=.load ty x) (g:Nat) (L:List Value) (hx:a.eval x=.pointer (some ⟨g,0,none⟩)) (h:HoldL w g L) (d:TypeDesc)
  (hu:P.underlying ty=some d) (hd:(match d with|.struct _|.array _ _=>true|_=>false)=true) (hi:(P.info? ty).map (·.size)=some L.length)
  (next:wpList P ops Q rest (a.put o.dst (.agg L.toArray)) w):wpList P ops Q (o::rest) a w:=by
 obtain ⟨t,ht⟩:=h;unfold wpList;rw [xf0 hw];exact xd6 (wp_load_row ty x ho g hx t _ _ d ht hu hd (by simpa using hi) next)
theorem a9e {v:Value} {L:List Ar} {w:World} (h:SlAr w v L) (hok:∀ (i:Nat) (a:Ar),L[i]?=some a->a.ok) (hlen:L.length<=255):Calls Tryz.prog 150 #[v] w (a1I L w):=by
 rcases h with ⟨p,c,rfl,rfl⟩|⟨b,off,cap,rfl,h2,h3,h4,h5⟩
 ·exact b3D p c w
 ·exact b26 b off cap h2 h5 hok hlen
theorem a9Q {L:List Ar} (hl:¬ 255 < L.length) (hr:¬ v8 1 L):l7 L=1:=by
 unfold l7;rw [xf1 hl,xf1 (fun g=>hr g.1)]
theorem a98 {L:List Ar} (hl:¬ 255 < L.length) (hr:v8 1 L):l7 L=if a0v (q9 L) 255=L then 0 else 1:=by
 unfold l7;rw [xf1 hl];by_cases h:a3m L
 ·rw [xf0 ⟨hr,h⟩,xf0 ((a5T hr).2 h)]
 ·rw [xf1 (fun g=>h g.2),xf1 (fun e=>h ((a5T hr).1 e))]
theorem a6Z (p:Option Addr) (c:Nat) (w:World):Calls Tryz.prog 114 #[.slice p 0 c] w (RB (.int .i64 0) w):=by
 have hszb:(Tryz.prog.info? 278).map (·.size)=some 256:=by kernel_rfl
 have Hszb:=hid hszb;clear hszb;have hbw:=Below.refl w.heap.size w;obtain ⟨L,hL⟩:∃ L:List Ar,L=[]:=⟨_,rfl⟩;have HR:Hid (v8 1 L):=by rw [hL];exact trivial
 have HSL:Hid (SlAr w (.slice p 0 c) L):=xd6 ⟨_,_,rfl,hL⟩;have HBD:Hid (∀ w',Below w.heap.size w w'->Calls Tryz.prog 150 #[.slice p 0 c] w' (a1I L w')):=fun w' hb=>a9e (HSL.out.grown hb) (by rw [hL];intro i a h;simp at h) (by rw [hL];simp);unfold a1I at HBD;rw [xi0 HR.out] at HBD;have HAO:=hid (fun w'=>a5S (q9 L) (fun p=>a4O p HR.out) (a0u HR.out (by omega)) w');have HEQ:Hid (a0v (q9 L) 255=L):=hid (by rw [hL];exact a3M ⟨trivial,trivial⟩);clear hL
 go_enter Tryz.func114,Tryz.ntmps114
 go_wp2
 go_loopw [3] (fun vi wr=>vi=.int .i64 0/\w=wr) (fun _ _=>0)
 case atStart=>exact ⟨rfl,rfl⟩
 case round=>
  obtain ⟨rfl,rfl⟩:=hrel
  go_wp2_with (first|go_at_call 150;(with_reducible refine (HBD.out _ hbw).mono ?_);rintro e wc ⟨bd,rfl,hbc,hbd⟩;rw [hbd HR.out];clear hbd;have hbn:=bt hbw hbc;clear hbw hbc;have hbw:=hbn;clear hbn|(with_reducible refine a0V 5 ?_);refine o6 rfl (some 5) rfl (bdC (fun _=>0)) 278 (by kernel_rfl) w.heap.size w hbw hbw.size ?_;intro g5 wn5 hL5 hB5 hbn hkn hnn;skip;clear hbw hkn hnn;have hbw:=hbn;clear hbn|(with_reducible refine a0d 5 ?_);refine m9 rfl 278 (.tmp 5) (.tmp 48) rfl rfl g5 (bdC (q9 L)) (bdC (fun _=>0)) rfl rfl hL5 (by rw [Hszb.out,t8]) (by simp [t8]) (a3f _) w.heap.size w hbw hB5 ?_;intro wp5 hLn hbn hon;clear hL5 hbw hon;have hL5:=hLn;have hbw:=hbn;clear hLn hbn|(with_reducible refine a0V 53 ?_);refine a1E rfl 278 (.tmp 5) rfl g5 (bdC (q9 L)) rfl hL5 _ Tryz.underlying278 rfl (by rw [Hszb.out,t8]) ?_|go_at_call 151;(with_reducible refine (HAO.out _).mono ?_);rintro e wa ⟨va,rfl,hsa,hba⟩;have hbn:=bt hbw hba;clear hbw hba;have hbw:=hbn;clear hbn)
  have HC:=a6n (b0M hsa) (HSL.out.grown hbw);rw [xi0 HEQ.out] at HC;have HC:=hid HC
  go_wp2_with (first|go_at_call 61;(with_reducible refine (HC.out).mono ?_);rintro e wz ⟨rfl,hbz⟩)
  go_ret
  exact ⟨a0l rfl,bt hbw hbz⟩
theorem a59 {L:List Ar} {w:World} (b off cap:Nat) (hbl:b < w.heap.size) (hcap:L.length<=cap) (hmax:cap<=maxLen) (hcells:∀ i a,L[i]?=some a->CellsAr w b (off + i * 4) a) :
  Calls Tryz.prog 114 #[.slice (some ⟨b,off,none⟩) L.length cap] w (RB (.int .i64 (l7 L)) w):=by
 by_cases hm:255 < L.length
 ·have HC:=hid (a5O hm);clear hmax;generalize l7 L=r at *
  go_enter Tryz.func114,Tryz.ntmps114
  go_wp2
  go_ret
  exact ⟨a0l HC.out.symm,Below.refl _ _⟩
 have hszb:(Tryz.prog.info? 278).map (·.size)=some 256:=by kernel_rfl
 have Hszb:=hid hszb;clear hszb;have HSL:Hid (SlAr w (.slice (some ⟨b,off,none⟩) L.length cap) L):=xd3 ⟨b,off,cap,rfl,hbl,hcap,hmax,hcells⟩;have HL:=hid hcells;have hlen:L.length<=255:=by omega
 clear hcells hmax hcap;obtain ⟨r,hr⟩:∃ r,r=l7 L:=⟨_,rfl⟩;rw [<- hr];have HQ:=hid hr;clear hr
 go_enter Tryz.func114,Tryz.ntmps114
 go_wp2
 go_loopw [3] (fun vi wr=>∃ i:Nat,i<=L.length/\vi=.int .i64 i/\Below w.heap.size w wr/\Hid (∀ (j:Nat) (a:Ar),j < i->L[j]?=some a->a.ok)) (fun vi _=>L.length - (intOf vi).toNat)
 case atStart=>exact ⟨0,by omega,rfl,Below.refl _ _,fun j a hj=>by omega⟩
 case round=>
  obtain ⟨i,hi,rfl,hbw,HO⟩:=hrel;by_cases hlt:i < L.length
  ·obtain ⟨a,ha⟩:∃ a,L[i]?=some a:=⟨L[i],by simp [hlt]⟩;obtain ⟨c0,c1,c2,c3⟩:=(HL.out i a ha).grown hbw hbl;have hbr:=a2Y (xb9 hbl hbw.size);have hsz:=hbw.size;have HW1:=hid (fun w=>a4x a.pg 1 255 w);have HW2:=hid (fun w=>a4x a.n 1 255 w);have HW4:=hid (fun w=>a4x a.prot 0 3 w);by_cases h1:1<=a.pg/\a.pg<=255
   ·rw [xi0 h1] at HW1;by_cases h2:1<=a.n/\a.n<=255
    ·rw [xi0 h2] at HW2;have hw1:wrap64 (a.pg + a.n)=a.pg + a.n:=y0 _ (by omega) (by omega);have hw2:wrap64 (a.pg + a.n - 1)=a.pg + a.n - 1:=y0 _ (by omega) (by omega);by_cases h3:255 < a.pg + a.n - 1
     ·have HX:=hid (a3O ha (fun h=>by unfold Ar.ok at h;omega));clear h1 h2
      go_wp2_with (first|go_at_call 56;(with_reducible refine (HW1.out _).mono ?_);rintro e w1 ⟨rfl,rfl⟩|go_at_call 56;(with_reducible refine (HW2.out _).mono ?_);rintro e w1 ⟨rfl,rfl⟩|go_at_call 56;(with_reducible refine (HW4.out _).mono ?_);rintro e w1 ⟨rfl,rfl⟩)
      go_ret
      exact ⟨a0l (by rw [HQ.out,a1t hm hlt HX.out]),(by repeat (first|with_reducible exact Below.refl _ _|with_reducible assumption|with_reducible refine Below.alloc ?_ (by first|omega|(simp;done)|(simp;omega)) _|with_reducible refine Below.setCell ?_ (by first|omega|(simp;done)|(simp;omega)) _|with_reducible refine Below.drew ?_|with_reducible refine bt ?_ (below_regrown _ _ _)|refine bt ?_ (by with_reducible assumption)))⟩
     ·by_cases h4:0<=a.prot/\a.prot<=3
      ·rw [xi0 h4] at HW4;have HX:Hid (a.ok):=hid (by unfold Ar.ok;omega);have HMS:=hid (ms5 hlt);have hws:wrap64 ((i:Int) + 1)=(i:Int) + 1:=y0 _ (by omega) (by omega);have h3':a.pg + a.n - 1<=255:=by omega
       clear h1 h2 h3 h4
       go_wp2_with (first|go_at_call 56;(with_reducible refine (HW1.out _).mono ?_);rintro e w1 ⟨rfl,rfl⟩|go_at_call 56;(with_reducible refine (HW2.out _).mono ?_);rintro e w1 ⟨rfl,rfl⟩|go_at_call 56;(with_reducible refine (HW4.out _).mono ?_);rintro e w1 ⟨rfl,rfl⟩)
       go_roundw
       case rel=>
        refine ⟨i + 1,hlt,by first|rfl|(rw [hws];rfl),(by repeat (first|with_reducible exact Below.refl _ _|with_reducible assumption|with_reducible refine Below.alloc ?_ (by first|omega|(simp;done)|(simp;omega)) _|with_reducible refine Below.setCell ?_ (by first|omega|(simp;done)|(simp;omega)) _|with_reducible refine Below.drew ?_|with_reducible refine bt ?_ (below_regrown _ _ _)|refine bt ?_ (by with_reducible assumption))),fun j x hj hx=>?_⟩;rcases xi9.1 hj with h|h
        ·exact HO.out j x h hx
        ·subst h;rw [ha] at hx;cases hx;exact HX.out
       case measure=>first|exact HMS.out|(rw [hws];exact HMS.out)
      ·rw [xh9 h4] at HW4;have HX:=hid (a3O ha (fun h=>by unfold Ar.ok at h;omega));have h3':a.pg + a.n - 1<=255:=by omega
       clear h1 h2 h3 h4
       go_wp2_with (first|go_at_call 56;(with_reducible refine (HW1.out _).mono ?_);rintro e w1 ⟨rfl,rfl⟩|go_at_call 56;(with_reducible refine (HW2.out _).mono ?_);rintro e w1 ⟨rfl,rfl⟩|go_at_call 56;(with_reducible refine (HW4.out _).mono ?_);rintro e w1 ⟨rfl,rfl⟩)
       go_ret
       exact ⟨a0l (by rw [HQ.out,a1t hm hlt HX.out]),(by repeat (first|with_reducible exact Below.refl _ _|with_reducible assumption|with_reducible refine Below.alloc ?_ (by first|omega|(simp;done)|(simp;omega)) _|with_reducible refine Below.setCell ?_ (by first|omega|(simp;done)|(simp;omega)) _|with_reducible refine Below.drew ?_|with_reducible refine bt ?_ (below_regrown _ _ _)|refine bt ?_ (by with_reducible assumption)))⟩
    ·rw [xh9 h2] at HW2;have HX:=hid (a3O ha (fun h=>by unfold Ar.ok at h;omega));clear h1 h2
     go_wp2_with (first|go_at_call 56;(with_reducible refine (HW1.out _).mono ?_);rintro e w1 ⟨rfl,rfl⟩|go_at_call 56;(with_reducible refine (HW2.out _).mono ?_);rintro e w1 ⟨rfl,rfl⟩|go_at_call 56;(with_reducible refine (HW4.out _).mono ?_);rintro e w1 ⟨rfl,rfl⟩)
     go_ret
     exact ⟨a0l (by rw [HQ.out,a1t hm hlt HX.out]),(by repeat (first|with_reducible exact Below.refl _ _|with_reducible assumption|with_reducible refine Below.alloc ?_ (by first|omega|(simp;done)|(simp;omega)) _|with_reducible refine Below.setCell ?_ (by first|omega|(simp;done)|(simp;omega)) _|with_reducible refine Below.drew ?_|with_reducible refine bt ?_ (below_regrown _ _ _)|refine bt ?_ (by with_reducible assumption)))⟩
   ·rw [xh9 h1] at HW1;have HX:=hid (a3O ha (fun h=>by unfold Ar.ok at h;omega));clear h1
    go_wp2_with (first|go_at_call 56;(with_reducible refine (HW1.out _).mono ?_);rintro e w1 ⟨rfl,rfl⟩|go_at_call 56;(with_reducible refine (HW2.out _).mono ?_);rintro e w1 ⟨rfl,rfl⟩|go_at_call 56;(with_reducible refine (HW4.out _).mono ?_);rintro e w1 ⟨rfl,rfl⟩)
    go_ret
    exact ⟨a0l (by rw [HQ.out,a1t hm hlt HX.out]),(by repeat (first|with_reducible exact Below.refl _ _|with_reducible assumption|with_reducible refine Below.alloc ?_ (by first|omega|(simp;done)|(simp;omega)) _|with_reducible refine Below.setCell ?_ (by first|omega|(simp;done)|(simp;omega)) _|with_reducible refine Below.drew ?_|with_reducible refine bt ?_ (below_regrown _ _ _)|refine bt ?_ (by with_reducible assumption)))⟩
  ·obtain rfl:i=L.length:=by omega
   have hok:∀ (j:Nat) (a:Ar),L[j]?=some a->a.ok:=fun j a hj=>HO.out j a (xa7.1 hj).1 hj;have HBD:Hid (∀ w',Below w.heap.size w w'->Calls Tryz.prog 150 #[.slice (some ⟨b,off,none⟩) L.length cap] w' (a1I L w')):=fun w' hb=>a9e (HSL.out.grown hb) hok hlen;unfold a1I at HBD;clear hok;by_cases hr:v8 1 L
   ·rw [xi0 hr] at HBD;have HR:=hid hr;have HAO:=hid (fun w'=>a5S (q9 L) (fun p=>a4O p hr) (a0u hr (by omega)) w');have hcs:=a98 hm hr;clear hr;by_cases he:a0v (q9 L) 255=L
    ·rw [xf0 he] at hcs;have HEQ:=hid he;have HCS:=hid hcs;clear he hcs
     go_wp2_with (first|go_at_call 150;(with_reducible refine (HBD.out _ hbw).mono ?_);rintro e wc ⟨bd,rfl,hbc,hbd⟩;rw [hbd HR.out];clear hbd;have hbn:=bt hbw hbc;clear hbw hbc;have hbw:=hbn;clear hbn|(with_reducible refine a0V 5 ?_);refine o6 rfl (some 5) rfl (bdC (fun _=>0)) 278 (by kernel_rfl) w.heap.size w hbw hbw.size ?_;intro g5 wn5 hL5 hB5 hbn hkn hnn;skip;clear hbw hkn hnn;have hbw:=hbn;clear hbn|(with_reducible refine a0d 5 ?_);refine m9 rfl 278 (.tmp 5) (.tmp 48) rfl rfl g5 (bdC (q9 L)) (bdC (fun _=>0)) rfl rfl hL5 (by rw [Hszb.out,t8]) (by simp [t8]) (a3f _) w.heap.size w hbw hB5 ?_;intro wp5 hLn hbn hon;clear hL5 hbw hon;have hL5:=hLn;have hbw:=hbn;clear hLn hbn|(with_reducible refine a0V 53 ?_);refine a1E rfl 278 (.tmp 5) rfl g5 (bdC (q9 L)) rfl hL5 _ Tryz.underlying278 rfl (by rw [Hszb.out,t8]) ?_|go_at_call 151;(with_reducible refine (HAO.out _).mono ?_);rintro e wa ⟨va,rfl,hsa,hba⟩;have hbn:=bt hbw hba;clear hbw hba;have hbw:=hbn;clear hbn)
     have HC:=a6n (b0M hsa) (HSL.out.grown hbw);rw [xi0 HEQ.out] at HC;have HC:=hid HC
     go_wp2_with (first|go_at_call 61;(with_reducible refine (HC.out).mono ?_);rintro e wz ⟨rfl,hbz⟩)
     go_ret
     exact ⟨a0l (by rw [HQ.out,HCS.out]),bt hbw hbz⟩
    ·rw [xf1 he] at hcs;have HEQ:=hid he;have HCS:=hid hcs;clear he hcs
     go_wp2_with (first|go_at_call 150;(with_reducible refine (HBD.out _ hbw).mono ?_);rintro e wc ⟨bd,rfl,hbc,hbd⟩;rw [hbd HR.out];clear hbd;have hbn:=bt hbw hbc;clear hbw hbc;have hbw:=hbn;clear hbn|(with_reducible refine a0V 5 ?_);refine o6 rfl (some 5) rfl (bdC (fun _=>0)) 278 (by kernel_rfl) w.heap.size w hbw hbw.size ?_;intro g5 wn5 hL5 hB5 hbn hkn hnn;skip;clear hbw hkn hnn;have hbw:=hbn;clear hbn|(with_reducible refine a0d 5 ?_);refine m9 rfl 278 (.tmp 5) (.tmp 48) rfl rfl g5 (bdC (q9 L)) (bdC (fun _=>0)) rfl rfl hL5 (by rw [Hszb.out,t8]) (by simp [t8]) (a3f _) w.heap.size w hbw hB5 ?_;intro wp5 hLn hbn hon;clear hL5 hbw hon;have hL5:=hLn;have hbw:=hbn;clear hLn hbn|(with_reducible refine a0V 53 ?_);refine a1E rfl 278 (.tmp 5) rfl g5 (bdC (q9 L)) rfl hL5 _ Tryz.underlying278 rfl (by rw [Hszb.out,t8]) ?_|go_at_call 151;(with_reducible refine (HAO.out _).mono ?_);rintro e wa ⟨va,rfl,hsa,hba⟩;have hbn:=bt hbw hba;clear hbw hba;have hbw:=hbn;clear hbn)
     have HC:=a6n (b0M hsa) (HSL.out.grown hbw);rw [xh9 HEQ.out] at HC;have HC:=hid HC
     go_wp2_with (first|go_at_call 61;(with_reducible refine (HC.out).mono ?_);rintro e wz ⟨rfl,hbz⟩)
     go_ret
     exact ⟨a0l (by rw [HQ.out,HCS.out]),bt hbw hbz⟩
   ·rw [xh9 hr] at HBD;have HX:Hid (r=1):=hid (by rw [HQ.out,a9Q hm hr]);clear hr
    go_wp2_with (first|go_at_call 150;(with_reducible refine (HBD.out _ hbw).mono ?_);rintro e wc ⟨bd,rfl,hbc,hbd⟩;clear hbd;have hbn:=bt hbw hbc;clear hbw hbc;have hbw:=hbn;clear hbn|(with_reducible refine a0V 5 ?_);refine o6 rfl (some 5) rfl (bdC (fun _=>0)) 278 (by kernel_rfl) w.heap.size w hbw hbw.size ?_;intro g5 wn5 hL5 hB5 hbn hkn hnn;skip;clear hbw hkn hnn;have hbw:=hbn;clear hbn|(with_reducible refine a0d 5 ?_);refine m9 rfl 278 (.tmp 5) (.tmp 48) rfl rfl g5 (bdC bd) (bdC (fun _=>0)) rfl rfl hL5 (by rw [Hszb.out,t8]) (by simp [t8]) (a3f _) w.heap.size w hbw hB5 ?_;intro wp5 hLn hbn hon;clear hL5 hbw hon;have hL5:=hLn;have hbw:=hbn;clear hLn hbn)
    go_ret
    exact ⟨a0l HX.out.symm,hbw⟩
theorem a7w {v:Value} {L:List Ar} {w:World} (h:SlAr w v L):Calls Tryz.prog 114 #[v] w (RB (.int .i64 (l7 L)) w):=by
 rcases h with ⟨p,c,rfl,rfl⟩|⟨b,off,cap,rfl,h2,h3,h4,h5⟩
 ·exact a6Z p c w
 ·exact a59 b off cap h2 h3 h4 h5
theorem a1F {w:World} {v:Value} {L:List Ar} (h:Sl nF w 4 v (L.map arC)):SlAr w v L:=by
 rcases h with ⟨p,c,rfl,h⟩|⟨b,off,cap,rfl,h3,h4,hr⟩
 ·exact xd6 ⟨_,_,rfl,by simpa using h⟩
 ·rw [xh1] at h3 |-;refine xd3 ⟨b,off,cap,rfl,hr.lt,h3,h4,fun i a ha=>?_⟩;have hk:(L.map arC)[i]?=some (arC a):=by simp [ha]
  exact ⟨hr.cells i _ hk 0 _ rfl,hr.cells i _ hk 1 _ rfl,hr.cells i _ hk 2 _ rfl,hr.cells i _ hk 3 _ rfl⟩
theorem a6r {v:Value} {L:List Ar} {w:World} (h:Sl nF w 4 v (L.map arC)):Fn Tryz.prog 100 [v] w (RBf (.int .i64 (l7 L)) w) :=
 Fn.of_rb ⟨Tryz.func100,by kernel_rfl,by kernel_rfl⟩ (a5h (a1F h))
theorem a6i {M:List Ar} (hok:∀ (i:Nat) (a:Ar),M[i]?=some a->a.ok) (i:Nat):0<=r6 (M.take i)/\r6 (M.take i)<=255 * (i:Int):=by
 induction i with
 |zero=>simp [r6]
 |succ i ih=>
  cases ha:M[i]? with
  |none=>
   have:M.length<=i:=by simpa using ha
   rw [xa0 (by omega)] at ih |-;omega
  |some a=>
   rw [a4e ha];have:=hok i a ha;unfold Ar.ok at this;omega
theorem b7a (p:Option Addr) (c:Nat) (page:Int) (w:World):Calls Tryz.prog 125 #[.slice p 0 c,.int .i64 page,.func (.func 126) #[] #[]] w (b08 [] page w):=by
 go_enter Tryz.func125,Tryz.ntmps125
 go_wp2
 go_loopw [9,10] (fun vi vj wr=>vi=.int .i64 0/\vj=.int .i64 0/\wr=w) (fun _ _ _=>0)
 case atStart=>exact ⟨rfl,rfl,rfl⟩
 case round=>
  obtain ⟨rfl,rfl,rfl⟩:=hrel
  go_wp2
  go_ret2
  exact ⟨0,by simp,rfl,(by repeat ((with_reducible exact Below.refl _ _))),a94 [] page⟩
theorem b7T {v:Value} {L:List Ar} {w:World} (page:Int) (h:SlAr w v L):Calls Tryz.prog 125 #[v,.int .i64 page,.func (.func 126) #[] #[]] w (b08 L page w):=by
 rcases h with ⟨p,c,rfl,rfl⟩|⟨b,off,cap,rfl,h2,h3,h4,h5⟩
 ·exact b7a p c page w
 ·exact b7C b off cap page h2 h3 h4 h5
theorem a21 {page:Int} {a:Ar} (h:a.fin<=page\/page < a.pg):a0k page a=false:=by unfold a0k;simp;omega
theorem b4D {L:List Ar} {page:Int} (hg:a4K L) (hI:a4m L page L.length L.length):n7 L page=none :=
 a4s fun j b hj hb=>a21 (xd6 ((hI hg).1 j b hj hb))
theorem b4e {L:List Ar} {page:Int} {i:Nat} {a:Ar} (hg:a4K L) (hI:a4m L page i i) (ha:L[i]?=some a) (h:page < a.pg):n7 L page=none :=
 a4s fun j b hj hb=>by
  rcases xq4 j i with h1|h1
  ·exact a21 (xd6 ((hI hg).1 j b h1 hb))
  ·rcases Nat.lt_or_eq_of_le h1 with h2|h2
   ·have:=a64 hg h2 ha hb;have hk:=a00 hg i a ha;unfold Ar.ok at hk;exact a21 (xd3 (by unfold Ar.fin at this;omega))
   ·subst h2;rw [ha] at hb;cases hb;exact a21 (xd3 h)
theorem b4Z {L:List Ar} {page:Int} {i:Nat} {a:Ar} (hg:a4K L) (hI:a4m L page i i) (ha:L[i]?=some a) (h:a.pg<=page):n7 L page=some a :=
 a6Q (fun j b hj hb=>a21 (xd6 ((hI hg).1 j b hj hb))) ha (by unfold a0k;simp;exact ⟨h,(hI hg).2 i a (xd4 _) ha⟩)
def a5Q (L:List Ar) (page:Int):Option Ar:=if l7 L=0 then n7 L page else none
theorem b42 {v:Value} {L:List Ar} {w:World} (page:Int) (h:SlAr w v L):Calls Tryz.prog 81 #[v,.int .i64 page] w (RB (a2f (a5Q L page)) w):=by
 have HC:=hid (fun w' (hb:Below w.heap.size w w')=>a5h (h.grown hb));have HS:=hid (fun w' (hb:Below w.heap.size w w')=>b7T page (h.grown hb));have hsz:(Tryz.prog.info? 81).map (·.size)=some 4:=by kernel_rfl
 have Hsz:=hid hsz;clear hsz;have hbw:=Below.refl w.heap.size w
 go_enter Tryz.func81,Tryz.ntmps81
 go_wp2_with (first|(with_reducible refine a0V 4 ?_);refine o6 rfl (some 4) rfl (zl4) 81 (by kernel_rfl) w.heap.size w hbw hbw.size ?_;intro g4 wn4 hL4 hB4 hbn hkn hnn;skip;clear hbw hkn hnn;have hbw:=hbn;clear hbn|go_at_call 125;(with_reducible refine (HS.out _ hbw).mono ?_);rintro e wc ⟨i,hi,rfl,hbc,hI⟩;have hL4:=hL4.grown hbc hL4.lt;have hbn:=bt hbw hbc;clear hbw hbc;have hbw:=hbn;clear hbn)
 by_cases hc:l7 L=0
 ·obtain ⟨_,hg⟩:=r7.1 hc;have HQ:Hid (a5Q L page=n7 L page):=by refine hid ?_;unfold a5Q;rw [xf0 hc]
  rw [hc] at HC;clear hc;by_cases hlt:i < L.length
  ·obtain ⟨a,ha⟩:∃ a,L[i]?=some a:=⟨L[i],by simp [hlt]⟩;rcases h with ⟨p,c,rfl,rfl⟩|⟨b,off,cap,rfl,hbl,hcap,hmax,hcells⟩
   ·simp at hlt
   have HL:=hid hcells;have hne:((i:Int) == L.length)=false:=by rw [beq_eq_false_iff_ne];omega
   have hli:(i:Int) < L.length:=xp6.2 hlt;clear hcells hmax;by_cases hp:page < a.pg
   ·have HX:=hid (b4e hg hI ha hp);clear hI
    go_wp2_with (first|(go_at_call 100;(with_reducible refine (HC.out _ hbw).mono ?_);rintro e wk ⟨rfl,hbc⟩);have hL4:=hL4.grown hbc hL4.lt;have hbn:=bt hbw hbc;clear hbw hbc;have hbw:=hbn;clear hbn;obtain ⟨c0,c1,c2,c3⟩:=(HL.out i a ha).grown hbw hbl|(with_reducible refine a0d 4 ?_);refine m9 rfl 81 (.tmp 4) (.tmp 32) rfl rfl g4 (zl4) (zl4) rfl rfl hL4 Hsz.out rfl rfl w.heap.size w hbw hB4 ?_;intro wp4 hLn hbn hon;skip;clear hL4 hbw hon;have hL4:=hLn;have hbw:=hbn;clear hLn hbn)
    refine bodyPost_ret (v:=.tuple #[.agg (zl4).toArray,.bool false]) (x7 rfl _ g4 (zl4) (.bool false) _ rfl rfl hL4 Tryz.underlying81 rfl Hsz.out) rfl ⟨by rw [HQ.out,HX.out];rfl,hbw⟩
   ·have HX:=hid (b4Z hg hI ha (by omega));clear hI;have hp':decide (page < a.pg)=false:=by simpa using hp
    go_wp2_with (first|(go_at_call 100;(with_reducible refine (HC.out _ hbw).mono ?_);rintro e wk ⟨rfl,hbc⟩);have hL4:=hL4.grown hbc hL4.lt;have hbn:=bt hbw hbc;clear hbw hbc;have hbw:=hbn;clear hbn;obtain ⟨c0,c1,c2,c3⟩:=(HL.out i a ha).grown hbw hbl|(with_reducible refine a0d 4 ?_);refine m9 rfl 81 (.tmp 4) (.tmp 36) rfl rfl g4 ([.int .i64 a.pg,.int .i64 a.n,.int .i64 a.prot,.bool a.z]) (zl4) rfl rfl hL4 Hsz.out rfl rfl w.heap.size w hbw hB4 ?_;intro wp4 hLn hbn hon;skip;clear hL4 hbw hon;have hL4:=hLn;have hbw:=hbn;clear hLn hbn)
    refine bodyPost_ret (v:=.tuple #[.agg ([.int .i64 a.pg,.int .i64 a.n,.int .i64 a.prot,.bool a.z]).toArray,.bool true]) (x7 rfl _ g4 ([.int .i64 a.pg,.int .i64 a.n,.int .i64 a.prot,.bool a.z]) (.bool true) _ rfl rfl hL4 Tryz.underlying81 rfl Hsz.out) rfl ⟨by rw [HQ.out,HX.out];rfl,hbw⟩
  ·obtain rfl:i=L.length:=by omega
   have HX:=hid (b4D hg hI);have hlen:∃ n:Nat,n=L.length:=⟨_,rfl⟩;clear hI;rcases h with ⟨p,c,rfl,rfl⟩|⟨b,off,cap,rfl,hbl,hcap,hmax,hcells⟩
   ·go_wp2_with (first|(go_at_call 100;(with_reducible refine (HC.out _ hbw).mono ?_);rintro e wk ⟨rfl,hbc⟩);have hL4:=hL4.grown hbc hL4.lt;have hbn:=bt hbw hbc;clear hbw hbc;have hbw:=hbn;clear hbn;skip|(with_reducible refine a0d 4 ?_);refine m9 rfl 81 (.tmp 4) (.tmp 32) rfl rfl g4 (zl4) (zl4) rfl rfl hL4 Hsz.out rfl rfl w.heap.size w hbw hB4 ?_;intro wp4 hLn hbn hon;skip;clear hL4 hbw hon;have hL4:=hLn;have hbw:=hbn;clear hLn hbn)
    refine bodyPost_ret (v:=.tuple #[.agg (zl4).toArray,.bool false]) (x7 rfl _ g4 (zl4) (.bool false) _ rfl rfl hL4 Tryz.underlying81 rfl Hsz.out) rfl ⟨by rw [HQ.out,HX.out];rfl,hbw⟩
   ·clear hcells hmax
    go_wp2_with (first|(go_at_call 100;(with_reducible refine (HC.out _ hbw).mono ?_);rintro e wk ⟨rfl,hbc⟩);have hL4:=hL4.grown hbc hL4.lt;have hbn:=bt hbw hbc;clear hbw hbc;have hbw:=hbn;clear hbn;skip|(with_reducible refine a0d 4 ?_);refine m9 rfl 81 (.tmp 4) (.tmp 32) rfl rfl g4 (zl4) (zl4) rfl rfl hL4 Hsz.out rfl rfl w.heap.size w hbw hB4 ?_;intro wp4 hLn hbn hon;skip;clear hL4 hbw hon;have hL4:=hLn;have hbw:=hbn;clear hLn hbn)
    refine bodyPost_ret (v:=.tuple #[.agg (zl4).toArray,.bool false]) (x7 rfl _ g4 (zl4) (.bool false) _ rfl rfl hL4 Tryz.underlying81 rfl Hsz.out) rfl ⟨by rw [HQ.out,HX.out];rfl,hbw⟩
 ·have HQ:Hid (a5Q L page=none):=by refine hid ?_;unfold a5Q;rw [xf1 hc]
  have hn:(l7 L != 0)=true:=by rw [bne_iff_ne];exact hc
  clear hc;generalize l7 L=ck at *
  go_wp2_with (first|(go_at_call 100;(with_reducible refine (HC.out _ hbw).mono ?_);rintro e wk ⟨rfl,hbc⟩);have hL4:=hL4.grown hbc hL4.lt;have hbn:=bt hbw hbc;clear hbw hbc;have hbw:=hbn;clear hbn;skip|(with_reducible refine a0d 4 ?_);refine m9 rfl 81 (.tmp 4) (.tmp 32) rfl rfl g4 (zl4) (zl4) rfl rfl hL4 Hsz.out rfl rfl w.heap.size w hbw hB4 ?_;intro wp4 hLn hbn hon;skip;clear hL4 hbw hon;have hL4:=hLn;have hbw:=hbn;clear hLn hbn)
  refine bodyPost_ret (v:=.tuple #[.agg (zl4).toArray,.bool false]) (x7 rfl _ g4 (zl4) (.bool false) _ rfl rfl hL4 Tryz.underlying81 rfl Hsz.out) rfl ⟨by rw [HQ.out];rfl,hbw⟩
theorem b6o {va vb:Value} {A B:List Ar} {w:World} (ha:Sl nF w 4 va (A.map arC)) (hb:Sl nF w 4 vb (B.map arC)):Fn Tryz.prog 61 [va,vb] w (RBf (.bool (decide (A=B))) w) :=
 Fn.of_rb ⟨Tryz.func61,by kernel_rfl,by kernel_rfl⟩ (a6n (a1F ha) (a1F hb))
theorem a4h {v:Value} {L:List Ar} {w:World} (h:Sl nF w 4 v (L.map arC)):Fn Tryz.prog 114 [v] w (RBf (.int .i64 (l7 L)) w) :=
 Fn.of_rb ⟨Tryz.func114,by kernel_rfl,by kernel_rfl⟩ (a7w (a1F h))
theorem a66 {v:Value} {L:List Ar} {w:World} (h:Sl nF w 4 v (L.map arC)) (hc:l7 L=0):Fn Tryz.prog 57 [v] w (RBf (.int .i64 (r6 L)) w) :=
 Fn.of_rb ⟨Tryz.func57,by kernel_rfl,by kernel_rfl⟩ (b07 (a1F h) hc)
theorem a32 {v:Value} {L:List Ar} {w:World} (page:Int) (h:Sl nF w 4 v (L.map arC)) (hok:∀ (i:Nat) (a:Ar),L[i]?=some a->a.ok):Fn Tryz.prog 30 [v,.int .i64 page] w (RBf (a2f (n7 L page)) w) :=
 Fn.of_rb ⟨Tryz.func30,by kernel_rfl,by kernel_rfl⟩ (b1C page (a1F h) hok)
theorem a5j {v:Value} {L:List Ar} {w:World} (page:Int) (h:Sl nF w 4 v (L.map arC)):Fn Tryz.prog 81 [v,.int .i64 page] w (RBf (a2f (a5Q L page)) w) :=
 Fn.of_rb ⟨Tryz.func81,by kernel_rfl,by kernel_rfl⟩ (b42 page (a1F h))
theorem a3R {v:Value} {L:List Ar} {w:World} (h:Sl nF w 4 v (L.map arC)):Fn Tryz.prog 53 [v] w (RBf (.int .i64 (if l7 L=0 then r6 L else 0)) w):=by
 by_cases hc:l7 L=0
 ·rw [xf0 hc];exact Fn.of_rb ⟨Tryz.func53,by kernel_rfl,by kernel_rfl⟩ (b0T (a1F h) hc)
 ·rw [xf1 hc];exact Fn.of_rb ⟨Tryz.func53,by kernel_rfl,by kernel_rfl⟩ (b29 (a1F h) hc)
theorem Sl.nil (w:World) (sz:Nat):Sl nF w sz (.slice none 0 0) []:=xd6 ⟨_,_,rfl,rfl⟩
def L2:List Ar:=[⟨3,1,1,true⟩,⟨4,1,0,true⟩,⟨5,2,1,true⟩]
theorem b5G {L:List Ar} {p:Int} {a:Ar} (h:v8 1 L) (hf:n7 L p=some a):a.ok:=by
 unfold n7 at hf;obtain ⟨i,hi⟩:=xd9.1 (xj3 hf);exact b50 h i a hi
theorem a1O {L:List Ar} {p:Int} (h:l7 L=0):a5Q L p=n7 L p:=xf0 h
def a3W (A:List Ar) (p:Int):Bool:=match n7 A p with
 |some a=>!a.z
 |none=>false
def a7A (A:List Ar):Int->List Sh->Bool
 |_,[]=>true
 |last,s::r=>a3W A s.page && (s9 s && (decide (last < s.page) && a7A A s.page r))
def a0B:Int->List Sh->Bool
 |_,[]=>true
 |last,s::r=>s9 s && (decide (last < s.page) && a0B s.page r)
def arB (A:List Ar) (l:List Sh):Bool:=l.all fun s=>a3W A s.page
theorem b2d (A:List Ar):∀ (l:List Sh) (last:Int),a7A A last l=(a0B last l && arB A l):=by
 intro l
 induction l with
 |nil=>intro last;rfl
 |cons s r ih=>
  intro last;simp only [a7A,a0B,arB,xl3,ih]
  cases a3W A s.page <;> cases s9 s <;> cases decide (last < s.page) <;> cases a0B s.page r <;> rfl
def a2V (A:List Ar) (en:Int):Bool:=decide (0<=en/\en.tmod 8=0) && (match n7 A (en.tdiv 16) with
 |some a=>decide (2<=a.prot)
 |none=>false)
def lkB (A:List Ar) (L:List Sh) (en:Int):Bool:=decide ((L.length:Int)=r6 A) && (a7A A 0 L && a2V A en)
def a0H (A:List Ar) (L:List Sh) (en:Int):Int:=if l7 A=0 then (if lkB A L en=true then 0 else 1) else l7 A
structure ShsV (w:World) (Lp:List (Sh×Value)) (vs:Value):Prop where
 sl:Sl nF w 3 vs (Lp.map fun p=>shC p.1 p.2)
 fx:∀ p ∈ Lp,ShV w p.1 p.2
theorem ShsV.now {w w':World} {Γ:List Asr} {Lp:List (Sh×Value)} {vs:Value} (h:ShsV w Lp vs) (hS:St nF w w' Γ):ShsV w' Lp vs:=⟨h.sl.now hS,fun p hp=>(h.fx p hp).now hS⟩
def shs (Lp:List (Sh×Value)):List Sh:=Lp.map (·.1)
theorem a0L (Lp:List (Sh×Value)):(shs Lp).length=Lp.length:=by unfold shs;simp
theorem a2M {Lp:List (Sh×Value)} {i:Nat} {p:Sh×Value} (h:Lp[i]?=some p):(shs Lp)[i]?=some p.1:=by unfold shs;rw [xm3,h];rfl
theorem b2x {A:List Ar} {l:List Sh} {i:Nat} {s:Sh} {last:Int} (h:l[i]?=some s):a7A A last (l.drop i)=(a3W A s.page && (s9 s && (decide (last < s.page) && a7A A s.page (l.drop (i + 1))))):=by
 rw [a2z h];rfl
theorem a0O {A:List Ar} (hc:l7 A=0) {p:Int} {a:Ar} (h:n7 A p=some a):a.ok/\1<=p:=by
 have hg:=(r7.1 hc).2;have hok:=b5G hg.1 h;have:=xg8 h;unfold a0k at this;rw [xb5] at this;unfold Ar.ok at hok;exact ⟨hok,by omega⟩
def lkA (va vs:Value) (en:Int):Value:=.agg [va,vs,.int .i64 en].toArray
structure Fm where
 data:List UInt8
 refs:Int
 dirty:Bool
 seen:Bool
 deriving DecidableEq
structure Sw where
 data:List UInt8
 refs:Int
 deriving DecidableEq
structure En where
 page:Int
 kind:Int
 at_:Int
 deriving DecidableEq
structure Sc where
 live:Bool
 areas:List Ar
 entries:List En
 deriving DecidableEq
structure Ker where
 sheets:List Sh
 frames:List Fm
 slots:List Sw
 spaces:List Sc
 hand:Int
def fm0:Fm:=⟨[],0,false,false⟩
def sw0:Sw:=⟨[],0⟩
def fmC (f:Fm):List Value:=[.string ⟨f.data.toArray⟩,.int .i64 f.refs,.bool f.dirty,.bool f.seen]
def swC (s:Sw):List Value:=[.string ⟨s.data.toArray⟩,.int .i64 s.refs]
def enC (e:En):List Value:=[.int .i64 e.page,.int .i64 e.kind,.int .i64 e.at_]
structure Sp where
 s:Sc
 va:Value
 ve:Value
def spC (p:Sp):List Value:=[.bool p.s.live,p.va,p.ve]
structure KV where
 sh:List (Sh×Value)
 fr:List Fm
 sl:List Sw
 sp:List Sp
 hand:Int
 vsh:Value
 vfr:Value
 vsl:Value
 vsp:Value
def KV.K (k:KV):Ker:=⟨shs k.sh,k.fr,k.sl,k.sp.map (·.s),k.hand⟩
def kvC (k:KV):List Value:=[k.vsh,k.vfr,k.vsl,k.vsp,.int .i64 k.hand]
structure SpV (w:World) (p:Sp):Prop where
 ar:Sl nF w 4 p.va (p.s.areas.map arC)
 en:Sl nF w 3 p.ve (p.s.entries.map enC)
structure KerV (w:World) (k:KV):Prop where
 sh:ShsV w k.sh k.vsh
 fr:Sl nF w 4 k.vfr (k.fr.map fmC)
 sl:Sl nF w 2 k.vsl (k.sl.map swC)
 sp:Sl nF w 3 k.vsp (k.sp.map spC)
 spv:∀ p ∈ k.sp,SpV w p
theorem SpV.now {w w':World} {Γ:List Asr} {p:Sp} (h:SpV w p) (hS:St nF w w' Γ):SpV w' p:=⟨h.ar.now hS,h.en.now hS⟩
theorem KerV.now {w w':World} {Γ:List Asr} {k:KV} (h:KerV w k) (hS:St nF w w' Γ):KerV w' k:=⟨h.sh.now hS,h.fr.now hS,h.sl.now hS,h.sp.now hS,fun p hp=>(h.spv p hp).now hS⟩
def a7G (l:List Sh) (p:Int):Option Sh:=l.find? fun s=>decide (s.page=p)
def a0Q (l:List Sh) (z:Bool) (p:Int):Option (List UInt8):=if z then some (List.replicate 16 0) else (a7G l p).map a5Y
abbrev Nm:=En×Ar
def nmC (n:Nm):List Value:=[.int .i64 n.1.page,.int .i64 n.1.kind,.int .i64 n.1.at_,.int .i64 n.2.pg,.int .i64 n.2.n,.int .i64 n.2.prot,.bool n.2.z]
def a2S {α:Type} (p:α->Bool) (l:List α):Int:=match l.findIdx? p with
 |some i=>(i:Nat)
 |none=>-1
def a0U (s:Sc) (e:En):Nm:=(e,(n7 s.areas e.page).getD a2c)
def j8 (l:List Sc) (kind at_:Int):List Nm:=l.flatMap fun s=>(s.entries.filter fun e=>decide (e.kind=kind/\e.at_=at_)).map (a0U s)
def a0X (l:List Nm):Bool:=match l with
 |[]=>true
 |n::r=>r.all fun m=>decide (m.1.page=n.1.page/\m.2.z=n.2.z)
def a16 (A:List Ar) (nf ns:Int) (last:Int) (e:En):Bool:=(n7 A e.page).isSome && decide (last < e.page/\((e.kind=1/\0<=e.at_/\e.at_ < nf)\/(e.kind=2/\0<=e.at_/\e.at_ < ns)))
def a1v (A:List Ar) (nf ns:Int):Int->List En->Bool
 |_,[]=>true
 |last,e::r=>a16 A nf ns last e && a1v A nf ns e.page r
def a1B (l:List Sh) (A:List Ar):Bool:=A.all fun a=>(List.range a.n.toNat).all fun i=>(a0Q l a.z (a.pg + (i:Nat))).isSome
def t6 (l:List Sh) (nf ns:Int) (s:Sc):Bool:=if s.live then decide (l7 s.areas=0) && (a1B l s.areas && a1v s.areas nf ns 0 s.entries) else decide (s.areas=[]/\s.entries=[])
def t5 (l:List Sc):Int:=(l.map fun s=>r6 s.areas).sum
def a1s (l:List Sh) (f:Fm) (by_:List Nm):Bool:=match by_ with
 |[]=>decide (f=fm0)
 |n::r=>decide (f.refs=((n::r).length:Int)/\f.data.length=16) && (a0X (n::r) && (f.dirty||decide (some f.data=a0Q l n.2.z n.1.page)))
def a15 (s:Sw) (by_:List Nm):Bool:=match by_ with
 |[]=>decide (s=sw0)
 |n::r=>decide (s.refs=((n::r).length:Int)/\s.data.length=16) && a0X (n::r)
def a1a (K:Ker):Bool:=(List.range K.frames.length).all fun i=>match K.frames[i]? with
 |some f=>a1s K.sheets f (j8 K.spaces 1 (i:Nat))
 |none=>true
def a1N (K:Ker):Bool:=(List.range K.slots.length).all fun i=>match K.slots[i]? with
 |some s=>a15 s (j8 K.spaces 2 (i:Nat))
 |none=>true
def a1T (K:Ker):Bool:=decide (3<=K.frames.length/\K.frames.length<=64/\K.slots.length<=512/\1<=K.spaces.length/\K.spaces.length<=4/\K.sheets.length<=255)
def b5N (K:Ker):Bool:=K.spaces.all (t6 K.sheets K.frames.length K.slots.length)
def a52 (K:Ker):Bool:=(a0B 0 K.sheets && decide (0<=K.hand/\K.hand < K.frames.length)) && (b5N K && (decide (t5 K.spaces<=K.slots.length) && (a1a K && a1N K)))
def a1g (K:Ker):Int:=if a1T K=true then (if a52 K=true then 0 else 1) else 2
def lbd (l:List Int) (t:Int):Nat:=(l.takeWhile fun p=>decide (p < t)).length
theorem b7L (l:List Int) (t:Int):lbd l t<=l.length:=by
 unfold lbd;exact List.Sublist.length_le (List.takeWhile_sublist _)
theorem b0L {l:List Int} {t:Int} {i:Nat} (hi:i<=l.length) (h1:∀ (j:Nat) (p:Int),j < i->l[j]?=some p->p < t) (h2:∀ (p:Int),l[i]?=some p->t<=p):lbd l t=i:=by
 unfold lbd
 induction l generalizing i with
 |nil=>simp at hi;subst hi;rfl
 |cons a l ih=>
  cases i with
  |zero=>
   have:=h2 a rfl;rw [List.takeWhile_cons,xf1 (by simpa using this)];rfl
  |succ i=>
   have:=h1 0 a (by omega) rfl;rw [List.takeWhile_cons,xf0 (by simpa using this),xb3,ih (by simpa using hi) (fun j p hj hp=>h1 (j + 1) p (by omega) (by simpa using hp)) (fun p hp=>h2 p (by simpa using hp))]
def Rises (l:List Int):Prop:=l.Pairwise (·< ·)
theorem Rises.at_ {l:List Int} (h:Rises l) {i j:Nat} {a b:Int} (hij:i < j) (ha:l[i]?=some a) (hb:l[j]?=some b):a < b:=by
 obtain ⟨h1,rfl⟩:=xa7.1 ha;obtain ⟨h2,rfl⟩:=xa7.1 hb;exact xd8.1 h i j h1 h2 hij
theorem b5t {l:List Int} (h:Rises l) {i:Nat} {t:Int} (hi:l[i]?=some t):lbd l t=i :=
 b0L (Nat.le_of_lt (e7 hi)) (fun _ _ hj hp=>h.at_ hj hp hi) (fun p hp=>by rw [hi] at hp;cases hp;exact xj2 _)
theorem a1m {l:List Int} (h:Rises l) (t:Int):(l[lbd l t]?=some t) ↔ t ∈ l:=by
 constructor
 ·intro hh;exact xd0 hh
 ·intro hm;obtain ⟨i,hi⟩:=xd9.1 hm;rw [b5t h hi];exact hi
theorem a3U {α:Type} {p:α->Bool} {l:List α} {k:Nat} {x:α} (h:(l.take k).all (fun y=>!p y)=true) (hx:l[k]?=some x) (hp:p x=true):a2S p l=(k:Nat):=by
 unfold a2S;have:l.findIdx? p=some k:=by
  rw [xl8];obtain ⟨h1,rfl⟩:=xa7.1 hx;refine ⟨h1,hp,fun j hj=>?_⟩;have:=xc7.1 h l[j] (xd9.2 ⟨j,by rw [xf5];simp [hj]⟩)
  simpa using this
 rw [this]
theorem a26 {α:Type} {p:α->Bool} {l:List α} {k:Nat} (h:(l.take k).all (fun y=>!p y)=true) (hk:l.length<=k):a2S p l=-1:=by
 unfold a2S;rw [xa0 hk] at h;have:l.findIdx? p=none:=by
  rw [xl9];intro x hx;have:=xc7.1 h x hx
  simpa using this
 rw [this]
theorem a9Z {α:Type} {p:α->Bool} {l:List α}:decide (0<=a2S p l)=l.any p:=by
 unfold a2S
 cases h:l.findIdx? p with
 |none=>
  rw [xl9] at h
  symm
  rw [show decide (0<=(-1:Int))=false from rfl,List.any_eq_false];intro x hx;simp [h x hx]
 |some i=>
  rw [xl8] at h;obtain ⟨h1,h2,-⟩:=h;rw [xi0 (by omega:(0:Int)<=((i:Nat):Int))]
  symm
  rw [List.any_eq_true];exact ⟨l[i],by simp,h2⟩
section
variable {P:Program} {n:Nat} {ds:List Deferred} {E:Fr} {w:World} {Q:Exit->Act->World->Prop} {ops:Array Oper} {rest:List Oper} {d:Nat} {dst:Option Nat} {op:Op} {ty:TypeId} {pos:String} {after:Array Edge} {T:Tab}
end
section
variable {P:Program} {n:Nat} {ds:List Deferred} {E:Fr} {w:World} {Q:Exit->Act->World->Prop} {ops:Array Oper} {S:World->Prop} {q fuel:Nat} {li:Array Bool} {d:Nat} {op:Op} {ty:TypeId} {pos:String} {after:Array Edge} {T:Tab}
theorem b1I {i:Nat} (hT:TabOk P T) {t s:Nat} {fs:List (Nat×Nat×Bool)} {z L:List Value} {parts:Array (Nat×Operand)} {ps:List (Nat×Value)} (hi:ops[i]?=some ⟨some d,.build t parts,ty,pos,after,none⟩) (ht:T.get t=some (.st s fs z)) (hp:evP E parts.toList=some ps) (hL:a2I (fun i=>(fs[i]?).map fun f=>(f.1,f.2.1)) z ps=some L) (hd:Nat.blt d n=true)
  (k:(i=q\/li.getD q false=true\/S w)/\WT P ops Q S q fuel (li.setIfInBounds i true) n ds ((d,.agg L.toArray)::E) w):WP P ops Q S q fuel li n ds E w i :=
 m8 hi (Gets.of_runs (fun _ ha=>a33 hT ht hp hL _ ha)) hd (by rintro _ _ ⟨rfl,rfl⟩;exact k)
theorem Gets.pure {dst:Option Nat} {op:Op} {v:Value} (hT:TabOk P T) (hv:a2R T E op=some v):Gets P ⟨dst,op,ty,pos,after,none⟩ n ds E w (fun v' w'=>v'=v/\w'=w):=Gets.of_runs fun _ ha=>o9 hT ha hv
theorem Gets.build {dst:Option Nat} (hT:TabOk P T) {t s:Nat} {fs:List (Nat×Nat×Bool)} {z L:List Value} {parts:Array (Nat×Operand)} {ps:List (Nat×Value)} (ht:T.get t=some (.st s fs z)) (hp:evP E parts.toList=some ps) (hL:a2I (fun i=>(fs[i]?).map fun f=>(f.1,f.2.1)) z ps=some L):Gets P ⟨dst,.build t parts,ty,pos,after,none⟩ n ds E w (fun v' w'=>v'=.agg L.toArray/\w'=w):=Gets.of_runs fun _ ha=>a33 hT ht hp hL _ ha
end
theorem Sl.nil0 (w:World) (sz:Nat):Sl nF w sz (.slice none 0 0) []:=xd6 ⟨_,_,rfl,rfl⟩
theorem a3o {w:World} {g k:Nat} {L:List Value} {v:Value} (h:Asr.holds w (.blk g L)) (hk:L[k]?=some v):w.cell? ⟨g,k,none⟩=some v:=by rw [HoldL.cell h];exact hk
section
variable {F:Nat->Prop} {w0 w w':World} {Γ Δ:List Asr}
def a9C {α:Type} (l:List α):List Nat->Option (List α)
 |[]=>some []
 |i::r=>match l[i]?,a9C l r with
  |some x,some xs=>some (x::xs)
  |_,_=>none
theorem a5f {α:Type} {l:List α}:∀ {is:List Nat} {xs:List α},a9C l is=some xs->∀ (k:Nat) (x:α),xs[k]?=some x->∃ i,is[k]?=some i/\l[i]?=some x:=by
 intro is
 induction is with
 |nil=>intro xs h k x hx;cases h;simp at hx
 |cons i r ih=>
  intro xs h k x hx;unfold a9C at h
  split at h
  ·rename_i y ys h1 h2
   cases h
   cases k with
   |zero=>simp at hx;subst hx;exact ⟨i,rfl,h1⟩
   |succ k=>simpa using ih h2 k x (by simpa using hx)
  ·cases h
theorem St.reorder (is:List Nat) (h:St F w0 w Γ) (hn:is.Nodup) (hp:a9C Γ is=some Δ):St F w0 w Δ:=by
 have hmem:∀ A ∈ Δ,A ∈ Γ:=fun A hA=>by
  obtain ⟨k,hk⟩:=xd9.1 hA;obtain ⟨i,_,hi⟩:=a5f hp k A hk;exact xd0 hi
 refine ⟨h.os,h.tape,h.output,h.size,h.base,fun A hA=>h.holds A (hmem A hA),fun A hA=>h.own A (hmem A hA),?_⟩;rw [xd8];intro j k hj hk hlt;obtain ⟨a,ha,ha2⟩:=a5f hp j _ (xe1 hj);obtain ⟨b,hb,hb2⟩:=a5f hp k _ (xe1 hk);refine a3H h.apart ha2 hb2 (fun e=>?_);subst e;obtain ⟨h1,h2⟩:=xa7.1 ha;obtain ⟨h3,h4⟩:=xa7.1 hb;have:=xd8.1 hn j k h1 h3 hlt;exact this (h2.trans h4.symm)
end
section
variable {P:Program} {n:Nat} {ds:List Deferred} {E:Fr} {w:World} {Q:Exit->Act->World->Prop} {ops:Array Oper} {rest:List Oper} {d:Nat} {ty:TypeId} {pos:String} {after:Array Edge}
theorem a4a {F:Nat->Prop} {w0:World} {Γ:List Asr} {id:Nat} {l:List Oper} (m:Nat) (hl:l.length=m) (hS:St F w0 w Γ) (hm:P.follows .mixedOrders=true) (h:∀ w1,St F w0 w1 Γ->WA P l.toArray Q (fun w'=>St F w0 w' Γ) m (Array.replicate m false) n ds E w1):WC P (.region id l.toArray true) Q n ds E w:=a1K _ m hl hS hm h
theorem a2h {i:Nat} (_C:Nn i) {S:World->Prop} {fuel:Nat} {li:Array Bool} {op:Op} {v:Value} (hi:ops[i]?=some ⟨some d,op,ty,pos,after,none⟩) (hs:Region.noSelect ops=true) (hf:Region.free .any ops li i=true) (hr:(Region.ready .any ops li).contains i=true)
  (hQ:∀ c (a:Act) w,Q (.panic c) (a.put (some d) v) w->Q (.panic c) a w) (hS:S w) (h:∀ a,Has n ds a E->a09 P ⟨some d,op,ty,pos,after,none⟩ a v) (hd:Nat.blt d n=true) (k:WA P ops Q S fuel (li.setIfInBounds i true) n ds ((d,v)::E) w):WA P ops Q S (fuel + 1) li n ds E w:=fun a ha=>
 wpAnyH_take hi hs hf hr hQ (xd6 ⟨rfl,fun w _=>h a ha w⟩) hS (k _ (ha.put d v hd))
theorem b5d {i:Nat} (_C:Nn i) {T:Tab} {S:World->Prop} {fuel:Nat} {li:Array Bool} (hT:TabOk P T) {t:TypeId} {x y:Operand} {el sz eb b off m c j:Nat} {ag:Bool} {z:List Value} {ii:Int} (hi:ops[i]?=some ⟨some d,.indexAddr t x y,ty,pos,after,none⟩) (hs:Region.noSelect ops=true) (hf:Region.free .any ops li i=true) (hr:(Region.ready .any ops li).contains i=true)
  (hQ:∀ c (a:Act) w v,Q (.panic c) (a.put (some d) v) w->Q (.panic c) a w) (hS:S w) (ht:T.get t=some (.sl el sz eb ag z)) (hx:E.ev x=some (.slice (some ⟨b,off,none⟩) m c)) (hy:E.ev y=some (.int .i64 ii)) (hj:(j:Int)=ii) (hm:j < m) (hd:Nat.blt d n=true) (k:WA P ops Q S fuel (li.setIfInBounds i true) n ds ((d,.pointer (some ⟨b,off + j * sz,none⟩))::E) w):WA P ops Q S (fuel + 1) li n ds E w :=
 a2h _C hi hs hf hr (fun c a w h=>hQ c a w _ h) hS (fun a ha=>a89 hT ht hx hy hj hm a ha _) hd k
theorem b77 {t yt:TypeId} {x y:Operand} {m k:Int} (hx:E.ev x=some (.int .i64 m)) (hy:E.ev y=some (.int .i64 k)):∀ a,Has n ds a E->∀ dst,a09 P ⟨dst,.binOp .and t x y yt,ty,pos,after,none⟩ a (.int .i64 (bits .and .i64 m k)):=fun a ha _ w=>by
 simp only [execOp,ha.ev hx,ha.ev hy];simp [eqGuard,binOp,go_sem]
theorem a8i {t yt:TypeId} {x y:Operand} {m k r:Int} (hx:E.ev x=some (.int .i64 m)) (hy:E.ev y=some (.int .i64 k)) (hr:bits .and .i64 m k=r) (hd:Nat.blt d n=true) (k':WL P ops Q rest n ds ((d,.int .i64 r)::E) w):WL P ops Q (⟨some d,.binOp .and t x y yt,ty,pos,after,none⟩::rest) n ds E w:=a0f (fun a ha=>hr ▸ b77 hx hy a ha _) hd k'
theorem b8g {t yt:TypeId} {x y:Operand} {m k:Int} (hx:E.ev x=some (.int .i64 m)) (hy:E.ev y=some (.int .i64 k)):∀ a,Has n ds a E->∀ dst,a09 P ⟨dst,.binOp .or t x y yt,ty,pos,after,none⟩ a (.int .i64 (bits .or .i64 m k)):=fun a ha _ w=>by
 simp only [execOp,ha.ev hx,ha.ev hy];simp [eqGuard,binOp,go_sem]
theorem b8j {t yt:TypeId} {x y:Operand} {m k r:Int} (hx:E.ev x=some (.int .i64 m)) (hy:E.ev y=some (.int .i64 k)) (hr:bits .or .i64 m k=r) (hd:Nat.blt d n=true) (k':WL P ops Q rest n ds ((d,.int .i64 r)::E) w):WL P ops Q (⟨some d,.binOp .or t x y yt,ty,pos,after,none⟩::rest) n ds E w:=a0f (fun a ha=>hr ▸ b8g hx hy a ha _) hd k'
theorem b5M {m k:Int} (h0:-9223372036854775808<=m) (h1:m<=9223372036854775807) (hk:0 < k):-9223372036854775808<=m.tdiv k/\m.tdiv k<=9223372036854775807:=by
 by_cases h:0<=m
 ·rw [xf2 h];have a1:=Int.ediv_nonneg h (by omega:0<=k);have a2:=Int.ediv_le_self k h;omega
 ·have e:m.tdiv k=-((-m).tdiv k):=by rw [Int.neg_tdiv,Int.neg_neg]
  rw [e,xf2 (by omega)];have a1:=Int.ediv_nonneg (show 0<=-m by omega) (by omega:0<=k);have a2:=Int.ediv_le_self k (show 0<=-m by omega);omega
theorem b7r {t yt:TypeId} {x y:Operand} {m k:Int} (hx:E.ev x=some (.int .i64 m)) (hy:E.ev y=some (.int .i64 k)) (h0:-9223372036854775808<=m) (h1:m<=9223372036854775807) (h3:0 < k):∀ a,Has n ds a E->∀ dst,a09 P ⟨dst,.binOp .quo t x y yt,ty,pos,after,none⟩ a (.int .i64 (m.tdiv k)):=fun a ha _ w=>by
 have hk:¬ k=0:=by omega
 have:=b5M h0 h1 h3;simp [execOp,ha.ev hx,ha.ev hy,eqGuard,binOp,Op.intDiv,hk,a4d this.1 this.2]
theorem a0q {t yt:TypeId} {x y:Operand} {m k:Int} (hx:E.ev x=some (.int .i64 m)) (hy:E.ev y=some (.int .i64 k)) (h0:-9223372036854775808<=m) (h1:m<=9223372036854775807) (h3:0 < k) (hd:Nat.blt d n=true) (k':WL P ops Q rest n ds ((d,.int .i64 (m.tdiv k))::E) w):WL P ops Q (⟨some d,.binOp .quo t x y yt,ty,pos,after,none⟩::rest) n ds E w:=a0f (fun a ha=>b7r hx hy h0 h1 h3 a ha _) hd k'
theorem b70 {p:Int} (h0:0<=p) (h1:p<=3):bits .and .i64 p 2=if 2<=p then 2 else 0:=by
 have h:p=0\/p=1\/p=2\/p=3:=by omega
 rcases h with rfl|rfl|rfl|rfl <;> decide
theorem b8l {p:Int} (h0:0<=p) (h1:p<=3):bits .and .i64 p 1=if p=1\/p=3 then 1 else 0:=by
 have h:p=0\/p=1\/p=2\/p=3:=by omega
 rcases h with rfl|rfl|rfl|rfl <;> decide
end
end Go.Proofs.YtejnpppejalhfabGreat
namespace Go.Proofs.YtejnpppejalhfabGreat
set_option maxRecDepth 100000
set_option maxHeartbeats 8000000
open Go.RowKit Go.MapKept
structure MapAt (d:TypeDesc) (w:World) (r:Nat) (L:List (Value×Value)):Prop where
 held:∃ es c,w.heap[r]?=some (.map es c)/\es.toList.map (fun e=>(e.key,e.val))=L
 keys:∀ p ∈ L,IsKey d p.1
 once:(L.map (·.1)).Nodup
section
variable {P:Program} {d:TypeDesc} {w w':World} {r:Nat} {L:List (Value×Value)} {T K E:TypeId} {k v:Value}
theorem MapAt.lt (h:MapAt d w r L):r < w.heap.size:=by
 obtain ⟨es,c,hb,_⟩:=h.held;exact (xc0.1 hb).1
theorem MapAt.keep (h:MapAt d w r L) (hk:w'.heap[r]?=w.heap[r]?):MapAt d w' r L:=by
 obtain ⟨es,c,hb,hl⟩:=h.held;exact ⟨⟨es,c,hk.trans hb,hl⟩,h.keys,h.once⟩
theorem MapAt.below {B:Nat} (h:MapAt d w r L) (hb:Below B w w') (hr:r < B):MapAt d w' r L:=h.keep (hb.block r hr)
theorem MapAt.grown (h:MapAt d w r L) (hb:Below w.heap.size w w'):MapAt d w' r L:=h.below hb h.lt
theorem a3G (hk:IsKey d k):∀ (l:List MapEntry) (i:Nat),(∀ e ∈ l,IsKey d e.key)->((l.map (·.key)).Nodup)->(∃ e ∈ l,e.key=k/\e.val=v)->∃ j,j < l.length/\Instr.findNow d k l i=some (some (i + j,v))/\((l[j]?).map (·.key))=some k:=by
 intro l i hl hn ⟨e,he,hek,hev⟩;rcases findNow_spec hk l i hl with ⟨_,h2⟩|⟨j,e',h1,h2,h3⟩
 ·exact (h2 e he hek).elim
 ·have hj:j < l.length:=(xa7.1 h2).1;have e':e'=e:=by
   obtain ⟨j2,hj2,hje⟩:=List.getElem_of_mem he;have a1:l[j]=e':=(xa7.1 h2).2;have:j=j2:=by
    have hnd:=xd8.1 hn;rcases Nat.lt_trichotomy j j2 with hlt|heq|hgt
    ·exact (hnd j j2 (by simpa using hj) (by simpa using hj2) hlt (by simp [a1,hje,h3,hek])).elim
    ·exact heq
    ·exact (hnd j2 j (by simpa using hj2) (by simpa using hj) hgt (by simp [a1,hje,h3,hek])).elim
   subst this;rw [<- a1,hje]
  subst e';exact ⟨j,hj,by rw [h1,hev],by rw [h2];simp [h3]⟩
theorem a3b (hk:IsKey d k) (l:List MapEntry) (i:Nat) (hl:∀ e ∈ l,IsKey d e.key) (hno:∀ e ∈ l,e.key≠k):Instr.findNow d k l i=some none:=by
 rcases findNow_spec hk l i hl with ⟨h1,_⟩|⟨j,e,_,h2,h3⟩
 ·exact h1
 ·exact (hno e (xd0 h2) h3).elim
theorem a2x (ht:P.underlying T=some (.map K E)) (hd:P.underlying K=some d) (h:MapAt d w r L) (hk:IsKey d k) (hm:(k,v) ∈ L) (ok:Bool) :
  (Instr.lookup T (.map (some r)) k ok).run P w=.ok (if ok then .tuple #[v,.bool true] else v) w:=by
 obtain ⟨es,c,hb,rfl⟩:=h.held;obtain ⟨e,he,hee⟩:=xh0.1 hm;simp only [Prod.mk.injEq] at hee;have hkeys:∀ e ∈ es.toList,IsKey d e.key:=fun e he=>h.keys (e.key,e.val) (xh0.2 ⟨e,he,rfl⟩);have hnd:(es.toList.map (·.key)).Nodup:=by have:=h.once;simpa [xl6,Function.comp_def] using this
 obtain ⟨j,_,hf,_⟩:=a3G (v:=v) hk es.toList 0 hkeys hnd ⟨e,he,hee.1,hee.2⟩;have h1:=run_checkKey (P:=P) (w:=w) hd hk es.isEmpty 9999;have h2:=run_findKey (P:=P) (w:=w) hd hf
 cases ok <;> simp [Instr.lookup,run_underlying ht,Go.MapKept.run_getObj_map hb,h1,h2,Result.andThen]
theorem a2a (ht:P.underlying T=some (.map K E)) (hd:P.underlying K=some d) (h:MapAt d w r L) (hk:IsKey d k) (hm:∀ v,(k,v) ∉ L) {z:Value} (hz:(zeroValue E).run P w=.ok z w) (ok:Bool) :
  (Instr.lookup T (.map (some r)) k ok).run P w=.ok (if ok then .tuple #[z,.bool false] else z) w:=by
 obtain ⟨es,c,hb,rfl⟩:=h.held;have hkeys:∀ e ∈ es.toList,IsKey d e.key:=fun e he=>h.keys (e.key,e.val) (xh0.2 ⟨e,he,rfl⟩);have hf:=a3b hk es.toList 0 hkeys (fun e he hek=>hm e.val (xh0.2 ⟨e,he,by rw [<- hek]⟩));have h1:=run_checkKey (P:=P) (w:=w) hd hk es.isEmpty 9999;have h2:=run_findKey (P:=P) (w:=w) hd hf
 cases ok <;> simp [Instr.lookup,run_underlying ht,Go.MapKept.run_getObj_map hb,h1,h2,hz,Result.andThen]
end
end Go.Proofs.YtejnpppejalhfabGreat
namespace Go.Proofs.YtejnpppejalhfabGreat
set_option maxRecDepth 100000
set_option maxHeartbeats 8000000
open Go.RowKit Go.Sort Go.MapKept
structure MapG (D:TypeDesc) (es:Array MapEntry) (L:List (Value×Value)):Prop where
 held:es.toList.map (fun e=>(e.key,e.val))=L
 keys:∀ p ∈ L,IsKey D p.1
 once:(L.map (·.1)).Nodup
theorem MapG.nil (D:TypeDesc):MapG D #[] []:=⟨rfl,by simp,by simp⟩
theorem MapG.at_ {D:TypeDesc} {w:World} {r c:Nat} {es:Array MapEntry} {L:List (Value×Value)} (h:MapG D es L) (hr:w.heap[r]?=some (.map es c)):MapAt D w r L:=⟨⟨es,c,hr,h.held⟩,h.keys,h.once⟩
theorem MapG.size {D:TypeDesc} {es:Array MapEntry} {L:List (Value×Value)} (h:MapG D es L):es.size=L.length:=by
 have:=congrArg List.length h.held
 simpa using this
section
variable {P:Program} {n:Nat} {ds:List Deferred} {E:Fr} {w:World} {Q:Exit->Act->World->Prop} {ops:Array Oper} {rest:List Oper} {d:Nat} {dst:Option Nat} {ty:TypeId} {pos:String} {after:Array Edge} {F:Nat->Prop} {w0:World} {Γ:List Asr} {T:Tab} {D:TypeDesc}
theorem b1y (hS:St F w0 w Γ) {t Kt Et:TypeId} {m x:Operand} {r c i:Nat} {es:Array MapEntry} {L:List (Value×Value)} {k v:Value} (ht:P.underlying t=some (.map Kt Et)) (hK:P.underlying Kt=some D) (hm:E.ev m=some (.map (some r))) (hx:E.ev x=some k) (hi:Γ[i]?=some (.obj r (.map es c))) (hL:MapG D es L) (hk:IsKey D k) (hv:(k,v) ∈ L) (ok:Bool) :
  Gets P ⟨dst,.lookup t m x ok,ty,pos,after,none⟩ n ds E w (fun v' w'=>v'=(if ok then .tuple #[v,.bool true] else v)/\w'=w):=Gets.of_at fun a ha=>by
 have hat:=hL.at_ (hS.at_ hi).1;have hrun:=a2x ht hK hat hk hv ok;simp only [execOp,ha.ev hm,ha.ev hx,Sem.run_bind,hrun,Result.andThen_ok,Sem.run_pure]
theorem b6D (hS:St F w0 w Γ) {t Kt Et:TypeId} {m x:Operand} {r c i:Nat} {es:Array MapEntry} {L:List (Value×Value)} {k z:Value} (ht:P.underlying t=some (.map Kt Et)) (hK:P.underlying Kt=some D) (hz:(P.info? Et).bind (·.zero)=some z) (hm:E.ev m=some (.map (some r))) (hx:E.ev x=some k) (hi:Γ[i]?=some (.obj r (.map es c))) (hL:MapG D es L) (hk:IsKey D k) (hv:∀ v,(k,v) ∉ L) (ok:Bool) :
  Gets P ⟨dst,.lookup t m x ok,ty,pos,after,none⟩ n ds E w (fun v' w'=>v'=(if ok then .tuple #[z,.bool false] else z)/\w'=w):=Gets.of_at fun a ha=>by
 have hat:=hL.at_ (hS.at_ hi).1;obtain ⟨zi,hzi,hz2⟩:=Option.bind_eq_some_iff.1 hz;have hz':(zeroValue Et).run P w=.ok z w:=by simp [zeroValue,typeInfo,hzi,hz2]
 have hrun:=a2a ht hK hat hk hv hz' ok;simp only [execOp,ha.ev hm,ha.ev hx,Sem.run_bind,hrun,Result.andThen_ok,Sem.run_pure]
theorem b4Q {t Kt Et:TypeId} {r c:Nat} {es:Array MapEntry} {L:List (Value×Value)} {k u v:Value} (ht:P.underlying t=some (.map Kt Et)) (hK:P.underlying Kt=some D) (hr:w.heap[r]?=some (.map es c)) (hL:MapG D es L) (hk:IsKey D k) (hm:(k,u) ∈ L) :
  ∃ es' j,(Instr.mapUpdate t (.map (some r)) k v).run P w=.ok () { w with heap:=w.heap.setIfInBounds r (.map es' c) }/\(∃ u',L[j]?=some (k,u'))/\MapG D es' (L.set j (k,v)):=by
 have hat:=hL.at_ hr;have hkeys:∀ e ∈ es.toList,IsKey D e.key:=fun e he=>hat.keys (e.key,e.val) (by rw [<- hL.held];exact xh0.2 ⟨e,he,rfl⟩);have hnd:(es.toList.map (·.key)).Nodup:=by
  have:=hat.once;rw [<- hL.held,xl6] at this;exact this
 have hmem:∃ e ∈ es.toList,e.key=k/\e.val=u:=by
  have:((k,u):Value×Value) ∈ es.toList.map (fun e=>(e.key,e.val)):=by rw [hL.held];exact hm
  obtain ⟨e,he,h2⟩:=xh0.1 this;simp only [Prod.mk.injEq] at h2;exact ⟨e,he,h2⟩
 obtain ⟨j,hj,hf,hkj⟩:=a3G (v:=u) hk es.toList 0 hkeys hnd hmem;rw [xb1] at hf;have h1:=run_checkKey (P:=P) (w:=w) hK hk false 9999;have h2:=run_findKey (P:=P) (w:=w) hK hf;have hjs:j < es.size:=by simpa using hj
 have hkj':(es[j]?.map (·.key)).getD k=k:=by
  rw [show es[j]?=es.toList[j]? by simp,hkj];rfl
 have h3:=run_keyThatStays (P:=P) (w:=w) hk;have hLj:∃ u',L[j]?=some (k,u'):=by
  have h4:=congrArg (fun l=>l[j]?) hL.held;simp only [xm3] at h4;have h5:es.toList[j]?=some es[j]:=by simp [hjs]
  rw [h5] at h4 hkj;simp only [xn5,Option.some.injEq] at h4 hkj;exact ⟨es[j].val,by rw [<- h4,hkj]⟩
 refine ⟨es.modify j fun e=>{ e with key:=k,val:=v },j,?_,hLj,⟨?_,?_,?_⟩⟩
 ·simp only [Instr.mapUpdate,run_underlying ht,Go.MapKept.run_getObj_map hr,h1,h2,Result.andThen_ok,Sem.run_bind,hkj',h3,run_setObj_map _ hr]
 ·refine xm8 fun m=>?_;rw [<- hL.held,Array.toList_modify,xm3,List.getElem?_modify,xe0,xm3,xh1];by_cases e:j=m
  ·subst e;have:es.toList[j]?=some es[j]:=by simp [hjs]
   rw [this,xf0 rfl,xf0 hj];simp
  ·simp [e]
 ·intro p hp;rcases xn0 hp with h|h
  ·exact hL.keys p h
  ·rw [h];exact hk
 ·obtain ⟨u',hq⟩:=hLj;rw [xm7];have:(L.map (·.1)).set j k=L.map (·.1):=by
   refine xm8 fun m=>?_;rw [xe0]
   split
   ·rename_i e;subst e;simp only [xh1,xm3,hq,xn5];rw [xf0 (e7 hq)]
   ·rfl
  rw [show (k,v).1=k from rfl,this];exact hL.once
theorem b4u {t Kt Et:TypeId} {r c:Nat} {es:Array MapEntry} {L:List (Value×Value)} {k v:Value} (ht:P.underlying t=some (.map Kt Et)) (hK:P.underlying Kt=some D) (hr:w.heap[r]?=some (.map es c)) (hL:MapG D es L) (hk:IsKey D k) (hm:∀ v,(k,v) ∉ L) :
  ∃ es' c',(Instr.mapUpdate t (.map (some r)) k v).run P w=.ok () { w with heap:=w.heap.setIfInBounds r (.map es' c') }/\MapG D es' (L++[(k,v)]):=by
 have hat:=hL.at_ hr;have hkeys:∀ e ∈ es.toList,IsKey D e.key:=fun e he=>hat.keys (e.key,e.val) (by rw [<- hL.held];exact xh0.2 ⟨e,he,rfl⟩);have hno:∀ e ∈ es.toList,e.key≠k:=fun e he hek=>by
  have:(e.key,e.val) ∈ L:=by rw [<- hL.held];exact xh0.2 ⟨e,he,rfl⟩
  exact hm e.val (by rw [<- hek];exact this)
 have hf:=a3b hk es.toList 0 hkeys hno;have h1:=run_checkKey (P:=P) (w:=w) hK hk false 9999;have h2:=run_findKey (P:=P) (w:=w) hK hf;refine ⟨es.push { key:=k,val:=v,born:=c },c + 1,?_,⟨by simp [hL.held],fun p hp=>?_,?_⟩⟩
 ·simp only [Instr.mapUpdate,run_underlying ht,Go.MapKept.run_getObj_map hr,h1,h2,Result.andThen_ok,Sem.run_bind,run_setObj_map _ hr]
 ·rcases xe3.1 hp with h|h
  ·exact hL.keys p h
  ·have:p=(k,v):=by simpa using h
   rw [this];exact hk
 ·rw [xk1,xq6];refine ⟨hL.once,by simp,fun a ha b hb'=>?_⟩;have:b=k:=by simpa using hb'
  subst this;rintro rfl;obtain ⟨p,hp,hpk⟩:=xh0.1 ha;exact hm p.2 (by rw [<- hpk];exact hp)
theorem St.updMap (hS:St F w0 w Γ) {r c i:Nat} {es:Array MapEntry} (hi:Γ[i]?=some (.obj r (.map es c))) (es':Array MapEntry) (c':Nat):St F w0 { w with heap:=w.heap.setIfInBounds r (.map es' c') } (Γ.set i (.obj r (.map es' c'))):=by
 have hr:=(hS.at_ hi).1;have hset:=heap_set (o':=Obj.map es' c') hr;exact hS.upd hi ⟨rfl,rfl,rfl,by simp,fun g _ hg=>hset.2 g (fun e=>hg (by simp [Asr.fp,e]))⟩ ⟨hset.1,rfl⟩ (fun q hq=>xd6 hq)
theorem a8K (hS:St F w0 w Γ) {t Kt Et:TypeId} {m x y:Operand} {r c i:Nat} {es:Array MapEntry} {L:List (Value×Value)} {k v:Value} (ht:P.underlying t=some (.map Kt Et)) (hK:P.underlying Kt=some D) (hm:E.ev m=some (.map (some r))) (hx:E.ev x=some k) (hy:E.ev y=some v) (hi:Γ[i]?=some (.obj r (.map es c))) (hL:MapG D es L) (hk:IsKey D k) (hn:∀ v,(k,v) ∉ L) :
  Gets P ⟨dst,.mapUpdate t m x y,ty,pos,after,none⟩ n ds E w (fun _ w'=>∃ es' c',MapG D es' (L++[(k,v)])/\St F w0 w' (Γ.set i (.obj r (.map es' c')))):=fun a ha K Q kk=>by
 obtain ⟨es',c',hrun,h1⟩:=b4u (v:=v) ht hK (hS.at_ hi).1 hL hk hn;have hex:(execOp a.eval ⟨dst,.mapUpdate t m x y,ty,pos,after,none⟩).run P w=.ok .skip { w with heap:=w.heap.setIfInBounds r (.map es' c') }:=by
  simp only [execOp,ha.ev hm,ha.ev hx,ha.ev hy,Sem.run_bind,hrun,Result.andThen_ok,Sem.run_pure]
 unfold Oper.wp;rw [hex];exact kk undef _ ⟨es',c',h1,hS.updMap hi es' c'⟩
theorem b7s (hS:St F w0 w Γ) {t Kt Et:TypeId} {m x y:Operand} {r c i:Nat} {es:Array MapEntry} {L:List (Value×Value)} {k u v:Value} (ht:P.underlying t=some (.map Kt Et)) (hK:P.underlying Kt=some D) (hm:E.ev m=some (.map (some r))) (hx:E.ev x=some k) (hy:E.ev y=some v) (hi:Γ[i]?=some (.obj r (.map es c))) (hL:MapG D es L) (hk:IsKey D k) (hu:(k,u) ∈ L) :
  Gets P ⟨dst,.mapUpdate t m x y,ty,pos,after,none⟩ n ds E w (fun _ w'=>∃ es' c' j u',L[j]?=some (k,u')/\MapG D es' (L.set j (k,v))/\St F w0 w' (Γ.set i (.obj r (.map es' c')))):=fun a ha K Q kk=>by
 obtain ⟨es',j,hrun,⟨u',h1⟩,h2⟩:=b4Q (v:=v) ht hK (hS.at_ hi).1 hL hk hu;have hex:(execOp a.eval ⟨dst,.mapUpdate t m x y,ty,pos,after,none⟩).run P w=.ok .skip { w with heap:=w.heap.setIfInBounds r (.map es' c) }:=by
  simp only [execOp,ha.ev hm,ha.ev hx,ha.ev hy,Sem.run_bind,hrun,Result.andThen_ok,Sem.run_pure]
 unfold Oper.wp;rw [hex];exact kk undef _ ⟨es',c,j,u',h1,h2,hS.updMap hi es' c⟩
theorem b4X {K:Act->Prop} {t:TypeId} {m x:Operand} {r:Nat} {k v:Value} {ok:Bool} (hm:E.ev m=some (.map (some r))) (hx:E.ev x=some k) (h:∀ w,St F w0 w Γ->(Instr.lookup t (.map (some r)) k ok).run P w=.ok v w) (hd:Nat.blt d n=true) (kk:WD P ops (fun w'=>St F w0 w' Γ) K rest n ds ((d,v)::E)):WD P ops (fun w'=>St F w0 w' Γ) K (⟨some d,.lookup t m x ok,ty,pos,after,none⟩::rest) n ds E:=fun a ha=>
 a5k (v:=v) rfl (fun w hw=>by
  unfold Oper.quietAt;simp only [execOp,ha.ev hm,ha.ev hx,Sem.run_bind,h w hw,Result.andThen_ok,Sem.run_pure];exact ⟨rfl,rfl⟩) (kk _ (ha.put d v hd))
theorem b3I {t Kt Et:TypeId} {r c:Nat} (i:Nat) {es:Array MapEntry} {L:List (Value×Value)} {k v:Value} (ht:P.underlying t=some (.map Kt Et)) (hK:P.underlying Kt=some D) (hi:Γ[i]?=some (.obj r (.map es c))) (hL:MapG D es L) (hk:IsKey D k) (hv:(k,v) ∈ L) (ok:Bool):∀ w,St F w0 w Γ->(Instr.lookup t (.map (some r)) k ok).run P w=.ok (if ok then .tuple #[v,.bool true] else v) w:=fun w hS=>
 a2x ht hK (hL.at_ (hS.at_ hi).1) hk hv ok
theorem b2C {t Kt Et:TypeId} {r c:Nat} (i:Nat) {es:Array MapEntry} {L:List (Value×Value)} {k z:Value} (ht:P.underlying t=some (.map Kt Et)) (hK:P.underlying Kt=some D) (hz:(P.info? Et).bind (·.zero)=some z) (hi:Γ[i]?=some (.obj r (.map es c))) (hL:MapG D es L) (hk:IsKey D k) (hv:∀ v,(k,v) ∉ L) (ok:Bool):∀ w,St F w0 w Γ->(Instr.lookup t (.map (some r)) k ok).run P w=.ok (if ok then .tuple #[z,.bool false] else z) w:=fun w hS=>by
 obtain ⟨zi,hzi,hz2⟩:=Option.bind_eq_some_iff.1 hz;have hz':(zeroValue Et).run P w=.ok z w:=by simp [zeroValue,typeInfo,hzi,hz2]
 exact a2a ht hK (hL.at_ (hS.at_ hi).1) hk hv hz' ok
theorem a7X (hS:St F w0 w Γ) {t:TypeId}:Gets P ⟨dst,.makeMap t none,ty,pos,after,none⟩ n ds E w (fun v w'=>∃ r,v=.map (some r)/\St F w0 w' (.obj r (.map #[] 0)::Γ)):=fun a ha K Q k=>by
 have hex:(execOp a.eval ⟨dst,.makeMap t none,ty,pos,after,none⟩).run P w=.ok (.value (.map (some w.heap.size))) (w.alloc (.map #[] 0)):=by
  simp only [execOp];rfl
 unfold Oper.wp;rw [hex];exact k _ _ ⟨_,rfl,hS.new (World.grownBy_alloc w _ none) ⟨(heap_alloc w _).1,rfl⟩ (by simp [Asr.fp])⟩
end
end Go.Proofs.YtejnpppejalhfabGreat
namespace Go.Proofs.YtejnpppejalhfabGreat
set_option maxRecDepth 100000
set_option maxHeartbeats 8000000
open Go.RowKit Go.Sort
section
variable {P:Program} {n:Nat} {ds:List Deferred} {E:Fr} {w:World} {Q:Exit->Act->World->Prop} {ops:Array Oper} {rest:List Oper} {d:Nat} {dst:Option Nat} {ty:TypeId} {pos:String} {after:Array Edge} {F:Nat->Prop} {w0:World} {Γ:List Asr} {T:Tab}
theorem b8e {x y:Operand} {ats:Array TypeId} {m k:Int} (hx:E.ev x=some (.int .i64 m)) (hy:E.ev y=some (.int .i64 k)):∀ a,Has n ds a E->∀ dst,a09 P ⟨dst,.call { callee:=.builtin .min,args:=#[x,y],argTypes:=ats },ty,pos,after,none⟩ a (.int .i64 (min m k)):=fun a ha dst w=>by
 have e:(if k < m then k else m)=min m k:=by omega
 simp [execOp,resolve,invoke,builtin,ha.ev hx,ha.ev hy,Builtin.min_,Builtin.min2,Result.andThen,e]
theorem b8a {x y:Operand} {ats:Array TypeId} {m k:Int} (hx:E.ev x=some (.int .i64 m)) (hy:E.ev y=some (.int .i64 k)) (hd:Nat.blt d n=true) (k':WL P ops Q rest n ds ((d,.int .i64 (min m k))::E) w):WL P ops Q (⟨some d,.call { callee:=.builtin .min,args:=#[x,y],argTypes:=ats },ty,pos,after,none⟩::rest) n ds E w:=a0f (fun a ha=>b8e hx hy a ha _) hd k'
theorem b3e {C:World->Prop} {K:Act->Prop} (hT:TabOk P T) {t sz:Nat} {z:Value} {x lo:Operand} {kk:IntKind} {l:List UInt8} {i:Int} (ht:T.get t=some (.sc .string sz z)) (hx:E.ev x=some (.string ⟨l.toArray⟩)) (hlo:E.ev lo=some (.int kk i)) (h0:0<=i) (h1:i<=l.length) (hd:Nat.blt d n=true) (k:WD P ops C K rest n ds ((d,.string ⟨(l.drop i.toNat).toArray⟩)::E)):WD P ops C K (⟨some d,.slice t x (some lo) none none,ty,pos,after,none⟩::rest) n ds E:=a1z (fun a ha=>a8r hT ht hx hlo h0 h1 a ha _) hd k
theorem b4h (old c:List Value) (h:c.length<=old.length):v5 old 0 c=c++old.drop c.length:=by
 conv=>lhs;rw [<- xm4 c.length old]
 rw [a4J _ _ _ _ (by simp;omega),a3L _ _ (by simp;omega)]
theorem b6z (hS:St F w0 w Γ) (hT:TabOk P T) {t u e m cap g i:Nat} {ty2:TypeId} {x y:Operand} {old l:List UInt8} (ht:T.get t=some (.sl e 1 1 false [.int .u8 0])) (hx:E.ev x=some (.slice (some ⟨g,0,none⟩) m cap)) (hi:Γ[i]?=some (.row e 1 (.slice (some ⟨g,0,none⟩) m cap) (bR old))) (hy:E.ev y=some (.string ⟨l.toArray⟩)) :
  Gets P ⟨dst,.call { callee:=.builtin .copy,args:=#[x,y],argTypes:=#[t,u] },ty2,pos,after,none⟩ n ds E w (fun v' w'=>v'=.int .i64 ((l.take m).length:Nat)/\St F w0 w' (Γ.set i (.row e 1 (.slice (some ⟨g,0,none⟩) m cap) (bR (l.take m++old.drop (l.take m).length))))):=by
 intro a ha K Q k;obtain ⟨hown,hlen,hone⟩:=hS.at_ hi;rcases hown.2 with ⟨hv,_⟩|⟨g',cap',cur,hv,_,hg,hmc,hcm,hcs,htake⟩
 ·cases hv
 have hol:(bR old).length=old.length:=a4N old
 cases hv
 rw [hol] at hmc htake hx hi;simp only [hol] at k;obtain ⟨c,hc⟩:∃ c,c=l.take old.length:=⟨_,rfl⟩;have hcl:c.length=min l.length old.length:=by rw [hc,xa1];omega
 have hHL:HoldL w g cur.toList:=⟨e,hg⟩;have hcu:old.length<=cur.size:=by rw [hcs];omega
 obtain ⟨ji,zv,hu,hinfo,_,hs,hby,hz,hzl,_,hsz,hs0⟩:=hT.sl ht;have hst:=run_storeCells_cells (P:=P) g 0 (c.map fun b=>Value.int .u8 (b.toNat:Int)) 0 w (fun j hj=>by
  rw [xh1] at hj;rw [hHL.cell];simp only [xg7];exact ⟨_,xe1 (by simp;omega)⟩) (fun j _=>hHL.frozen _) (by simp [Value.oneCell'])
 have hcs2:((ByteArray.extract ⟨l.toArray⟩ 0 (Nat.min l.length old.length)).data.map fun b=>Value.int .u8 (b.toNat:Int)).toList=c.map fun b=>Value.int .u8 (b.toNat:Int):=by
  rw [a4D,hc,show l.take old.length=l.take (Nat.min l.length old.length) by rw [List.take_eq_take_iff];show min old.length l.length=min (min l.length old.length) l.length;omega];simp
 have hrun:(Builtin.copy_ #[t,u] ty2 #[.slice (some ⟨g,0,none⟩) old.length cap,.string ⟨l.toArray⟩]).run P w=.ok (goInt c.length) (w.setCells g 0 (c.map fun b=>Value.int .u8 (b.toNat:Int))):=by
  simp [Builtin.copy_,run_underlying hu,Builtin.lenOf,Builtin.firstCells,sizeOf,typeInfo,hinfo,hs,ByteArray.size];have e:List.take (Nat.min l.length old.length) (l.map fun b=>Value.int .u8 (b.toNat:Int))=c.map fun b=>Value.int .u8 (b.toNat:Int):=by rw [<- xa4,hc,show l.take old.length=l.take (Nat.min l.length old.length) by rw [List.take_eq_take_iff];show min old.length l.length=min (min l.length old.length) l.length;omega]
  rw [e,hst,hcl];rfl
 have hex:(execOp a.eval ⟨dst,.call { callee:=.builtin .copy,args:=#[x,y],argTypes:=#[t,u] },ty2,pos,after,none⟩).run P w=.ok (.value (.int .i64 (c.length:Nat))) (w.setCells g 0 (c.map fun b=>Value.int .u8 (b.toNat:Int))):=by
  simp [execOp,resolve,invoke,builtin,ha.ev hx,ha.ev hy,hrun,Result.andThen,goInt]
 unfold Oper.wp;rw [hex];simp only [<- hc] at k;have hcel:(bR (c++old.drop c.length)).length=old.length:=by rw [a4N,xe9,xb7];omega
 refine k _ _ ⟨rfl,hS.upd hi (a1J w g 0 _) ⟨⟨?_,.inr ⟨g,cap,_,by rw [hcel],xi5 _,a4i hg 0 _,by rw [hcel];exact hmc,hcm,by simp [a7j,hcs],?_⟩⟩,?_,?_⟩ (fun q hq=>xd6 hq)⟩
 ·rw [a8x,xh1,hcel,xe9,xb7];omega
 ·rw [hcel,Nat.mul_one,xo1,b4h _ _ (by simp;omega),a8x,xk1,xh1,xo2];rw [Nat.mul_one,a8x] at htake;have h1:(c.map fun b=>Value.int .u8 (b.toNat:Int)).take old.length=c.map fun b=>Value.int .u8 (b.toNat:Int):=xa0 (by rw [xh1];omega);rw [h1,xh1,List.map_drop,<- htake,List.drop_take]
 ·intro r hr;unfold bR at hr;obtain ⟨b,_,rfl⟩:=xh0.1 hr;rfl
 ·intro r hr;unfold bR at hr;obtain ⟨b,_,rfl⟩:=xh0.1 hr;rfl
end
end Go.Proofs.YtejnpppejalhfabGreat
namespace Go.Proofs.YtejnpppejalhfabGreat
set_option maxRecDepth 100000
set_option maxHeartbeats 8000000
open Go.RowKit Go.Sort Go.MapKept
section
variable {P:Program} {n:Nat} {ds:List Deferred} {E:Fr} {w:World} {Q:Exit->Act->World->Prop} {ops:Array Oper} {rest:List Oper} {d:Nat} {dst:Option Nat} {ty:TypeId} {pos:String} {after:Array Edge} {F:Nat->Prop} {w0:World} {Γ:List Asr} {T:Tab}
theorem a9E (hS:St F w0 w Γ) {t Kt Et:TypeId} {x:Operand} {r c i:Nat} {es:Array MapEntry} (ht:P.underlying t=some (.map Kt Et)) (hx:E.ev x=some (.map (some r))) (hi:Γ[i]?=some (.obj r (.map es c))) :
  Gets P ⟨dst,.call { callee:=.builtin .len,args:=#[x],argTypes:=#[t] },ty,pos,after,none⟩ n ds E w (fun v' w'=>v'=.int .i64 (es.size:Nat)/\w'=w):=Gets.of_at fun a ha=>by
 have hr:(Builtin.len_ #[t] ty #[.map (some r)]).run P w=.ok (.int .i64 es.size) w:=by
  simp [Builtin.len_,run_underlying ht,Go.MapKept.run_getObj_map (hS.at_ hi).1,goInt]
 simp [execOp,resolve,invoke,builtin,ha.ev hx,hr,Result.andThen]
theorem St.ownBs {Θ:List Asr} (hS:St F w0 w (Θ++Γ)) (i:Nat) {g k:Nat} {L:List Value} {v:Value} (hi:Γ[i]?=some (.blk g L)) (hk:L[k]?=some v):Bs (fps Θ) w ⟨g,k,none⟩ v:=by
 have hS2:=hS.sub (xp7 Θ Γ);refine ⟨hS2.blkC i hi hk,fun ⟨A,hA,e⟩=>?_⟩;rcases (xe4.1 hS.apart).2.2 A hA _ (xd0 hi) with h1|h1
 ·rw [h1] at e;cases e
 ·exact h1 e
theorem St.ownSl {Θ:List Asr} (hS:St F w0 w (Θ++Γ)) (i:Nat) {e sz:Nat} {v:Value} {rows:List (List Value)} (hi:Γ[i]?=some (.row e sz v rows)):Sl (fps Θ) w sz v rows:=by
 have hS2:=hS.sub (xp7 Θ Γ);rcases hS2.rowForm i hi with ⟨rfl,rfl⟩|⟨g,cap,rfl,h1,h2⟩
 ·exact xd6 ⟨_,_,rfl,rfl⟩
 ·have hr:=hS2.rowRo i hi;refine xd3 ⟨g,0,cap,rfl,h1,h2,⟨hr.lt,fun ⟨A,hA,e⟩=>?_,hr.len,hr.one,hr.cells⟩⟩;rcases (xe4.1 hS.apart).2.2 A hA _ (xd0 hi) with h1|h1
  ·rw [h1] at e;cases e
  ·exact h1 e
end
end Go.Proofs.YtejnpppejalhfabGreat
namespace Go.Proofs.YtejnpppejalhfabGreat
set_option maxRecDepth 100000
set_option maxHeartbeats 8000000
open Go.RowKit Go.Sort
section
variable {P:Program} {n:Nat} {ds:List Deferred} {E:Fr} {w:World} {Q:Exit->Act->World->Prop} {ops:Array Oper} {rest:List Oper} {d:Nat} {dst:Option Nat} {ty:TypeId} {pos:String} {after:Array Edge} {F:Nat->Prop} {w0:World} {Γ:List Asr} {T:Tab}
theorem b7g {t yt:TypeId} {x y:Operand} {m:Int} (hx:E.ev x=some (.int .u64 m)) (hy:E.ev y=some (.int .u64 1)) (h0:0<=m) (h1:m<=18446744073709551615):∀ a,Has n ds a E->∀ dst,a09 P ⟨dst,.binOp .shr t x y yt,ty,pos,after,none⟩ a (.int .u64 (m / 2)):=fun a ha _ w=>by
 simp only [execOp,ha.ev hx,ha.ev hy];simp [eqGuard,binOp,go_sem]
theorem b7P {t yt:TypeId} {x y:Operand} {m:Int} (hx:E.ev x=some (.int .u64 m)) (hy:E.ev y=some (.int .u64 1)) (h0:0<=m) (h1:m<=18446744073709551615) (hd:Nat.blt d n=true) (k':WL P ops Q rest n ds ((d,.int .u64 (m / 2))::E) w):WL P ops Q (⟨some d,.binOp .shr t x y yt,ty,pos,after,none⟩::rest) n ds E w:=a0f (fun a ha=>b7g hx hy h0 h1 a ha _) hd k'
theorem b4S {m:Int} (h0:0<=m) (h1:m<=18446744073709551615):IntKind.u64.wrap (IntKind.i64.wrap m)=m:=by
 rw [IntKind.wrap_u64,IntKind.wrap_i64];omega
theorem b38 {t yt:TypeId} {x y:Operand} {m:Int} (hx:E.ev x=some (.int .u64 (IntKind.u64.wrap m))) (hy:E.ev y=some (.int .u64 1)) (hd:Nat.blt d n=true) (k':WL P ops Q rest n ds ((d,.int .u64 (IntKind.u64.wrap m / 2))::E) w):WL P ops Q (⟨some d,.binOp .shr t x y yt,ty,pos,after,none⟩::rest) n ds E w :=
 b7P hx hy (by rw [IntKind.wrap_u64];omega) (by rw [IntKind.wrap_u64];omega) hd k'
theorem a8d {m:Int} {h:Nat} (h0:0<=m) (h1:m<=18446744073709551615) (h2:m / 2=(h:Nat)) (h3:h<=9223372036854775807):IntKind.i64.wrap (IntKind.u64.wrap (IntKind.i64.wrap m) / 2)=(h:Nat):=by
 rw [b4S h0 h1,h2,a4d (by omega) (by omega)]
theorem b5w (hT:TabOk P T) {t e sz eb:Nat} {ag:Bool} {ez:List Value} {yt:TypeId} {x y:Operand} {p:Option Addr} {m c:Nat} (ht:T.get t=some (.sl e sz eb ag ez)) (hx:E.ev x=some (.slice p m c)) (hy:E.ev y=some (.slice none 0 0)):∀ a,Has n ds a E->∀ dst,a09 P ⟨dst,.binOp .eql t x y yt,ty,pos,after,none⟩ a (.bool p.isNone):=fun a ha _ w=>by
 obtain ⟨ji,zv,hu,_⟩:=hT.sl ht;have e:=Go.Lib.run_eql_slice_nil (P:=P) w t _ p m c 0 0 hu;simp only [execOp,ha.ev hx,ha.ev hy,eqGuard];simp [e,Result.andThen]
theorem a1V (hT:TabOk P T) {t e sz eb:Nat} {ag:Bool} {ez:List Value} {yt:TypeId} {x y:Operand} {p:Option Addr} {m c:Nat} (ht:T.get t=some (.sl e sz eb ag ez)) (hx:E.ev x=some (.slice p m c)) (hy:E.ev y=some (.slice none 0 0)) (hd:Nat.blt d n=true) (k':WL P ops Q rest n ds ((d,.bool p.isNone)::E) w):WL P ops Q (⟨some d,.binOp .eql t x y yt,ty,pos,after,none⟩::rest) n ds E w:=a0f (fun a ha=>b5w hT ht hx hy a ha _) hd k'
theorem St.roC2 {b off sz:Nat} {rows:List (List Value)} (h:St F w0 w Γ) (hr:RoAt F w0 b off sz rows) {k j1 j2:Nat} {r:List Value} {u:Value} (hk:rows[k]?=some r) (hj:r[j1 + j2]?=some u):w.cell? ⟨b,off + k * sz + j1 + j2,none⟩=some u:=by
 rw [xf7 (off + k * sz)];exact h.roC hr hk hj
theorem St.roRs {b off sz:Nat} {rows:List (List Value)} (h:St F w0 w Γ) (hr:RoAt F w0 b off sz rows) {k:Nat} (j m:Nat) {r:List Value} (hk:rows[k]?=some r):w.rangeAt b (off + k * sz + j) ((r.drop j).take m):=fun i v hi=>by
 rw [xf5] at hi
 split at hi
 ·rw [xb8] at hi;have:=h.roC hr hk hi
  rwa [<- xf7] at this
 ·cases hi
end
end Go.Proofs.YtejnpppejalhfabGreat
namespace Go.Proofs.YtejnpppejalhfabGreat
set_option maxRecDepth 100000
set_option maxHeartbeats 8000000
open Go.RowKit
theorem b3y (n:Int) (k:Nat) (w:World) (hk:k<=8) :
  Calls Tryz.prog 138 #[.int .i64 n,.int .i64 k] w fun e w'=>e=.returned (.string ⟨(leB n k).toArray⟩)/\Below w.heap.size w w':=by
 have hcv:=a6t (P:=Tryz.prog) 183 5 9 Tryz.underlying183 Tryz.underlying5 Tryz.underlying9
 go_enter Tryz.func138,Tryz.ntmps138
 go_wp2
 go_loopw [0,5,6] (fun vn vs vi wr=>∃ j:Nat,j<=k/\vi=.int .i64 j/\vn=.int .i64 (n / 2 ^ (8 * j))/\vs=.string ⟨(leB n j).toArray⟩/\Below w.heap.size w wr) (fun _ _ i _=>k - (intOf i).toNat)
 case atStart=>exact ⟨0,by omega,rfl,by simp,rfl,Below.refl _ _⟩
 case round=>
  obtain ⟨j,hj,rfl,rfl,rfl,hb⟩:=hrel;have hlen:(leB n j).length<=8:=by rw [leB_length];omega
  by_cases hlt:j < k
  ·go_wp2
   go_roundw
   case rel=>exact ⟨j + 1,by omega,by go_num,by rw [b4T],rfl,hb.alloc hb.size _⟩
   case measure=>simp [intOf];omega
  ·go_wp2
   obtain rfl:j=k:=by omega
   go_ret
   exact ⟨rfl,hb⟩
theorem b3U (off n all:Int):inB off n all=(decide (0<=off) && (decide (0<=n) && (decide (off<=all) && decide (n<=all - off)))):=by
 unfold inB;simp
theorem b5q (off n all:Int) (w:World) (h:0<=all) (h2:all<=9223372036854775807) :
  Calls Tryz.prog 124 #[.int .i64 off,.int .i64 n,.int .i64 all] w fun e w'=>e=.returned (.bool (inB off n all))/\w=w':=by
 have hs:=hid (b3U off n all)
 go_enter Tryz.func124,Tryz.ntmps124
 go_wp2
 all_goals
  go_ret
  refine ⟨a0i ?_,rfl⟩;rw [hs.out]
  first
   |(rw [IntWalk.wrap64_in (all - off) ⟨by omega,by omega⟩];simp [*];done)
   |(rw [xc9];simp;omega)
theorem b4V (s t:List UInt8) (off:Nat) (w:World) (hs:s.length<=maxLen) (h:off + t.length<=s.length) :
  Calls Tryz.prog 79 #[.string ⟨s.toArray⟩,.int .i64 off,.string ⟨t.toArray⟩] w fun e w'=>e=.returned (.string ⟨(splice s off t).toArray⟩)/\∃ n,w'=w.drewN n:=by
 unfold maxLen at hs
 go_enter Tryz.func79,Tryz.ntmps79
 go_wp2
 go_quiet (fail)
 go_wp2
 go_ret
 refine ⟨?_,b3f⟩;exact b5R (by simp [splice,xa0])
theorem b59 (off n all:Nat) (h:off + n<=all):inB off n all=true:=by
 unfold inB;simp;omega
theorem b5T (s t:List UInt8) (off:Nat) (w:World) (hs:s.length<=maxLen) (h:off + t.length<=s.length) :
  Calls Tryz.prog 76 #[.string ⟨s.toArray⟩,.int .i64 off,.string ⟨t.toArray⟩] w fun e w'=>e=.returned (.tuple #[.string ⟨(splice s off t).toArray⟩,.int .i64 0])/\Below w.heap.size w w':=by
 unfold maxLen at hs;have hin:=b59 off t.length s.length h;have hin2:=hid hin;clear hin
 go_enter Tryz.func76,Tryz.ntmps76
 have hsz5:(Tryz.prog.info? 5).map (·.size)=some 1:=by kernel_rfl
 have Hsz5:=hid hsz5;clear hsz5
 go_wp2_with (first|go_at_call 124;(with_reducible refine (b5q _ _ _ _ (by omega) (by omega)).mono ?_);rintro e w' ⟨rfl,rfl⟩;rw [hin2.out]|(with_reducible refine a0V 17 ?_);refine a5n rfl (.tmp 16) 9 183 5 rfl Tryz.underlying9 Tryz.underlying183 Tryz.underlying5 s rfl w.heap.size w (Below.refl _ _) (xd4 _) ?_;intro cap w1 hcap hb1 hby1 hsz1;have HB:=hid hby1;clear hby1|(with_reducible refine a0V 22 ?_);refine a6e rfl (.tmp 20) (.tmp 21) 183 9 rfl 5 Tryz.underlying183 Hsz5.out _ (s.length - off) _ rfl t rfl w.heap.size off s HB.out ?c1 ?c2 w.heap.size w hb1 (xd4 _) ?_;(case c1=>go_must (rw [xa1];omega));(case c2=>go_must (rw [xa1];intro h0;rw [xf1 (by omega)]));intro w2 hb2 hsz2 hby2;have HB2:=hid hby2;clear hby2|(with_reducible refine a0V 24 ?_);refine a3n rfl (.tmp 23) 183 9 5 rfl Tryz.underlying183 Tryz.underlying5 Tryz.underlying9 _ w.heap.size s.length _ rfl ?c3 HB2.out ?_;(case c3=>go_must (exact length_splice _ _ _ (by rw [xa1];omega)));clear HB2)
 all_goals
  go_ret2
  refine ⟨?_,hb2⟩;show Ending.returned (.tuple #[.string ⟨(splice s off (t.take (s.length - off))).toArray⟩,.int .i64 0])=_;rw [xa0 (show t.length<=s.length - off from by omega)]
theorem b7j (s t:List UInt8) (off:Int) (w:World) (hs:s.length<=maxLen) (h:inB off t.length s.length=false) :
  Calls Tryz.prog 76 #[.string ⟨s.toArray⟩,.int .i64 off,.string ⟨t.toArray⟩] w fun e w'=>e=.returned (.tuple #[.string ⟨#[]⟩,.int .i64 3])/\w=w':=by
 unfold maxLen at hs
 go_enter Tryz.func76,Tryz.ntmps76
 go_wp2_with (go_at_call 124;(with_reducible refine (b5q _ _ _ _ (by omega) (by omega)).mono ?_);rintro e w' ⟨rfl,rfl⟩;rw [h])
 go_ret2
 exact ⟨rfl,rfl⟩
theorem b6f (n:Int) (k:Nat) (w:World) (h1:1<=k) (h8:k<=8) :
  Calls Tryz.prog 96 #[.int .i64 n,.int .i64 k] w fun e w'=>e=.returned (.tuple #[.string ⟨(leB n k).toArray⟩,.int .i64 0])/\Below w.heap.size w w':=by
 have hi5:(Tryz.prog.info? 5).map (fun i=>(i.zero,i.size,i.bytes))=some (some (.int .u8 0),1,1):=by kernel_rfl
 have Hi5:=hid hi5;clear hi5
 go_enter Tryz.func96,Tryz.ntmps96
 go_wp2_with (((with_reducible refine a0V 15 ?_);refine a5l rfl (.tmp 14) (.tmp 14) 183 5 rfl Tryz.underlying183 Hi5.out k ?c1 rfl rfl w.heap.size w (Below.refl _ _) (xd4 _) ?_;(case c1=>omega);intro w1 hb1 hby1 hsz1;have HB:=hid hby1;clear hby1))
 go_loopw [18] (fun vi wr=>∃ j:Nat,j<=k/\vi=.int .i64 j/\Below w.heap.size w wr/\w.heap.size < wr.heap.size/\Hid (BytesAt wr w.heap.size (a2d n k j))) (fun i _=>k - (intOf i).toNat)
 case atStart=>exact ⟨0,by omega,rfl,hb1,hsz1,by have:=HB.out;unfold a2d;show BytesAt _ _ _;simpa [leB] using this⟩
 case round=>
  obtain ⟨j,hj,rfl,hb,hsz,HBj⟩:=hrel;by_cases hlt:j < k
  ·obtain ⟨hc,hf⟩:=HBj.out j (by rw [a1R _ _ _ hj];exact hlt);obtain ⟨v,hv⟩:∃ v,v=Value.int .u8 ((a2d n k j)[j]'(by rw [a1R _ _ _ hj];exact hlt)).toNat:=⟨_,rfl⟩;rw [<- hv] at hc;clear hv
   go_wp2
   have HS:=HBj.out.set j (by rw [a1R _ _ _ hj];exact hlt) (a5H n j) _ (b6H (b6b n j (by omega)));rw [a9N n k j hlt] at HS;exact ⟨⟨j + 1,by omega,by go_num,hb.setCell (xd4 _) _,by simpa using hsz,HS⟩,by simp [intOf];omega⟩
  ·go_wp2_with (((with_reducible refine a0V 32 ?_);refine a3n rfl (.tmp 31) 183 9 5 rfl Tryz.underlying183 Tryz.underlying5 Tryz.underlying9 (a2d n k j) w.heap.size k _ rfl ?c3 HBj.out ?_;(case c3=>go_must (exact a1R _ _ _ hj));clear HBj))
   obtain rfl:j=k:=by omega
   go_ret2
   refine ⟨?_,hb⟩;show Ending.returned (.tuple #[.string ⟨(a2d n j j).toArray⟩,.int .i64 0])=_;rw [b0K]
end Go.Proofs.YtejnpppejalhfabGreat
