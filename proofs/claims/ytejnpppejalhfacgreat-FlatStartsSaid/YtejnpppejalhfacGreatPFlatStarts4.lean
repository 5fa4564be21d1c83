/- Texts that the proof stands on, one behind the other: Ar6, As5, PlArea3, PlFl, Sc18, Sc19, Map, Sc20, Sc21, Sc22, Sc23, Sc24, Sc25, Sc26, Sc27, Sc28, Choose, Im1, Fl1, PlLnk2, PlKer, Bits, BitsF. -/
import Derived.MapKept
import Derived.Laws.IdiomCopy
import Derived.Laws.CopyRow
import Derived.Laws.Slices
import Derived.Lib.AppendZerosOnto
import Derived.Lib.Overlaps
import Derived.Laws.Externs
import Derived.Lib.QuietBelow
import Derived.Test.YtejnpppejalhfacGreatProg
import Derived.Handy
import Derived.BigQuiet
import Derived.Deep.QuietTactic
import Derived.WalkSpells
import Derived.Test.YtejnpppejalhfacGreatPFlatStarts3
set_option linter.unusedVariables false
set_option linter.unusedSimpArgs false
namespace Go.Proofs.YtejnpppejalhfacGreat
set_option maxRecDepth 100000
set_option maxHeartbeats 8000000
open Go.RowKit Go.Sort
theorem b1K (p:Option Addr) (c:Nat) (page:Int) (w:World):Calls Tryz.prog 163 #[.slice p 0 c,.int .i64 page,.func (.func 164) #[] #[]] w (a6d [] page w):=by
 go_enter Tryz.func163,Tryz.ntmps163
 go_wp2
 go_loopw [9,10] (fun vi vj wr=>vi=.int .i64 0/\vj=.int .i64 0/\wr=w) (fun _ _ _=>0)
 case atStart=>exact ⟨rfl,rfl,rfl⟩
 case round=>
  obtain ⟨rfl,rfl,rfl⟩:=hrel
  go_wp2
  go_ret2
  exact ⟨0,by simp,rfl,(by repeat ((with_reducible exact Below.refl _ _))),a5l [] page⟩
theorem b24 {v:Value} {L:List Ar} {w:World} (page:Int) (h:SlAr w v L):Calls Tryz.prog 163 #[v,.int .i64 page,.func (.func 164) #[] #[]] w (a6d L page w):=by
 rcases h with ⟨p,c,rfl,rfl⟩|⟨b,off,cap,rfl,h2,h3,h4,h5⟩
 ·exact b1K p c page w
 ·exact b2h b off cap page h2 h3 h4 h5
theorem a0y {page:Int} {a:Ar} (h:a.fin<=page\/page < a.pg):a0a page a=false:=by unfold a0a;simp;omega
theorem a8J {L:List Ar} {page:Int} (hg:a15 L) (hI:a1o L page L.length L.length):k6 L page=none :=
 a1w fun j b hj hb=>a0y (xc7 ((hI hg).1 j b hj hb))
theorem a8T {L:List Ar} {page:Int} {i:Nat} {a:Ar} (hg:a15 L) (hI:a1o L page i i) (ha:L[i]?=some a) (h:page < a.pg):k6 L page=none :=
 a1w fun j b hj hb=>by
  rcases xg7 j i with h1|h1
  ·exact a0y (xc7 ((hI hg).1 j b h1 hb))
  ·rcases Nat.lt_or_eq_of_le h1 with h2|h2
   ·have:=a20 hg h2 ha hb;have hk:=v9 hg i a ha;unfold Ar.ok at hk;exact a0y (xc4 (by unfold Ar.fin at this;omega))
   ·subst h2;rw [ha] at hb;cases hb;exact a0y (xc4 h)
theorem a7O {L:List Ar} {page:Int} {i:Nat} {a:Ar} (hg:a15 L) (hI:a1o L page i i) (ha:L[i]?=some a) (h:a.pg<=page):k6 L page=some a :=
 a3j (fun j b hj hb=>a0y (xc7 ((hI hg).1 j b hj hb))) ha (by unfold a0a;simp;exact ⟨h,(hI hg).2 i a (xc5 _) ha⟩)
def a2s (L:List Ar) (page:Int):Option Ar:=if b4 L=0 then k6 L page else none
theorem a8A {v:Value} {L:List Ar} {w:World} (page:Int) (h:SlAr w v L):Calls Tryz.prog 112 #[v,.int .i64 page] w (RB (a26 (a2s L page)) w):=by
 have HC:=hid (fun w' (hb:Below w.heap.size w w')=>a1O (h.grown hb));have HS:=hid (fun w' (hb:Below w.heap.size w w')=>b24 page (h.grown hb));have hsz:(Tryz.prog.info? 136).map (·.size)=some 4:=by kernel_rfl
 have Hsz:=hid hsz;clear hsz;have hbw:=Below.refl w.heap.size w
 go_enter Tryz.func112,Tryz.ntmps112
 go_wp2_with (first|(with_reducible refine n7 4 ?_);refine f7 rfl (some 4) rfl (zl4) 136 (by kernel_rfl) w.heap.size w hbw hbw.size ?_;intro g4 wn4 hL4 hB4 hbn hkn hnn;skip;clear hbw hkn hnn;have hbw:=hbn;clear hbn|go_at_call 163;(with_reducible refine (HS.out _ hbw).mono ?_);rintro e wc ⟨i,hi,rfl,hbc,hI⟩;have hL4:=hL4.grown hbc hL4.lt;have hbn:=bt hbw hbc;clear hbw hbc;have hbw:=hbn;clear hbn)
 by_cases hc:b4 L=0
 ·obtain ⟨_,hg⟩:=o3.1 hc;have HQ:Hid (a2s L page=k6 L page):=by refine hid ?_;unfold a2s;rw [xd8 hc]
  rw [hc] at HC;clear hc;by_cases hlt:i < L.length
  ·obtain ⟨a,ha⟩:∃ a,L[i]?=some a:=⟨L[i],by simp [hlt]⟩;rcases h with ⟨p,c,rfl,rfl⟩|⟨b,off,cap,rfl,hbl,hcap,hmax,j0⟩
   ·simp at hlt
   have HL:=hid j0;have hne:((i:Int) == L.length)=false:=by rw [xh2];omega
   have hli:(i:Int) < L.length:=Int.ofNat_lt.2 hlt;clear j0 hmax;by_cases hp:page < a.pg
   ·have HX:=hid (a8T hg hI ha hp);clear hI
    go_wp2_with (first|(go_at_call 98;(with_reducible refine (HC.out _ hbw).mono ?_);rintro e wk ⟨rfl,hbc⟩);have hL4:=hL4.grown hbc hL4.lt;have hbn:=bt hbw hbc;clear hbw hbc;have hbw:=hbn;clear hbn;obtain ⟨c0,c1,c2,c3⟩:=(HL.out i a ha).grown hbw hbl|(with_reducible refine l5 4 ?_);refine d5 rfl 136 (.tmp 4) (.tmp 32) rfl rfl g4 (zl4) (zl4) rfl rfl hL4 Hsz.out rfl rfl w.heap.size w hbw hB4 ?_;intro wp4 hLn hbn hon;skip;clear hL4 hbw hon;have hL4:=hLn;have hbw:=hbn;clear hLn hbn)
    refine bodyPost_ret (v:=.tuple #[.agg (zl4).toArray,.bool false]) (k7 rfl _ g4 (zl4) (.bool false) _ rfl rfl hL4 Tryz.underlying136 rfl Hsz.out) rfl ⟨by rw [HQ.out,HX.out];rfl,hbw⟩
   ·have HX:=hid (a7O hg hI ha (by omega));clear hI;have hp':decide (page < a.pg)=false:=by simpa using hp
    go_wp2_with (first|(go_at_call 98;(with_reducible refine (HC.out _ hbw).mono ?_);rintro e wk ⟨rfl,hbc⟩);have hL4:=hL4.grown hbc hL4.lt;have hbn:=bt hbw hbc;clear hbw hbc;have hbw:=hbn;clear hbn;obtain ⟨c0,c1,c2,c3⟩:=(HL.out i a ha).grown hbw hbl|(with_reducible refine l5 4 ?_);refine d5 rfl 136 (.tmp 4) (.tmp 36) rfl rfl g4 ([.int .i64 a.pg,.int .i64 a.n,.int .i64 a.prot,.bool a.z]) (zl4) rfl rfl hL4 Hsz.out rfl rfl w.heap.size w hbw hB4 ?_;intro wp4 hLn hbn hon;skip;clear hL4 hbw hon;have hL4:=hLn;have hbw:=hbn;clear hLn hbn)
    refine bodyPost_ret (v:=.tuple #[.agg ([.int .i64 a.pg,.int .i64 a.n,.int .i64 a.prot,.bool a.z]).toArray,.bool true]) (k7 rfl _ g4 ([.int .i64 a.pg,.int .i64 a.n,.int .i64 a.prot,.bool a.z]) (.bool true) _ rfl rfl hL4 Tryz.underlying136 rfl Hsz.out) rfl ⟨by rw [HQ.out,HX.out];rfl,hbw⟩
  ·obtain rfl:i=L.length:=by omega
   have HX:=hid (a8J hg hI);have hlen:∃ n:Nat,n=L.length:=⟨_,rfl⟩;clear hI;rcases h with ⟨p,c,rfl,rfl⟩|⟨b,off,cap,rfl,hbl,hcap,hmax,j0⟩
   ·go_wp2_with (first|(go_at_call 98;(with_reducible refine (HC.out _ hbw).mono ?_);rintro e wk ⟨rfl,hbc⟩);have hL4:=hL4.grown hbc hL4.lt;have hbn:=bt hbw hbc;clear hbw hbc;have hbw:=hbn;clear hbn;skip|(with_reducible refine l5 4 ?_);refine d5 rfl 136 (.tmp 4) (.tmp 32) rfl rfl g4 (zl4) (zl4) rfl rfl hL4 Hsz.out rfl rfl w.heap.size w hbw hB4 ?_;intro wp4 hLn hbn hon;skip;clear hL4 hbw hon;have hL4:=hLn;have hbw:=hbn;clear hLn hbn)
    refine bodyPost_ret (v:=.tuple #[.agg (zl4).toArray,.bool false]) (k7 rfl _ g4 (zl4) (.bool false) _ rfl rfl hL4 Tryz.underlying136 rfl Hsz.out) rfl ⟨by rw [HQ.out,HX.out];rfl,hbw⟩
   ·clear j0 hmax
    go_wp2_with (first|(go_at_call 98;(with_reducible refine (HC.out _ hbw).mono ?_);rintro e wk ⟨rfl,hbc⟩);have hL4:=hL4.grown hbc hL4.lt;have hbn:=bt hbw hbc;clear hbw hbc;have hbw:=hbn;clear hbn;skip|(with_reducible refine l5 4 ?_);refine d5 rfl 136 (.tmp 4) (.tmp 32) rfl rfl g4 (zl4) (zl4) rfl rfl hL4 Hsz.out rfl rfl w.heap.size w hbw hB4 ?_;intro wp4 hLn hbn hon;skip;clear hL4 hbw hon;have hL4:=hLn;have hbw:=hbn;clear hLn hbn)
    refine bodyPost_ret (v:=.tuple #[.agg (zl4).toArray,.bool false]) (k7 rfl _ g4 (zl4) (.bool false) _ rfl rfl hL4 Tryz.underlying136 rfl Hsz.out) rfl ⟨by rw [HQ.out,HX.out];rfl,hbw⟩
 ·have HQ:Hid (a2s L page=none):=by refine hid ?_;unfold a2s;rw [xd9 hc]
  have hn:(b4 L != 0)=true:=by rw [xh3];exact hc
  clear hc;generalize b4 L=ck at *
  go_wp2_with (first|(go_at_call 98;(with_reducible refine (HC.out _ hbw).mono ?_);rintro e wk ⟨rfl,hbc⟩);have hL4:=hL4.grown hbc hL4.lt;have hbn:=bt hbw hbc;clear hbw hbc;have hbw:=hbn;clear hbn;skip|(with_reducible refine l5 4 ?_);refine d5 rfl 136 (.tmp 4) (.tmp 32) rfl rfl g4 (zl4) (zl4) rfl rfl hL4 Hsz.out rfl rfl w.heap.size w hbw hB4 ?_;intro wp4 hLn hbn hon;skip;clear hL4 hbw hon;have hL4:=hLn;have hbw:=hbn;clear hLn hbn)
  refine bodyPost_ret (v:=.tuple #[.agg (zl4).toArray,.bool false]) (k7 rfl _ g4 (zl4) (.bool false) _ rfl rfl hL4 Tryz.underlying136 rfl Hsz.out) rfl ⟨by rw [HQ.out];rfl,hbw⟩
theorem b0u {va vb:Value} {A B:List Ar} {w:World} (ha:Sl nF w 4 va (A.map arC)) (hb:Sl nF w 4 vb (B.map arC)):Fn Tryz.prog 59 [va,vb] w (RBf (.bool (decide (A=B))) w) :=
 Fn.of_rb ⟨Tryz.func59,by kernel_rfl,by kernel_rfl⟩ (a2A (x6 ha) (x6 hb))
theorem a1r {v:Value} {L:List Ar} {w:World} (h:Sl nF w 4 v (L.map arC)):Fn Tryz.prog 96 [v] w (RBf (.int .i64 (b4 L)) w) :=
 Fn.of_rb ⟨Tryz.func96,by kernel_rfl,by kernel_rfl⟩ (a3p (x6 h))
theorem a3c {v:Value} {L:List Ar} {w:World} (h:Sl nF w 4 v (L.map arC)) (hc:b4 L=0):Fn Tryz.prog 50 [v] w (RBf (.int .i64 (l7 L)) w) :=
 Fn.of_rb ⟨Tryz.func50,by kernel_rfl,by kernel_rfl⟩ (a6n (x6 h) hc)
theorem a3J {v:Value} {L:List Ar} {w:World} (page:Int) (h:Sl nF w 4 v (L.map arC)) (hok:∀ (i:Nat) (a:Ar),L[i]?=some a->a.ok):Fn Tryz.prog 97 [v,.int .i64 page] w (RBf (a26 (k6 L page)) w) :=
 Fn.of_rb ⟨Tryz.func97,by kernel_rfl,by kernel_rfl⟩ (a6i page (x6 h) hok)
theorem a6I {v:Value} {L:List Ar} {w:World} (page:Int) (h:Sl nF w 4 v (L.map arC)):Fn Tryz.prog 112 [v,.int .i64 page] w (RBf (a26 (a2s L page)) w) :=
 Fn.of_rb ⟨Tryz.func112,by kernel_rfl,by kernel_rfl⟩ (a8A page (x6 h))
theorem a5f {v:Value} {L:List Ar} {w:World} (h:Sl nF w 4 v (L.map arC)):Fn Tryz.prog 43 [v] w (RBf (.int .i64 (if b4 L=0 then l7 L else 0)) w):=by
 by_cases hc:b4 L=0
 ·rw [xd8 hc];exact Fn.of_rb ⟨Tryz.func43,by kernel_rfl,by kernel_rfl⟩ (a5V (x6 h) hc)
 ·rw [xd9 hc];exact Fn.of_rb ⟨Tryz.func43,by kernel_rfl,by kernel_rfl⟩ (a7x (x6 h) hc)
theorem Sl.nil (w:World) (sz:Nat):Sl nF w sz (.slice none 0 0) []:=xc7 ⟨_,_,rfl,rfl⟩
theorem b0p {L:List Ar} {p:Int} {a:Ar} (h:l0 1 L) (hf:k6 L p=some a):a.ok:=by
 unfold k6 at hf;obtain ⟨i,hi⟩:=xc9.1 (List.mem_of_find?_eq_some hf);exact b0i h i a hi
theorem a58 {L:List Ar} {p:Int} (h:b4 L=0):a2s L p=k6 L p:=xd8 h
structure Pc where
 r0:Int
 r1:Int
 r2:Int
 r3:Int
 r4:Int
 r5:Int
 r6:Int
 r7:Int
 pc:Int
 state:Int
 code:Int
 fk:Int
 fa:Int
deriving DecidableEq
structure Wd where
 proc:Int
 value:Int
deriving DecidableEq
structure Fp where
 page:Int
 data:List UInt8
deriving DecidableEq
structure Fs where
 live:Bool
 areas:List Ar
 pages:List Fp
def prC (p:Pc):List Value:=[.int .i64 p.r0,.int .i64 p.r1,.int .i64 p.r2,.int .i64 p.r3,.int .i64 p.r4,.int .i64 p.r5,.int .i64 p.r6,.int .i64 p.r7,.int .i64 p.pc,.int .i64 p.state,.int .i64 p.code,.int .i64 p.fk,.int .i64 p.fa]
def wdC (x:Wd):List Value:=[.int .i64 x.proc,.int .i64 x.value]
def fpC (x:Fp):List Value:=[.int .i64 x.page,.string ⟨x.data.toArray⟩]
def o5 (p:Pc) (live:Bool):Bool :=
 if p.state=1 then live && (decide (p.code=0) && decide ((p.fk,p.fa)=((0,0):Int×Int)))
 else if p.state=2 then !live && decide ((p.fk,p.fa)=((0,0):Int×Int))
 else if p.state=3 then !live && (decide (p.code=0) && (decide (1<=p.fk) && decide (p.fk<=4)))
 else false
def a0O (l:List Wd) (n:Int):Bool:=l.all fun x=>decide (0<=x.proc) && decide (x.proc < n)
def r8 (A:List Ar) (l:List Fp) (i:Nat):Bool:=match l[i]? with
 |some p=>(k6 A p.page).isSome && (decide (p.data.length=16) && (match i with
  |0=>true
  |j + 1=>match l[j]? with
   |some q=>decide (q.page < p.page)
   |none=>true))
 |none=>true
def y7 (A:List Ar) (l:List Fp) (n:Nat):Bool:=(List.range n).all (r8 A l)
def fsB (s:Fs):Bool :=
 if s.live then decide (b4 s.areas=0) && (decide ((s.pages.length:Int)=l7 s.areas) && y7 s.areas s.pages s.pages.length)
 else decide (s.areas=[]) && decide (s.pages=[])
structure FlV where
 slots:Int
 sp:List (Fs×Value×Value)
 pr:List Pc
 out:List Wd
 vsp:Value
 vpr:Value
 vout:Value
def fsC (x:Fs×Value×Value):List Value:=[.bool x.1.live,x.2.1,x.2.2]
def flC (f:FlV):List Value:=[.int .i64 f.slots,f.vsp,f.vpr,f.vout]
def y8 (f:FlV):Prop:=f.sp.length < 1\/4 < f.sp.length\/f.pr.length≠f.sp.length\/f.slots < 0\/512 < f.slots\/2000 < f.out.length
instance (f:FlV):Decidable (y8 f):=by unfold y8;infer_instance
def a79 (f:FlV) (i:Nat):Bool:=match f.sp[i]?,f.pr[i]? with
 |some x,some p=>fsB x.1 && o5 p x.1.live
 |_,_=>false
def a0z (l:List (Fs×Value×Value)):Nat:=(l.map fun x=>x.1.pages.length).sum
def p9 (f:FlV):Int :=
 if y8 f then 2 else if (List.range f.sp.length).all (a79 f) && (decide ((a0z f.sp:Int)<=f.slots) && a0O f.out (f.pr.length:Nat)) then 0 else 1
section
variable {P:Program} {n:Nat} {ds:List Deferred} {E:Fr} {w:World} {Q:Exit->Act->World->Prop} {ops:Array Oper} {rest:List Oper} {d:Nat} {dst:Option Nat} {op:Op} {ty:TypeId} {pos:String} {after:Array Edge} {T:Tab}
end
section
variable {P:Program} {n:Nat} {ds:List Deferred} {E:Fr} {w:World} {Q:Exit->Act->World->Prop} {ops:Array Oper} {S:World->Prop} {q fuel:Nat} {li:Array Bool} {d:Nat} {op:Op} {ty:TypeId} {pos:String} {after:Array Edge} {T:Tab}
theorem Gets.pure {dst:Option Nat} {op:Op} {v:Value} (hT:TabOk P T) (hv:m6 T E op=some v):Gets P ⟨dst,op,ty,pos,after,none⟩ n ds E w (fun v' w'=>v'=v/\w'=w):=Gets.of_runs fun _ ha=>t9 hT ha hv
theorem Gets.build {dst:Option Nat} (hT:TabOk P T) {t s:Nat} {fs:List (Nat×Nat×Bool)} {z L:List Value} {parts:Array (Nat×Operand)} {ps:List (Nat×Value)} (ht:T.get t=some (.st s fs z)) (hp:evP E parts.toList=some ps) (hL:a0c (fun i=>(fs[i]?).map fun f=>(f.1,f.2.1)) z ps=some L):Gets P ⟨dst,.build t parts,ty,pos,after,none⟩ n ds E w (fun v' w'=>v'=.agg L.toArray/\w'=w):=Gets.of_runs fun _ ha=>a1W hT ht hp hL _ ha
end
theorem Sl.nil0 (w:World) (sz:Nat):Sl nF w sz (.slice none 0 0) []:=xc7 ⟨_,_,rfl,rfl⟩
section
variable {F:Nat->Prop} {w0 w w':World} {Γ Δ:List Asr}
def a6v {α:Type} (l:List α):List Nat->Option (List α)
 |[]=>some []
 |i::r=>match l[i]?,a6v l r with
  |some x,some xs=>some (x::xs)
  |_,_=>none
theorem a2S {α:Type} {l:List α}:∀ {is:List Nat} {xs:List α},a6v l is=some xs->∀ (k:Nat) (x:α),xs[k]?=some x->∃ i,is[k]?=some i/\l[i]?=some x:=by
 intro is
 induction is with
 |nil=>intro xs h k x hx;cases h;simp at hx
 |cons i r ih=>
  intro xs h k x hx;unfold a6v at h
  split at h
  ·rename_i y ys h1 h2
   cases h
   cases k with
   |zero=>simp at hx;subst hx;exact ⟨i,rfl,h1⟩
   |succ k=>simpa using ih h2 k x (by simpa using hx)
  ·cases h
theorem St.reorder (is:List Nat) (h:St F w0 w Γ) (hn:is.Nodup) (hp:a6v Γ is=some Δ):St F w0 w Δ:=by
 have hmem:∀ A ∈ Δ,A ∈ Γ:=fun A hA=>by
  obtain ⟨k,hk⟩:=xc9.1 hA;obtain ⟨i,_,hi⟩:=a2S hp k A hk;exact xc1 hi
 refine ⟨h.os,h.tape,h.output,h.size,h.base,fun A hA=>h.holds A (hmem A hA),fun A hA=>h.own A (hmem A hA),?_⟩;rw [xc8];intro j k hj hk hlt;obtain ⟨a,ha,ha2⟩:=a2S hp j _ (xd1 hj);obtain ⟨b,hb,hb2⟩:=a2S hp k _ (xd1 hk);refine a3b h.apart ha2 hb2 (fun e=>?_);subst e;obtain ⟨h1,h2⟩:=xa6.1 ha;obtain ⟨h3,h4⟩:=xa6.1 hb;have:=xc8.1 hn j k h1 h3 hlt;exact this (h2.trans h4.symm)
end
section
variable {P:Program} {n:Nat} {ds:List Deferred} {E:Fr} {w:World} {Q:Exit->Act->World->Prop} {ops:Array Oper} {rest:List Oper} {d:Nat} {ty:TypeId} {pos:String} {after:Array Edge}
theorem a4n {F:Nat->Prop} {w0:World} {Γ:List Asr} {id:Nat} {l:List Oper} (m:Nat) (hl:l.length=m) (hS:St F w0 w Γ) (hm:P.follows .mixedOrders=true) (h:∀ w1,St F w0 w1 Γ->WA P l.toArray Q (fun w'=>St F w0 w' Γ) m (Array.replicate m false) n ds E w1):WC P (.region id l.toArray true) Q n ds E w:=a5J _ m hl hS hm h
theorem a6t {i:Nat} (_C:Nn i) {S:World->Prop} {fuel:Nat} {li:Array Bool} {op:Op} {v:Value} (hi:ops[i]?=some ⟨some d,op,ty,pos,after,none⟩) (hs:Region.noSelect ops=true) (hf:Region.free .any ops li i=true) (hr:(Region.ready .any ops li).contains i=true)
  (hQ:∀ c (a:Act) w,Q (.panic c) (a.put (some d) v) w->Q (.panic c) a w) (hS:S w) (h:∀ a,Has n ds a E->x7 P ⟨some d,op,ty,pos,after,none⟩ a v) (hd:Nat.blt d n=true) (k:WA P ops Q S fuel (li.setIfInBounds i true) n ds ((d,v)::E) w):WA P ops Q S (fuel + 1) li n ds E w:=fun a ha=>
 wpAnyH_take hi hs hf hr hQ (xc7 ⟨rfl,fun w _=>h a ha w⟩) hS (k _ (ha.put d v hd))
theorem a9U {i:Nat} (_C:Nn i) {T:Tab} {S:World->Prop} {fuel:Nat} {li:Array Bool} (hT:TabOk P T) {t:TypeId} {x y:Operand} {el sz eb b off m c j:Nat} {ag:Bool} {z:List Value} {ii:Int} (hi:ops[i]?=some ⟨some d,.indexAddr t x y,ty,pos,after,none⟩) (hs:Region.noSelect ops=true) (hf:Region.free .any ops li i=true) (hr:(Region.ready .any ops li).contains i=true)
  (hQ:∀ c (a:Act) w v,Q (.panic c) (a.put (some d) v) w->Q (.panic c) a w) (hS:S w) (ht:T.get t=some (.sl el sz eb ag z)) (hx:E.ev x=some (.slice (some ⟨b,off,none⟩) m c)) (hy:E.ev y=some (.int .i64 ii)) (hj:(j:Int)=ii) (hm:j < m) (hd:Nat.blt d n=true) (k:WA P ops Q S fuel (li.setIfInBounds i true) n ds ((d,.pointer (some ⟨b,off + j * sz,none⟩))::E) w):WA P ops Q S (fuel + 1) li n ds E w :=
 a6t _C hi hs hf hr (fun c a w h=>hQ c a w _ h) hS (fun a ha=>a7C hT ht hx hy hj hm a ha _) hd k
theorem b2w {t yt:TypeId} {x y:Operand} {m k:Int} (hx:E.ev x=some (.int .i64 m)) (hy:E.ev y=some (.int .i64 k)):∀ a,Has n ds a E->∀ dst,x7 P ⟨dst,.binOp .and t x y yt,ty,pos,after,none⟩ a (.int .i64 (bits .and .i64 m k)):=fun a ha _ w=>by
 simp only [execOp,ha.ev hx,ha.ev hy];simp [eqGuard,binOp,go_sem]
theorem b0S {t yt:TypeId} {x y:Operand} {m k r:Int} (hx:E.ev x=some (.int .i64 m)) (hy:E.ev y=some (.int .i64 k)) (hr:bits .and .i64 m k=r) (hd:Nat.blt d n=true) (k':WL P ops Q rest n ds ((d,.int .i64 r)::E) w):WL P ops Q (⟨some d,.binOp .and t x y yt,ty,pos,after,none⟩::rest) n ds E w:=x9 (fun a ha=>hr ▸ b2w hx hy a ha _) hd k'
theorem a96 {m k:Int} (h0:-9223372036854775808<=m) (h1:m<=9223372036854775807) (hk:0 < k):-9223372036854775808<=m.tdiv k/\m.tdiv k<=9223372036854775807:=by
 by_cases h:0<=m
 ·rw [xj9 h];have a1:=Int.ediv_nonneg h (by omega:0<=k);have a2:=Int.ediv_le_self k h;omega
 ·have e:m.tdiv k=-((-m).tdiv k):=by rw [Int.neg_tdiv,Int.neg_neg]
  rw [e,xj9 (by omega)];have a1:=Int.ediv_nonneg (show 0<=-m by omega) (by omega:0<=k);have a2:=Int.ediv_le_self k (show 0<=-m by omega);omega
theorem b17 {t yt:TypeId} {x y:Operand} {m k:Int} (hx:E.ev x=some (.int .i64 m)) (hy:E.ev y=some (.int .i64 k)) (h0:-9223372036854775808<=m) (h1:m<=9223372036854775807) (h3:0 < k):∀ a,Has n ds a E->∀ dst,x7 P ⟨dst,.binOp .quo t x y yt,ty,pos,after,none⟩ a (.int .i64 (m.tdiv k)):=fun a ha _ w=>by
 have hk:¬ k=0:=by omega
 have:=a96 h0 h1 h3;simp [execOp,ha.ev hx,ha.ev hy,eqGuard,binOp,Op.intDiv,hk,a2I this.1 this.2]
theorem a1y {t yt:TypeId} {x y:Operand} {m k:Int} (hx:E.ev x=some (.int .i64 m)) (hy:E.ev y=some (.int .i64 k)) (h0:-9223372036854775808<=m) (h1:m<=9223372036854775807) (h3:0 < k) (hd:Nat.blt d n=true) (k':WL P ops Q rest n ds ((d,.int .i64 (m.tdiv k))::E) w):WL P ops Q (⟨some d,.binOp .quo t x y yt,ty,pos,after,none⟩::rest) n ds E w:=x9 (fun a ha=>b17 hx hy h0 h1 h3 a ha _) hd k'
theorem b3l {p:Int} (h0:0<=p) (h1:p<=3):bits .and .i64 p 2=if 2<=p then 2 else 0:=by
 have h:p=0\/p=1\/p=2\/p=3:=by omega
 rcases h with rfl|rfl|rfl|rfl <;> decide
end
end Go.Proofs.YtejnpppejalhfacGreat
namespace Go.Proofs.YtejnpppejalhfacGreat
set_option maxRecDepth 100000
set_option maxHeartbeats 8000000
open Go.RowKit Go.MapKept
structure MapAt (d:TypeDesc) (w:World) (r:Nat) (L:List (Value×Value)):Prop where
 held:∃ es c,w.heap[r]?=some (.map es c)/\es.toList.map (fun e=>(e.key,e.val))=L
 keys:∀ p ∈ L,IsKey d p.1
 once:(L.map (·.1)).Nodup
section
variable {P:Program} {d:TypeDesc} {w w':World} {r:Nat} {L:List (Value×Value)} {T K E:TypeId} {k v:Value}
theorem MapAt.lt (h:MapAt d w r L):r < w.heap.size:=by
 obtain ⟨es,c,hb,_⟩:=h.held;exact (xa8.1 hb).1
theorem MapAt.keep (h:MapAt d w r L) (hk:w'.heap[r]?=w.heap[r]?):MapAt d w' r L:=by
 obtain ⟨es,c,hb,hl⟩:=h.held;exact ⟨⟨es,c,hk.trans hb,hl⟩,h.keys,h.once⟩
theorem MapAt.below {B:Nat} (h:MapAt d w r L) (hb:Below B w w') (hr:r < B):MapAt d w' r L:=h.keep (hb.block r hr)
theorem MapAt.grown (h:MapAt d w r L) (hb:Below w.heap.size w w'):MapAt d w' r L:=h.below hb h.lt
theorem MapAt.made (d:TypeDesc) (w:World):MapAt d (w.alloc (.map #[] 0)) w.heap.size [] :=
 ⟨⟨#[],0,(heap_alloc w _).1,rfl⟩,by simp,by simp⟩
theorem a2r (hk:IsKey d k):∀ (l:List MapEntry) (i:Nat),(∀ e ∈ l,IsKey d e.key)->((l.map (·.key)).Nodup)->(∃ e ∈ l,e.key=k/\e.val=v)->∃ j,j < l.length/\Instr.findNow d k l i=some (some (i + j,v))/\((l[j]?).map (·.key))=some k:=by
 intro l i hl hn ⟨e,he,hek,hev⟩;rcases findNow_spec hk l i hl with ⟨_,h2⟩|⟨j,e',h1,h2,h3⟩
 ·exact (h2 e he hek).elim
 ·have hj:j < l.length:=(xa6.1 h2).1;have e':e'=e:=by
   obtain ⟨j2,hj2,hje⟩:=List.getElem_of_mem he;have a1:l[j]=e':=(xa6.1 h2).2;have:j=j2:=by
    have hnd:=xc8.1 hn;rcases Nat.lt_trichotomy j j2 with hlt|heq|hgt
    ·exact (hnd j j2 (by simpa using hj) (by simpa using hj2) hlt (by simp [a1,hje,h3,hek])).elim
    ·exact heq
    ·exact (hnd j2 j (by simpa using hj2) (by simpa using hj) hgt (by simp [a1,hje,h3,hek])).elim
   subst this;rw [<- a1,hje]
  subst e';exact ⟨j,hj,by rw [h1,hev],by rw [h2];simp [h3]⟩
theorem a0N (hk:IsKey d k) (l:List MapEntry) (i:Nat) (hl:∀ e ∈ l,IsKey d e.key) (hno:∀ e ∈ l,e.key≠k):Instr.findNow d k l i=some none:=by
 rcases findNow_spec hk l i hl with ⟨h1,_⟩|⟨j,e,_,h2,h3⟩
 ·exact h1
 ·exact (hno e (xc1 h2) h3).elim
theorem a1d (ht:P.underlying T=some (.map K E)) (hd:P.underlying K=some d) (h:MapAt d w r L) (hk:IsKey d k) (hm:(k,v) ∈ L) (ok:Bool) :
  (Instr.lookup T (.map (some r)) k ok).run P w=.ok (if ok then .tuple #[v,.bool true] else v) w:=by
 obtain ⟨es,c,hb,rfl⟩:=h.held;obtain ⟨e,he,hee⟩:=xi0.1 hm;simp only [Prod.mk.injEq] at hee;have hkeys:∀ e ∈ es.toList,IsKey d e.key:=fun e he=>h.keys (e.key,e.val) (xi0.2 ⟨e,he,rfl⟩);have hnd:(es.toList.map (·.key)).Nodup:=by have:=h.once;simpa [List.map_map,Function.comp_def] using this
 obtain ⟨j,_,hf,_⟩:=a2r (v:=v) hk es.toList 0 hkeys hnd ⟨e,he,hee.1,hee.2⟩;have h1:=run_checkKey (P:=P) (w:=w) hd hk es.isEmpty 9999;have h2:=run_findKey (P:=P) (w:=w) hd hf
 cases ok <;> simp [Instr.lookup,run_underlying ht,Go.MapKept.run_getObj_map hb,h1,h2,Result.andThen]
theorem a0P (ht:P.underlying T=some (.map K E)) (hd:P.underlying K=some d) (h:MapAt d w r L) (hk:IsKey d k) (hm:∀ v,(k,v) ∉ L) {z:Value} (hz:(zeroValue E).run P w=.ok z w) (ok:Bool) :
  (Instr.lookup T (.map (some r)) k ok).run P w=.ok (if ok then .tuple #[z,.bool false] else z) w:=by
 obtain ⟨es,c,hb,rfl⟩:=h.held;have hkeys:∀ e ∈ es.toList,IsKey d e.key:=fun e he=>h.keys (e.key,e.val) (xi0.2 ⟨e,he,rfl⟩);have hf:=a0N hk es.toList 0 hkeys (fun e he hek=>hm e.val (xi0.2 ⟨e,he,by rw [<- hek]⟩));have h1:=run_checkKey (P:=P) (w:=w) hd hk es.isEmpty 9999;have h2:=run_findKey (P:=P) (w:=w) hd hf
 cases ok <;> simp [Instr.lookup,run_underlying ht,Go.MapKept.run_getObj_map hb,h1,h2,hz,Result.andThen]
theorem a2M (ht:P.underlying T=some (.map K E)) (hd:P.underlying K=some d) (h:MapAt d w r L) (hk:IsKey d k) (hm:∀ v,(k,v) ∉ L) :
  ∃ w',(Instr.mapUpdate T (.map (some r)) k v).run P w=.ok () w'/\MapAt d w' r (L++[(k,v)])/\(∀ B w0,Below B w0 w->B<=r->Below B w0 w')/\w'.heap.size=w.heap.size/\(∀ g,g≠r->w'.heap[g]?=w.heap[g]?):=by
 obtain ⟨es,c,hb,rfl⟩:=h.held;have hkeys:∀ e ∈ es.toList,IsKey d e.key:=fun e he=>h.keys (e.key,e.val) (xi0.2 ⟨e,he,rfl⟩);have hno:∀ e ∈ es.toList,e.key≠k:=fun e he hek=>hm e.val (xi0.2 ⟨e,he,by rw [<- hek]⟩);have hf:=a0N hk es.toList 0 hkeys hno;have h1:=run_checkKey (P:=P) (w:=w) hd hk false 9999;have h2:=run_findKey (P:=P) (w:=w) hd hf;have a0o:=heap_set (o':=Obj.map (es.push { key:=k,val:=v,born:=c }) (c + 1)) hb;refine ⟨{ w with heap:=w.heap.setIfInBounds r (.map (es.push { key:=k,val:=v,born:=c }) (c + 1)) },?_,⟨⟨_,_,a0o.1,by simp⟩,?_,?_⟩,?_,by simp,fun g hg=>a0o.2 g hg⟩
 ·simp [Instr.mapUpdate,run_underlying ht,Go.MapKept.run_getObj_map hb,h1,h2,Result.andThen,run_setObj_map _ hb]
 ·intro p hp;rcases xd2.1 hp with hp|hp
  ·exact h.keys p hp
  ·have:p=(k,v):=by simpa using hp
   subst this;exact hk
 ·rw [xk2,xk3];refine ⟨h.once,by simp,fun a ha b hb'=>?_⟩;have:b=k:=by simpa using hb'
  subst this;rintro rfl;obtain ⟨p,hp,hpk⟩:=xi0.1 ha;exact hm p.2 (by rw [<- hpk];exact hp)
 ·intro B w0 hB hBr;exact hB.trans ⟨rfl,rfl,rfl,by simp,fun g hg=>a0o.2 g (by omega)⟩
theorem a2V {ops:Array Oper} {Q:Exit->Act->World->Prop} {t:Tmp} {ty:TypeId} {pos:String} {after:Array Edge} {rest:List Oper} {a:Act} (d:TypeDesc) (B:Nat) (w0:World) (hb:Below B w0 w) (hB:B<=w.heap.size)
  (next:∀ w',MapAt d w' w.heap.size []->Below B w0 w'->w'.heap.size=w.heap.size + 1->(∀ g,g < w.heap.size->w'.heap[g]?=w.heap[g]?)->wpList P ops Q rest (a.put (some t) (.map (some w.heap.size))) w'):wpList P ops Q (⟨some t,.makeMap T none,ty,pos,after,none⟩::rest) a w:=by
 refine wpList_plain rfl fun Kt hK=>?_;unfold Oper.wp;simp only [execOp,xk4,run_makeMap,Sem.run_bind,Result.andThen_ok,Sem.run_pure,Oper.upon_value];exact hK _ _ (next _ (MapAt.made d w) (hb.alloc hB _) (by simp) (fun g hg=>Below.heap_alloc w _ g hg))
theorem f6 (n:Int) {ops:Array Oper} {Q:Exit->Act->World->Prop} {T:TypeId} {m v:Operand} {ty:TypeId} {pos:String} {after:Array Edge} {g:Option (Nat×Bool)} {rest:List Oper} {a:Act} {w:World}
  (h:wpList P ops Q (⟨none,.insert T m (.const (.int .i64 n)) v,ty,pos,after,g⟩::rest) a w):wpList P ops Q (⟨none,.insert T m (.const (.int .i64 n)) v,ty,pos,after,g⟩::rest) a w:=h
theorem f5 {ops:Array Oper} {Q:Exit->Act->World->Prop} {m kx vx:Operand} {ty:TypeId} {pos:String} {after:Array Edge} {rest:List Oper} {a:Act} (ht:P.underlying T=some (.map K E)) (hd:P.underlying K=some d)
  (r:Nat) (k v:Value) (L:List (Value×Value)) (hmv:a.eval m=.map (some r)) (hkv:a.eval kx=k) (hvv:a.eval vx=v) (h:MapAt d w r L) (hk:IsKey d k) (hm:∀ v,(k,v) ∉ L) (B:Nat) (w0:World) (hb:Below B w0 w) (hBr:B<=r)
  (next:∀ w',MapAt d w' r (L++[(k,v)])->Below B w0 w'->w'.heap.size=w.heap.size->(∀ g,g≠r->w'.heap[g]?=w.heap[g]?)->wpList P ops Q rest a w'):wpList P ops Q (⟨none,.insert T m kx vx,ty,pos,after,none⟩::rest) a w:=by
 obtain ⟨w',hr,h1,h2,h3,h4⟩:=a2M (v:=v) ht hd h hk hm;refine wpList_plain rfl fun Kt hK=>?_;unfold Oper.wp;simp only [execOp,hmv,hkv,hvv,Sem.run_bind,hr,Result.andThen_ok,Sem.run_pure,Oper.upon_skip];exact hK _ _ (next w' h1 (h2 B w0 hb hBr) h3 h4)
end
end Go.Proofs.YtejnpppejalhfacGreat
namespace Go.Proofs.YtejnpppejalhfacGreat
set_option maxRecDepth 100000
set_option maxHeartbeats 8000000
open Go.RowKit Go.Sort Go.MapKept
structure MapG (D:TypeDesc) (es:Array MapEntry) (L:List (Value×Value)):Prop where
 held:es.toList.map (fun e=>(e.key,e.val))=L
 keys:∀ p ∈ L,IsKey D p.1
 once:(L.map (·.1)).Nodup
theorem MapG.nil (D:TypeDesc):MapG D #[] []:=⟨rfl,by simp,by simp⟩
theorem MapG.at_ {D:TypeDesc} {w:World} {r c:Nat} {es:Array MapEntry} {L:List (Value×Value)} (h:MapG D es L) (hr:w.heap[r]?=some (.map es c)):MapAt D w r L:=⟨⟨es,c,hr,h.held⟩,h.keys,h.once⟩
theorem MapG.size {D:TypeDesc} {es:Array MapEntry} {L:List (Value×Value)} (h:MapG D es L):es.size=L.length:=by
 have:=congrArg List.length h.held
 simpa using this
section
variable {P:Program} {n:Nat} {ds:List Deferred} {E:Fr} {w:World} {Q:Exit->Act->World->Prop} {ops:Array Oper} {rest:List Oper} {d:Nat} {dst:Option Nat} {ty:TypeId} {pos:String} {after:Array Edge} {F:Nat->Prop} {w0:World} {Γ:List Asr} {T:Tab} {D:TypeDesc}
theorem b1p (hS:St F w0 w Γ) {t Kt Et:TypeId} {m x:Operand} {r c i:Nat} {es:Array MapEntry} {L:List (Value×Value)} {k v:Value} (ht:P.underlying t=some (.map Kt Et)) (hK:P.underlying Kt=some D) (hm:E.ev m=some (.map (some r))) (hx:E.ev x=some k) (hi:Γ[i]?=some (.obj r (.map es c))) (hL:MapG D es L) (hk:IsKey D k) (hv:(k,v) ∈ L) (ok:Bool) :
  Gets P ⟨dst,.lookup t m x ok,ty,pos,after,none⟩ n ds E w (fun v' w'=>v'=(if ok then .tuple #[v,.bool true] else v)/\w'=w):=Gets.of_at fun a ha=>by
 have hat:=hL.at_ (hS.at_ hi).1;have hrun:=a1d ht hK hat hk hv ok;simp only [execOp,ha.ev hm,ha.ev hx,Sem.run_bind,hrun,Result.andThen_ok,Sem.run_pure]
theorem a9F (hS:St F w0 w Γ) {t Kt Et:TypeId} {m x:Operand} {r c i:Nat} {es:Array MapEntry} {L:List (Value×Value)} {k z:Value} (ht:P.underlying t=some (.map Kt Et)) (hK:P.underlying Kt=some D) (hz:(P.info? Et).bind (·.zero)=some z) (hm:E.ev m=some (.map (some r))) (hx:E.ev x=some k) (hi:Γ[i]?=some (.obj r (.map es c))) (hL:MapG D es L) (hk:IsKey D k) (hv:∀ v,(k,v) ∉ L) (ok:Bool) :
  Gets P ⟨dst,.lookup t m x ok,ty,pos,after,none⟩ n ds E w (fun v' w'=>v'=(if ok then .tuple #[z,.bool false] else z)/\w'=w):=Gets.of_at fun a ha=>by
 have hat:=hL.at_ (hS.at_ hi).1;obtain ⟨zi,hzi,hz2⟩:=xk5.1 hz;have hz':(zeroValue Et).run P w=.ok z w:=by simp [zeroValue,typeInfo,hzi,hz2]
 have hrun:=a0P ht hK hat hk hv hz' ok;simp only [execOp,ha.ev hm,ha.ev hx,Sem.run_bind,hrun,Result.andThen_ok,Sem.run_pure]
theorem a8D {t Kt Et:TypeId} {r c:Nat} {es:Array MapEntry} {L:List (Value×Value)} {k u v:Value} (ht:P.underlying t=some (.map Kt Et)) (hK:P.underlying Kt=some D) (hr:w.heap[r]?=some (.map es c)) (hL:MapG D es L) (hk:IsKey D k) (hm:(k,u) ∈ L) :
  ∃ es' j,(Instr.mapUpdate t (.map (some r)) k v).run P w=.ok () { w with heap:=w.heap.setIfInBounds r (.map es' c) }/\(∃ u',L[j]?=some (k,u'))/\MapG D es' (L.set j (k,v)):=by
 have hat:=hL.at_ hr;have hkeys:∀ e ∈ es.toList,IsKey D e.key:=fun e he=>hat.keys (e.key,e.val) (by rw [<- hL.held];exact xi0.2 ⟨e,he,rfl⟩);have hnd:(es.toList.map (·.key)).Nodup:=by
  have:=hat.once;rw [<- hL.held,List.map_map] at this;exact this
 have hmem:∃ e ∈ es.toList,e.key=k/\e.val=u:=by
  have:((k,u):Value×Value) ∈ es.toList.map (fun e=>(e.key,e.val)):=by rw [hL.held];exact hm
  obtain ⟨e,he,h2⟩:=xi0.1 this;simp only [Prod.mk.injEq] at h2;exact ⟨e,he,h2⟩
 obtain ⟨j,hj,hf,hkj⟩:=a2r (v:=u) hk es.toList 0 hkeys hnd hmem;rw [xe0] at hf;have h1:=run_checkKey (P:=P) (w:=w) hK hk false 9999;have h2:=run_findKey (P:=P) (w:=w) hK hf;have hjs:j < es.size:=by simpa using hj
 have hkj':(es[j]?.map (·.key)).getD k=k:=by
  rw [show es[j]?=es.toList[j]? by simp,hkj];rfl
 have h3:=run_keyThatStays (P:=P) (w:=w) hk;have hLj:∃ u',L[j]?=some (k,u'):=by
  have h4:=congrArg (fun l=>l[j]?) hL.held;simp only [xg0] at h4;have h5:es.toList[j]?=some es[j]:=by simp [hjs]
  rw [h5] at h4 hkj;simp only [xg1,Option.some.injEq] at h4 hkj;exact ⟨es[j].val,by rw [<- h4,hkj]⟩
 refine ⟨es.modify j fun e=>{ e with key:=k,val:=v },j,?_,hLj,⟨?_,?_,?_⟩⟩
 ·simp only [Instr.mapUpdate,run_underlying ht,Go.MapKept.run_getObj_map hr,h1,h2,Result.andThen_ok,Sem.run_bind,hkj',h3,run_setObj_map _ hr]
 ·refine xf6 fun m=>?_;rw [<- hL.held,Array.toList_modify,xg0,List.getElem?_modify,xd0,xg0,xj5];by_cases e:j=m
  ·subst e;have:es.toList[j]?=some es[j]:=by simp [hjs]
   rw [this,xd8 rfl,xd8 hj];simp
  ·simp [e]
 ·intro p hp;rcases xj3 hp with h|h
  ·exact hL.keys p h
  ·rw [h];exact hk
 ·obtain ⟨u',hq⟩:=hLj;rw [List.map_set];have:(L.map (·.1)).set j k=L.map (·.1):=by
   refine xf6 fun m=>?_;rw [xd0]
   split
   ·rename_i e;subst e;simp only [xj5,xg0,hq,xg1];rw [xd8 (j8 hq)]
   ·rfl
  rw [show (k,v).1=k from rfl,this];exact hL.once
theorem a7Z {t Kt Et:TypeId} {r c:Nat} {es:Array MapEntry} {L:List (Value×Value)} {k v:Value} (ht:P.underlying t=some (.map Kt Et)) (hK:P.underlying Kt=some D) (hr:w.heap[r]?=some (.map es c)) (hL:MapG D es L) (hk:IsKey D k) (hm:∀ v,(k,v) ∉ L) :
  ∃ es' c',(Instr.mapUpdate t (.map (some r)) k v).run P w=.ok () { w with heap:=w.heap.setIfInBounds r (.map es' c') }/\MapG D es' (L++[(k,v)]):=by
 have hat:=hL.at_ hr;have hkeys:∀ e ∈ es.toList,IsKey D e.key:=fun e he=>hat.keys (e.key,e.val) (by rw [<- hL.held];exact xi0.2 ⟨e,he,rfl⟩);have hno:∀ e ∈ es.toList,e.key≠k:=fun e he hek=>by
  have:(e.key,e.val) ∈ L:=by rw [<- hL.held];exact xi0.2 ⟨e,he,rfl⟩
  exact hm e.val (by rw [<- hek];exact this)
 have hf:=a0N hk es.toList 0 hkeys hno;have h1:=run_checkKey (P:=P) (w:=w) hK hk false 9999;have h2:=run_findKey (P:=P) (w:=w) hK hf;refine ⟨es.push { key:=k,val:=v,born:=c },c + 1,?_,⟨by simp [hL.held],fun p hp=>?_,?_⟩⟩
 ·simp only [Instr.mapUpdate,run_underlying ht,Go.MapKept.run_getObj_map hr,h1,h2,Result.andThen_ok,Sem.run_bind,run_setObj_map _ hr]
 ·rcases xd2.1 hp with h|h
  ·exact hL.keys p h
  ·have:p=(k,v):=by simpa using h
   rw [this];exact hk
 ·rw [xk2,xk3];refine ⟨hL.once,by simp,fun a ha b hb'=>?_⟩;have:b=k:=by simpa using hb'
  subst this;rintro rfl;obtain ⟨p,hp,hpk⟩:=xi0.1 ha;exact hm p.2 (by rw [<- hpk];exact hp)
theorem St.updMap (hS:St F w0 w Γ) {r c i:Nat} {es:Array MapEntry} (hi:Γ[i]?=some (.obj r (.map es c))) (es':Array MapEntry) (c':Nat):St F w0 { w with heap:=w.heap.setIfInBounds r (.map es' c') } (Γ.set i (.obj r (.map es' c'))):=by
 have hr:=(hS.at_ hi).1;have a0o:=heap_set (o':=Obj.map es' c') hr;exact hS.upd hi ⟨rfl,rfl,rfl,by simp,fun g _ hg=>a0o.2 g (fun e=>hg (by simp [Asr.fp,e]))⟩ ⟨a0o.1,rfl⟩ (fun q hq=>xc7 hq)
theorem b1S (hS:St F w0 w Γ) {t Kt Et:TypeId} {m x y:Operand} {r c i:Nat} {es:Array MapEntry} {L:List (Value×Value)} {k v:Value} (ht:P.underlying t=some (.map Kt Et)) (hK:P.underlying Kt=some D) (hm:E.ev m=some (.map (some r))) (hx:E.ev x=some k) (hy:E.ev y=some v) (hi:Γ[i]?=some (.obj r (.map es c))) (hL:MapG D es L) (hk:IsKey D k) (hn:∀ v,(k,v) ∉ L) :
  Gets P ⟨dst,.mapUpdate t m x y,ty,pos,after,none⟩ n ds E w (fun _ w'=>∃ es' c',MapG D es' (L++[(k,v)])/\St F w0 w' (Γ.set i (.obj r (.map es' c')))):=fun a ha K Q kk=>by
 obtain ⟨es',c',hrun,h1⟩:=a7Z (v:=v) ht hK (hS.at_ hi).1 hL hk hn;have hex:(execOp a.eval ⟨dst,.mapUpdate t m x y,ty,pos,after,none⟩).run P w=.ok .skip { w with heap:=w.heap.setIfInBounds r (.map es' c') }:=by
  simp only [execOp,ha.ev hm,ha.ev hx,ha.ev hy,Sem.run_bind,hrun,Result.andThen_ok,Sem.run_pure]
 unfold Oper.wp;rw [hex];exact kk undef _ ⟨es',c',h1,hS.updMap hi es' c'⟩
theorem b1j (hS:St F w0 w Γ) {t Kt Et:TypeId} {m x y:Operand} {r c i:Nat} {es:Array MapEntry} {L:List (Value×Value)} {k u v:Value} (ht:P.underlying t=some (.map Kt Et)) (hK:P.underlying Kt=some D) (hm:E.ev m=some (.map (some r))) (hx:E.ev x=some k) (hy:E.ev y=some v) (hi:Γ[i]?=some (.obj r (.map es c))) (hL:MapG D es L) (hk:IsKey D k) (hu:(k,u) ∈ L) :
  Gets P ⟨dst,.mapUpdate t m x y,ty,pos,after,none⟩ n ds E w (fun _ w'=>∃ es' c' j u',L[j]?=some (k,u')/\MapG D es' (L.set j (k,v))/\St F w0 w' (Γ.set i (.obj r (.map es' c')))):=fun a ha K Q kk=>by
 obtain ⟨es',j,hrun,⟨u',h1⟩,h2⟩:=a8D (v:=v) ht hK (hS.at_ hi).1 hL hk hu;have hex:(execOp a.eval ⟨dst,.mapUpdate t m x y,ty,pos,after,none⟩).run P w=.ok .skip { w with heap:=w.heap.setIfInBounds r (.map es' c) }:=by
  simp only [execOp,ha.ev hm,ha.ev hx,ha.ev hy,Sem.run_bind,hrun,Result.andThen_ok,Sem.run_pure]
 unfold Oper.wp;rw [hex];exact kk undef _ ⟨es',c,j,u',h1,h2,hS.updMap hi es' c⟩
theorem a7w (hS:St F w0 w Γ) {t:TypeId}:Gets P ⟨dst,.makeMap t none,ty,pos,after,none⟩ n ds E w (fun v w'=>∃ r,v=.map (some r)/\St F w0 w' (.obj r (.map #[] 0)::Γ)):=fun a ha K Q k=>by
 have hex:(execOp a.eval ⟨dst,.makeMap t none,ty,pos,after,none⟩).run P w=.ok (.value (.map (some w.heap.size))) (w.alloc (.map #[] 0)):=by
  simp only [execOp];rfl
 unfold Oper.wp;rw [hex];exact k _ _ ⟨_,rfl,hS.new (World.grownBy_alloc w _ none) ⟨(heap_alloc w _).1,rfl⟩ (by simp [Asr.fp])⟩
end
end Go.Proofs.YtejnpppejalhfacGreat
namespace Go.Proofs.YtejnpppejalhfacGreat
set_option maxRecDepth 100000
set_option maxHeartbeats 8000000
open Go.RowKit Go.Sort
section
variable {P:Program} {n:Nat} {ds:List Deferred} {E:Fr} {w:World} {Q:Exit->Act->World->Prop} {ops:Array Oper} {rest:List Oper} {d:Nat} {dst:Option Nat} {ty:TypeId} {pos:String} {after:Array Edge} {F:Nat->Prop} {w0:World} {Γ:List Asr} {T:Tab}
theorem b22 {x y:Operand} {ats:Array TypeId} {m k:Int} (hx:E.ev x=some (.int .i64 m)) (hy:E.ev y=some (.int .i64 k)):∀ a,Has n ds a E->∀ dst,x7 P ⟨dst,.call { callee:=.builtin .min,args:=#[x,y],argTypes:=ats },ty,pos,after,none⟩ a (.int .i64 (min m k)):=fun a ha dst w=>by
 have e:(if k < m then k else m)=min m k:=by omega
 simp [execOp,resolve,invoke,builtin,ha.ev hx,ha.ev hy,Builtin.min_,Builtin.min2,Result.andThen,e]
theorem a83 (old c:List Value) (h:c.length<=old.length):n8 old 0 c=c++old.drop c.length:=by
 conv=>lhs;rw [<- xj8 c.length old]
 rw [a1E _ _ _ _ (by simp;omega),a4K _ _ (by simp;omega)]
theorem b0I (hS:St F w0 w Γ) (hT:TabOk P T) {t u e m cap g i:Nat} {ty2:TypeId} {x y:Operand} {old l:List UInt8} (ht:T.get t=some (.sl e 1 1 false [.int .u8 0])) (hx:E.ev x=some (.slice (some ⟨g,0,none⟩) m cap)) (hi:Γ[i]?=some (.row e 1 (.slice (some ⟨g,0,none⟩) m cap) (bR old))) (hy:E.ev y=some (.string ⟨l.toArray⟩)) :
  Gets P ⟨dst,.call { callee:=.builtin .copy,args:=#[x,y],argTypes:=#[t,u] },ty2,pos,after,none⟩ n ds E w (fun v' w'=>v'=.int .i64 ((l.take m).length:Nat)/\St F w0 w' (Γ.set i (.row e 1 (.slice (some ⟨g,0,none⟩) m cap) (bR (l.take m++old.drop (l.take m).length))))):=by
 intro a ha K Q k;obtain ⟨hown,hlen,hone⟩:=hS.at_ hi;rcases hown.2 with ⟨hv,_⟩|⟨g',cap',cur,hv,_,hg,hmc,hcm,hcs,htake⟩
 ·cases hv
 have hol:(bR old).length=old.length:=a1H old
 cases hv
 rw [hol] at hmc htake hx hi;simp only [hol] at k;obtain ⟨c,hc⟩:∃ c,c=l.take old.length:=⟨_,rfl⟩;have hcl:c.length=min l.length old.length:=by rw [hc,xa1];omega
 have hHL:HoldL w g cur.toList:=⟨e,hg⟩;have hcu:old.length<=cur.size:=by rw [hcs];omega
 obtain ⟨ji,zv,hu,hinfo,_,hs,hby,hz,hzl,_,hsz,hs0⟩:=hT.sl ht;have hst:=run_storeCells_cells (P:=P) g 0 (c.map fun b=>Value.int .u8 (b.toNat:Int)) 0 w (fun j hj=>by
  rw [xj5] at hj;rw [hHL.cell];simp only [xi1];exact ⟨_,xd1 (by simp;omega)⟩) (fun j _=>hHL.frozen _) (by simp [Value.oneCell'])
 have hcs2:((ByteArray.extract ⟨l.toArray⟩ 0 (Nat.min l.length old.length)).data.map fun b=>Value.int .u8 (b.toNat:Int)).toList=c.map fun b=>Value.int .u8 (b.toNat:Int):=by
  rw [a1G,hc,show l.take old.length=l.take (Nat.min l.length old.length) by rw [List.take_eq_take_iff];show min old.length l.length=min (min l.length old.length) l.length;omega];simp
 have hrun:(Builtin.copy_ #[t,u] ty2 #[.slice (some ⟨g,0,none⟩) old.length cap,.string ⟨l.toArray⟩]).run P w=.ok (goInt c.length) (w.setCells g 0 (c.map fun b=>Value.int .u8 (b.toNat:Int))):=by
  simp [Builtin.copy_,run_underlying hu,Builtin.lenOf,Builtin.firstCells,sizeOf,typeInfo,hinfo,hs,ByteArray.size];have e:List.take (Nat.min l.length old.length) (l.map fun b=>Value.int .u8 (b.toNat:Int))=c.map fun b=>Value.int .u8 (b.toNat:Int):=by rw [<- List.map_take,hc,show l.take old.length=l.take (Nat.min l.length old.length) by rw [List.take_eq_take_iff];show min old.length l.length=min (min l.length old.length) l.length;omega]
  rw [e,hst,hcl];rfl
 have hex:(execOp a.eval ⟨dst,.call { callee:=.builtin .copy,args:=#[x,y],argTypes:=#[t,u] },ty2,pos,after,none⟩).run P w=.ok (.value (.int .i64 (c.length:Nat))) (w.setCells g 0 (c.map fun b=>Value.int .u8 (b.toNat:Int))):=by
  simp [execOp,resolve,invoke,builtin,ha.ev hx,ha.ev hy,hrun,Result.andThen,goInt]
 unfold Oper.wp;rw [hex];simp only [<- hc] at k;have hcel:(bR (c++old.drop c.length)).length=old.length:=by rw [a1H,xd6,xj6];omega
 refine k _ _ ⟨rfl,hS.upd hi (x8 w g 0 _) ⟨⟨?_,.inr ⟨g,cap,_,by rw [hcel],xf0 _,a1q hg 0 _,by rw [hcel];exact hmc,hcm,by simp [a2Z,hcs],?_⟩⟩,?_,?_⟩ (fun q hq=>xc7 hq)⟩
 ·rw [a4i,xj5,hcel,xd6,xj6];omega
 ·rw [hcel,Nat.mul_one,xf1,a83 _ _ (by simp;omega),a4i,xk2,xj5,List.take_append];rw [Nat.mul_one,a4i] at htake;have h1:(c.map fun b=>Value.int .u8 (b.toNat:Int)).take old.length=c.map fun b=>Value.int .u8 (b.toNat:Int):=xa0 (by rw [xj5];omega);rw [h1,xj5,List.map_drop,<- htake,List.drop_take]
 ·intro r hr;unfold bR at hr;obtain ⟨b,_,rfl⟩:=xi0.1 hr;rfl
 ·intro r hr;unfold bR at hr;obtain ⟨b,_,rfl⟩:=xi0.1 hr;rfl
end
end Go.Proofs.YtejnpppejalhfacGreat
namespace Go.Proofs.YtejnpppejalhfacGreat
set_option maxRecDepth 100000
set_option maxHeartbeats 8000000
open Go.RowKit Go.Sort Go.MapKept
section
variable {P:Program} {n:Nat} {ds:List Deferred} {E:Fr} {w:World} {Q:Exit->Act->World->Prop} {ops:Array Oper} {rest:List Oper} {d:Nat} {dst:Option Nat} {ty:TypeId} {pos:String} {after:Array Edge} {F:Nat->Prop} {w0:World} {Γ:List Asr} {T:Tab}
theorem a7W (hS:St F w0 w Γ) {t Kt Et:TypeId} {x:Operand} {r c i:Nat} {es:Array MapEntry} (ht:P.underlying t=some (.map Kt Et)) (hx:E.ev x=some (.map (some r))) (hi:Γ[i]?=some (.obj r (.map es c))) :
  Gets P ⟨dst,.call { callee:=.builtin .len,args:=#[x],argTypes:=#[t] },ty,pos,after,none⟩ n ds E w (fun v' w'=>v'=.int .i64 (es.size:Nat)/\w'=w):=Gets.of_at fun a ha=>by
 have hr:(Builtin.len_ #[t] ty #[.map (some r)]).run P w=.ok (.int .i64 es.size) w:=by
  simp [Builtin.len_,run_underlying ht,Go.MapKept.run_getObj_map (hS.at_ hi).1,goInt]
 simp [execOp,resolve,invoke,builtin,ha.ev hx,hr,Result.andThen]
theorem St.ownSl {Θ:List Asr} (hS:St F w0 w (Θ++Γ)) (i:Nat) {e sz:Nat} {v:Value} {rows:List (List Value)} (hi:Γ[i]?=some (.row e sz v rows)):Sl (fps Θ) w sz v rows:=by
 have hS2:=hS.sub (List.sublist_append_right Θ Γ);rcases hS2.rowForm i hi with ⟨rfl,rfl⟩|⟨g,cap,rfl,h1,h2⟩
 ·exact xc7 ⟨_,_,rfl,rfl⟩
 ·have hr:=hS2.rowRo i hi;refine xc4 ⟨g,0,cap,rfl,h1,h2,⟨hr.lt,fun ⟨A,hA,e⟩=>?_,hr.len,hr.one,hr.cells⟩⟩;rcases (List.pairwise_append.1 hS.apart).2.2 A hA _ (xc1 hi) with h1|h1
  ·rw [h1] at e;cases e
  ·exact h1 e
end
end Go.Proofs.YtejnpppejalhfacGreat
namespace Go.Proofs.YtejnpppejalhfacGreat
set_option maxRecDepth 100000
set_option maxHeartbeats 8000000
open Go.RowKit Go.Sort
section
variable {P:Program} {n:Nat} {ds:List Deferred} {E:Fr} {w:World} {Q:Exit->Act->World->Prop} {ops:Array Oper} {rest:List Oper} {d:Nat} {dst:Option Nat} {ty:TypeId} {pos:String} {after:Array Edge} {F:Nat->Prop} {w0:World} {Γ:List Asr} {T:Tab}
theorem a6Y (hT:TabOk P T) {t e sz eb:Nat} {ag:Bool} {ez:List Value} {yt:TypeId} {x y:Operand} {p:Option Addr} {m c:Nat} (ht:T.get t=some (.sl e sz eb ag ez)) (hx:E.ev x=some (.slice p m c)) (hy:E.ev y=some (.slice none 0 0)):∀ a,Has n ds a E->∀ dst,x7 P ⟨dst,.binOp .eql t x y yt,ty,pos,after,none⟩ a (.bool p.isNone):=fun a ha _ w=>by
 obtain ⟨ji,zv,hu,_⟩:=hT.sl ht;have e:=Go.Lib.run_eql_slice_nil (P:=P) w t _ p m c 0 0 hu;simp only [execOp,ha.ev hx,ha.ev hy,eqGuard];simp [e,Result.andThen]
theorem a6R (hT:TabOk P T) {t e sz eb:Nat} {ag:Bool} {ez:List Value} {yt:TypeId} {x y:Operand} {p:Option Addr} {m c:Nat} (ht:T.get t=some (.sl e sz eb ag ez)) (hx:E.ev x=some (.slice p m c)) (hy:E.ev y=some (.slice none 0 0)) (hd:Nat.blt d n=true) (k':WL P ops Q rest n ds ((d,.bool p.isNone)::E) w):WL P ops Q (⟨some d,.binOp .eql t x y yt,ty,pos,after,none⟩::rest) n ds E w:=x9 (fun a ha=>a6Y hT ht hx hy a ha _) hd k'
end
section
variable {P:Program} {n:Nat} {ds:List Deferred} {E:Fr} {w:World} {Q:Exit->Act->World->Prop} {ops:Array Oper} {S:World->Prop} {fuel:Nat} {li:Array Bool} {d:Nat} {op:Op} {ty:TypeId} {pos:String} {after:Array Edge} {F:Nat->Prop} {w0:World} {Γ:List Asr} {T:Tab}
theorem a9o {X:Type} (vf:X->Fr) (Γf:X->List Asr) (p:X->Prop) {x y:Code} {Q1 Q2:Exit->Act->World->Prop} (hx:WC P x (Exit.then (fun a' w'=>∃ m,Has n ds a' (vf m)/\(p m/\St F w0 w' (Γf m))) Q2) n ds E w) (hz:∀ m w',p m->St F w0 w' (Γf m)->WC P y Q1 n ds (vf m) w'):WC P x (Exit.then (y.wp P Q1) Q2) n ds E w:=fun a ha=>
 Code.wp_mono (fun e a' w' q=>by
  cases e with
  |normal=>obtain ⟨m,h1,h2,h3⟩:=q;exact hz m w' h2 h3 a' h1
  |exit i=>exact q
  |goto l=>exact q
  |ret=>exact q
  |panic c=>exact q
  |outgrown=>exact q) (hx a ha)
theorem a4l {X:Type} {vf:X->Fr} {Γf:X->List Asr} {p:X->Prop} {Q2:Exit->Act->World->Prop} (m:X) (h0:Fr.sub (vf m) E) (hp:p m) (hS:St F w0 w (Γf m)):WQ (Exit.then (fun a' w'=>∃ m,Has n ds a' (vf m)/\(p m/\St F w0 w' (Γf m))) Q2) .normal n ds E w:=fun _ ha=>⟨m,ha.sub h0,hp,hS⟩
theorem St.slMem {e sz:Nat} {v:Value} {rows:List (List Value)} (hS:St F w0 w Γ) (h:Asr.row e sz v rows ∈ Γ):Sl nF w sz v rows:=by
 obtain ⟨j,hj⟩:=xc9.1 h;exact hS.rowSl j hj
end
section
variable {P:Program} {n:Nat} {ds:List Deferred} {E:Fr} {w w':World} {Q:Exit->Act->World->Prop} {ops:Array Oper} {rest:List Oper} {d:Nat} {dst:Option Nat} {ty:TypeId} {pos:String} {after:Array Edge} {F:Nat->Prop} {w0:World} {Γ:List Asr} {T:Tab}
theorem a5j (g o k:Nat):(⟨g,o,none⟩:Addr).add k=⟨g,o + k,none⟩:=by unfold Addr.add;split <;> simp_all
theorem b2y (hT:TabOk P T) {t el sz eb m c:Nat} {p:Option Addr} {ag:Bool} {z:List Value} {x:Operand} (ht:T.get t=some (.sl el sz eb ag z)) (hx:E.ev x=some (.slice p m c)):∀ a,Has n ds a E->∀ dst,x7 P ⟨dst,.call { callee:=.builtin .cap,args:=#[x],argTypes:=#[t] },ty,pos,after,none⟩ a (.int .i64 (c:Nat)):=fun a ha _ w=>by
 obtain ⟨ji,zv,hu,_⟩:=hT.sl ht;have hr:(Builtin.cap_ #[t] ty #[.slice p m c]).run P w=.ok (.int .i64 (c:Nat)) w:=by
  simp [Builtin.cap_,run_underlying hu,goInt]
 simp [execOp,resolve,invoke,builtin,ha.ev hx,hr,Result.andThen]
def a0Z (rows news:List (List Value)) (k:Nat):List (List Value):=rows.take k++(news++rows.drop (k + news.length))
theorem a3v {rows news:List (List Value)} {k:Nat} (hk:k<=rows.length):(a0Z rows news k).length=max rows.length (k + news.length):=by
 unfold a0Z;rw [xd6,xd6,xa1,xj6];omega
theorem a3W {rows:List (List Value)} {sz:Nat} (hs:∀ r ∈ rows,r.length=sz) (k:Nat):rows.flatten.take (k * sz)=(rows.take k).flatten:=by
 have h1:rows.flatten=(rows.take k).flatten++(rows.drop k).flatten:=by rw [<- xe6,xj8]
 by_cases hk:k<=rows.length
 ·have hl:(rows.take k).flatten.length=k * sz:=by
   rw [j4 (fun r hr=>hs r (xe5 hr)),xa1]
   congr 1;omega
  rw [h1,List.take_left' hl]
 ·rw [xa0 (by rw [j4 hs];exact xj2 _ (by omega)),xa0 (l:=rows) (by omega)]
theorem a64 {rows:List (List Value)} {sz:Nat} (hs:∀ r ∈ rows,r.length=sz) (k:Nat):rows.flatten.drop (k * sz)=(rows.drop k).flatten:=by
 have h1:rows.flatten=(rows.take k).flatten++(rows.drop k).flatten:=by rw [<- xe6,xj8]
 by_cases hk:k<=rows.length
 ·have hl:(rows.take k).flatten.length=k * sz:=by
   rw [j4 (fun r hr=>hs r (xe5 hr)),xa1]
   congr 1;omega
  rw [h1,List.drop_left' hl]
 ·rw [xk6 (by rw [j4 hs];exact xj2 _ (by omega)),xk6 (l:=rows) (by omega)];rfl
theorem a6c {e sz g m cap k:Nat} {rows news:List (List Value)} (h:Asr.holds w (.row e sz (.slice (some ⟨g,0,none⟩) m cap) rows)) (hk:k<=rows.length) (hn:k + news.length<=cap) (hs:∀ r ∈ news,r.length=sz) (h1:∀ r ∈ news,r.all (·.oneCell')=true) :
  ∃ w',(storeCells ⟨g,k * sz,none⟩ news.flatten).run P w=.ok () w'/\w.grownBy w' (some g)/\Asr.holds w' (.row e sz (.slice (some ⟨g,0,none⟩) (a0Z rows news k).length cap) (a0Z rows news k)):=by
 obtain ⟨ho,hlen,hone⟩:=h;rcases ho.2 with ⟨he,_⟩|⟨g',cap',cur,hv,_,hg,hnc,hcm,hcs,htake⟩
 ·cases he
 cases hv
 have hsl:news.flatten.length=news.length * sz:=j4 hs;have hfit:k * sz + news.flatten.length<=cur.size:=by
  rw [hsl,hcs,<- Nat.add_mul];exact xj2 _ hn
 have hst:=run_storeCells_at P g (k * sz) e news.flatten 0 cur w hg (by simpa using hfit) (fun v hv=>by
  obtain ⟨r,hr,hur⟩:=List.mem_flatten.1 hv;exact xb8.1 (h1 r hr) v hur)
 refine ⟨_,hst,⟨rfl,rfl,rfl,by simp [World.setRow,World.heap],fun j hj hne=>?_⟩,⟨⟨j4 (fun r hr=>?_),.inr ⟨g,cap,_,rfl,xf0 _,setRow_heap w g cur _ e (0,0) hg,?_,hcm,?_,?_⟩⟩,fun r hr=>?_,fun r hr=>?_⟩⟩
 ·have:g≠j:=fun e=>hne (by rw [e]);simp [World.setRow,Array.getElem?_modify,this]
 ·unfold a0Z at hr;rcases xd2.1 hr with hr|hr
  ·exact hlen r (xe5 hr)
  ·rcases xd2.1 hr with hr|hr
   ·exact hs r hr
   ·exact hlen r (xk7 hr)
 ·rw [a3v hk];omega
 ·rw [hsl] at hfit |-;simp only [List.size_toArray,xd6,xa1,xj6,xf5,xe9,hsl];omega
 ·have hcl:cur.toList.length=cap * sz:=by simpa using hcs
  have hct:cur.toList.take (k * sz)=(rows.take k).flatten:=by
   rw [<- a3W hlen,<- htake,List.take_take]
   congr 1
   exact (Nat.min_eq_left (xj2 _ hk)).symm
  have hrl:(rows.take k).flatten.length=k * sz:=by
   rw [j4 (fun r hr=>hlen r (xe5 hr)),xa1]
   congr 1;omega
  simp only [xe9,xf1];rw [hct,a3v hk,xe7];unfold a0Z;rw [xe6,xe6];rw [List.take_append,xa0 (l:=(rows.take k).flatten) (by rw [hrl];exact xj2 _ (by omega)),hrl]
  congr 1
  rw [List.take_append,xa0 (l:=news.flatten) (by rw [hsl,<- xk8];exact xj2 _ (by omega)),hsl]
  congr 1
  by_cases hc:k + news.length<=rows.length
  ·rw [show max rows.length (k + news.length)=rows.length by omega,<- xk8,<- xk8,<- a64 hlen,<- htake];rw [show k * sz + news.length * sz=(k + news.length) * sz by rw [Nat.add_mul],List.drop_take,<- xk8]
   congr 2
   omega
  ·rw [show max rows.length (k + news.length)=k + news.length by omega,xk6 (l:=rows) (by omega)];rw [<- xk8,<- xk8,show k + news.length - k - news.length=0 by omega];simp
 ·unfold a0Z at hr;rcases xd2.1 hr with hr|hr
  ·exact hlen r (xe5 hr)
  ·rcases xd2.1 hr with hr|hr
   ·exact hs r hr
   ·exact hlen r (xk7 hr)
 ·unfold a0Z at hr;rcases xd2.1 hr with hr|hr
  ·exact hone r (xe5 hr)
  ·rcases xd2.1 hr with hr|hr
   ·exact h1 r hr
   ·exact hone r (xk7 hr)
theorem RoAt.drop {G:Nat->Prop} {b off sz:Nat} {rows:List (List Value)} (h:RoAt G w b off sz rows) (k:Nat):RoAt G w b (off + k * sz) sz (rows.drop k) :=
 ⟨h.lt,h.nf,fun r hr=>h.len r (xk7 hr),fun r hr=>h.one r (xk7 hr),fun i r hr j u hj=>by
  rw [xe3] at hr;have:=h.cells (k + i) r hr j u hj
  rwa [show off + k * sz + i * sz + j=off + (k + i) * sz + j by rw [Nat.add_mul];omega]⟩
theorem St.shrink (hS:St F w0 w Γ) (i:Nat) {e sz g m cap:Nat} {rows:List (List Value)} (k:Nat) (hi:Γ[i]?=some (.row e sz (.slice (some ⟨g,0,none⟩) m cap) rows)) (hk:k<=rows.length):St F w0 w (Γ.set i (.row e sz (.slice (some ⟨g,0,none⟩) k cap) (rows.take k))):=by
 refine hS.upd hi ⟨rfl,rfl,rfl,xc5 _,fun _ _ _=>rfl⟩ ?_ (fun q hq=>xc7 hq);obtain ⟨ho,hlen,hone⟩:=hS.at_ hi;rcases ho.2 with ⟨he,_⟩|⟨g',cap',cur,hv,_,hg,hnc,hcm,hcs,htake⟩
 ·cases he
 cases hv
 refine ⟨⟨j4 (fun r hr=>hlen r (xe5 hr)),.inr ⟨g,cap,cur,by rw [xa1,Nat.min_eq_left hk],xf0 _,hg,by rw [xa1];omega,hcm,hcs,?_⟩⟩,fun r hr=>hlen r (xe5 hr),fun r hr=>hone r (xe5 hr)⟩;rw [xa1,Nat.min_eq_left hk,<- a3W hlen,<- htake,List.take_take,Nat.min_eq_left (xj2 _ hk)]
end
section
variable {P:Program} {n:Nat} {ds:List Deferred} {E:Fr} {w w':World} {Q:Exit->Act->World->Prop} {ops:Array Oper} {rest:List Oper} {d:Nat} {dst:Option Nat} {ty:TypeId} {pos:String} {after:Array Edge} {F:Nat->Prop} {w0:World} {Γ:List Asr} {T:Tab}
def a8e (p:Option Addr) (m c j sz:Nat):Value:=.slice (if c=j then p else p.map fun q=>q.add (j * sz)) (m - j) (c - j)
theorem a5Z (hT:TabOk P T) {t el sz eb m c j:Nat} {p:Option Addr} {ag:Bool} {z:List Value} {x y:Operand} {i:Int} (ht:T.get t=some (.sl el sz eb ag z)) (hx:E.ev x=some (.slice p m c)) (hy:E.ev y=some (.int .i64 i)) (hj:(j:Int)=i) (hm:j<=m):∀ a,Has n ds a E->∀ dst,x7 P ⟨dst,.slice t x (some y) none none,ty,pos,after,none⟩ a (a8e p m c j sz):=fun a ha _ w=>by
 obtain ⟨ji,zv,hu,hinfo,_,hs,_⟩:=hT.sl ht;subst hj;have hb:(Instr.sliceBounds true m c (some (.int .i64 (j:Int))) none none).run P w=.ok (j,m,c) w:=by
  simp [Instr.sliceBounds,run_sliceBound,hm]
 simp only [execOp,ha.ev hx,ha.ev hy,xg1,xk4];simp [Instr.sliceAt,Instr.slice,run_underlying hu,hb,sizeOf,typeInfo,hinfo,hs,a8e]
end
section
variable {P:Program} {n:Nat} {ds:List Deferred} {E:Fr} {w w':World} {Q:Exit->Act->World->Prop} {ops:Array Oper} {rest:List Oper} {d:Nat} {dst:Option Nat} {ty:TypeId} {pos:String} {after:Array Edge} {F:Nat->Prop} {w0:World} {Γ:List Asr} {T:Tab}
theorem b0f {t yt:TypeId} {x y:Operand} {p:Option Addr} (ht:P.underlying t=some (.pointer (P.pointee t))) (hx:E.ev x=some (.pointer p)) (hy:E.ev y=some (.pointer none)):∀ a,Has n ds a E->∀ dst,x7 P ⟨dst,.binOp .eql t x y yt,ty,pos,after,none⟩ a (.bool p.isNone):=fun a ha _ w=>by
 have e:=run_eql_pointer_nil (P:=P) (w:=w) t p ht;simp only [execOp,ha.ev hx,ha.ev hy,eqGuard];simp [e,Result.andThen]
end
def a9e (P:Program) (t:TypeId) (name:String) (f:FuncId):Bool:=match P.info? t,P.underlying t with
 |some i,some (.pointer _)=>match i.methods.find? (·.name == name) with
  |some m=>m.path.toList.isEmpty && (match m.func with
   |some (g,true)=>Nat.beq g f
   |_=>false)
  |none=>false
 |_,_=>false
section
variable {P:Program} {w:World}
theorem a5C {t:TypeId} {name:String} {f:FuncId} (h:a9e P t name f=true) (k:Nat) (v:Value):(method (k + 1) t v name).run P w=.ok (f,v) w:=by
 unfold a9e at h
 split at h
 ·rename_i i e hi hu
  split at h
  ·rename_i m hm;rw [xb7] at h;obtain ⟨h1,h2⟩:=h
   split at h2
   ·rename_i g hf;obtain rfl:=xa9 h2;have hp:m.path.toList=[]:=by simpa using h1
    have hi2:(typeInfo t).run P w=.ok i w:=by
     unfold typeInfo;simp [Sem.run_bind,run_program,Result.andThen_ok,hi]
    have hu2:(underlying t).run P w=.ok (.pointer e) w:=by
     unfold underlying;simp [Sem.run_bind,run_program,Result.andThen_ok,hu]
    unfold method;simp only [Sem.run_bind,hi2,Result.andThen_ok,hm,hp,hf,follow,Sem.run_pure,receiverAt,hu2,Place.get]
   ·cases h2
  ·cases h
 ·cases h
theorem a9y {E:Fr} {n:Nat} {ds:List Deferred} {dst:Option Nat} {ty:TypeId} {pos:String} {after:Array Edge} {f:FuncId} {x:Operand} {name:String} {args:Array Operand} {ats:Array TypeId} {vs:List Value} {t:TypeId} {u:Value} {Φ:Value->World->Prop} (hx:E.ev x=some (.iface t u)) (hv:E.evs args.toList=some vs) (hm:a9e P t name f=true) (h:Fn P f (u::vs) w Φ) :
  Gets P ⟨dst,.call { callee:=.invoke x name,args:=args,argTypes:=ats },ty,pos,after,none⟩ n ds E w Φ:=by
 intro a ha K Q k;obtain ⟨⟨fn,hok⟩,hc⟩:=h;have e1:args.map a.eval=vs.toArray:=by rw [<- ha.evs hv,<- xc2,xc3]
 have hd:0 < Made.depth:=by decide
 obtain ⟨kk,hk⟩:∃ kk,P.types.size + Made.depth=kk + 1:=⟨P.types.size + Made.depth - 1,by omega⟩;have hrun:(execOp a.eval ⟨dst,.call { callee:=.invoke x name,args:=args,argTypes:=ats },ty,pos,after,none⟩).run P w=.ok (.enter f (u::vs).toArray) w:=by
  simp only [execOp,resolve,ha.ev hx,Sem.run_bind,Sem.run_pure,Result.andThen_ok,invoke,e1];have e2:(#[Value.iface t u]++vs.toArray)[0]?=some (.iface t u):=by simp
  have e3:(#[Value.iface t u]++vs.toArray).extract 1 (#[Value.iface t u]++vs.toArray).size=vs.toArray:=by simp
  rw [e2,e3];simp only [callMethod,Sem.run_bind,run_program,Result.andThen_ok];rw [hk,a5C hm];simp only [Result.andThen_ok];rw [a0M hok];simp
 unfold Oper.wp;rw [hrun];exact hc.mono fun e w' ⟨v,he,hΦ⟩=>by subst he;exact k v w' hΦ
end
theorem d7 (x a b:Int) (w:World):Fn Tryz.prog 70 [.int .i64 x,.int .i64 a,.int .i64 b] w (RBf (.bool (decide (a<=x/\x<=b))) w):=by
 refine yEn Tryz.func70 Tryz.ntmps70 (by kernel_rfl) (by kernel_rfl) rfl rfl ?_;have hS:=St.start w
 repeat' (first|(with_reducible apply a5 a4);rfl;rfl;rfl|refine yDn (by with_reducible constructor) ?_|(with_reducible apply e9);(iterate 4 rfl);assumption|(with_reducible apply o4);(iterate 4 rfl);assumption;rfl|(with_reducible apply d9);rfl;assumption;rfl;rfl|(with_reducible apply a7);rfl;assumption;rfl;rfl|(with_reducible apply w5);rfl;rfl;rfl;all_goals (intro hb hp;try (exfalso;omega)))
 ·(refine d4 rfl ?_)
  exact ⟨by simp [hp],hS⟩
 ·(refine d4 rfl ?_)
  exact ⟨by simp;omega,hS⟩
theorem l9 {α:Type} {l:List α} {i:Nat} (h:(i:Int) < l.length):∃ x,l[i]?=some x:=⟨l[i]'(by omega),by simp⟩
def ftC (p:Int×Int):List Value:=[.int .i64 p.1,.int .i64 p.2]
theorem a8U (a b:Int×Int):a3s Tryz.prog 99 (ftC a) (ftC b) (decide (a=b)):=by
 refine ⟨fun w=>?_,by kernel_rfl⟩;obtain ⟨a1,a2⟩:=a;obtain ⟨b1,b2⟩:=b;unfold ftC;simp [go_sem]
 repeat' split
 all_goals simp_all
theorem b0n (p:Pc) (live:Bool) (w:World):Fn Tryz.prog 80 [.agg (prC p).toArray,.bool live] w (RBf (.bool (o5 p live)) w):=by
 obtain ⟨r0,r1,r2,r3,r4,r5,r6,r7,pc,state,code,fk,fa⟩:=p;unfold prC;dsimp only;by_cases hs:state=1
 ·have hd1:decide (state=1)=true:=xh7 hs
  cases live with
  |false=>
   refine yEn Tryz.func80 Tryz.ntmps80 (by kernel_rfl) (by kernel_rfl) rfl rfl ?_;have hS:=St.start w
   repeat' (first|(with_reducible apply a5 a4);rfl;rfl;rfl|(with_reducible apply a6);rfl;(apply Ld.sc a4;rfl;exact hS.blkC 0 rfl rfl);rfl|refine yDn (by with_reducible constructor) ?_|(with_reducible apply o4);(iterate 4 rfl);rfl;rfl|(with_reducible apply a7);rfl;rfl;rfl;rfl|(with_reducible apply a9);rfl;assumption|(with_reducible apply d8 hS);rfl;rfl;rfl;clear hS;intro g w' hS)
   (refine d4 rfl ?_)
   exact ⟨by unfold o5;simp [hs,hd1],hS.sub (xh8 _)⟩
  |true=>
   by_cases hc:code=0
   ·have hdc:decide (code=0)=true:=xh7 hc;refine yEn Tryz.func80 Tryz.ntmps80 (by kernel_rfl) (by kernel_rfl) rfl rfl ?_;have hS:=St.start w
    repeat' (first|(with_reducible apply a5 a4);rfl;rfl;rfl|(with_reducible apply a6);rfl;(apply Ld.sc a4;rfl;exact hS.blkC 0 rfl rfl);rfl|(with_reducible apply s6 a4);rfl;rfl;exact (rfl:_=some [_,_]);rfl|refine yDn (by with_reducible constructor) ?_|((with_reducible apply e9);(iterate 4 rfl);first|rfl|assumption)|(with_reducible apply d9);rfl;(first|rfl|assumption);rfl;rfl|(with_reducible apply a9);rfl;assumption|(with_reducible apply d8 hS);rfl;rfl;rfl;clear hS;intro g w' hS|(with_reducible apply a0Y a4);rfl;rfl;rfl;refine ⟨_,hS.blkRk 0 11 2 rfl,rfl,?_⟩|(with_reducible apply a40);rfl;rfl;exact a8U (fk,fa) (0,0);rfl)
    (refine d4 rfl ?_)
    exact ⟨by unfold o5;simp [hs,hc],hS.sub (xh8 _)⟩
   ·have hdc:decide (code=0)=false:=xh9 hc;refine yEn Tryz.func80 Tryz.ntmps80 (by kernel_rfl) (by kernel_rfl) rfl rfl ?_;have hS:=St.start w
    repeat' (first|(with_reducible apply a5 a4);rfl;rfl;rfl|(with_reducible apply a6);rfl;(apply Ld.sc a4;rfl;exact hS.blkC 0 rfl rfl);rfl|refine yDn (by with_reducible constructor) ?_|(with_reducible apply e9);(iterate 4 rfl);rfl|(with_reducible apply o4);(iterate 4 rfl);assumption;rfl|(with_reducible apply d9);rfl;rfl;rfl;rfl|(with_reducible apply a7);rfl;assumption;rfl;rfl|(with_reducible apply a9);rfl;assumption|(with_reducible apply d8 hS);rfl;rfl;rfl;clear hS;intro g w' hS)
    (refine d4 rfl ?_)
    exact ⟨by unfold o5;simp [hs,hc],hS.sub (xh8 _)⟩
 have hd1:decide (state=1)=false:=xh9 hs;by_cases hs2:state=2
 ·have hd2:decide (state=2)=true:=xh7 hs2
  cases live with
  |false=>
   refine yEn Tryz.func80 Tryz.ntmps80 (by kernel_rfl) (by kernel_rfl) rfl rfl ?_;have hS:=St.start w
   repeat' (first|(with_reducible apply a5 a4);rfl;rfl;rfl|(with_reducible apply a6);rfl;(apply Ld.sc a4;rfl;exact hS.blkC 0 rfl rfl);rfl|(with_reducible apply s6 a4);rfl;rfl;exact (rfl:_=some [_,_]);rfl|refine yDn (by with_reducible constructor) ?_|(with_reducible apply e9);(iterate 4 rfl);rfl|(with_reducible apply d9);rfl;rfl;rfl;rfl|(with_reducible apply a9);rfl;assumption|(with_reducible apply f8);rfl;assumption|(with_reducible apply d8 hS);rfl;rfl;rfl;clear hS;intro g w' hS|(with_reducible apply a0Y a4);rfl;rfl;rfl;refine ⟨_,hS.blkRk 0 11 2 rfl,rfl,?_⟩|(with_reducible apply a40);rfl;rfl;exact a8U (fk,fa) (0,0);rfl)
   (refine d4 rfl ?_)
   exact ⟨by unfold o5;simp [hs,hs2],hS.sub (xh8 _)⟩
  |true=>
   refine yEn Tryz.func80 Tryz.ntmps80 (by kernel_rfl) (by kernel_rfl) rfl rfl ?_;have hS:=St.start w
   repeat' (first|(with_reducible apply a5 a4);rfl;rfl;rfl|(with_reducible apply a6);rfl;(apply Ld.sc a4;rfl;exact hS.blkC 0 rfl rfl);rfl|refine yDn (by with_reducible constructor) ?_|(with_reducible apply o4);(iterate 4 rfl);rfl;rfl|(with_reducible apply a7);rfl;rfl;rfl;rfl|(with_reducible apply a9);rfl;assumption|(with_reducible apply f8);rfl;assumption|(with_reducible apply d8 hS);rfl;rfl;rfl;clear hS;intro g w' hS)
   (refine d4 rfl ?_)
   exact ⟨by unfold o5;simp [hs,hs2],hS.sub (xh8 _)⟩
 have hd2:decide (state=2)=false:=xh9 hs2;by_cases hs3:state=3;rotate_left
 ·have hd3:decide (state=3)=false:=xh9 hs3;refine yEn Tryz.func80 Tryz.ntmps80 (by kernel_rfl) (by kernel_rfl) rfl rfl ?_;have hS:=St.start w
  repeat' (first|(with_reducible apply a5 a4);rfl;rfl;rfl|(with_reducible apply a6);rfl;(apply Ld.sc a4;rfl;exact hS.blkC 0 rfl rfl);rfl|refine yDn (by with_reducible constructor) ?_|(with_reducible apply f8);rfl;assumption|(with_reducible apply d8 hS);rfl;rfl;rfl;clear hS;intro g w' hS)
  (refine d4 rfl ?_)
  exact ⟨by unfold o5;simp [hs,hs2,hs3],hS.sub (xh8 _)⟩
 have hd3:decide (state=3)=true:=xh7 hs3
 cases live with
 |true=>
  refine yEn Tryz.func80 Tryz.ntmps80 (by kernel_rfl) (by kernel_rfl) rfl rfl ?_;have hS:=St.start w
  repeat' (first|(with_reducible apply a5 a4);rfl;rfl;rfl|(with_reducible apply a6);rfl;(apply Ld.sc a4;rfl;exact hS.blkC 0 rfl rfl);rfl|refine yDn (by with_reducible constructor) ?_|(with_reducible apply o4);(iterate 4 rfl);rfl;rfl|(with_reducible apply a7);rfl;rfl;rfl;rfl|(with_reducible apply a9);rfl;assumption|(with_reducible apply f8);rfl;assumption|(with_reducible apply d8 hS);rfl;rfl;rfl;clear hS;intro g w' hS)
  (refine d4 rfl ?_)
  exact ⟨by unfold o5;simp [hs,hs3],hS.sub (xh8 _)⟩
 |false=>
  by_cases hc:code=0;rotate_left
  ·have hdc:decide (code=0)=false:=xh9 hc;refine yEn Tryz.func80 Tryz.ntmps80 (by kernel_rfl) (by kernel_rfl) rfl rfl ?_;have hS:=St.start w
   repeat' (first|(with_reducible apply a5 a4);rfl;rfl;rfl|(with_reducible apply a6);rfl;(apply Ld.sc a4;rfl;exact hS.blkC 0 rfl rfl);rfl|refine yDn (by with_reducible constructor) ?_|(with_reducible apply e9);(iterate 4 rfl);rfl|(with_reducible apply o4);(iterate 4 rfl);(first|rfl|assumption);rfl|(with_reducible apply d9);rfl;rfl;rfl;rfl|(with_reducible apply a7);rfl;(first|rfl|assumption);rfl;rfl|(with_reducible apply a9);rfl;assumption|(with_reducible apply f8);rfl;assumption|(with_reducible apply d8 hS);rfl;rfl;rfl;clear hS;intro g w' hS)
   (refine d4 rfl ?_)
   exact ⟨by unfold o5;simp [hs,hs3,hc],hS.sub (xh8 _)⟩
  have hdc:decide (code=0)=true:=xh7 hc;by_cases hk:1<=fk
  ·have hdk:decide (1<=fk)=true:=xh7 hk;refine yEn Tryz.func80 Tryz.ntmps80 (by kernel_rfl) (by kernel_rfl) rfl rfl ?_;have hS:=St.start w
   repeat' (first|(with_reducible apply a5 a4);rfl;rfl;rfl|(with_reducible apply a6);rfl;(apply Ld.sc a4;rfl;exact hS.blkC 0 rfl rfl);rfl|refine yDn (by with_reducible constructor) ?_|((with_reducible apply e9);(iterate 4 rfl);first|rfl|assumption)|(with_reducible apply d9);rfl;(first|rfl|assumption);rfl;rfl|(with_reducible apply a9);rfl;assumption|(with_reducible apply f8);rfl;assumption|(with_reducible apply d8 hS);rfl;rfl;rfl;clear hS;intro g w' hS)
   (refine d4 rfl ?_)
   exact ⟨by unfold o5;simp [hs,hs3,hc,hk],hS.sub (xh8 _)⟩
  ·have hdk:decide (1<=fk)=false:=xh9 hk;refine yEn Tryz.func80 Tryz.ntmps80 (by kernel_rfl) (by kernel_rfl) rfl rfl ?_;have hS:=St.start w
   repeat' (first|(with_reducible apply a5 a4);rfl;rfl;rfl|(with_reducible apply a6);rfl;(apply Ld.sc a4;rfl;exact hS.blkC 0 rfl rfl);rfl|refine yDn (by with_reducible constructor) ?_|((with_reducible apply e9);(iterate 4 rfl);first|rfl|assumption)|(with_reducible apply o4);(iterate 4 rfl);assumption;rfl|(with_reducible apply d9);rfl;(first|rfl|assumption);rfl;rfl|(with_reducible apply a7);rfl;assumption;rfl;rfl|(with_reducible apply a9);rfl;assumption|(with_reducible apply f8);rfl;assumption|(with_reducible apply d8 hS);rfl;rfl;rfl;clear hS;intro g w' hS)
   (refine d4 rfl ?_)
   exact ⟨by unfold o5;simp [hs,hs3,hc,hk],hS.sub (xh8 _)⟩
theorem a5r (p:Pc) (live:Bool) (w:World):Fn Tryz.prog 83 [.agg (prC p).toArray,.bool live] w (RBf (.bool (o5 p live)) w):=by
 obtain ⟨r0,r1,r2,r3,r4,r5,r6,r7,pc,state,code,fk,fa⟩:=p;unfold prC;dsimp only;have hin:1<=state/\state<=3 ↔ state=1\/state=2\/state=3:=by omega
 by_cases hw:1<=state/\state<=3;rotate_left
 ·have hdw:decide (1<=state/\state<=3)=false:=xh9 hw;have hs:¬state=1:=by omega
  have hs2:¬state=2:=by omega
  have hs3:¬state=3:=by omega
  refine yEn Tryz.func83 Tryz.ntmps83 (by kernel_rfl) (by kernel_rfl) rfl rfl ?_;have hS:=St.start w
  repeat' (first|(with_reducible apply a5 a4);rfl;rfl;rfl|(with_reducible apply a6);rfl;(apply Ld.sc a4;rfl;exact hS.blkC 0 rfl rfl);rfl|refine yDn (by with_reducible constructor) ?_|(with_reducible apply o4);(iterate 4 rfl);(first|rfl|assumption);rfl|(with_reducible apply a9Q);(iterate 5 rfl)|(with_reducible apply d9);rfl;(first|rfl|assumption);rfl;rfl|(with_reducible apply a9);rfl;rfl|(with_reducible apply d8 hS);rfl;rfl;rfl;clear hS;intro g w' hS|(with_reducible apply r9);rfl;rfl;rfl;all_goals (intro hb hp;try (exfalso;omega))|(with_reducible apply b5 hS);rfl;rfl;rfl;refine ⟨_,d7 _ _ _ _,?_⟩;clear hS;intro w' hS)
  (refine d4 rfl ?_)
  exact ⟨by unfold o5;simp [hs,hs2,hs3],hS.sub (xh8 _)⟩
 have hdw:decide (1<=state/\state<=3)=true:=xh7 hw;by_cases hs:state=1
 ·have hd1:decide (state=1)=true:=xh7 hs;have hd2:decide (state=2)=false:=xh9 (by omega);have hd3:decide (state=3)=false:=xh9 (by omega);have hbt:(!decide (true=decide (state=1)))=false:=by rw [hd1];rfl
  have hbf:(!decide (false=decide (state=1)))=true:=by rw [hd1];rfl
  by_cases hc:code=0
  ·have hdc:decide (code=0)=true:=xh7 hc
   cases live with
   |false=>
    refine yEn Tryz.func83 Tryz.ntmps83 (by kernel_rfl) (by kernel_rfl) rfl rfl ?_;have hS:=St.start w
    repeat' (first|(with_reducible apply a5 a4);rfl;rfl;rfl|(with_reducible apply a6);rfl;(apply Ld.sc a4;rfl;exact hS.blkC 0 rfl rfl);rfl|(with_reducible apply a1p a4);(iterate 4 rfl)|refine yDn (by with_reducible constructor) ?_|((with_reducible apply e9);(iterate 4 rfl);first|rfl|assumption)|(with_reducible apply o4);(iterate 4 rfl);assumption;rfl|(with_reducible apply a7);rfl;(first|rfl|assumption);rfl;rfl|(with_reducible apply a9);rfl;assumption|(with_reducible apply d8 hS);rfl;rfl;rfl;clear hS;intro g w' hS|(with_reducible apply r9);rfl;rfl;rfl;all_goals (intro hb hp;try (exfalso;omega))|(with_reducible apply b5 hS);rfl;rfl;rfl;refine ⟨_,d7 _ _ _ _,?_⟩;clear hS;intro w' hS)
    (refine d4 rfl ?_)
    exact ⟨by unfold o5;simp [hs,hc],hS.sub (xh8 _)⟩
   |true=>
    refine yEn Tryz.func83 Tryz.ntmps83 (by kernel_rfl) (by kernel_rfl) rfl rfl ?_;have hS:=St.start w
    repeat' (first|(with_reducible apply a5 a4);rfl;rfl;rfl|(with_reducible apply a6);rfl;(apply Ld.sc a4;rfl;exact hS.blkC 0 rfl rfl);rfl|(with_reducible apply a1p a4);(iterate 4 rfl)|(with_reducible apply s6 a4);rfl;rfl;exact (rfl:_=some [_,_]);rfl|refine yDn (by with_reducible constructor) ?_|((with_reducible apply e9);(iterate 4 rfl);first|rfl|assumption)|(with_reducible apply o4);(iterate 4 rfl);assumption;rfl|(with_reducible apply a7);rfl;(first|rfl|assumption);rfl;rfl|(with_reducible apply f8);rfl;assumption|(with_reducible apply d8 hS);rfl;rfl;rfl;clear hS;intro g w' hS|(with_reducible apply r9);rfl;rfl;rfl;all_goals (intro hb hp;try (exfalso;omega))|(with_reducible apply b5 hS);rfl;rfl;rfl;refine ⟨_,d7 _ _ _ _,?_⟩;clear hS;intro w' hS|(with_reducible apply a0Y a4);rfl;rfl;rfl;refine ⟨_,hS.blkRk 0 11 2 rfl,rfl,?_⟩|(with_reducible apply a40);rfl;rfl;exact a8U (fk,fa) (0,0);rfl)
    (refine d4 rfl ?_)
    exact ⟨by unfold o5;simp [hs,hc],hS.sub (xh8 _)⟩
  ·have hdc:decide (code=0)=false:=xh9 hc;refine yEn Tryz.func83 Tryz.ntmps83 (by kernel_rfl) (by kernel_rfl) rfl rfl ?_;have hS:=St.start w
   repeat' (first|(with_reducible apply a5 a4);rfl;rfl;rfl|(with_reducible apply a6);rfl;(apply Ld.sc a4;rfl;exact hS.blkC 0 rfl rfl);rfl|refine yDn (by with_reducible constructor) ?_|(with_reducible apply e9);(iterate 4 rfl);assumption|(with_reducible apply o4);(iterate 4 rfl);assumption;rfl|(with_reducible apply d9);rfl;assumption;rfl;rfl|(with_reducible apply a7);rfl;assumption;rfl;rfl|(with_reducible apply a9);rfl;rfl|(with_reducible apply d8 hS);rfl;rfl;rfl;clear hS;intro g w' hS|(with_reducible apply r9);rfl;rfl;rfl;all_goals (intro hb hp;try (exfalso;omega))|(with_reducible apply b5 hS);rfl;rfl;rfl;refine ⟨_,d7 _ _ _ _,?_⟩;clear hS;intro w' hS)
   (refine d4 rfl ?_)
   exact ⟨by unfold o5;simp [hs,hc],hS.sub (xh8 _)⟩
 have hd1:decide (state=1)=false:=xh9 hs;have hbt:(!decide (true=decide (state=1)))=true:=by rw [hd1];rfl
 have hbf:(!decide (false=decide (state=1)))=false:=by rw [hd1];rfl
 by_cases hs2:state=2
 ·have hd2:decide (state=2)=true:=xh7 hs2;have hd3:decide (state=3)=false:=xh9 (by omega);by_cases hc:code=0
  ·have hdc:decide (code=0)=true:=xh7 hc
   cases live with
   |false=>
    refine yEn Tryz.func83 Tryz.ntmps83 (by kernel_rfl) (by kernel_rfl) rfl rfl ?_;have hS:=St.start w
    repeat' (first|(with_reducible apply a5 a4);rfl;rfl;rfl|(with_reducible apply a6);rfl;(apply Ld.sc a4;rfl;exact hS.blkC 0 rfl rfl);rfl|(with_reducible apply a1p a4);(iterate 4 rfl)|(with_reducible apply s6 a4);rfl;rfl;exact (rfl:_=some [_,_]);rfl|refine yDn (by with_reducible constructor) ?_|((with_reducible apply e9);(iterate 4 rfl);first|rfl|assumption)|(with_reducible apply o4);(iterate 4 rfl);assumption;rfl|(with_reducible apply a7);rfl;(first|rfl|assumption);rfl;rfl|(with_reducible apply f8);rfl;assumption|(with_reducible apply d8 hS);rfl;rfl;rfl;clear hS;intro g w' hS|(with_reducible apply r9);rfl;rfl;rfl;all_goals (intro hb hp;try (exfalso;omega))|(with_reducible apply b5 hS);rfl;rfl;rfl;refine ⟨_,d7 _ _ _ _,?_⟩;clear hS;intro w' hS|(with_reducible apply a0Y a4);rfl;rfl;rfl;refine ⟨_,hS.blkRk 0 11 2 rfl,rfl,?_⟩|(with_reducible apply a40);rfl;rfl;exact a8U (fk,fa) (0,0);rfl)
    (refine d4 rfl ?_)
    exact ⟨by unfold o5;simp [hs,hs2],hS.sub (xh8 _)⟩
   |true=>
    refine yEn Tryz.func83 Tryz.ntmps83 (by kernel_rfl) (by kernel_rfl) rfl rfl ?_;have hS:=St.start w
    repeat' (first|(with_reducible apply a5 a4);rfl;rfl;rfl|(with_reducible apply a6);rfl;(apply Ld.sc a4;rfl;exact hS.blkC 0 rfl rfl);rfl|(with_reducible apply a1p a4);(iterate 4 rfl)|refine yDn (by with_reducible constructor) ?_|((with_reducible apply e9);(iterate 4 rfl);first|rfl|assumption)|(with_reducible apply o4);(iterate 4 rfl);assumption;rfl|(with_reducible apply a7);rfl;(first|rfl|assumption);rfl;rfl|(with_reducible apply a9);rfl;assumption|(with_reducible apply d8 hS);rfl;rfl;rfl;clear hS;intro g w' hS|(with_reducible apply r9);rfl;rfl;rfl;all_goals (intro hb hp;try (exfalso;omega))|(with_reducible apply b5 hS);rfl;rfl;rfl;refine ⟨_,d7 _ _ _ _,?_⟩;clear hS;intro w' hS)
    (refine d4 rfl ?_)
    exact ⟨by unfold o5;simp [hs,hs2],hS.sub (xh8 _)⟩
  ·have hdc:decide (code=0)=false:=xh9 hc
   cases live with
   |false=>
    refine yEn Tryz.func83 Tryz.ntmps83 (by kernel_rfl) (by kernel_rfl) rfl rfl ?_;have hS:=St.start w
    repeat' (first|(with_reducible apply a5 a4);rfl;rfl;rfl|(with_reducible apply a6);rfl;(apply Ld.sc a4;rfl;exact hS.blkC 0 rfl rfl);rfl|(with_reducible apply a1p a4);(iterate 4 rfl)|(with_reducible apply s6 a4);rfl;rfl;exact (rfl:_=some [_,_]);rfl|refine yDn (by with_reducible constructor) ?_|(with_reducible apply e9);(iterate 4 rfl);assumption|(with_reducible apply d9);rfl;assumption;rfl;rfl|(with_reducible apply a7);rfl;assumption;rfl;rfl|(with_reducible apply f8);rfl;assumption|(with_reducible apply d8 hS);rfl;rfl;rfl;clear hS;intro g w' hS|(with_reducible apply r9);rfl;rfl;rfl;all_goals (intro hb hp;try (exfalso;omega))|(with_reducible apply b5 hS);rfl;rfl;rfl;refine ⟨_,d7 _ _ _ _,?_⟩;clear hS;intro w' hS|(with_reducible apply a0Y a4);rfl;rfl;rfl;refine ⟨_,hS.blkRk 0 11 2 rfl,rfl,?_⟩|(with_reducible apply a40);rfl;rfl;exact a8U (fk,fa) (0,0);rfl)
    (refine d4 rfl ?_)
    exact ⟨by unfold o5;simp [hs,hs2],hS.sub (xh8 _)⟩
   |true=>
    refine yEn Tryz.func83 Tryz.ntmps83 (by kernel_rfl) (by kernel_rfl) rfl rfl ?_;have hS:=St.start w
    repeat' (first|(with_reducible apply a5 a4);rfl;rfl;rfl|(with_reducible apply a6);rfl;(apply Ld.sc a4;rfl;exact hS.blkC 0 rfl rfl);rfl|(with_reducible apply a1p a4);(iterate 4 rfl)|refine yDn (by with_reducible constructor) ?_|(with_reducible apply e9);(iterate 4 rfl);assumption|(with_reducible apply d9);rfl;assumption;rfl;rfl|(with_reducible apply a7);rfl;assumption;rfl;rfl|(with_reducible apply a9);rfl;assumption|(with_reducible apply d8 hS);rfl;rfl;rfl;clear hS;intro g w' hS|(with_reducible apply r9);rfl;rfl;rfl;all_goals (intro hb hp;try (exfalso;omega))|(with_reducible apply b5 hS);rfl;rfl;rfl;refine ⟨_,d7 _ _ _ _,?_⟩;clear hS;intro w' hS)
    (refine d4 rfl ?_)
    exact ⟨by unfold o5;simp [hs,hs2],hS.sub (xh8 _)⟩
 have hd2:decide (state=2)=false:=xh9 hs2;have hs3:state=3:=by omega
 have hd3:decide (state=3)=true:=xh7 hs3;by_cases hc:code=0
 ·have hdc:decide (code=0)=true:=xh7 hc
  cases live with
  |false=>
   refine yEn Tryz.func83 Tryz.ntmps83 (by kernel_rfl) (by kernel_rfl) rfl rfl ?_;have hS:=St.start w
   repeat' (first|(with_reducible apply a5 a4);rfl;rfl;rfl|(with_reducible apply a6);rfl;(apply Ld.sc a4;rfl;exact hS.blkC 0 rfl rfl);rfl|(with_reducible apply a1p a4);(iterate 4 rfl)|refine yDn (by with_reducible constructor) ?_|((with_reducible apply e9);(iterate 4 rfl);first|rfl|assumption)|(with_reducible apply o4);(iterate 4 rfl);assumption;rfl|(with_reducible apply a7);rfl;(first|rfl|assumption);rfl;rfl|(with_reducible apply a9);rfl;assumption|(with_reducible apply f8);rfl;assumption|(with_reducible apply d8 hS);rfl;rfl;rfl;clear hS;intro g w' hS|(with_reducible apply r9);rfl;rfl;rfl;all_goals (intro hb hp;try (exfalso;omega))|(with_reducible apply b5 hS);rfl;rfl;rfl;refine ⟨_,d7 _ _ _ _,?_⟩;clear hS;intro w' hS)
   (refine d4 rfl ?_)
   exact ⟨by unfold o5;simp [hs,hs3,hc],hS.sub (xh8 _)⟩
  |true=>
   refine yEn Tryz.func83 Tryz.ntmps83 (by kernel_rfl) (by kernel_rfl) rfl rfl ?_;have hS:=St.start w
   repeat' (first|(with_reducible apply a5 a4);rfl;rfl;rfl|(with_reducible apply a6);rfl;(apply Ld.sc a4;rfl;exact hS.blkC 0 rfl rfl);rfl|(with_reducible apply a1p a4);(iterate 4 rfl)|refine yDn (by with_reducible constructor) ?_|((with_reducible apply e9);(iterate 4 rfl);first|rfl|assumption)|(with_reducible apply o4);(iterate 4 rfl);assumption;rfl|(with_reducible apply a7);rfl;(first|rfl|assumption);rfl;rfl|(with_reducible apply a9);rfl;assumption|(with_reducible apply d8 hS);rfl;rfl;rfl;clear hS;intro g w' hS|(with_reducible apply r9);rfl;rfl;rfl;all_goals (intro hb hp;try (exfalso;omega))|(with_reducible apply b5 hS);rfl;rfl;rfl;refine ⟨_,d7 _ _ _ _,?_⟩;clear hS;intro w' hS)
   (refine d4 rfl ?_)
   exact ⟨by unfold o5;simp [hs,hs3,hc],hS.sub (xh8 _)⟩
 ·have hdc:decide (code=0)=false:=xh9 hc;refine yEn Tryz.func83 Tryz.ntmps83 (by kernel_rfl) (by kernel_rfl) rfl rfl ?_;have hS:=St.start w
  repeat' (first|(with_reducible apply a5 a4);rfl;rfl;rfl|(with_reducible apply a6);rfl;(apply Ld.sc a4;rfl;exact hS.blkC 0 rfl rfl);rfl|refine yDn (by with_reducible constructor) ?_|(with_reducible apply e9);(iterate 4 rfl);assumption|(with_reducible apply o4);(iterate 4 rfl);assumption;rfl|(with_reducible apply d9);rfl;assumption;rfl;rfl|(with_reducible apply a7);rfl;assumption;rfl;rfl|(with_reducible apply a9);rfl;rfl|(with_reducible apply d8 hS);rfl;rfl;rfl;clear hS;intro g w' hS|(with_reducible apply r9);rfl;rfl;rfl;all_goals (intro hb hp;try (exfalso;omega))|(with_reducible apply b5 hS);rfl;rfl;rfl;refine ⟨_,d7 _ _ _ _,?_⟩;clear hS;intro w' hS)
  (refine d4 rfl ?_)
  exact ⟨by unfold o5;simp [hs,hs3,hc],hS.sub (xh8 _)⟩
def a08 (A:List Ar) (p:Int):Bool:=match k6 A p with
 |some a=>!a.z
 |none=>false
def a3n (A:List Ar):Int->List Sh->Bool
 |_,[]=>true
 |last,s::r=>a08 A s.page && (j7 s && (decide (last < s.page) && a3n A s.page r))
def a0k:Int->List Sh->Bool
 |_,[]=>true
 |last,s::r=>j7 s && (decide (last < s.page) && a0k s.page r)
def arB (A:List Ar) (l:List Sh):Bool:=l.all fun s=>a08 A s.page
theorem a4t (A:List Ar):∀ (l:List Sh) (last:Int),a3n A last l=(a0k last l && arB A l):=by
 intro l
 induction l with
 |nil=>intro last;rfl
 |cons s r ih=>
  intro last;simp only [a3n,a0k,arB,xi9,ih]
  cases a08 A s.page <;> cases j7 s <;> cases decide (last < s.page) <;> cases a0k s.page r <;> rfl
def a0w (A:List Ar) (en:Int):Bool:=decide (0<=en/\en.tmod 8=0) && (match k6 A (en.tdiv 16) with
 |some a=>decide (2<=a.prot)
 |none=>false)
def lkB (A:List Ar) (L:List Sh) (en:Int):Bool:=decide ((L.length:Int)=l7 A) && (a3n A 0 L && a0w A en)
def l8 (A:List Ar) (L:List Sh) (en:Int):Int:=if b4 A=0 then (if lkB A L en=true then 0 else 1) else b4 A
structure ShsV (w:World) (Lp:List (Sh×Value)) (vs:Value):Prop where
 sl:Sl nF w 3 vs (Lp.map fun p=>shC p.1 p.2)
 fx:∀ p ∈ Lp,ShV w p.1 p.2
theorem ShsV.now {w w':World} {Γ:List Asr} {Lp:List (Sh×Value)} {vs:Value} (h:ShsV w Lp vs) (hS:St nF w w' Γ):ShsV w' Lp vs:=⟨h.sl.now hS,fun p hp=>(h.fx p hp).now hS⟩
def shs (Lp:List (Sh×Value)):List Sh:=Lp.map (·.1)
theorem a0e (Lp:List (Sh×Value)):(shs Lp).length=Lp.length:=by unfold shs;simp
theorem a1C {Lp:List (Sh×Value)} {i:Nat} {p:Sh×Value} (h:Lp[i]?=some p):(shs Lp)[i]?=some p.1:=by unfold shs;rw [xg0,h];rfl
theorem a7L {A:List Ar} {l:List Sh} {i:Nat} {s:Sh} {last:Int} (h:l[i]?=some s):a3n A last (l.drop i)=(a08 A s.page && (j7 s && (decide (last < s.page) && a3n A s.page (l.drop (i + 1))))):=by
 rw [a4k h];rfl
theorem a2P {A:List Ar} (hc:b4 A=0) {p:Int} {a:Ar} (h:k6 A p=some a):a.ok/\1<=p:=by
 have hg:=(o3.1 hc).2;have hok:=b0p hg.1 h;have:=List.find?_some h;unfold a0a at this;rw [xh5] at this;unfold Ar.ok at hok;exact ⟨hok,by omega⟩
def lkA (va vs:Value) (en:Int):Value:=.agg [va,vs,.int .i64 en].toArray
structure Fm where
 data:List UInt8
 refs:Int
 dirty:Bool
 seen:Bool
 deriving DecidableEq
structure Sw where
 data:List UInt8
 refs:Int
 deriving DecidableEq
structure En where
 page:Int
 kind:Int
 at_:Int
 deriving DecidableEq
structure Sc where
 live:Bool
 areas:List Ar
 entries:List En
 deriving DecidableEq
structure Ker where
 sheets:List Sh
 frames:List Fm
 slots:List Sw
 spaces:List Sc
 hand:Int
def fm0:Fm:=⟨[],0,false,false⟩
def sw0:Sw:=⟨[],0⟩
def fmC (f:Fm):List Value:=[.string ⟨f.data.toArray⟩,.int .i64 f.refs,.bool f.dirty,.bool f.seen]
def swC (s:Sw):List Value:=[.string ⟨s.data.toArray⟩,.int .i64 s.refs]
def enC (e:En):List Value:=[.int .i64 e.page,.int .i64 e.kind,.int .i64 e.at_]
structure Sp where
 s:Sc
 va:Value
 ve:Value
def spC (p:Sp):List Value:=[.bool p.s.live,p.va,p.ve]
structure KV where
 sh:List (Sh×Value)
 fr:List Fm
 sl:List Sw
 sp:List Sp
 hand:Int
 vsh:Value
 vfr:Value
 vsl:Value
 vsp:Value
def KV.K (k:KV):Ker:=⟨shs k.sh,k.fr,k.sl,k.sp.map (·.s),k.hand⟩
structure SpV (w:World) (p:Sp):Prop where
 ar:Sl nF w 4 p.va (p.s.areas.map arC)
 en:Sl nF w 3 p.ve (p.s.entries.map enC)
structure KerV (w:World) (k:KV):Prop where
 sh:ShsV w k.sh k.vsh
 fr:Sl nF w 4 k.vfr (k.fr.map fmC)
 sl:Sl nF w 2 k.vsl (k.sl.map swC)
 sp:Sl nF w 3 k.vsp (k.sp.map spC)
 spv:∀ p ∈ k.sp,SpV w p
theorem SpV.now {w w':World} {Γ:List Asr} {p:Sp} (h:SpV w p) (hS:St nF w w' Γ):SpV w' p:=⟨h.ar.now hS,h.en.now hS⟩
theorem KerV.now {w w':World} {Γ:List Asr} {k:KV} (h:KerV w k) (hS:St nF w w' Γ):KerV w' k:=⟨h.sh.now hS,h.fr.now hS,h.sl.now hS,h.sp.now hS,fun p hp=>(h.spv p hp).now hS⟩
def b3r (l:List Sh) (p:Int):Option Sh:=l.find? fun s=>decide (s.page=p)
def a6P (l:List Sh) (z:Bool) (p:Int):Option (List UInt8):=if z then some (List.replicate 16 0) else (b3r l p).map a45
abbrev Nm:=En×Ar
def b1Q (s:Sc) (e:En):Nm:=(e,(k6 s.areas e.page).getD a2f)
def a03 (l:List Sc) (kind at_:Int):List Nm:=l.flatMap fun s=>(s.entries.filter fun e=>decide (e.kind=kind/\e.at_=at_)).map (b1Q s)
def a8m (l:List Nm):Bool:=match l with
 |[]=>true
 |n::r=>r.all fun m=>decide (m.1.page=n.1.page/\m.2.z=n.2.z)
def a76 (A:List Ar) (nf ns:Int) (last:Int) (e:En):Bool:=(k6 A e.page).isSome && decide (last < e.page/\((e.kind=1/\0<=e.at_/\e.at_ < nf)\/(e.kind=2/\0<=e.at_/\e.at_ < ns)))
def a4N (A:List Ar) (nf ns:Int):Int->List En->Bool
 |_,[]=>true
 |last,e::r=>a76 A nf ns last e && a4N A nf ns e.page r
def a8l (l:List Sh) (A:List Ar):Bool:=A.all fun a=>(List.range a.n.toNat).all fun i=>(a6P l a.z (a.pg + (i:Nat))).isSome
def a4x (l:List Sh) (nf ns:Int) (s:Sc):Bool:=if s.live then decide (b4 s.areas=0) && (a8l l s.areas && a4N s.areas nf ns 0 s.entries) else decide (s.areas=[]/\s.entries=[])
def b1f (l:List Sc):Int:=(l.map fun s=>l7 s.areas).sum
def b1n (l:List Sh) (f:Fm) (by_:List Nm):Bool:=match by_ with
 |[]=>decide (f=fm0)
 |n::r=>decide (f.refs=((n::r).length:Int)/\f.data.length=16) && (a8m (n::r) && (f.dirty||decide (some f.data=a6P l n.2.z n.1.page)))
def b3e (s:Sw) (by_:List Nm):Bool:=match by_ with
 |[]=>decide (s=sw0)
 |n::r=>decide (s.refs=((n::r).length:Int)/\s.data.length=16) && a8m (n::r)
def b0J (K:Ker):Bool:=(List.range K.frames.length).all fun i=>match K.frames[i]? with
 |some f=>b1n K.sheets f (a03 K.spaces 1 (i:Nat))
 |none=>true
def b1z (K:Ker):Bool:=(List.range K.slots.length).all fun i=>match K.slots[i]? with
 |some s=>b3e s (a03 K.spaces 2 (i:Nat))
 |none=>true
def a9B (K:Ker):Bool:=decide (3<=K.frames.length/\K.frames.length<=64/\K.slots.length<=512/\1<=K.spaces.length/\K.spaces.length<=4/\K.sheets.length<=255)
def a9W (K:Ker):Bool:=K.spaces.all (a4x K.sheets K.frames.length K.slots.length)
def b2v (K:Ker):Bool:=(a0k 0 K.sheets && decide (0<=K.hand/\K.hand < K.frames.length)) && (a9W K && (decide (b1f K.spaces<=K.slots.length) && (b0J K && b1z K)))
def a9x (K:Ker):Int:=if a9B K=true then (if b2v K=true then 0 else 1) else 2
def lbd (l:List Int) (t:Int):Nat:=(l.takeWhile fun p=>decide (p < t)).length
def Rises (l:List Int):Prop:=l.Pairwise (·< ·)
theorem Rises.at_ {l:List Int} (h:Rises l) {i j:Nat} {a b:Int} (hij:i < j) (ha:l[i]?=some a) (hb:l[j]?=some b):a < b:=by
 obtain ⟨h1,rfl⟩:=xa6.1 ha;obtain ⟨h2,rfl⟩:=xa6.1 hb;exact xc8.1 h i j h1 h2 hij
end Go.Proofs.YtejnpppejalhfacGreat
namespace Go.Proofs.YtejnpppejalhfacGreat
set_option maxRecDepth 100000
set_option maxHeartbeats 8000000
open Go.RowKit
theorem a8M (off n all:Int):inB off n all=(decide (0<=off) && (decide (0<=n) && (decide (off<=all) && decide (n<=all - off)))):=by
 unfold inB;simp
theorem a8g (off n all:Int) (w:World) (h:0<=all) (h2:all<=9223372036854775807) :
  Calls Tryz.prog 162 #[.int .i64 off,.int .i64 n,.int .i64 all] w fun e w'=>e=.returned (.bool (inB off n all))/\w=w':=by
 have hs:=hid (a8M off n all)
 go_enter Tryz.func162,Tryz.ntmps162
 go_wp2
 all_goals
  go_ret
  refine ⟨j6 ?_,rfl⟩;rw [hs.out]
  first
   |(rw [IntWalk.wrap64_in (all - off) ⟨by omega,by omega⟩];simp [*];done)
   |(rw [xc0];simp;omega)
theorem a70 (s t:List UInt8) (off:Nat) (w:World) (hs:s.length<=maxLen) (h:off + t.length<=s.length) :
  Calls Tryz.prog 149 #[.string ⟨s.toArray⟩,.int .i64 off,.string ⟨t.toArray⟩] w fun e w'=>e=.returned (.string ⟨(splice s off t).toArray⟩)/\∃ n,w'=w.drewN n:=by
 unfold maxLen at hs
 go_enter Tryz.func149,Tryz.ntmps149
 go_wp2
 go_quiet (fail)
 go_wp2
 go_ret
 refine ⟨?_,a7J⟩;exact b0M (by simp [splice,xa0])
theorem a90 (off n all:Nat) (h:off + n<=all):inB off n all=true:=by
 unfold inB;simp;omega
theorem a9L (s t:List UInt8) (off:Nat) (w:World) (hs:s.length<=maxLen) (h:off + t.length<=s.length) :
  Calls Tryz.prog 110 #[.string ⟨s.toArray⟩,.int .i64 off,.string ⟨t.toArray⟩] w fun e w'=>e=.returned (.tuple #[.string ⟨(splice s off t).toArray⟩,.int .i64 0])/\Below w.heap.size w w':=by
 unfold maxLen at hs;have hin:=a90 off t.length s.length h;have hin2:=hid hin;clear hin
 go_enter Tryz.func110,Tryz.ntmps110
 have hsz5:(Tryz.prog.info? 5).map (·.size)=some 1:=by kernel_rfl
 have Hsz5:=hid hsz5;clear hsz5
 go_wp2_with (first|go_at_call 162;(with_reducible refine (a8g _ _ _ _ (by omega) (by omega)).mono ?_);rintro e w' ⟨rfl,rfl⟩;rw [hin2.out]|(with_reducible refine n7 17 ?_);refine a11 rfl (.tmp 16) 9 179 5 rfl Tryz.underlying9 Tryz.underlying179 Tryz.underlying5 s rfl w.heap.size w (Below.refl _ _) (xc5 _) ?_;intro cap w1 hcap hb1 hby1 hsz1;have HB:=hid hby1;clear hby1|(with_reducible refine n7 22 ?_);refine a2y rfl (.tmp 20) (.tmp 21) 179 9 rfl 5 Tryz.underlying179 Hsz5.out _ (s.length - off) _ rfl t rfl w.heap.size off s HB.out ?c1 ?c2 w.heap.size w hb1 (xc5 _) ?_;(case c1=>go_must (rw [xa1];omega));(case c2=>go_must (rw [xa1];intro h0;rw [xd9 (by omega)]));intro w2 hb2 hsz2 hby2;have HB2:=hid hby2;clear hby2|(with_reducible refine n7 24 ?_);refine a2x rfl (.tmp 23) 179 9 5 rfl Tryz.underlying179 Tryz.underlying5 Tryz.underlying9 _ w.heap.size s.length _ rfl ?c3 HB2.out ?_;(case c3=>go_must (exact length_splice _ _ _ (by rw [xa1];omega)));clear HB2)
 all_goals
  go_ret2
  refine ⟨?_,hb2⟩;show Ending.returned (.tuple #[.string ⟨(splice s off (t.take (s.length - off))).toArray⟩,.int .i64 0])=_;rw [xa0 (show t.length<=s.length - off from by omega)]
theorem b2q (s t:List UInt8) (off:Int) (w:World) (hs:s.length<=maxLen) (h:inB off t.length s.length=false) :
  Calls Tryz.prog 110 #[.string ⟨s.toArray⟩,.int .i64 off,.string ⟨t.toArray⟩] w fun e w'=>e=.returned (.tuple #[.string ⟨#[]⟩,.int .i64 3])/\w=w':=by
 unfold maxLen at hs
 go_enter Tryz.func110,Tryz.ntmps110
 go_wp2_with (go_at_call 162;(with_reducible refine (a8g _ _ _ _ (by omega) (by omega)).mono ?_);rintro e w' ⟨rfl,rfl⟩;rw [h])
 go_ret2
 exact ⟨rfl,rfl⟩
end Go.Proofs.YtejnpppejalhfacGreat
namespace Go.Proofs.YtejnpppejalhfacGreat
set_option maxRecDepth 100000
set_option maxHeartbeats 8000000
open Go.RowKit Go.Sort
theorem a8X (s t:List UInt8) (off:Int) (w:World) (hs:s.length<=maxLen):Fn Tryz.prog 110 [.string ⟨s.toArray⟩,.int .i64 off,.string ⟨t.toArray⟩] w (RBf (.tuple #[.string ⟨(if inB off t.length s.length=true then splice s off.toNat t else []).toArray⟩,.int .i64 (if inB off t.length s.length=true then 0 else 3)]) w):=by
 by_cases h:inB off t.length s.length=true
 ·rw [xd8 h,xd8 h];unfold inB at h;simp only [xh5] at h;have h1:=a9L s t off.toNat w hs (by omega);rw [xk9 (by omega)] at h1;exact Fn.of_rb ⟨Tryz.func110,by kernel_rfl,by kernel_rfl⟩ (a8C h1)
 ·rw [xd9 h,xd9 h];exact (Fn.of_same ⟨Tryz.func110,by kernel_rfl,by kernel_rfl⟩ (b2q s t off w hs (by simpa using h))).mono (by rintro v w' ⟨rfl,rfl⟩;exact ⟨rfl,St.start _⟩)
theorem b0A (s t:List UInt8) (off:Nat) (w:World) (hs:s.length<=maxLen) (h:off + t.length<=s.length):Fn Tryz.prog 149 [.string ⟨s.toArray⟩,.int .i64 off,.string ⟨t.toArray⟩] w (RBf (.string ⟨(splice s off t).toArray⟩) w) :=
 ⟨⟨_,Tryz.func149,by kernel_rfl,by kernel_rfl⟩,(a70 s t off w hs h).mono fun _ _ ⟨he,n,hw⟩=>⟨_,he,rfl,by subst hw;exact (St.start w).grow ⟨rfl,rfl,rfl,xc5 _,fun _ _ _=>rfl⟩⟩⟩
end Go.Proofs.YtejnpppejalhfacGreat
