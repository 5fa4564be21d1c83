/- Texts that the proof stands on, one behind the other: Sc17, Sc18, Sc19, Map, Sc20, Sc21, Sc22, Sc23, Bits, BitsF, Choose, Im1, Lk1, Lk2, Lk3, Ke1, PlLnk3, Lk4, Lk5. -/
import Derived.MapKept
import Derived.Laws.IdiomCopy
import Derived.Test.YtejnpppejalhfacProg
import Derived.Handy
import Derived.BigQuiet
import Derived.Deep.QuietTactic
import Derived.WalkSpells
import Derived.Lib.QuietBelow
import Derived.Test.YtejnpppejalhfacPKernelApart3
/- THE STEP CALCULUS, part 17: regions that draw their order: loads taken first, of cells that stay as they are till the operation q is carried out (which waits for them). -/
namespace Go.Proofs.Ytejnpppejalhfac
open Go.RowKit Go.Sort
section
variable {P:Program} {ops:Array Oper} {Q:Exit→Act→World→Prop} {S:World→Prop} {q:Nat}
def wpTill (P:Program) (ops:Array Oper) (Q:Exit→Act→World→Prop) (S:World→Prop) (q:Nat):Nat→Array Bool→Act→World→Prop
 |0,li,a,w=>Region.ready .any ops li=[]∧Q .normal a w
 |fuel + 1,li,a,w=>(Region.ready .any ops li=[]→Q .normal a w)∧∀ i ∈ Region.ready .any ops li,wpOp P ops Q i (fun a' w'=>(i=q∨li.getD q false=true∨S w')∧wpTill P ops Q S q fuel (li.setIfInBounds i true) a' w') a w
theorem till_any:∀ (fuel:Nat) (li:Array Bool) (a:Act) (w:World),wpTill P ops Q S q fuel li a w→wpAny P .any ops Q fuel li a w
 |0,_,_,_,h=>h
 |fuel + 1,_,_,_,h=>⟨h.1,fun i hi=>wpOp_mono (fun a' w' h'=>till_any fuel _ a' w' h'.2) (h.2 i hi)⟩
theorem till_first {i:Nat} {oi oq:Oper} {v:Value} (hi:ops[i]?=some oi) (hsel:∀ (j:Nat) (o:Oper) cs b,ops[j]?=some o→o.op≠.select cs b)
  (hQ:∀ c a w,Q (.panic c) (a.put oi.dst v) w→Q (.panic c) a w) (hoq:ops[q]?=some oq) (hq:∃ e ∈ oq.after,Region.binds .any e=true∧e.on=i) (hqi:q≠i) :
  ∀ (fuel:Nat) (li:Array Bool) (a:Act) (w:World),
   (∀ j oj,ops[j]?=some oj→j≠i→li.getD j true=false→(∀ e ∈ oj.after,Region.binds .any e=true→e.on≠i)→oi.apart ops oj=true) →
   i ∈ Region.ready .any ops li→li.getD q false=false→YieldsIf P ops S oi v a→S w →
   wpTill P ops Q S q fuel (li.setIfInBounds i true) (a.put oi.dst v) w→wpTill P ops Q S q (fuel + 1) li a w:=by
 intro fuel
 have step:∀ (li:Array Bool) (j:Nat),i ∈ Region.ready .any ops li→j ∈ Region.ready .any ops li→∀ oj,ops[j]?=some oj→∀ e ∈ oj.after,Region.binds .any e=true→e.on≠i:=by
  intro li j hr hj oj hoj e he hb heq
  obtain ⟨_,o,ho,hall⟩:=mem_ready.1 hj
  rw [hoj] at ho
  cases ho
  have h1:=hall e he hb
  have h0:=(mem_ready.1 hr).1
  rw [heq] at h1
  rcases Nat.lt_or_ge i li.size with h'|h'
  ·simp [h'] at h0 h1;rw [h0] at h1;cases h1
  ·simp [Array.getElem?_eq_none h'] at h1
 have notq:∀ (li:Array Bool) (j:Nat),i ∈ Region.ready .any ops li→j ∈ Region.ready .any ops li→j≠q:=by
  rintro li j hr hj rfl
  obtain ⟨e,he,hb,heq⟩:=hq
  exact step li _ hr hj oq hoq e he hb heq
 induction fuel with
 |zero=>
  intro li a w _ hr hnq hy hS H
  refine ⟨fun h=>(by rw [h] at hr;cases hr),fun j hj=>?_⟩
  by_cases hji:j=i
  ·subst hji;exact hy.wpOp hi hS ⟨Or.inr (Or.inr hS),H⟩
  ·have:=ready_mono hj hji
   rw [H.1] at this
   cases this
 |succ fuel ih=>
  intro li a w hfree hr hnq hy hS H
  refine ⟨fun h=>(by rw [h] at hr;cases hr),fun j hj=>?_⟩
  by_cases hji:j=i
  ·subst hji;exact hy.wpOp hi hS ⟨Or.inr (Or.inr hS),H⟩
  ·have hjq:=notq li j hr hj
   have h1:=H.2 j (ready_mono hj hji)
   obtain ⟨hjun,oj,hoj,_⟩:=mem_ready.1 hj
   have h2:=wpOp_putIf hoj (hfree j oj hoj hji hjun (step li j hr hj oj hoj)) (fun cs b=>hsel i oi cs b hi) (fun cs b=>hsel j oj cs b hoj) hQ hy h1
   have hfree':∀ k ok,ops[k]?=some ok→k≠i→(li.setIfInBounds j true).getD k true=false →
     (∀ e ∈ ok.after,Region.binds .any e=true→e.on≠i)→oi.apart ops ok=true:=fun k ok hk hki hun hno=>by
    refine hfree k ok hk hki ?_ hno
    by_cases hjk:j=k
    ·subst hjk;exact hjun
    ·rw [getD_set_ne true hjk] at hun;exact hun
   have hnq':(li.setIfInBounds j true).getD q false=false:=by rw [getD_set_ne false hjq];exact hnq
   have hnq2:(li.setIfInBounds i true).getD q false=false:=by rw [getD_set_ne false (Ne.symm hqi)];exact hnq
   refine wpOp_mono (fun a' w' h3=>?_) h2
   have hS':S w':=by
    rcases h3.2.1 with h|h|h
    ·exact (hjq h).elim
    ·rw [hnq2] at h;cases h
    ·exact h
   refine ⟨Or.inr (Or.inr hS'),ih (li.setIfInBounds j true) a' w' hfree' (ready_mono hr (Ne.symm hji)) hnq' h3.1 hS' ?_⟩
   rw [Array.setIfInBounds_comm _ _ hji]
   exact h3.2.2
theorem till_pure {i:Nat} {oi:Oper} {v:Value} (hi:ops[i]?=some oi) (hsel:∀ (j:Nat) (o:Oper) cs b,ops[j]?=some o→o.op≠.select cs b)
  (hQ:∀ c a w,Q (.panic c) (a.put oi.dst v) w→Q (.panic c) a w) (hqi:q≠i) :
  ∀ (fuel:Nat) (li:Array Bool) (a:Act) (w:World),
   (∀ j oj,ops[j]?=some oj→j≠i→li.getD j true=false→(∀ e ∈ oj.after,Region.binds .any e=true→e.on≠i)→oi.apart ops oj=true) →
   i ∈ Region.ready .any ops li→(li.getD q false=true∨S w)→YieldsIf P ops (fun _=>True) oi v a →
   wpTill P ops Q S q fuel (li.setIfInBounds i true) (a.put oi.dst v) w→wpTill P ops Q S q (fuel + 1) li a w:=by
 intro fuel
 have step:∀ (li:Array Bool) (j:Nat),i ∈ Region.ready .any ops li→j ∈ Region.ready .any ops li→∀ oj,ops[j]?=some oj→∀ e ∈ oj.after,Region.binds .any e=true→e.on≠i:=by
  intro li j hr hj oj hoj e he hb heq
  obtain ⟨_,o,ho,hall⟩:=mem_ready.1 hj
  rw [hoj] at ho
  cases ho
  have h1:=hall e he hb
  have h0:=(mem_ready.1 hr).1
  rw [heq] at h1
  rcases Nat.lt_or_ge i li.size with h'|h'
  ·simp [h'] at h0 h1;rw [h0] at h1;cases h1
  ·simp [Array.getElem?_eq_none h'] at h1
 induction fuel with
 |zero=>
  intro li a w _ hr hS hy H
  refine ⟨fun h=>(by rw [h] at hr;cases hr),fun j hj=>?_⟩
  by_cases hji:j=i
  ·subst hji;exact hy.wpOp hi trivial ⟨Or.inr hS,H⟩
  ·have:=ready_mono hj hji
   rw [H.1] at this
   cases this
 |succ fuel ih=>
  intro li a w hfree hr hS hy H
  refine ⟨fun h=>(by rw [h] at hr;cases hr),fun j hj=>?_⟩
  by_cases hji:j=i
  ·subst hji;exact hy.wpOp hi trivial ⟨Or.inr hS,H⟩
  ·have h1:=H.2 j (ready_mono hj hji)
   obtain ⟨hjun,oj,hoj,_⟩:=mem_ready.1 hj
   have h2:=wpOp_putIf hoj (hfree j oj hoj hji hjun (step li j hr hj oj hoj)) (fun cs b=>hsel i oi cs b hi) (fun cs b=>hsel j oj cs b hoj) hQ hy h1
   have hfree':∀ k ok,ops[k]?=some ok→k≠i→(li.setIfInBounds j true).getD k true=false →
     (∀ e ∈ ok.after,Region.binds .any e=true→e.on≠i)→oi.apart ops ok=true:=fun k ok hk hki hun hno=>by
    refine hfree k ok hk hki ?_ hno
    by_cases hjk:j=k
    ·subst hjk;exact hjun
    ·rw [getD_set_ne true hjk] at hun;exact hun
   refine wpOp_mono (fun a' w' h3=>?_) h2
   have hS':j=q∨li.getD q false=true∨S w':=by
    rcases h3.2.1 with h|h|h
    ·exact Or.inl h
    ·rw [getD_set_ne false (Ne.symm hqi)] at h;exact Or.inr (Or.inl h)
    ·exact Or.inr (Or.inr h)
   have hS2:(li.setIfInBounds j true).getD q false=true∨S w':=by
    rcases hS' with h|h|h
    ·left
     subst h
     have hjl:j < li.size:=by
      rcases Nat.lt_or_ge j li.size with h'|h'
      ·exact h'
      ·simp [Array.getElem?_eq_none h'] at hjun
     simp [hjl]
    ·exact Or.inl (getD_set_true h)
    ·exact Or.inr h
   refine ⟨hS',ih (li.setIfInBounds j true) a' w' hfree' (ready_mono hr (Ne.symm hji)) hS2 h3.1 ?_⟩
   rw [Array.setIfInBounds_comm _ _ hji]
   exact h3.2.2
end
section
variable {P:Program} {n:Nat} {ds:List Deferred} {E:Fr} {w:World} {Q:Exit→Act→World→Prop} {ops:Array Oper} {S:World→Prop} {q fuel:Nat} {li:Array Bool} {d:Nat} {op:Op} {ty:TypeId} {pos:String} {after:Array Edge} {F:Nat→Prop} {w0:World} {Γ:List Asr} {T:Tab} {c:List PanicEntry}
def WT (P:Program) (ops:Array Oper) (Q:Exit→Act→World→Prop) (S:World→Prop) (q fuel:Nat) (li:Array Bool) (n:Nat) (ds:List Deferred) (E:Fr) (w:World):Prop:=∀ a,Has n ds a E→wpTill P ops Q S q fuel li a w
def WP (P:Program) (ops:Array Oper) (Q:Exit→Act→World→Prop) (S:World→Prop) (q fuel:Nat) (li:Array Bool) (n:Nat) (ds:List Deferred) (E:Fr) (w:World) (i:Nat):Prop:=∀ a,Has n ds a E→wpOp P ops Q i (fun a' w'=>(i=q∨li.getD q false=true∨S w')∧wpTill P ops Q S q fuel (li.setIfInBounds i true) a' w') a w
theorem c_till (S:World→Prop) (q:Nat) {id:Nat} {l:List Oper} (m:Nat) (hl:l.length=m) (hS:St F w0 w Γ) (hm:P.follows .mixedOrders=true) (h:∀ w1,St F w0 w1 Γ→WT P l.toArray Q S q m (Array.replicate m false) n ds E w1):WC P (.region id l.toArray true) Q n ds E w:=fun a ha=>by
 subst hl
 exact wp_region_any hm (till_any _ _ _ _ (h { w with drawn:=w.drawn + 1 } (hS.grow ⟨rfl,rfl,rfl,Nat.le_refl _,fun _ _ _=>rfl⟩) a ha))
def waitsB (ops:Array Oper) (q i:Nat):Bool:=match ops[q]? with
 |some o=>o.after.toList.any (fun e=>Region.binds .any e && Nat.beq e.on i)
 |none=>false
theorem waits_of {q i:Nat} (h:waitsB ops q i=true):∃ oq,ops[q]?=some oq∧∃ e ∈ oq.after,Region.binds .any e=true∧e.on=i:=by
 unfold waitsB at h
 split at h
 ·rename_i o ho
  obtain ⟨e,he,h2⟩:=List.any_eq_true.1 h
  simp only [Bool.and_eq_true] at h2
  exact ⟨o,ho,e,by simpa using he,h2.1,Nat.eq_of_beq_eq_true h2.2⟩
 ·cases h
theorem t_takeL {i:Nat} (_C:Nn i) {t:TypeId} {x:Operand} {p:Addr} {v:Value} (hi:ops[i]?=some ⟨some d,.load t x,ty,pos,after,none⟩) (hs:Region.noSelect ops=true) (hf:Region.free .any ops li i=true) (hr:(Region.ready .any ops li).contains i=true) (hw:waitsB ops q i=true) (hqi:Nat.beq q i=false) (hnq:li.getD q false=false)
  (hQ:∀ c (a:Act) w,Q (.panic c) (a.put (some d) v) w→Q (.panic c) a w) (hS:S w) (hx:E.ev x=some (.pointer (some p))) (hl:∀ w,S w→Loads P t p v w) (hd:Nat.blt d n=true) (k:WT P ops Q S q fuel (li.setIfInBounds i true) n ds ((d,v)::E) w):WT P ops Q S q (fuel + 1) li n ds E w:=fun a ha=>by
 obtain ⟨oq,hoq,hq⟩:=waits_of hw
 refine till_first hi (Region.noSelect_spec hs) hQ hoq hq (fun e=>by subst e;rw [Nat.beq_refl] at hqi;cases hqi) fuel li a w (Region.free_spec hi hf) (by simpa using hr) hnq (Or.inl ⟨rfl,fun w hw=>?_⟩) hS (k _ (ha.put d v hd))
 have h:=hl w hw
 unfold Loads at h
 simp only [execOp,ha.ev hx,Instr.loadAt,Instr.sureAddr,Sem.run_bind,Sem.run_pure,Result.andThen_ok,h]
theorem t_pure {i:Nat} (_C:Nn i) {v:Value} (hT:TabOk P T) (hi:ops[i]?=some ⟨some d,op,ty,pos,after,none⟩) (hs:Region.noSelect ops=true) (hf:Region.free .any ops li i=true) (hr:(Region.ready .any ops li).contains i=true) (hqi:Nat.beq q i=false)
  (hQ:∀ c (a:Act) w,Q (.panic c) (a.put (some d) v) w→Q (.panic c) a w) (hS:li.getD q false=true∨S w) (hv:pureOp T E op=some v) (hd:Nat.blt d n=true) (k:WT P ops Q S q fuel (li.setIfInBounds i true) n ds ((d,v)::E) w):WT P ops Q S q (fuel + 1) li n ds E w:=fun a ha=>
 till_pure hi (Region.noSelect_spec hs) hQ (fun e=>by subst e;rw [Nat.beq_refl] at hqi;cases hqi) fuel li a w (Region.free_spec hi hf) (by simpa using hr) hS (Or.inl ⟨rfl,fun w _=>pureOp_runs hT ha hv w⟩) (k _ (ha.put d v hd))
theorem t_one {i:Nat} (hr:Region.ready .any ops li=[i]) (h:WP P ops Q S q fuel li n ds E w i):WT P ops Q S q (fuel + 1) li n ds E w:=fun a ha=>
 ⟨fun h0=>(by rw [hr] at h0;cases h0),fun j hj=>by
  rw [hr] at hj
  have:j=i:=by simpa using hj
  subst this
  exact h a ha⟩
theorem t_done (hr:Region.ready .any ops li=[]) (h:WQ Q .normal n ds E w):WT P ops Q S q fuel li n ds E w:=fun a ha=>by
 cases fuel with
 |zero=>exact ⟨hr,h a ha⟩
 |succ f=>exact ⟨fun _=>h a ha,by rw [hr];simp⟩
theorem p_gets {i:Nat} {Φ:Value→World→Prop} (hi:ops[i]?=some ⟨some d,op,ty,pos,after,none⟩) (h:Gets P ⟨some d,op,ty,pos,after,none⟩ n ds E w Φ) (hd:Nat.blt d n=true) (k:∀ v w',Φ v w'→(i=q∨li.getD q false=true∨S w')∧WT P ops Q S q fuel (li.setIfInBounds i true) n ds ((d,v)::E) w'):WP P ops Q S q fuel li n ds E w i:=fun a ha=>by
 unfold wpOp
 simp only [hi]
 rw [if_pos (show Region.wanted _ _=true from rfl)]
 exact Or.inl (h a ha _ _ fun v w' hv=>⟨(k v w' hv).1,(k v w' hv).2 _ (ha.put d v hd)⟩)
theorem p_gets0 {i:Nat} {Φ:Value→World→Prop} (hi:ops[i]?=some ⟨none,op,ty,pos,after,none⟩) (h:Gets P ⟨none,op,ty,pos,after,none⟩ n ds E w Φ) (k:∀ v w',Φ v w'→(i=q∨li.getD q false=true∨S w')∧WT P ops Q S q fuel (li.setIfInBounds i true) n ds E w'):WP P ops Q S q fuel li n ds E w i:=fun a ha=>by
 unfold wpOp
 simp only [hi]
 rw [if_pos (show Region.wanted _ _=true from rfl)]
 exact Or.inl (h a ha _ _ fun v w' hv=>⟨(k v w' hv).1,(k v w' hv).2 _ ha⟩)
end
end Go.Proofs.Ytejnpppejalhfac
/- THE STEP CALCULUS, part 18: interfaces' values; small rules. -/
namespace Go.Proofs.Ytejnpppejalhfac
open Go.RowKit Go.Sort
section
variable {P:Program} {n:Nat} {ds:List Deferred} {E:Fr} {w:World} {Q:Exit→Act→World→Prop} {ops:Array Oper} {rest:List Oper} {d:Nat} {dst:Option Nat} {op:Op} {ty:TypeId} {pos:String} {after:Array Edge} {T:Tab}
end
section
variable {P:Program} {n:Nat} {ds:List Deferred} {E:Fr} {w:World} {Q:Exit→Act→World→Prop} {ops:Array Oper} {S:World→Prop} {q fuel:Nat} {li:Array Bool} {d:Nat} {op:Op} {ty:TypeId} {pos:String} {after:Array Edge} {T:Tab}
theorem p_build {i:Nat} (hT:TabOk P T) {t s:Nat} {fs:List (Nat×Nat×Bool)} {z L:List Value} {parts:Array (Nat×Operand)} {ps:List (Nat×Value)} (hi:ops[i]?=some ⟨some d,.build t parts,ty,pos,after,none⟩) (ht:T.get t=some (.st s fs z)) (hp:evP E parts.toList=some ps) (hL:fillL (fun i=>(fs[i]?).map fun f=>(f.1,f.2.1)) z ps=some L) (hd:Nat.blt d n=true)
  (k:(i=q∨li.getD q false=true∨S w)∧WT P ops Q S q fuel (li.setIfInBounds i true) n ds ((d,.agg L.toArray)::E) w):WP P ops Q S q fuel li n ds E w i :=
 p_gets hi (Gets.of_runs (fun _ ha=>r_build hT ht hp hL _ ha)) hd (by rintro _ _ ⟨rfl,rfl⟩;exact k)
theorem Gets.pure {dst:Option Nat} {op:Op} {v:Value} (hT:TabOk P T) (hv:pureOp T E op=some v):Gets P ⟨dst,op,ty,pos,after,none⟩ n ds E w (fun v' w'=>v'=v∧w'=w):=Gets.of_runs fun _ ha=>pureOp_runs hT ha hv
theorem Gets.build {dst:Option Nat} (hT:TabOk P T) {t s:Nat} {fs:List (Nat×Nat×Bool)} {z L:List Value} {parts:Array (Nat×Operand)} {ps:List (Nat×Value)} (ht:T.get t=some (.st s fs z)) (hp:evP E parts.toList=some ps) (hL:fillL (fun i=>(fs[i]?).map fun f=>(f.1,f.2.1)) z ps=some L):Gets P ⟨dst,.build t parts,ty,pos,after,none⟩ n ds E w (fun v' w'=>v'=.agg L.toArray∧w'=w):=Gets.of_runs fun _ ha=>r_build hT ht hp hL _ ha
end
theorem Sl.nil0 (w:World) (sz:Nat):Sl nF w sz (.slice none 0 0) []:=Or.inl ⟨_,_,rfl,rfl⟩
theorem holdC {w:World} {g k:Nat} {L:List Value} {v:Value} (h:Asr.holds w (.blk g L)) (hk:L[k]?=some v):w.cell? ⟨g,k,none⟩=some v:=by rw [HoldL.cell h];exact hk
/-! what is one's own, in another order; some of it forgotten -/
section
variable {F:Nat→Prop} {w0 w w':World} {Γ Δ:List Asr}
def pickL {α:Type} (l:List α):List Nat→Option (List α)
 |[]=>some []
 |i::r=>match l[i]?,pickL l r with
  |some x,some xs=>some (x::xs)
  |_,_=>none
theorem pickL_at {α:Type} {l:List α}:∀ {is:List Nat} {xs:List α},pickL l is=some xs→∀ (k:Nat) (x:α),xs[k]?=some x→∃ i,is[k]?=some i∧l[i]?=some x:=by
 intro is
 induction is with
 |nil=>intro xs h k x hx;cases h;simp at hx
 |cons i r ih=>
  intro xs h k x hx
  unfold pickL at h
  split at h
  ·rename_i y ys h1 h2
   cases h
   cases k with
   |zero=>simp at hx;subst hx;exact ⟨i,rfl,h1⟩
   |succ k=>simpa using ih h2 k x (by simpa using hx)
  ·cases h
theorem St.reorder (is:List Nat) (h:St F w0 w Γ) (hn:is.Nodup) (hp:pickL Γ is=some Δ):St F w0 w Δ:=by
 have hmem:∀ A ∈ Δ,A ∈ Γ:=fun A hA=>by
  obtain ⟨k,hk⟩:=List.mem_iff_getElem?.1 hA
  obtain ⟨i,_,hi⟩:=pickL_at hp k A hk
  exact List.mem_of_getElem? hi
 refine ⟨h.os,h.tape,h.output,h.size,h.base,fun A hA=>h.holds A (hmem A hA),fun A hA=>h.own A (hmem A hA),?_⟩
 rw [List.pairwise_iff_getElem]
 intro j k hj hk hlt
 obtain ⟨a,ha,ha2⟩:=pickL_at hp j _ (List.getElem?_eq_getElem hj)
 obtain ⟨b,hb,hb2⟩:=pickL_at hp k _ (List.getElem?_eq_getElem hk)
 refine apart_at h.apart ha2 hb2 (fun e=>?_)
 subst e
 obtain ⟨h1,h2⟩:=List.getElem?_eq_some_iff.1 ha
 obtain ⟨h3,h4⟩:=List.getElem?_eq_some_iff.1 hb
 have:=List.pairwise_iff_getElem.1 hn j k h1 h3 hlt
 exact this (h2.trans h4.symm)
end
end Go.Proofs.Ytejnpppejalhfac
/- THE STEP CALCULUS, part 19: 'and' of numbers. -/
namespace Go.Proofs.Ytejnpppejalhfac
open Go.RowKit Go.Sort
section
variable {P:Program} {n:Nat} {ds:List Deferred} {E:Fr} {w:World} {Q:Exit→Act→World→Prop} {ops:Array Oper} {rest:List Oper} {d:Nat} {ty:TypeId} {pos:String} {after:Array Edge}
theorem c_heldS {F:Nat→Prop} {w0:World} {Γ:List Asr} {id:Nat} {l:List Oper} (m:Nat) (hl:l.length=m) (hS:St F w0 w Γ) (hm:P.follows .mixedOrders=true) (h:∀ w1,St F w0 w1 Γ→WA P l.toArray Q (fun w'=>St F w0 w' Γ) m (Array.replicate m false) n ds E w1):WC P (.region id l.toArray true) Q n ds E w:=c_held _ m hl hS hm h
theorem a_takeR {i:Nat} (_C:Nn i) {S:World→Prop} {fuel:Nat} {li:Array Bool} {op:Op} {v:Value} (hi:ops[i]?=some ⟨some d,op,ty,pos,after,none⟩) (hs:Region.noSelect ops=true) (hf:Region.free .any ops li i=true) (hr:(Region.ready .any ops li).contains i=true)
  (hQ:∀ c (a:Act) w,Q (.panic c) (a.put (some d) v) w→Q (.panic c) a w) (hS:S w) (h:∀ a,Has n ds a E→Runs P ⟨some d,op,ty,pos,after,none⟩ a v) (hd:Nat.blt d n=true) (k:WA P ops Q S fuel (li.setIfInBounds i true) n ds ((d,v)::E) w):WA P ops Q S (fuel + 1) li n ds E w:=fun a ha=>
 wpAnyH_take hi hs hf hr hQ (Or.inl ⟨rfl,fun w _=>h a ha w⟩) hS (k _ (ha.put d v hd))
theorem a_ix {i:Nat} (_C:Nn i) {T:Tab} {S:World→Prop} {fuel:Nat} {li:Array Bool} (hT:TabOk P T) {t:TypeId} {x y:Operand} {el sz eb b off m c j:Nat} {ag:Bool} {z:List Value} {ii:Int} (hi:ops[i]?=some ⟨some d,.indexAddr t x y,ty,pos,after,none⟩) (hs:Region.noSelect ops=true) (hf:Region.free .any ops li i=true) (hr:(Region.ready .any ops li).contains i=true)
  (hQ:∀ c (a:Act) w v,Q (.panic c) (a.put (some d) v) w→Q (.panic c) a w) (hS:S w) (ht:T.get t=some (.sl el sz eb ag z)) (hx:E.ev x=some (.slice (some ⟨b,off,none⟩) m c)) (hy:E.ev y=some (.int .i64 ii)) (hj:(j:Int)=ii) (hm:j < m) (hd:Nat.blt d n=true) (k:WA P ops Q S fuel (li.setIfInBounds i true) n ds ((d,.pointer (some ⟨b,off + j * sz,none⟩))::E) w):WA P ops Q S (fuel + 1) li n ds E w :=
 a_takeR _C hi hs hf hr (fun c a w h=>hQ c a w _ h) hS (fun a ha=>r_ix hT ht hx hy hj hm a ha _) hd k
theorem r_and {t yt:TypeId} {x y:Operand} {m k:Int} (hx:E.ev x=some (.int .i64 m)) (hy:E.ev y=some (.int .i64 k)):∀ a,Has n ds a E→∀ dst,Runs P ⟨dst,.binOp .and t x y yt,ty,pos,after,none⟩ a (.int .i64 (bits .and .i64 m k)):=fun a ha _ w=>by
 simp only [execOp,ha.ev hx,ha.ev hy]
 simp [eqGuard,binOp,go_sem]
theorem l_and {t yt:TypeId} {x y:Operand} {m k r:Int} (hx:E.ev x=some (.int .i64 m)) (hy:E.ev y=some (.int .i64 k)) (hr:bits .and .i64 m k=r) (hd:Nat.blt d n=true) (k':WL P ops Q rest n ds ((d,.int .i64 r)::E) w):WL P ops Q (⟨some d,.binOp .and t x y yt,ty,pos,after,none⟩::rest) n ds E w:=l_runs (fun a ha=>hr ▸ r_and hx hy a ha _) hd k'
theorem r_or {t yt:TypeId} {x y:Operand} {m k:Int} (hx:E.ev x=some (.int .i64 m)) (hy:E.ev y=some (.int .i64 k)):∀ a,Has n ds a E→∀ dst,Runs P ⟨dst,.binOp .or t x y yt,ty,pos,after,none⟩ a (.int .i64 (bits .or .i64 m k)):=fun a ha _ w=>by
 simp only [execOp,ha.ev hx,ha.ev hy]
 simp [eqGuard,binOp,go_sem]
theorem l_or {t yt:TypeId} {x y:Operand} {m k r:Int} (hx:E.ev x=some (.int .i64 m)) (hy:E.ev y=some (.int .i64 k)) (hr:bits .or .i64 m k=r) (hd:Nat.blt d n=true) (k':WL P ops Q rest n ds ((d,.int .i64 r)::E) w):WL P ops Q (⟨some d,.binOp .or t x y yt,ty,pos,after,none⟩::rest) n ds E w:=l_runs (fun a ha=>hr ▸ r_or hx hy a ha _) hd k'
theorem tdiv_in {m k:Int} (h0:-9223372036854775808≤m) (h1:m≤9223372036854775807) (hk:0 < k):-9223372036854775808≤m.tdiv k∧m.tdiv k≤9223372036854775807:=by
 by_cases h:0≤m
 ·rw [Int.tdiv_eq_ediv_of_nonneg h]
  have a1:=Int.ediv_nonneg h (by omega:0≤k)
  have a2:=Int.ediv_le_self k h
  omega
 ·have e:m.tdiv k=-((-m).tdiv k):=by rw [Int.neg_tdiv,Int.neg_neg]
  rw [e,Int.tdiv_eq_ediv_of_nonneg (by omega)]
  have a1:=Int.ediv_nonneg (show 0≤-m by omega) (by omega:0≤k)
  have a2:=Int.ediv_le_self k (show 0≤-m by omega)
  omega
theorem r_quoT {t yt:TypeId} {x y:Operand} {m k:Int} (hx:E.ev x=some (.int .i64 m)) (hy:E.ev y=some (.int .i64 k)) (h0:-9223372036854775808≤m) (h1:m≤9223372036854775807) (h3:0 < k):∀ a,Has n ds a E→∀ dst,Runs P ⟨dst,.binOp .quo t x y yt,ty,pos,after,none⟩ a (.int .i64 (m.tdiv k)):=fun a ha _ w=>by
 have hk:¬ k=0:=by omega
 have:=tdiv_in h0 h1 h3
 simp [execOp,ha.ev hx,ha.ev hy,eqGuard,binOp,Op.intDiv,hk,wrap_in this.1 this.2]
theorem l_quoT {t yt:TypeId} {x y:Operand} {m k:Int} (hx:E.ev x=some (.int .i64 m)) (hy:E.ev y=some (.int .i64 k)) (h0:-9223372036854775808≤m) (h1:m≤9223372036854775807) (h3:0 < k) (hd:Nat.blt d n=true) (k':WL P ops Q rest n ds ((d,.int .i64 (m.tdiv k))::E) w):WL P ops Q (⟨some d,.binOp .quo t x y yt,ty,pos,after,none⟩::rest) n ds E w:=l_runs (fun a ha=>r_quoT hx hy h0 h1 h3 a ha _) hd k'
theorem and2 {p:Int} (h0:0≤p) (h1:p≤3):bits .and .i64 p 2=if 2≤p then 2 else 0:=by
 have h:p=0∨p=1∨p=2∨p=3:=by omega
 rcases h with rfl|rfl|rfl|rfl <;> decide
theorem and1 {p:Int} (h0:0≤p) (h1:p≤3):bits .and .i64 p 1=if p=1∨p=3 then 1 else 0:=by
 have h:p=0∨p=1∨p=2∨p=3:=by omega
 rcases h with rfl|rfl|rfl|rfl <;> decide
end
end Go.Proofs.Ytejnpppejalhfac
/- Maps that the call itself made: what they hold, as a list of keys and values; over whatever program. -/
namespace Go.Proofs.Ytejnpppejalhfac
open Go.RowKit Go.MapKept
structure MapAt (d:TypeDesc) (w:World) (r:Nat) (L:List (Value×Value)):Prop where
 held:∃ es c,w.heap[r]?=some (.map es c)∧es.toList.map (fun e=>(e.key,e.val))=L
 keys:∀ p ∈ L,IsKey d p.1
 once:(L.map (·.1)).Nodup
section
variable {P:Program} {d:TypeDesc} {w w':World} {r:Nat} {L:List (Value×Value)} {T K E:TypeId} {k v:Value}
theorem MapAt.lt (h:MapAt d w r L):r < w.heap.size:=by
 obtain ⟨es,c,hb,_⟩:=h.held
 exact (Array.getElem?_eq_some_iff.1 hb).1
theorem MapAt.keep (h:MapAt d w r L) (hk:w'.heap[r]?=w.heap[r]?):MapAt d w' r L:=by
 obtain ⟨es,c,hb,hl⟩:=h.held
 exact ⟨⟨es,c,hk.trans hb,hl⟩,h.keys,h.once⟩
theorem MapAt.below {B:Nat} (h:MapAt d w r L) (hb:Below B w w') (hr:r < B):MapAt d w' r L:=h.keep (hb.block r hr)
theorem MapAt.grown (h:MapAt d w r L) (hb:Below w.heap.size w w'):MapAt d w' r L:=h.below hb h.lt
theorem findNow_hit (hk:IsKey d k):∀ (l:List MapEntry) (i:Nat),(∀ e ∈ l,IsKey d e.key)→((l.map (·.key)).Nodup)→(∃ e ∈ l,e.key=k∧e.val=v)→∃ j,j < l.length∧Instr.findNow d k l i=some (some (i + j,v))∧((l[j]?).map (·.key))=some k:=by
 intro l i hl hn ⟨e,he,hek,hev⟩
 rcases findNow_spec hk l i hl with ⟨_,h2⟩|⟨j,e',h1,h2,h3⟩
 ·exact (h2 e he hek).elim
 ·have hj:j < l.length:=(List.getElem?_eq_some_iff.1 h2).1
  have e':e'=e:=by
   obtain ⟨j2,hj2,hje⟩:=List.getElem_of_mem he
   have a1:l[j]=e':=(List.getElem?_eq_some_iff.1 h2).2
   have:j=j2:=by
    have hnd:=List.pairwise_iff_getElem.1 hn
    rcases Nat.lt_trichotomy j j2 with hlt|heq|hgt
    ·exact (hnd j j2 (by simpa using hj) (by simpa using hj2) hlt (by simp [a1,hje,h3,hek])).elim
    ·exact heq
    ·exact (hnd j2 j (by simpa using hj2) (by simpa using hj) hgt (by simp [a1,hje,h3,hek])).elim
   subst this
   rw [← a1,hje]
  subst e'
  exact ⟨j,hj,by rw [h1,hev],by rw [h2];simp [h3]⟩
theorem findNow_miss (hk:IsKey d k) (l:List MapEntry) (i:Nat) (hl:∀ e ∈ l,IsKey d e.key) (hno:∀ e ∈ l,e.key≠k):Instr.findNow d k l i=some none:=by
 rcases findNow_spec hk l i hl with ⟨h1,_⟩|⟨j,e,_,h2,h3⟩
 ·exact h1
 ·exact (hno e (List.mem_of_getElem? h2) h3).elim
theorem run_lookup_hit (ht:P.underlying T=some (.map K E)) (hd:P.underlying K=some d) (h:MapAt d w r L) (hk:IsKey d k) (hm:(k,v) ∈ L) (ok:Bool) :
  (Instr.lookup T (.map (some r)) k ok).run P w=.ok (if ok then .tuple #[v,.bool true] else v) w:=by
 obtain ⟨es,c,hb,rfl⟩:=h.held
 obtain ⟨e,he,hee⟩:=List.mem_map.1 hm
 simp only [Prod.mk.injEq] at hee
 have hkeys:∀ e ∈ es.toList,IsKey d e.key:=fun e he=>h.keys (e.key,e.val) (List.mem_map.2 ⟨e,he,rfl⟩)
 have hnd:(es.toList.map (·.key)).Nodup:=by have:=h.once;simpa [List.map_map,Function.comp_def] using this
 obtain ⟨j,_,hf,_⟩:=findNow_hit (v:=v) hk es.toList 0 hkeys hnd ⟨e,he,hee.1,hee.2⟩
 have h1:=run_checkKey (P:=P) (w:=w) hd hk es.isEmpty 9999
 have h2:=run_findKey (P:=P) (w:=w) hd hf
 cases ok <;> simp [Instr.lookup,run_underlying ht,Go.MapKept.run_getObj_map hb,h1,h2,Result.andThen]
theorem run_lookup_miss (ht:P.underlying T=some (.map K E)) (hd:P.underlying K=some d) (h:MapAt d w r L) (hk:IsKey d k) (hm:∀ v,(k,v) ∉ L) {z:Value} (hz:(zeroValue E).run P w=.ok z w) (ok:Bool) :
  (Instr.lookup T (.map (some r)) k ok).run P w=.ok (if ok then .tuple #[z,.bool false] else z) w:=by
 obtain ⟨es,c,hb,rfl⟩:=h.held
 have hkeys:∀ e ∈ es.toList,IsKey d e.key:=fun e he=>h.keys (e.key,e.val) (List.mem_map.2 ⟨e,he,rfl⟩)
 have hf:=findNow_miss hk es.toList 0 hkeys (fun e he hek=>hm e.val (List.mem_map.2 ⟨e,he,by rw [← hek]⟩))
 have h1:=run_checkKey (P:=P) (w:=w) hd hk es.isEmpty 9999
 have h2:=run_findKey (P:=P) (w:=w) hd hf
 cases ok <;> simp [Instr.lookup,run_underlying ht,Go.MapKept.run_getObj_map hb,h1,h2,hz,Result.andThen]
end
end Go.Proofs.Ytejnpppejalhfac
/- THE STEP CALCULUS, part 20: maps of one's own, whatever their keys and values. -/
namespace Go.Proofs.Ytejnpppejalhfac
open Go.RowKit Go.Sort Go.MapKept
structure MapG (D:TypeDesc) (es:Array MapEntry) (L:List (Value×Value)):Prop where
 held:es.toList.map (fun e=>(e.key,e.val))=L
 keys:∀ p ∈ L,IsKey D p.1
 once:(L.map (·.1)).Nodup
theorem MapG.nil (D:TypeDesc):MapG D #[] []:=⟨rfl,by simp,by simp⟩
theorem MapG.at_ {D:TypeDesc} {w:World} {r c:Nat} {es:Array MapEntry} {L:List (Value×Value)} (h:MapG D es L) (hr:w.heap[r]?=some (.map es c)):MapAt D w r L:=⟨⟨es,c,hr,h.held⟩,h.keys,h.once⟩
theorem MapG.size {D:TypeDesc} {es:Array MapEntry} {L:List (Value×Value)} (h:MapG D es L):es.size=L.length:=by
 have:=congrArg List.length h.held
 simpa using this
section
variable {P:Program} {n:Nat} {ds:List Deferred} {E:Fr} {w:World} {Q:Exit→Act→World→Prop} {ops:Array Oper} {rest:List Oper} {d:Nat} {dst:Option Nat} {ty:TypeId} {pos:String} {after:Array Edge} {F:Nat→Prop} {w0:World} {Γ:List Asr} {T:Tab} {D:TypeDesc}
theorem g_look (hS:St F w0 w Γ) {t Kt Et:TypeId} {m x:Operand} {r c i:Nat} {es:Array MapEntry} {L:List (Value×Value)} {k v:Value} (ht:P.underlying t=some (.map Kt Et)) (hK:P.underlying Kt=some D) (hm:E.ev m=some (.map (some r))) (hx:E.ev x=some k) (hi:Γ[i]?=some (.obj r (.map es c))) (hL:MapG D es L) (hk:IsKey D k) (hv:(k,v) ∈ L) (ok:Bool) :
  Gets P ⟨dst,.lookup t m x ok,ty,pos,after,none⟩ n ds E w (fun v' w'=>v'=(if ok then .tuple #[v,.bool true] else v)∧w'=w):=Gets.of_at fun a ha=>by
 have hat:=hL.at_ (hS.at_ hi).1
 have hrun:=run_lookup_hit ht hK hat hk hv ok
 simp only [execOp,ha.ev hm,ha.ev hx,Sem.run_bind,hrun,Result.andThen_ok,Sem.run_pure]
theorem g_lookN (hS:St F w0 w Γ) {t Kt Et:TypeId} {m x:Operand} {r c i:Nat} {es:Array MapEntry} {L:List (Value×Value)} {k z:Value} (ht:P.underlying t=some (.map Kt Et)) (hK:P.underlying Kt=some D) (hz:(P.info? Et).bind (·.zero)=some z) (hm:E.ev m=some (.map (some r))) (hx:E.ev x=some k) (hi:Γ[i]?=some (.obj r (.map es c))) (hL:MapG D es L) (hk:IsKey D k) (hv:∀ v,(k,v) ∉ L) (ok:Bool) :
  Gets P ⟨dst,.lookup t m x ok,ty,pos,after,none⟩ n ds E w (fun v' w'=>v'=(if ok then .tuple #[z,.bool false] else z)∧w'=w):=Gets.of_at fun a ha=>by
 have hat:=hL.at_ (hS.at_ hi).1
 obtain ⟨zi,hzi,hz2⟩:=Option.bind_eq_some_iff.1 hz
 have hz':(zeroValue Et).run P w=.ok z w:=by simp [zeroValue,typeInfo,hzi,hz2]
 have hrun:=run_lookup_miss ht hK hat hk hv hz' ok
 simp only [execOp,ha.ev hm,ha.ev hx,Sem.run_bind,hrun,Result.andThen_ok,Sem.run_pure]
theorem updG_old {t Kt Et:TypeId} {r c:Nat} {es:Array MapEntry} {L:List (Value×Value)} {k u v:Value} (ht:P.underlying t=some (.map Kt Et)) (hK:P.underlying Kt=some D) (hr:w.heap[r]?=some (.map es c)) (hL:MapG D es L) (hk:IsKey D k) (hm:(k,u) ∈ L) :
  ∃ es' j,(Instr.mapUpdate t (.map (some r)) k v).run P w=.ok () { w with heap:=w.heap.setIfInBounds r (.map es' c) }∧(∃ u',L[j]?=some (k,u'))∧MapG D es' (L.set j (k,v)):=by
 have hat:=hL.at_ hr
 have hkeys:∀ e ∈ es.toList,IsKey D e.key:=fun e he=>hat.keys (e.key,e.val) (by rw [← hL.held];exact List.mem_map.2 ⟨e,he,rfl⟩)
 have hnd:(es.toList.map (·.key)).Nodup:=by
  have:=hat.once
  rw [← hL.held,List.map_map] at this
  exact this
 have hmem:∃ e ∈ es.toList,e.key=k∧e.val=u:=by
  have:((k,u):Value×Value) ∈ es.toList.map (fun e=>(e.key,e.val)):=by rw [hL.held];exact hm
  obtain ⟨e,he,h2⟩:=List.mem_map.1 this
  simp only [Prod.mk.injEq] at h2
  exact ⟨e,he,h2⟩
 obtain ⟨j,hj,hf,hkj⟩:=findNow_hit (v:=u) hk es.toList 0 hkeys hnd hmem
 rw [Nat.zero_add] at hf
 have h1:=run_checkKey (P:=P) (w:=w) hK hk false 9999
 have h2:=run_findKey (P:=P) (w:=w) hK hf
 have hjs:j < es.size:=by simpa using hj
 have hkj':(es[j]?.map (·.key)).getD k=k:=by
  rw [show es[j]?=es.toList[j]? by simp,hkj];rfl
 have h3:=run_keyThatStays (P:=P) (w:=w) hk
 have hLj:∃ u',L[j]?=some (k,u'):=by
  have h4:=congrArg (fun l=>l[j]?) hL.held
  simp only [List.getElem?_map] at h4
  have h5:es.toList[j]?=some es[j]:=by simp [hjs]
  rw [h5] at h4 hkj
  simp only [Option.map_some,Option.some.injEq] at h4 hkj
  exact ⟨es[j].val,by rw [← h4,hkj]⟩
 refine ⟨es.modify j fun e=>{ e with key:=k,val:=v },j,?_,hLj,⟨?_,?_,?_⟩⟩
 ·simp only [Instr.mapUpdate,run_underlying ht,Go.MapKept.run_getObj_map hr,h1,h2,Result.andThen_ok,Sem.run_bind,hkj',h3,run_setObj_map _ hr]
 ·refine List.ext_getElem? fun m=>?_
  rw [← hL.held,Array.toList_modify,List.getElem?_map,List.getElem?_modify,List.getElem?_set,List.getElem?_map,List.length_map]
  by_cases e:j=m
  ·subst e
   have:es.toList[j]?=some es[j]:=by simp [hjs]
   rw [this,if_pos rfl,if_pos hj]
   simp
  ·simp [e]
 ·intro p hp
  rcases List.mem_or_eq_of_mem_set hp with h|h
  ·exact hL.keys p h
  ·rw [h];exact hk
 ·obtain ⟨u',hq⟩:=hLj
  rw [List.map_set]
  have:(L.map (·.1)).set j k=L.map (·.1):=by
   refine List.ext_getElem? fun m=>?_
   rw [List.getElem?_set]
   split
   ·rename_i e
    subst e
    simp only [List.length_map,List.getElem?_map,hq,Option.map_some]
    rw [if_pos (lt_of_getE hq)]
   ·rfl
  rw [show (k,v).1=k from rfl,this]
  exact hL.once
theorem updG_new {t Kt Et:TypeId} {r c:Nat} {es:Array MapEntry} {L:List (Value×Value)} {k v:Value} (ht:P.underlying t=some (.map Kt Et)) (hK:P.underlying Kt=some D) (hr:w.heap[r]?=some (.map es c)) (hL:MapG D es L) (hk:IsKey D k) (hm:∀ v,(k,v) ∉ L) :
  ∃ es' c',(Instr.mapUpdate t (.map (some r)) k v).run P w=.ok () { w with heap:=w.heap.setIfInBounds r (.map es' c') }∧MapG D es' (L++[(k,v)]):=by
 have hat:=hL.at_ hr
 have hkeys:∀ e ∈ es.toList,IsKey D e.key:=fun e he=>hat.keys (e.key,e.val) (by rw [← hL.held];exact List.mem_map.2 ⟨e,he,rfl⟩)
 have hno:∀ e ∈ es.toList,e.key≠k:=fun e he hek=>by
  have:(e.key,e.val) ∈ L:=by rw [← hL.held];exact List.mem_map.2 ⟨e,he,rfl⟩
  exact hm e.val (by rw [← hek];exact this)
 have hf:=findNow_miss hk es.toList 0 hkeys hno
 have h1:=run_checkKey (P:=P) (w:=w) hK hk false 9999
 have h2:=run_findKey (P:=P) (w:=w) hK hf
 refine ⟨es.push { key:=k,val:=v,born:=c },c + 1,?_,⟨by simp [hL.held],fun p hp=>?_,?_⟩⟩
 ·simp only [Instr.mapUpdate,run_underlying ht,Go.MapKept.run_getObj_map hr,h1,h2,Result.andThen_ok,Sem.run_bind,run_setObj_map _ hr]
 ·rcases List.mem_append.1 hp with h|h
  ·exact hL.keys p h
  ·have:p=(k,v):=by simpa using h
   rw [this];exact hk
 ·rw [List.map_append,List.nodup_append]
  refine ⟨hL.once,by simp,fun a ha b hb'=>?_⟩
  have:b=k:=by simpa using hb'
  subst this
  rintro rfl
  obtain ⟨p,hp,hpk⟩:=List.mem_map.1 ha
  exact hm p.2 (by rw [← hpk];exact hp)
theorem St.updMap (hS:St F w0 w Γ) {r c i:Nat} {es:Array MapEntry} (hi:Γ[i]?=some (.obj r (.map es c))) (es':Array MapEntry) (c':Nat):St F w0 { w with heap:=w.heap.setIfInBounds r (.map es' c') } (Γ.set i (.obj r (.map es' c'))):=by
 have hr:=(hS.at_ hi).1
 have hset:=heap_set (o':=Obj.map es' c') hr
 exact hS.upd hi ⟨rfl,rfl,rfl,by simp,fun g _ hg=>hset.2 g (fun e=>hg (by simp [Asr.fp,e]))⟩ ⟨hset.1,rfl⟩ (fun q hq=>Or.inl hq)
theorem g_updN (hS:St F w0 w Γ) {t Kt Et:TypeId} {m x y:Operand} {r c i:Nat} {es:Array MapEntry} {L:List (Value×Value)} {k v:Value} (ht:P.underlying t=some (.map Kt Et)) (hK:P.underlying Kt=some D) (hm:E.ev m=some (.map (some r))) (hx:E.ev x=some k) (hy:E.ev y=some v) (hi:Γ[i]?=some (.obj r (.map es c))) (hL:MapG D es L) (hk:IsKey D k) (hn:∀ v,(k,v) ∉ L) :
  Gets P ⟨dst,.mapUpdate t m x y,ty,pos,after,none⟩ n ds E w (fun _ w'=>∃ es' c',MapG D es' (L++[(k,v)])∧St F w0 w' (Γ.set i (.obj r (.map es' c')))):=fun a ha K Q kk=>by
 obtain ⟨es',c',hrun,h1⟩:=updG_new (v:=v) ht hK (hS.at_ hi).1 hL hk hn
 have hex:(execOp a.eval ⟨dst,.mapUpdate t m x y,ty,pos,after,none⟩).run P w=.ok .skip { w with heap:=w.heap.setIfInBounds r (.map es' c') }:=by
  simp only [execOp,ha.ev hm,ha.ev hx,ha.ev hy,Sem.run_bind,hrun,Result.andThen_ok,Sem.run_pure]
 unfold Oper.wp
 rw [hex]
 exact kk undef _ ⟨es',c',h1,hS.updMap hi es' c'⟩
theorem g_updO (hS:St F w0 w Γ) {t Kt Et:TypeId} {m x y:Operand} {r c i:Nat} {es:Array MapEntry} {L:List (Value×Value)} {k u v:Value} (ht:P.underlying t=some (.map Kt Et)) (hK:P.underlying Kt=some D) (hm:E.ev m=some (.map (some r))) (hx:E.ev x=some k) (hy:E.ev y=some v) (hi:Γ[i]?=some (.obj r (.map es c))) (hL:MapG D es L) (hk:IsKey D k) (hu:(k,u) ∈ L) :
  Gets P ⟨dst,.mapUpdate t m x y,ty,pos,after,none⟩ n ds E w (fun _ w'=>∃ es' c' j u',L[j]?=some (k,u')∧MapG D es' (L.set j (k,v))∧St F w0 w' (Γ.set i (.obj r (.map es' c')))):=fun a ha K Q kk=>by
 obtain ⟨es',j,hrun,⟨u',h1⟩,h2⟩:=updG_old (v:=v) ht hK (hS.at_ hi).1 hL hk hu
 have hex:(execOp a.eval ⟨dst,.mapUpdate t m x y,ty,pos,after,none⟩).run P w=.ok .skip { w with heap:=w.heap.setIfInBounds r (.map es' c) }:=by
  simp only [execOp,ha.ev hm,ha.ev hx,ha.ev hy,Sem.run_bind,hrun,Result.andThen_ok,Sem.run_pure]
 unfold Oper.wp
 rw [hex]
 exact kk undef _ ⟨es',c,j,u',h1,h2,hS.updMap hi es' c⟩
theorem d_look {K:Act→Prop} {t:TypeId} {m x:Operand} {r:Nat} {k v:Value} {ok:Bool} (hm:E.ev m=some (.map (some r))) (hx:E.ev x=some k) (h:∀ w,St F w0 w Γ→(Instr.lookup t (.map (some r)) k ok).run P w=.ok v w) (hd:Nat.blt d n=true) (kk:WD P ops (fun w'=>St F w0 w' Γ) K rest n ds ((d,v)::E)):WD P ops (fun w'=>St F w0 w' Γ) K (⟨some d,.lookup t m x ok,ty,pos,after,none⟩::rest) n ds E:=fun a ha=>
 wq_plain (v:=v) rfl (fun w hw=>by
  unfold Oper.quietAt
  simp only [execOp,ha.ev hm,ha.ev hx,Sem.run_bind,h w hw,Result.andThen_ok,Sem.run_pure]
  exact ⟨rfl,rfl⟩) (kk _ (ha.put d v hd))
theorem look_hit {t Kt Et:TypeId} {r c:Nat} (i:Nat) {es:Array MapEntry} {L:List (Value×Value)} {k v:Value} (ht:P.underlying t=some (.map Kt Et)) (hK:P.underlying Kt=some D) (hi:Γ[i]?=some (.obj r (.map es c))) (hL:MapG D es L) (hk:IsKey D k) (hv:(k,v) ∈ L) (ok:Bool):∀ w,St F w0 w Γ→(Instr.lookup t (.map (some r)) k ok).run P w=.ok (if ok then .tuple #[v,.bool true] else v) w:=fun w hS=>
 run_lookup_hit ht hK (hL.at_ (hS.at_ hi).1) hk hv ok
theorem look_miss {t Kt Et:TypeId} {r c:Nat} (i:Nat) {es:Array MapEntry} {L:List (Value×Value)} {k z:Value} (ht:P.underlying t=some (.map Kt Et)) (hK:P.underlying Kt=some D) (hz:(P.info? Et).bind (·.zero)=some z) (hi:Γ[i]?=some (.obj r (.map es c))) (hL:MapG D es L) (hk:IsKey D k) (hv:∀ v,(k,v) ∉ L) (ok:Bool):∀ w,St F w0 w Γ→(Instr.lookup t (.map (some r)) k ok).run P w=.ok (if ok then .tuple #[z,.bool false] else z) w:=fun w hS=>by
 obtain ⟨zi,hzi,hz2⟩:=Option.bind_eq_some_iff.1 hz
 have hz':(zeroValue Et).run P w=.ok z w:=by simp [zeroValue,typeInfo,hzi,hz2]
 exact run_lookup_miss ht hK (hL.at_ (hS.at_ hi).1) hk hv hz' ok
theorem g_makeMap (hS:St F w0 w Γ) {t:TypeId}:Gets P ⟨dst,.makeMap t none,ty,pos,after,none⟩ n ds E w (fun v w'=>∃ r,v=.map (some r)∧St F w0 w' (.obj r (.map #[] 0)::Γ)):=fun a ha K Q k=>by
 have hex:(execOp a.eval ⟨dst,.makeMap t none,ty,pos,after,none⟩).run P w=.ok (.value (.map (some w.heap.size))) (w.alloc (.map #[] 0)):=by
  simp only [execOp]
  rfl
 unfold Oper.wp
 rw [hex]
 exact k _ _ ⟨_,rfl,hS.new (World.grownBy_alloc w _ none) ⟨(heap_alloc w _).1,rfl⟩ (by simp [Asr.fp])⟩
end
end Go.Proofs.Ytejnpppejalhfac
/- THE STEP CALCULUS, part 21: min and max; copy of a string into a row of bytes of one's own; things in a list of whatever length. -/
namespace Go.Proofs.Ytejnpppejalhfac
open Go.RowKit Go.Sort
section
variable {P:Program} {n:Nat} {ds:List Deferred} {E:Fr} {w:World} {Q:Exit→Act→World→Prop} {ops:Array Oper} {rest:List Oper} {d:Nat} {dst:Option Nat} {ty:TypeId} {pos:String} {after:Array Edge} {F:Nat→Prop} {w0:World} {Γ:List Asr} {T:Tab}
theorem r_min {x y:Operand} {ats:Array TypeId} {m k:Int} (hx:E.ev x=some (.int .i64 m)) (hy:E.ev y=some (.int .i64 k)):∀ a,Has n ds a E→∀ dst,Runs P ⟨dst,.call { callee:=.builtin .min,args:=#[x,y],argTypes:=ats },ty,pos,after,none⟩ a (.int .i64 (min m k)):=fun a ha dst w=>by
 have e:(if k < m then k else m)=min m k:=by omega
 simp [execOp,resolve,invoke,builtin,ha.ev hx,ha.ev hy,Builtin.min_,Builtin.min2,Result.andThen,e]
theorem l_min {x y:Operand} {ats:Array TypeId} {m k:Int} (hx:E.ev x=some (.int .i64 m)) (hy:E.ev y=some (.int .i64 k)) (hd:Nat.blt d n=true) (k':WL P ops Q rest n ds ((d,.int .i64 (min m k))::E) w):WL P ops Q (⟨some d,.call { callee:=.builtin .min,args:=#[x,y],argTypes:=ats },ty,pos,after,none⟩::rest) n ds E w:=l_runs (fun a ha=>r_min hx hy a ha _) hd k'
theorem d_strFrom {C:World→Prop} {K:Act→Prop} (hT:TabOk P T) {t sz:Nat} {z:Value} {x lo:Operand} {kk:IntKind} {l:List UInt8} {i:Int} (ht:T.get t=some (.sc .string sz z)) (hx:E.ev x=some (.string ⟨l.toArray⟩)) (hlo:E.ev lo=some (.int kk i)) (h0:0≤i) (h1:i≤l.length) (hd:Nat.blt d n=true) (k:WD P ops C K rest n ds ((d,.string ⟨(l.drop i.toNat).toArray⟩)::E)):WD P ops C K (⟨some d,.slice t x (some lo) none none,ty,pos,after,none⟩::rest) n ds E:=d_runs (fun a ha=>r_strFrom hT ht hx hlo h0 h1 a ha _) hd k
theorem setL_pre (old c:List Value) (h:c.length≤old.length):setL old 0 c=c++old.drop c.length:=by
 conv=>lhs;rw [← List.take_append_drop c.length old]
 rw [setL_front _ _ _ _ (by simp;omega),setL_all _ _ (by simp;omega)]
theorem g_copyS (hS:St F w0 w Γ) (hT:TabOk P T) {t u e m cap g i:Nat} {ty2:TypeId} {x y:Operand} {old l:List UInt8} (ht:T.get t=some (.sl e 1 1 false [.int .u8 0])) (hx:E.ev x=some (.slice (some ⟨g,0,none⟩) m cap)) (hi:Γ[i]?=some (.row e 1 (.slice (some ⟨g,0,none⟩) m cap) (bR old))) (hy:E.ev y=some (.string ⟨l.toArray⟩)) :
  Gets P ⟨dst,.call { callee:=.builtin .copy,args:=#[x,y],argTypes:=#[t,u] },ty2,pos,after,none⟩ n ds E w (fun v' w'=>v'=.int .i64 ((l.take m).length:Nat)∧St F w0 w' (Γ.set i (.row e 1 (.slice (some ⟨g,0,none⟩) m cap) (bR (l.take m++old.drop (l.take m).length))))):=by
 intro a ha K Q k
 obtain ⟨hown,hlen,hone⟩:=hS.at_ hi
 rcases hown.2 with ⟨hv,_⟩|⟨g',cap',cur,hv,_,hg,hmc,hcm,hcs,htake⟩
 ·cases hv
 have hol:(bR old).length=old.length:=bR_len old
 cases hv
 rw [hol] at hmc htake hx hi
 simp only [hol] at k
 obtain ⟨c,hc⟩:∃ c,c=l.take old.length:=⟨_,rfl⟩
 have hcl:c.length=min l.length old.length:=by rw [hc,List.length_take];omega
 have hHL:HoldL w g cur.toList:=⟨e,hg⟩
 have hcu:old.length≤cur.size:=by rw [hcs];omega
 obtain ⟨ji,zv,hu,hinfo,_,hs,hby,hz,hzl,_,hsz,hs0⟩:=hT.sl ht
 have hst:=run_storeCells_cells (P:=P) g 0 (c.map fun b=>Value.int .u8 (b.toNat:Int)) 0 w (fun j hj=>by
  rw [List.length_map] at hj
  rw [hHL.cell]
  simp only [Option.isSome_iff_exists]
  exact ⟨_,List.getElem?_eq_getElem (by simp;omega)⟩) (fun j _=>hHL.frozen _) (by simp [Value.oneCell'])
 have hcs2:((ByteArray.extract ⟨l.toArray⟩ 0 (Nat.min l.length old.length)).data.map fun b=>Value.int .u8 (b.toNat:Int)).toList=c.map fun b=>Value.int .u8 (b.toNat:Int):=by
  rw [ba_extract,hc,show l.take old.length=l.take (Nat.min l.length old.length) by rw [List.take_eq_take_iff];show min old.length l.length=min (min l.length old.length) l.length;omega]
  simp
 have hrun:(Builtin.copy_ #[t,u] ty2 #[.slice (some ⟨g,0,none⟩) old.length cap,.string ⟨l.toArray⟩]).run P w=.ok (goInt c.length) (w.setCells g 0 (c.map fun b=>Value.int .u8 (b.toNat:Int))):=by
  simp [Builtin.copy_,run_underlying hu,Builtin.lenOf,Builtin.firstCells,sizeOf,typeInfo,hinfo,hs,ByteArray.size]
  have e:List.take (Nat.min l.length old.length) (l.map fun b=>Value.int .u8 (b.toNat:Int))=c.map fun b=>Value.int .u8 (b.toNat:Int):=by rw [← List.map_take,hc,show l.take old.length=l.take (Nat.min l.length old.length) by rw [List.take_eq_take_iff];show min old.length l.length=min (min l.length old.length) l.length;omega]
  rw [e,hst,hcl]
  rfl
 have hex:(execOp a.eval ⟨dst,.call { callee:=.builtin .copy,args:=#[x,y],argTypes:=#[t,u] },ty2,pos,after,none⟩).run P w=.ok (.value (.int .i64 (c.length:Nat))) (w.setCells g 0 (c.map fun b=>Value.int .u8 (b.toNat:Int))):=by
  simp [execOp,resolve,invoke,builtin,ha.ev hx,ha.ev hy,hrun,Result.andThen,goInt]
 unfold Oper.wp
 rw [hex]
 simp only [← hc] at k
 have hcel:(bR (c++old.drop c.length)).length=old.length:=by rw [bR_len,List.length_append,List.length_drop];omega
 refine k _ _ ⟨rfl,hS.upd hi (grownBy_setCells w g 0 _) ⟨⟨?_,.inr ⟨g,cap,_,by rw [hcel],Nat.zero_le _,setCells_heap hg 0 _,by rw [hcel];exact hmc,hcm,by simp [setL_len,hcs],?_⟩⟩,?_,?_⟩ (fun q hq=>Or.inl hq)⟩
 ·rw [bR_flat,List.length_map,hcel,List.length_append,List.length_drop];omega
 ·rw [hcel,Nat.mul_one,List.toList_toArray,setL_pre _ _ (by simp;omega),bR_flat,List.map_append,List.length_map,List.take_append]
  rw [Nat.mul_one,bR_flat] at htake
  have h1:(c.map fun b=>Value.int .u8 (b.toNat:Int)).take old.length=c.map fun b=>Value.int .u8 (b.toNat:Int):=List.take_of_length_le (by rw [List.length_map];omega)
  rw [h1,List.length_map,List.map_drop,← htake,List.drop_take]
 ·intro r hr
  unfold bR at hr
  obtain ⟨b,_,rfl⟩:=List.mem_map.1 hr
  rfl
 ·intro r hr
  unfold bR at hr
  obtain ⟨b,_,rfl⟩:=List.mem_map.1 hr
  rfl
end
end Go.Proofs.Ytejnpppejalhfac
/- THE STEP CALCULUS, part 22: the length of a map of one's own; what is one's own, for a callee that only reads it. -/
namespace Go.Proofs.Ytejnpppejalhfac
open Go.RowKit Go.Sort Go.MapKept
section
variable {P:Program} {n:Nat} {ds:List Deferred} {E:Fr} {w:World} {Q:Exit→Act→World→Prop} {ops:Array Oper} {rest:List Oper} {d:Nat} {dst:Option Nat} {ty:TypeId} {pos:String} {after:Array Edge} {F:Nat→Prop} {w0:World} {Γ:List Asr} {T:Tab}
theorem g_lenMap (hS:St F w0 w Γ) {t Kt Et:TypeId} {x:Operand} {r c i:Nat} {es:Array MapEntry} (ht:P.underlying t=some (.map Kt Et)) (hx:E.ev x=some (.map (some r))) (hi:Γ[i]?=some (.obj r (.map es c))) :
  Gets P ⟨dst,.call { callee:=.builtin .len,args:=#[x],argTypes:=#[t] },ty,pos,after,none⟩ n ds E w (fun v' w'=>v'=.int .i64 (es.size:Nat)∧w'=w):=Gets.of_at fun a ha=>by
 have hr:(Builtin.len_ #[t] ty #[.map (some r)]).run P w=.ok (.int .i64 es.size) w:=by
  simp [Builtin.len_,run_underlying ht,Go.MapKept.run_getObj_map (hS.at_ hi).1,goInt]
 simp [execOp,resolve,invoke,builtin,ha.ev hx,hr,Result.andThen]
theorem St.ownBs {Θ:List Asr} (hS:St F w0 w (Θ++Γ)) (i:Nat) {g k:Nat} {L:List Value} {v:Value} (hi:Γ[i]?=some (.blk g L)) (hk:L[k]?=some v):Bs (fps Θ) w ⟨g,k,none⟩ v:=by
 have hS2:=hS.sub (List.sublist_append_right Θ Γ)
 refine ⟨hS2.blkC i hi hk,fun ⟨A,hA,e⟩=>?_⟩
 rcases (List.pairwise_append.1 hS.apart).2.2 A hA _ (List.mem_of_getElem? hi) with h1|h1
 ·rw [h1] at e;cases e
 ·exact h1 e
theorem St.ownSl {Θ:List Asr} (hS:St F w0 w (Θ++Γ)) (i:Nat) {e sz:Nat} {v:Value} {rows:List (List Value)} (hi:Γ[i]?=some (.row e sz v rows)):Sl (fps Θ) w sz v rows:=by
 have hS2:=hS.sub (List.sublist_append_right Θ Γ)
 rcases hS2.rowForm i hi with ⟨rfl,rfl⟩|⟨g,cap,rfl,h1,h2⟩
 ·exact Or.inl ⟨_,_,rfl,rfl⟩
 ·have hr:=hS2.rowRo i hi
  refine Or.inr ⟨g,0,cap,rfl,h1,h2,⟨hr.lt,fun ⟨A,hA,e⟩=>?_,hr.len,hr.one,hr.cells⟩⟩
  rcases (List.pairwise_append.1 hS.apart).2.2 A hA _ (List.mem_of_getElem? hi) with h1|h1
  ·rw [h1] at e;cases e
  ·exact h1 e
end
end Go.Proofs.Ytejnpppejalhfac
/- THE STEP CALCULUS, part 23: a shift by one; slices held against nil. -/
namespace Go.Proofs.Ytejnpppejalhfac
open Go.RowKit Go.Sort
section
variable {P:Program} {n:Nat} {ds:List Deferred} {E:Fr} {w:World} {Q:Exit→Act→World→Prop} {ops:Array Oper} {rest:List Oper} {d:Nat} {dst:Option Nat} {ty:TypeId} {pos:String} {after:Array Edge} {F:Nat→Prop} {w0:World} {Γ:List Asr} {T:Tab}
theorem r_shr1 {t yt:TypeId} {x y:Operand} {m:Int} (hx:E.ev x=some (.int .u64 m)) (hy:E.ev y=some (.int .u64 1)) (h0:0≤m) (h1:m≤18446744073709551615):∀ a,Has n ds a E→∀ dst,Runs P ⟨dst,.binOp .shr t x y yt,ty,pos,after,none⟩ a (.int .u64 (m / 2)):=fun a ha _ w=>by
 simp only [execOp,ha.ev hx,ha.ev hy]
 simp [eqGuard,binOp,go_sem]
theorem l_shr1 {t yt:TypeId} {x y:Operand} {m:Int} (hx:E.ev x=some (.int .u64 m)) (hy:E.ev y=some (.int .u64 1)) (h0:0≤m) (h1:m≤18446744073709551615) (hd:Nat.blt d n=true) (k':WL P ops Q rest n ds ((d,.int .u64 (m / 2))::E) w):WL P ops Q (⟨some d,.binOp .shr t x y yt,ty,pos,after,none⟩::rest) n ds E w:=l_runs (fun a ha=>r_shr1 hx hy h0 h1 a ha _) hd k'
theorem u_wrap64 {m:Int} (h0:0≤m) (h1:m≤18446744073709551615):IntKind.u64.wrap (IntKind.i64.wrap m)=m:=by
 rw [IntKind.wrap_u64,IntKind.wrap_i64]
 omega
theorem l_shrU {t yt:TypeId} {x y:Operand} {m:Int} (hx:E.ev x=some (.int .u64 (IntKind.u64.wrap m))) (hy:E.ev y=some (.int .u64 1)) (hd:Nat.blt d n=true) (k':WL P ops Q rest n ds ((d,.int .u64 (IntKind.u64.wrap m / 2))::E) w):WL P ops Q (⟨some d,.binOp .shr t x y yt,ty,pos,after,none⟩::rest) n ds E w :=
 l_shr1 hx hy (by rw [IntKind.wrap_u64];omega) (by rw [IntKind.wrap_u64];omega) hd k'
theorem half_wrap {m:Int} {h:Nat} (h0:0≤m) (h1:m≤18446744073709551615) (h2:m / 2=(h:Nat)) (h3:h≤9223372036854775807):IntKind.i64.wrap (IntKind.u64.wrap (IntKind.i64.wrap m) / 2)=(h:Nat):=by
 rw [u_wrap64 h0 h1,h2,wrap_in (by omega) (by omega)]
theorem r_eqNil (hT:TabOk P T) {t e sz eb:Nat} {ag:Bool} {ez:List Value} {yt:TypeId} {x y:Operand} {p:Option Addr} {m c:Nat} (ht:T.get t=some (.sl e sz eb ag ez)) (hx:E.ev x=some (.slice p m c)) (hy:E.ev y=some (.slice none 0 0)):∀ a,Has n ds a E→∀ dst,Runs P ⟨dst,.binOp .eql t x y yt,ty,pos,after,none⟩ a (.bool p.isNone):=fun a ha _ w=>by
 obtain ⟨ji,zv,hu,_⟩:=hT.sl ht
 have e:=Go.Lib.run_eql_slice_nil (P:=P) w t _ p m c 0 0 hu
 simp only [execOp,ha.ev hx,ha.ev hy,eqGuard]
 simp [e,Result.andThen]
theorem l_eqNil (hT:TabOk P T) {t e sz eb:Nat} {ag:Bool} {ez:List Value} {yt:TypeId} {x y:Operand} {p:Option Addr} {m c:Nat} (ht:T.get t=some (.sl e sz eb ag ez)) (hx:E.ev x=some (.slice p m c)) (hy:E.ev y=some (.slice none 0 0)) (hd:Nat.blt d n=true) (k':WL P ops Q rest n ds ((d,.bool p.isNone)::E) w):WL P ops Q (⟨some d,.binOp .eql t x y yt,ty,pos,after,none⟩::rest) n ds E w:=l_runs (fun a ha=>r_eqNil hT ht hx hy a ha _) hd k'
theorem St.roC2 {b off sz:Nat} {rows:List (List Value)} (h:St F w0 w Γ) (hr:RoAt F w0 b off sz rows) {k j1 j2:Nat} {r:List Value} {u:Value} (hk:rows[k]?=some r) (hj:r[j1 + j2]?=some u):w.cell? ⟨b,off + k * sz + j1 + j2,none⟩=some u:=by
 rw [Nat.add_assoc (off + k * sz)]
 exact h.roC hr hk hj
theorem St.roRs {b off sz:Nat} {rows:List (List Value)} (h:St F w0 w Γ) (hr:RoAt F w0 b off sz rows) {k:Nat} (j m:Nat) {r:List Value} (hk:rows[k]?=some r):w.rangeAt b (off + k * sz + j) ((r.drop j).take m):=fun i v hi=>by
 rw [List.getElem?_take] at hi
 split at hi
 ·rw [List.getElem?_drop] at hi
  have:=h.roC hr hk hi
  rwa [← Nat.add_assoc] at this
 ·cases hi
end
end Go.Proofs.Ytejnpppejalhfac
/- The contracts of package bits and of the reference's bytes. -/
namespace Go.Proofs.Ytejnpppejalhfac
open Go.RowKit
set_option maxRecDepth 100000 in
set_option maxHeartbeats 400000 in
theorem bytes_any (n:Int) (k:Nat) (w:World) (hk:k≤8) :
  Calls Try.prog 64 #[.int .i64 n,.int .i64 k] w fun e w'=>e=.returned (.string ⟨(leB n k).toArray⟩)∧Below w.heap.size w w':=by
 have hcv:=run_str_of_one (P:=Try.prog) 123 5 9 Try.underlying123 Try.underlying5 Try.underlying9
 go_enter Try.func64,Try.ntmps64
 go_wp2
 go_loopw [0,5,6] (fun vn vs vi wr=>∃ j:Nat,j≤k∧vi=.int .i64 j∧vn=.int .i64 (n / 2 ^ (8 * j))∧vs=.string ⟨(leB n j).toArray⟩∧Below w.heap.size w wr) (fun _ _ i _=>k - (intOf i).toNat)
 case atStart=>exact ⟨0,by omega,rfl,by simp,rfl,Below.refl _ _⟩
 case round=>
  obtain ⟨j,hj,rfl,rfl,rfl,hb⟩:=hrel
  have hlen:(leB n j).length≤8:=by rw [leB_length];omega
  by_cases hlt:j < k
  ·go_wp2
   go_roundw
   case rel=>exact ⟨j + 1,by omega,by go_num,by rw [div_step],rfl,hb.alloc hb.size _⟩
   case measure=>simp [intOf];omega
  ·go_wp2
   obtain rfl:j=k:=by omega
   go_ret
   exact ⟨rfl,hb⟩
theorem inB_spec (off n all:Int):inB off n all=(decide (0≤off) && (decide (0≤n) && (decide (off≤all) && decide (n≤all - off)))):=by
 unfold inB;simp
set_option maxRecDepth 100000 in
set_option maxHeartbeats 400000 in
theorem in_any (off n all:Int) (w:World) (h:0≤all) (h2:all≤9223372036854775807) :
  Calls Try.prog 67 #[.int .i64 off,.int .i64 n,.int .i64 all] w fun e w'=>e=.returned (.bool (inB off n all))∧w=w':=by
 have hs:=hid (inB_spec off n all)
 go_enter Try.func67,Try.ntmps67
 go_wp2
 all_goals
  go_ret
  refine ⟨ret_bool ?_,rfl⟩
  rw [hs.out]
  first
   |(rw [IntWalk.wrap64_in (all - off) ⟨by omega,by omega⟩];simp [*];done)
   |(rw [Bool.eq_iff_iff];simp;omega)
theorem inB_yes (off n all:Nat) (h:off + n≤all):inB off n all=true:=by
 unfold inB;simp;omega
set_option maxRecDepth 100000 in
set_option maxHeartbeats 400000 in
theorem lay_yes (s t:List UInt8) (off:Nat) (w:World) (hs:s.length≤maxLen) (h:off + t.length≤s.length) :
  Calls Try.prog 42 #[.string ⟨s.toArray⟩,.int .i64 off,.string ⟨t.toArray⟩] w fun e w'=>e=.returned (.tuple #[.string ⟨(splice s off t).toArray⟩,.int .i64 0])∧Below w.heap.size w w':=by
 unfold maxLen at hs
 have hin:=inB_yes off t.length s.length h
 have hin2:=hid hin;clear hin
 go_enter Try.func42,Try.ntmps42
 have hsz5:(Try.prog.info? 5).map (·.size)=some 1:=by kernel_rfl
 have Hsz5:=hid hsz5;clear hsz5
 go_wp2_with (first|(go_at_call 67;(with_reducible refine (in_any _ _ _ _ (by omega) (by omega)).mono ?_);rintro e w' ⟨rfl,rfl⟩;rw [hin2.out])|((with_reducible refine at_op 17 ?_);refine wpList_conv_bytes rfl (.tmp 16) 9 123 5 rfl Try.underlying9 Try.underlying123 Try.underlying5 s rfl w.heap.size w (Below.refl _ _) (Nat.le_refl _) ?_;intro cap w1 hcap hb1 hby1 hsz1;have HB:=hid hby1;clear hby1)|((with_reducible refine at_op 22 ?_);refine wpList_copy_str rfl (.tmp 20) (.tmp 21) 123 9 rfl 5 Try.underlying123 Hsz5.out _ (s.length - off) _ rfl t rfl w.heap.size off s HB.out ?c1 ?c2 w.heap.size w hb1 (Nat.le_refl _) ?_;(case c1=>go_must (rw [List.length_take];omega));(case c2=>go_must (rw [List.length_take];intro h0;rw [if_neg (by omega)]));intro w2 hb2 hsz2 hby2;have HB2:=hid hby2;clear hby2)|((with_reducible refine at_op 24 ?_);refine wpList_conv_str rfl (.tmp 23) 123 9 5 rfl Try.underlying123 Try.underlying5 Try.underlying9 _ w.heap.size s.length _ rfl ?c3 HB2.out ?_;(case c3=>go_must (exact length_splice _ _ _ (by rw [List.length_take];omega)));clear HB2))
 all_goals
  go_ret2
  refine ⟨?_,hb2⟩
  show Ending.returned (.tuple #[.string ⟨(splice s off (t.take (s.length - off))).toArray⟩,.int .i64 0])=_
  rw [List.take_of_length_le (show t.length≤s.length - off from by omega)]
set_option maxRecDepth 100000 in
set_option maxHeartbeats 400000 in
theorem lay_no (s t:List UInt8) (off:Int) (w:World) (hs:s.length≤maxLen) (h:inB off t.length s.length=false) :
  Calls Try.prog 42 #[.string ⟨s.toArray⟩,.int .i64 off,.string ⟨t.toArray⟩] w fun e w'=>e=.returned (.tuple #[.string ⟨#[]⟩,.int .i64 3])∧w=w':=by
 unfold maxLen at hs
 go_enter Try.func42,Try.ntmps42
 go_wp2_with (go_at_call 67;(with_reducible refine (in_any _ _ _ _ (by omega) (by omega)).mono ?_);rintro e w' ⟨rfl,rfl⟩;rw [h])
 go_ret2
 exact ⟨rfl,rfl⟩
set_option maxRecDepth 100000 in
set_option maxHeartbeats 400000 in
theorem put_yes (n:Int) (k:Nat) (w:World) (h1:1≤k) (h8:k≤8) :
  Calls Try.prog 79 #[.int .i64 n,.int .i64 k] w fun e w'=>e=.returned (.tuple #[.string ⟨(leB n k).toArray⟩,.int .i64 0])∧Below w.heap.size w w':=by
 have hi5:(Try.prog.info? 5).map (fun i=>(i.zero,i.size,i.bytes))=some (some (.int .u8 0),1,1):=by kernel_rfl
 have Hi5:=hid hi5;clear hi5
 go_enter Try.func79,Try.ntmps79
 go_wp2_with (((with_reducible refine at_op 15 ?_);refine wpList_make_bytes rfl (.tmp 14) (.tmp 14) 123 5 rfl Try.underlying123 Hi5.out k ?c1 rfl rfl w.heap.size w (Below.refl _ _) (Nat.le_refl _) ?_;(case c1=>omega);intro w1 hb1 hby1 hsz1;have HB:=hid hby1;clear hby1))
 go_loopw [18] (fun vi wr=>∃ j:Nat,j≤k∧vi=.int .i64 j∧Below w.heap.size w wr∧w.heap.size < wr.heap.size∧Hid (BytesAt wr w.heap.size (putRow n k j))) (fun i _=>k - (intOf i).toNat)
 case atStart=>exact ⟨0,by omega,rfl,hb1,hsz1,by have:=HB.out;unfold putRow;show BytesAt _ _ _;simpa [leB] using this⟩
 case round=>
  obtain ⟨j,hj,rfl,hb,hsz,HBj⟩:=hrel
  by_cases hlt:j < k
  ·obtain ⟨hc,hf⟩:=HBj.out j (by rw [putRow_length _ _ _ hj];exact hlt)
   obtain ⟨v,hv⟩:∃ v,v=Value.int .u8 ((putRow n k j)[j]'(by rw [putRow_length _ _ _ hj];exact hlt)).toNat:=⟨_,rfl⟩
   rw [← hv] at hc;clear hv
   go_wp2
   have HS:=HBj.out.set j (by rw [putRow_length _ _ _ hj];exact hlt) (byteAt n j) _ (val_int (put_num n j (by omega)))
   rw [putRow_step n k j hlt] at HS
   exact ⟨⟨j + 1,by omega,by go_num,hb.setCell (Nat.le_refl _) _,by simpa using hsz,HS⟩,by simp [intOf];omega⟩
  ·go_wp2_with (((with_reducible refine at_op 32 ?_);refine wpList_conv_str rfl (.tmp 31) 123 9 5 rfl Try.underlying123 Try.underlying5 Try.underlying9 (putRow n k j) w.heap.size k _ rfl ?c3 HBj.out ?_;(case c3=>go_must (exact putRow_length _ _ _ hj));clear HBj))
   obtain rfl:j=k:=by omega
   go_ret2
   refine ⟨?_,hb⟩
   show Ending.returned (.tuple #[.string ⟨(putRow n j j).toArray⟩,.int .i64 0])=_
   rw [putRow_end]
end Go.Proofs.Ytejnpppejalhfac
/- The contracts of bits in the words of the step calculus. -/
namespace Go.Proofs.Ytejnpppejalhfac
open Go.RowKit Go.Sort
theorem Lay_fn (s t:List UInt8) (off:Int) (w:World) (hs:s.length≤maxLen):Fn Try.prog 42 [.string ⟨s.toArray⟩,.int .i64 off,.string ⟨t.toArray⟩] w (RBf (.tuple #[.string ⟨(if inB off t.length s.length=true then splice s off.toNat t else []).toArray⟩,.int .i64 (if inB off t.length s.length=true then 0 else 3)]) w):=by
 by_cases h:inB off t.length s.length=true
 ·rw [if_pos h,if_pos h]
  unfold inB at h
  simp only [decide_eq_true_eq] at h
  have h1:=lay_yes s t off.toNat w hs (by omega)
  rw [Int.toNat_of_nonneg (by omega)] at h1
  exact Fn.of_rb ⟨Try.func42,by kernel_rfl,by kernel_rfl⟩ (rb_below h1)
 ·rw [if_neg h,if_neg h]
  exact (Fn.of_same ⟨Try.func42,by kernel_rfl,by kernel_rfl⟩ (lay_no s t off w hs (by simpa using h))).mono (by rintro v w' ⟨rfl,rfl⟩;exact ⟨rfl,St.start _⟩)
end Go.Proofs.Ytejnpppejalhfac
/- foliantlaw.choose: a number out of n, whatever it is handed. -/
namespace Go.Proofs.Ytejnpppejalhfac
open Go.RowKit Go.Sort
end Go.Proofs.Ytejnpppejalhfac
/- Names. -/
namespace Go.Proofs.Ytejnpppejalhfac
open Go.RowKit Go.Sort
theorem lt_get {α:Type} {l:List α} {i:Nat} (h:(i:Int) < l.length):∃ x,l[i]?=some x:=⟨l[i]'(by omega),by simp⟩
/-! the program's -/
theorem name1_fn (r:Int) (w:World):Fn Try.prog 93 [.int .i32 r] w (RBf (.bool (!decide ((97≤r∧r≤122)∨(48≤r∧r≤57)∨r=95))) w):=by
 refine yEn Try.func93 Try.ntmps93 ?_
 have hS:=St.start w
 repeat' (first|refine yO ?_|(refine yM ?_;clear hS;intro g w' hS)|(refine yN ?_;clear hS;intro w' hS)|(refine yS ?_ ?_;all_goals (intro hb hp;try (exfalso;omega)))|fail)
 all_goals
  refine yR1 ?_
  refine ⟨?_,hS⟩
  simp only [Value.bool.injEq]
  first|(congr 1;rw [decide_eq_decide];omega)|(simp only [Bool.false_eq,Bool.not_eq_false',decide_eq_true_eq];omega)
def NmF:Value:=.func (.func 93) #[] #[]
theorem indexFunc_fn (l:List UInt8) (w:World):Fn Try.prog 102 [.string ⟨l.toArray⟩,NmF,.bool true] w (fun v w'=>∃ k:Int,v=.int .i64 k∧(0≤k ↔ l.all okB=false)∧St nF w w' []):=by
 refine yEn Try.func102 Try.ntmps102 ?_
 have hS:=St.start w
 repeat' (first|refine yO ?_|(refine yM ?_;clear hS;intro g w' hS)|(refine yN ?_;clear hS;intro w' hS)|(refine yS ?_ ?_;all_goals (intro hb hp;try (exfalso;omega)))|((with_reducible apply l_range hS tabOk);(iterate 3 exact rfl);intro r w' hS';clear hS;have hS:=hS';clear hS')|fail)
 refine c_loop (X:=Nat) 0 (fun k=>[(0,.string ⟨l.toArray⟩),(1,NmF),(2,.bool true),(10,.pointer (some ⟨r,0,none⟩))]) (fun k w'=>k≤l.length∧(l.take k).all okB=true∧St nF w w' [.obj r (.stringIter ⟨l.toArray⟩ k)]) (fun k=>l.length - k) ?_ ⟨by omega,rfl,hS⟩ ?_
 ·exact zS
 rintro k w1 ⟨hi,hall,hS'⟩
 clear hS
 have hS:=hS'
 clear hS'
 by_cases hk:k < l.length
 ·obtain ⟨b,hb'⟩:=lt_get (l:=l) (i:=k) (by omega)
  repeat' (first|refine yO ?_|(refine yM ?_;clear hS;intro g w' hS)|(refine yN ?_;clear hS;intro w' hS)|(refine yS ?_ ?_;all_goals (intro hb hp;try (exfalso;omega)))|((with_reducible apply l_nextb hS (i:=0) (hb:=hb'));(iterate 3 exact rfl);intro w' c wd hlow hhigh hS';simp only [List.set] at hS';clear hS;have hS:=hS';clear hS')|(refine yC ?_;refine ⟨_,name1_fn _ _,?_⟩;clear hS;intro w' hS)|fail)
  ·refine yR1 ?_
   refine ⟨_,rfl,⟨fun _=>all_no hb' ?_,fun _=>by omega⟩,hS.sub (List.nil_sublist _)⟩
   simp only [Bool.not_eq_true',decide_eq_false_iff_not] at hp
   unfold okB
   rw [decide_eq_false_iff_not]
   by_cases hlt:b.toNat < 128
   ·have:=(hlow hlt).1
    omega
   ·omega
  ·simp only [Bool.not_eq_true',decide_eq_false_iff_not,Decidable.not_not] at hp
   have hlt:b.toNat < 128:=by
    by_cases hlt:b.toNat < 128
    ·exact hlt
    ·have:=hhigh hlt;omega
   obtain ⟨rfl,rfl⟩:=hlow hlt
   refine q_round (k + 1) (by exact zS) ⟨by omega,all_take_succ hall hb' (by unfold okB;simp only [decide_eq_true_eq];omega),hS⟩ (by omega)
 ·have hge:l.length≤k:=by omega
  repeat' (first|refine yO ?_|(refine yM ?_;clear hS;intro g w' hS)|(refine yN ?_;clear hS;intro w' hS)|(refine yS ?_ ?_;all_goals (intro hb hp;try (exfalso;omega)))|((with_reducible apply l_nexte hS (i:=0) (hb:=hge));(iterate 3 exact rfl))|fail)
  refine yR1 ?_
  refine ⟨_,rfl,⟨fun h=>absurd h (by decide),fun h=>?_⟩,hS.sub (List.nil_sublist _)⟩
  rw [all_take_all hall (by omega)] at h
  cases h
theorem IndexFunc_fn (l:List UInt8) (w:World):Fn Try.prog 100 [.string ⟨l.toArray⟩,NmF] w (fun v w'=>∃ k:Int,v=.int .i64 k∧(0≤k ↔ l.all okB=false)∧St nF w w' []):=by
 refine yEn Try.func100 Try.ntmps100 ?_
 have hS:=St.start w
 repeat' (first|refine yO ?_|(refine yM ?_;clear hS;intro g w' hS)|(refine yN ?_;clear hS;intro w' hS)|(refine yS ?_ ?_;all_goals (intro hb hp;try (exfalso;omega)))|(refine yL ?_;refine ⟨_,indexFunc_fn l _,?_⟩;rintro _ w' ⟨k,rfl,hk,hS'⟩;replace hS:=hS.transA hS';simp only [appA] at hS;clear hS')|fail)
 refine yR1 ?_
 exact ⟨k,rfl,hk,hS⟩
theorem ContainsFunc_fn (l:List UInt8) (w:World):Fn Try.prog 92 [.string ⟨l.toArray⟩,NmF] w (RBf (.bool (!l.all okB)) w):=by
 refine yEn Try.func92 Try.ntmps92 ?_
 have hS:=St.start w
 repeat' (first|refine yO ?_|(refine yM ?_;clear hS;intro g w' hS)|(refine yN ?_;clear hS;intro w' hS)|(refine yS ?_ ?_;all_goals (intro hb hp;try (exfalso;omega)))|(refine yL ?_;refine ⟨_,IndexFunc_fn l _,?_⟩;rintro _ w' ⟨k,rfl,hk,hS'⟩;replace hS:=hS.transA hS';simp only [appA] at hS;clear hS')|fail)
 refine yR1 ?_
 refine ⟨?_,hS⟩
 congr 1
 cases h:l.all okB with
 |true=>rw [h] at hk;simp at hk ⊢;omega
 |false=>rw [h] at hk;simp at hk ⊢;omega
theorem name_fn (l:List UInt8) (w:World):Fn Try.prog 84 [.string ⟨l.toArray⟩] w (RBf (.bool (nmB l)) w):=by
 refine yEn Try.func84 Try.ntmps84 ?_
 have hS:=St.start w
 repeat' (first|refine yO ?_|(refine yM ?_;clear hS;intro g w' hS)|(refine yN ?_;clear hS;intro w' hS)|(refine yS ?_ ?_;all_goals (intro hb hp;try (exfalso;omega)))|(refine yC ?_;refine ⟨_,ContainsFunc_fn l _,?_⟩;clear hS;intro w' hS)|fail)
 all_goals refine yR1 ?_
 all_goals refine ⟨?_,hS⟩
 ·rw [nm_len (by omega)]
 ·rw [nm_len (by omega)]
 ·rw [nm_all (by omega),Bool.not_not]
end Go.Proofs.Ytejnpppejalhfac
/- Sheets: right, and filled. -/
namespace Go.Proofs.Ytejnpppejalhfac
open Go.RowKit Go.Sort
abbrev shA (s:Sh) (u:Value):Value:=.agg (shC s u).toArray
set_option maxRecDepth 100000 in
set_option maxHeartbeats 4000000 in
theorem right_fn {S:Sh} {w:World} {u:Value} (hu:ShV w S u):Fn Try.prog 59 [shA S u] w (RBf (.bool (rightS S)) w):=by
 have bnd:=hu.bound
 obtain ⟨p,c,rfl⟩:=hu.len
 refine yEn Try.func59 Try.ntmps59 ?_
 have hS:=St.start w
 unfold shA shC
 by_cases h0:(1≤S.page∧S.page≤255)∧S.data.length=16
 rotate_left
 ·have hf:rightS S=false:=by unfold rightS;rw [decide_eq_false h0];rfl
  rw [hf]
  repeat' (first|refine yO ?_|(refine yM ?_;clear hS;intro g w' hS)|(refine yS ?_ ?_;all_goals (intro hb hp;try (exfalso;omega))))
  all_goals ((refine yR1 ?_);exact ⟨rfl,hS.sub (List.nil_sublist _)⟩)
 have hr:rightS S=fxOk 0 S.fixes:=by unfold rightS;rw [decide_eq_true h0];rfl
 rw [hr]
 repeat' (first|refine yO ?_|(refine yM ?_;clear hS;intro g w' hS)|(refine yS ?_ ?_;all_goals (intro hb hp;try (exfalso;omega))))
 refine c_loopK (X:=Nat×Int) (fun x=>[(23,.int .i64 (x.1:Nat)),(3,.int .i64 x.2)]) [1,21,22] rfl (fun _=>[]) (fun x=>(x.1≤S.fixes.length∧0≤x.2∧x.2≤16)∧fxOk 0 S.fixes=fxOk x.2 (S.fixes.drop x.1)) (fun x=>S.fixes.length - x.1) (0,0) (by exact zS) (by simp) hS ?_
 clear hS
 rintro ⟨i,free⟩ w1 ⟨⟨hi,hf0,hf1⟩,hok⟩ hS
 dsimp only [List.cons_append,List.nil_append] at hi hf0 hf1 hok hS ⊢
 by_cases hlt:i < S.fixes.length
 ·obtain ⟨x,hx⟩:=lt_get (l:=S.fixes) (i:=i) (by omega)
  have hrow:=map_get (f:=fxC) hx
  obtain ⟨b,off,rfl,hro⟩:=hu.at_ (i:=i) hlt
  have hst:=fxOk_step (free:=free) hx
  by_cases h1:free≤x.off∧x.off≤16∧x.bytes≠[]∧(x.bytes.length:Int)≤16 - x.off
  ·have ho:fxOne free x=true:=decide_eq_true h1
   have hb0:decide (x.bytes=[])=false:=decide_eq_false h1.2.2.1
   rw [ho,Bool.true_and] at hst
   repeat' (first|refine yO ?_|(refine yM ?_;clear hS;intro g w' hS)|(refine yN ?_;clear hS;intro w' hS)|(refine yS ?_ ?_;all_goals (intro hb hp;try (exfalso;omega))))
   refine q_loopK (i + 1,fxEnd x) (by exact zS) ⟨⟨by show i + 1≤S.fixes.length;omega,by show 0≤fxEnd x;unfold fxEnd;omega,by show fxEnd x≤16;unfold fxEnd;omega⟩,by rw [hok,hst]⟩ hS.drop (by show S.fixes.length - (i + 1) < S.fixes.length - i;omega)
  ·have ho:fxOne free x=false:=decide_eq_false h1
   rw [ho,Bool.false_and] at hst
   by_cases hb1:x.bytes=[]
   ·have hb0:decide (x.bytes=[])=true:=decide_eq_true hb1
    repeat' (first|refine yO ?_|(refine yM ?_;clear hS;intro g w' hS)|(refine yN ?_;clear hS;intro w' hS)|(refine yS ?_ ?_;all_goals (intro hb hp;try (exfalso;omega))))
    all_goals ((refine yR1 ?_);exact ⟨by rw [hok,hst],hS.sub (List.nil_sublist _)⟩)
   ·have hb0:decide (x.bytes=[])=false:=decide_eq_false hb1
    repeat' (first|refine yO ?_|(refine yM ?_;clear hS;intro g w' hS)|(refine yN ?_;clear hS;intro w' hS)|(refine yS ?_ ?_;all_goals (intro hb hp;try (exfalso;omega))))
    all_goals first|((refine yR1 ?_);exact ⟨by rw [hok,hst],hS.sub (List.nil_sublist _)⟩)|(exfalso;exact h1 ⟨by omega,by omega,hb1,by omega⟩)
 ·repeat' (first|refine yO ?_|(refine yS ?_ ?_;all_goals (intro hb hp;try (exfalso;omega))))
  refine yR1 ?_
  exact ⟨by rw [hok,List.drop_of_length_le (by omega)];rfl,hS.sub (List.nil_sublist _)⟩
/-! filling -/
theorem fill_step {l:List Fx} {i:Nat} {f:Fx} {d:List UInt8} (h:l[i]?=some f):fillF d (l.take (i + 1))=splice (fillF d (l.take i)) f.off.toNat f.bytes:=by
 unfold fillF
 rw [List.take_add_one,h]
 simp [List.foldl_append]
theorem fxOk_at {l:List Fx}:∀ {free:Int},fxOk free l=true→0≤free→∀ {i:Nat} {f:Fx},l[i]?=some f→(0≤f.off∧f.off≤16)∧(f.bytes.length:Int)≤16 - f.off:=by
 induction l with
 |nil=>intro free _ _ i f h;simp at h
 |cons g r ih=>
  intro free h h0 i f hf
  simp only [fxOk,fxOne,Bool.and_eq_true,decide_eq_true_eq] at h
  obtain ⟨⟨h1,h2,h3,h4⟩,h5⟩:=h
  cases i with
  |zero=>simp at hf;subst hf;exact ⟨⟨by omega,h2⟩,h4⟩
  |succ i=>exact ih h5 (by unfold fxEnd;omega) (by simpa using hf)
theorem fillT_len {l:List Fx} {d:List UInt8} {free:Int} (h:fxOk free l=true) (h0:0≤free) (hd:d.length=16):∀ i,i≤l.length→(fillF d (l.take i)).length=16:=by
 intro i
 induction i with
 |zero=>intro _;simpa [fillF] using hd
 |succ i ih=>
  intro hi
  have hx:l[i]?=some l[i]:=List.getElem?_eq_getElem (by omega)
  have:=ih (by omega)
  obtain ⟨⟨h1,h2⟩,h3⟩:=fxOk_at h h0 hx
  rw [fill_step hx,splice_len (by omega)]
  exact this
theorem right_parts {S:Sh} (h:rightS S=true):S.data.length=16∧fxOk 0 S.fixes=true:=by
 unfold rightS at h
 simp only [Bool.and_eq_true,decide_eq_true_eq] at h
 exact ⟨h.1.2,h.2⟩
theorem fill_all {S:Sh} {i:Nat} (hi:S.fixes.length≤i):fillF S.data (S.fixes.take i)=fillS S:=by rw [List.take_of_length_le hi];rfl
set_option maxRecDepth 100000 in
set_option maxHeartbeats 4000000 in
theorem Fill_fn {S:Sh} {w:World} {u:Value} (hu:ShV w S u):Fn Try.prog 51 [shA S u] w (RBf (.tuple #[.string ⟨(if rightS S=true then fillS S else []).toArray⟩,.int .i64 (if rightS S=true then 0 else 1)]) w):=by
 have hr:=fun w (h:ShV w S u)=>right_fn h
 by_cases hR:rightS S=true
 rotate_left
 ·rw [if_neg hR,if_neg hR]
  rw [show rightS S=false by simpa using hR] at hr
  refine yEn Try.func51 Try.ntmps51 ?_
  have hS:=St.start w
  unfold shA shC
  repeat' (first|refine yO ?_|(refine yM ?_;clear hS;intro g w' hS)|(refine yC ?_;refine ⟨_,hr _ (hu.now hS),?_⟩;clear hS;intro w' hS))
  refine yR2 ?_
  exact ⟨rfl,hS.sub (List.nil_sublist _)⟩
 rw [if_pos hR,if_pos hR]
 rw [hR] at hr
 obtain ⟨hd,hok⟩:=right_parts hR
 have bnd:=hu.bound
 obtain ⟨p,c,rfl⟩:=hu.len
 refine yEn Try.func51 Try.ntmps51 ?_
 have hS:=St.start w
 unfold shA shC
 repeat' (first|refine yO ?_|(refine yM ?_;clear hS;intro g w' hS)|(refine yC ?_;refine ⟨_,hr _ (hu.now hS),?_⟩;clear hS;intro w' hS))
 refine c_loopK (X:=Nat) (fun x=>[(15,.int .i64 (x:Nat)),(4,.string ⟨(fillF S.data (S.fixes.take x)).toArray⟩)]) [1,13,14] rfl (fun _=>[]) (fun x=>x≤S.fixes.length) (fun x=>S.fixes.length - x) 0 (by exact zS) (by simp) hS ?_
 clear hS
 intro i w1 hi hS
 dsimp only [List.cons_append,List.nil_append] at hi hS ⊢
 have hlen:=fillT_len hok (by omega) hd i hi
 by_cases hlt:i < S.fixes.length
 ·obtain ⟨x,hx⟩:=lt_get (l:=S.fixes) (i:=i) (by omega)
  have hrow:=map_get (f:=fxC) hx
  obtain ⟨b,off,rfl,hro⟩:=hu.at_ (i:=i) hlt
  obtain ⟨⟨h1,h2⟩,h3⟩:=fxOk_at hok (by omega) hx
  have hst:=fill_step (d:=S.data) hx
  generalize fillF S.data (S.fixes.take i)=d at hlen hst ⊢
  have hlay:=fun w=>Lay_fn d x.bytes x.off w (by unfold maxLen;omega)
  have hin:inB x.off x.bytes.length d.length=true:=by unfold inB;rw [decide_eq_true_eq];omega
  simp only [hin,if_true] at hlay
  repeat' (first|refine yO ?_|(refine yM ?_;clear hS;intro g w' hS)|(refine yN ?_;clear hS;intro w' hS)|(refine yS ?_ ?_;all_goals (intro hb hp;try (exfalso;omega)))|(refine yC ?_;refine ⟨_,hlay _,?_⟩;clear hS;intro w' hS))
  exact q_loopK (i + 1) (by rw [hst];exact zS) (by show i + 1≤S.fixes.length;omega) hS.drop (by show S.fixes.length - (i + 1) < S.fixes.length - i;omega)
 ·repeat' (first|refine yO ?_|(refine yS ?_ ?_;all_goals (intro hb hp;try (exfalso;omega))))
  refine yR2 ?_
  exact ⟨by rw [fill_all (by omega)],hS.sub (List.nil_sublist _)⟩
end Go.Proofs.Ytejnpppejalhfac
/- link.Check and the reference's. -/
namespace Go.Proofs.Ytejnpppejalhfac
open Go.RowKit Go.Sort
set_option maxRecDepth 100000 in
set_option maxHeartbeats 8000000 in
theorem LkCheck_fn {A:List Ar} {Lp:List (Sh×Value)} {w:World} {va vs:Value} {en:Int} (hA:Sl nF w 4 va (A.map arC)) (hL:ShsV w Lp vs) (hen:-9223372036854775808≤en) (hen2:en≤9223372036854775807):Fn Try.prog 36 [lkA va vs en] w (RBf (.int .i64 (checkLk A (shs Lp) en)) w):=by
 have bnd:=hL.sl.bound
 have hsl:=hL.sl
 obtain ⟨p,c,rfl⟩:=hL.sl.len
 unfold lkA
 by_cases hc:checkI A=0
 rotate_left
 ·have hr:checkLk A (shs Lp) en=checkI A:=if_neg hc
  have hc':(!decide (checkI A=0))=true:=by rw [decide_eq_false hc];rfl
  rw [hr]
  refine yEn Try.func36 Try.ntmps36 ?_
  have hS:=St.start w
  repeat' (first|refine yO ?_|(refine yM ?_;clear hS;intro g w' hS)|(refine yC ?_;refine ⟨_,check_fn (hA.now hS),?_⟩;clear hS;intro w' hS))
  refine yR1 ?_
  exact ⟨rfl,hS.sub (List.nil_sublist _)⟩
 have hck:=fun w (h:Sl nF w 4 va (A.map arC))=>check_fn h
 have htot:=fun w (h:Sl nF w 4 va (A.map arC))=>Total_fn h
 have hfnd:=fun w page (h:Sl nF w 4 va (A.map arC))=>Find_fn page h
 have hfi:∀ page,findI A page=findA A page:=fun page=>if_pos hc
 simp only [hc,if_true,hfi] at hck htot hfnd
 have hr:checkLk A (shs Lp) en=if lkB A (shs Lp) en=true then 0 else 1:=if_pos hc
 rw [hr]
 unfold lkB
 rw [shs_len]
 by_cases hn:(Lp.length:Int)=sumN A
 rotate_left
 ·have hn':(!decide ((Lp.length:Int)=sumN A))=true:=by rw [decide_eq_false hn];rfl
  rw [if_neg (by rw [decide_eq_false hn];simp)]
  refine yEn Try.func36 Try.ntmps36 ?_
  have hS:=St.start w
  repeat' (first|refine yO ?_|(refine yM ?_;clear hS;intro g w' hS)|(refine yC ?_;refine ⟨_,hck _ (hA.now hS),?_⟩;clear hS;intro w' hS))
  (focus (refine yD ?_;(repeat' (first|refine yP ?_|(refine yF ?_;refine ⟨_,fun wd hd=>htot _ (hA.now hd),?_⟩)));all_goals (refine yZ ?_;clear hS;intro w' hS)))
  repeat' ((refine yO ?_))
  refine yR1 ?_
  exact ⟨rfl,hS.sub (List.nil_sublist _)⟩
 have hn':(!decide ((Lp.length:Int)=sumN A))=false:=by rw [decide_eq_true hn];rfl
 rw [decide_eq_true hn,Bool.true_and]
 refine yEn Try.func36 Try.ntmps36 ?_
 have hS:=St.start w
 repeat' (first|refine yO ?_|(refine yM ?_;clear hS;intro g w' hS)|(refine yC ?_;refine ⟨_,hck _ (hA.now hS),?_⟩;clear hS;intro w' hS))
 (focus (refine yD ?_;(repeat' (first|refine yP ?_|(refine yF ?_;refine ⟨_,fun wd hd=>htot _ (hA.now hd),?_⟩)));all_goals (refine yZ ?_;clear hS;intro w' hS)))
 repeat' ((refine yO ?_))
 refine c_loopK (X:=Nat×Int) (fun x=>[(27,.int .i64 (x.1:Nat)),(4,.int .i64 x.2)]) [1,25,26] rfl (fun _=>[]) (fun x=>x.1≤Lp.length∧shsB A 0 (shs Lp)=shsB A x.2 ((shs Lp).drop x.1)) (fun x=>Lp.length - x.1) (0,0) (by exact zS) (by simp) hS ?_
 clear hS
 rintro ⟨i,last⟩ w1 ⟨hi,hok⟩ hS
 dsimp only [List.cons_append,List.nil_append] at hi hok hS ⊢
 by_cases hlt:i < Lp.length
 ·obtain ⟨x,hx⟩:=lt_get (l:=Lp) (i:=i) (by omega)
  have hrow:=map_get (f:=fun p=>shC p.1 p.2) hx
  obtain ⟨b,off,rfl,hro⟩:=hsl.at_ (i:=i) hlt
  have hst:=shsB_step (A:=A) (last:=last) (shs_at hx)
  have hfx:=hL.fx x (List.mem_of_getElem? hx)
  have hfi2:=fun w h=>hfnd w x.1.page h
  obtain ⟨S,u⟩:=x
  dsimp only [shC] at hrow hst hfx hfi2
  obtain ⟨pu,cu,rfl⟩:=hfx.len
  have hrt:=fun w (h:ShV w S (.slice pu S.fixes.length cu))=>right_fn h
  rw [hst] at hok
  cases hf:findA A S.page with
  |none=>
   simp only [hf] at hfi2
   have ha:arOk A S.page=false:=by unfold arOk;rw [hf]
   rw [ha,Bool.false_and] at hok
   repeat' (first|refine yO ?_|(refine yM ?_;clear hS;intro g w' hS)|(refine yN ?_;clear hS;intro w' hS)|(refine yS ?_ ?_;all_goals (intro hb hp;try (exfalso;omega)))|(refine yC ?_;refine ⟨_,hfi2 _ (hA.now hS),?_⟩;clear hS;intro w' hS))
   refine yR1 ?_
   exact ⟨by rw [hok];rfl,hS.sub (List.nil_sublist _)⟩
  |some a=>
   simp only [hf] at hfi2
   obtain ⟨pg,n,prot,z⟩:=a
   cases z with
   |true=>
    have ha:arOk A S.page=false:=by unfold arOk;rw [hf];rfl
    rw [ha,Bool.false_and] at hok
    repeat' (first|refine yO ?_|(refine yM ?_;clear hS;intro g w' hS)|(refine yN ?_;clear hS;intro w' hS)|(refine yS ?_ ?_;all_goals (intro hb hp;try (exfalso;omega)))|(refine yC ?_;refine ⟨_,hfi2 _ (hA.now hS),?_⟩;clear hS;intro w' hS))
    refine yR1 ?_
    exact ⟨by rw [hok];rfl,hS.sub (List.nil_sublist _)⟩
   |false=>
    have ha:arOk A S.page=true:=by unfold arOk;rw [hf];rfl
    rw [ha,Bool.true_and] at hok
    cases hR:rightS S with
    |false=>
     simp only [hR] at hrt
     rw [hR,Bool.false_and] at hok
     repeat' (first|refine yO ?_|(refine yM ?_;clear hS;intro g w' hS)|(refine yN ?_;clear hS;intro w' hS)|(refine yS ?_ ?_;all_goals (intro hb hp;try (exfalso;omega)))|(refine yC ?_;refine ⟨_,hfi2 _ (hA.now hS),?_⟩;clear hS;intro w' hS)|(refine yC ?_;refine ⟨_,hrt _ (hfx.now hS),?_⟩;clear hS;intro w' hS))
     refine yR1 ?_
     exact ⟨by rw [hok];rfl,hS.sub (List.nil_sublist _)⟩
    |true=>
     simp only [hR] at hrt
     rw [hR,Bool.true_and] at hok
     by_cases hlp:last < S.page
     ·rw [decide_eq_true hlp,Bool.true_and] at hok
      repeat' (first|refine yO ?_|(refine yM ?_;clear hS;intro g w' hS)|(refine yN ?_;clear hS;intro w' hS)|(refine yS ?_ ?_;all_goals (intro hb hp;try (exfalso;omega)))|(refine yC ?_;refine ⟨_,hfi2 _ (hA.now hS),?_⟩;clear hS;intro w' hS)|(refine yC ?_;refine ⟨_,hrt _ (hfx.now hS),?_⟩;clear hS;intro w' hS))
      exact q_loopK (i + 1,S.page) (by exact zS) ⟨by show i + 1≤Lp.length;omega,hok⟩ (hS.reorder [2] (by decide) rfl) (by show Lp.length - (i + 1) < Lp.length - i;omega)
     ·rw [decide_eq_false hlp,Bool.false_and] at hok
      repeat' (first|refine yO ?_|(refine yM ?_;clear hS;intro g w' hS)|(refine yN ?_;clear hS;intro w' hS)|(refine yS ?_ ?_;all_goals (intro hb hp;try (exfalso;omega)))|(refine yC ?_;refine ⟨_,hfi2 _ (hA.now hS),?_⟩;clear hS;intro w' hS)|(refine yC ?_;refine ⟨_,hrt _ (hfx.now hS),?_⟩;clear hS;intro w' hS))
      refine yR1 ?_
      exact ⟨by rw [hok];rfl,hS.sub (List.nil_sublist _)⟩
 rw [List.drop_of_length_le (by rw [shs_len];omega)] at hok
 have hrv:(if (shsB A 0 (shs Lp) && entB A en)=true then (0:Int) else 1)=if entB A en=true then 0 else 1:=by
  simp only [hok,shsB,Bool.true_and]
 rw [hrv]
 have hfe:=fun w h=>hfnd w (en.tdiv 16) h
 by_cases he:0≤en∧en.tmod 8=0
 rotate_left
 ·have hE:entB A en=false:=by unfold entB;rw [decide_eq_false he];rfl
  rw [hE]
  have hrv2:(if false=true then (0:Int) else 1)=1:=rfl
  repeat' (first|refine yO ?_|(refine yS ?_ ?_;all_goals (intro hb hp;try (exfalso;omega)))|((with_reducible apply l_remT);exact rfl;exact rfl;omega;exact rfl))
  all_goals ((refine yR1 ?_);exact ⟨rfl,hS.sub (List.nil_sublist _)⟩)
 cases hf:findA A (en.tdiv 16) with
 |none=>
  simp only [hf] at hfe
  have hE:entB A en=false:=by unfold entB;rw [hf];simp
  rw [hE]
  repeat' (first|refine yO ?_|(refine yM ?_;clear hS;intro g w' hS)|(refine yN ?_;clear hS;intro w' hS)|(refine yS ?_ ?_;all_goals (intro hb hp;try (exfalso;omega)))|((with_reducible apply l_remT);exact rfl;exact rfl;omega;exact rfl)|((with_reducible apply l_quoT);exact rfl;exact rfl;omega;omega;omega;exact rfl)|(refine yC ?_;refine ⟨_,hfe _ (hA.now hS),?_⟩;clear hS;intro w' hS))
  refine yR1 ?_
  exact ⟨rfl,hS.sub (List.nil_sublist _)⟩
 |some a=>
  simp only [hf] at hfe
  have hok2:=(good_pos hc hf).1
  unfold Ar.ok at hok2
  obtain ⟨pg,n,prot,z⟩:=a
  dsimp only at hok2
  have ha2:=and2 (p:=prot) (by omega) (by omega)
  by_cases h2:2≤prot
  ·have hE:entB A en=true:=by unfold entB;rw [hf,decide_eq_true he];simp [h2]
   rw [hE]
   rw [if_pos h2] at ha2
   repeat' (first|refine yO ?_|(refine yM ?_;clear hS;intro g w' hS)|(refine yN ?_;clear hS;intro w' hS)|(refine yS ?_ ?_;all_goals (intro hb hp;try (exfalso;omega)))|((with_reducible apply l_remT);exact rfl;exact rfl;omega;exact rfl)|((with_reducible apply l_quoT);exact rfl;exact rfl;omega;omega;omega;exact rfl)|(refine yC ?_;refine ⟨_,hfe _ (hA.now hS),?_⟩;clear hS;intro w' hS)|((with_reducible apply l_and);exact rfl;exact rfl;exact ha2;exact rfl))
   refine yR1 ?_
   exact ⟨rfl,hS.sub (List.nil_sublist _)⟩
  ·have hE:entB A en=false:=by unfold entB;rw [hf];simp [h2]
   rw [hE]
   rw [if_neg h2] at ha2
   repeat' (first|refine yO ?_|(refine yM ?_;clear hS;intro g w' hS)|(refine yN ?_;clear hS;intro w' hS)|(refine yS ?_ ?_;all_goals (intro hb hp;try (exfalso;omega)))|((with_reducible apply l_remT);exact rfl;exact rfl;omega;exact rfl)|((with_reducible apply l_quoT);exact rfl;exact rfl;omega;omega;omega;exact rfl)|(refine yC ?_;refine ⟨_,hfe _ (hA.now hS),?_⟩;clear hS;intro w' hS)|((with_reducible apply l_and);exact rfl;exact rfl;exact ha2;exact rfl))
   refine yR1 ?_
   exact ⟨rfl,hS.sub (List.nil_sublist _)⟩
end Go.Proofs.Ytejnpppejalhfac
/- The reference's sheetsRise and CheckLinked. -/
namespace Go.Proofs.Ytejnpppejalhfac
open Go.RowKit Go.Sort
theorem riseB_step {l:List Sh} {i:Nat} {s:Sh} {last:Int} (h:l[i]?=some s):riseB last (l.drop i)=(rightS s && (decide (last < s.page) && riseB s.page (l.drop (i + 1)))):=by
 rw [drop_at h];rfl
theorem right_page {S:Sh} (h:rightS S=true):1≤S.page∧S.page≤255:=by
 unfold rightS at h
 simp only [Bool.and_eq_true,decide_eq_true_eq] at h
 exact h.1.1
end Go.Proofs.Ytejnpppejalhfac
/- Binary search in sheets and in entries; what a page is filled with. -/
namespace Go.Proofs.Ytejnpppejalhfac
open Go.RowKit Go.Sort
theorem shPage_fn (S:Sh) (u:Value) (t:Int) (w:World) (ho:u.oneCell'=true) (h1:-9223372036854775808≤S.page - t) (h2:S.page - t≤9223372036854775807):Fn Try.prog 50 [.agg (shC S u).toArray,.int .i64 t] w (RBf (.int .i64 (S.page - t)) w):=by
 unfold shC
 refine yEn Try.func50 Try.ntmps50 ?_
 have hS:=St.start w
 repeat' (first|refine yO ?_|(refine yM ?_;clear hS;intro g w' hS))
 refine yR1 ?_
 exact ⟨rfl,hS.sub (List.nil_sublist _)⟩
theorem enPage_fn (e:En) (t:Int) (w:World) (h1:-9223372036854775808≤e.page - t) (h2:e.page - t≤9223372036854775807):Fn Try.prog 48 [.agg (enC e).toArray,.int .i64 t] w (RBf (.int .i64 (e.page - t)) w):=by
 unfold enC
 refine yEn Try.func48 Try.ntmps48 ?_
 have hS:=St.start w
 repeat' (first|refine yO ?_|(refine yM ?_;clear hS;intro g w' hS))
 refine yR1 ?_
 exact ⟨rfl,hS.sub (List.nil_sublist _)⟩
def BsV (l:List Int) (t:Int):Value:=.tuple #[.int .i64 (lbd l t:Nat),.bool (decide (t ∈ l))]
set_option maxRecDepth 100000 in
set_option maxHeartbeats 8000000 in
theorem bsSh_fn {L:List (Sh×Value)} {w:World} {v:Value} {t:Int} (hL:Sl nF w 3 v (L.map fun p=>shC p.1 p.2)) (hr:Rises (L.map fun p=>p.1.page)) (hb:∀ q ∈ L.map fun p=>p.1.page,-9223372036854775808≤q - t∧q - t≤9223372036854775807) (ho:∀ p ∈ L,p.2.oneCell'=true) :
  Fn Try.prog 49 [v,.int .i64 t,.func (.func 50) #[] #[]] w (RBf (BsV (L.map fun p=>p.1.page) t) w):=by
 have hc:=fun (x:Sh×Value) (hx:x ∈ L) w=>shPage_fn x.1 x.2 t w (ho x hx)
 have bnd:=hL.bound
 obtain ⟨p,c,rfl⟩:=hL.len
 refine yEn Try.func49 Try.ntmps49 ?_
 have hS:=St.start w
 repeat' ((refine yO ?_))
 refine c_loopK (X:=Nat×Nat) (fun x=>[(9,.int .i64 (x.1:Nat)),(10,.int .i64 (x.2:Nat))]) [0,1,2,8] rfl (fun _=>[]) (fun x=>x.1≤x.2∧x.2≤L.length∧(∀ (j:Nat) (q:Int),j < x.1→(L.map (fun p=>p.1.page))[j]?=some q→q < t)∧(∀ (j:Nat) (q:Int),x.2≤j→(L.map (fun p=>p.1.page))[j]?=some q→t≤q)) (fun x=>x.2 - x.1) (0,L.length) (by exact zS) ⟨Nat.zero_le _,Nat.le_refl _,fun j q h=>by omega,fun j q h hq=>by have:=lt_of_getE hq;rw [List.length_map] at this;omega⟩ hS ?_
 clear hS
 rintro ⟨i,j⟩ w1 ⟨hij,hj,hlo,hhi⟩ hS
 dsimp only [List.cons_append,List.nil_append] at hij hj hlo hhi hS ⊢
 by_cases hlt:i < j
 ·obtain ⟨hm0,hm1⟩:i≤(i + j) / 2∧(i + j) / 2 < j:=by omega
  obtain ⟨h,hh⟩:∃ h,h=(i + j) / 2:=⟨_,rfl⟩
  rw [← hh] at hm0 hm1
  have ehi:((i:Int) + (j:Int)) / 2=(h:Nat):=by omega
  obtain ⟨x,hx⟩:=lt_get (l:=L) (i:=h) (by omega)
  have hrow:=map_get (f:=(fun p=>shC p.1 p.2)) hx
  have hpx:=map_get (f:=(fun p=>p.1.page)) hx
  have hbx:=hb _ (List.mem_of_getElem? hpx)
  obtain ⟨b,off,rfl,hro⟩:=hL.at_ (i:=h) (by omega)
  have hcmp:=hc x (List.mem_of_getElem? hx)
  repeat' (first|refine yO ?_|(refine yS ?_ ?_;all_goals (intro hb hp;try (exfalso;omega)))|((with_reducible apply l_shrU);(iterate 3 exact rfl)))
  rw [half_wrap (by omega) (by omega) ehi (by omega)]
  by_cases hp:x.1.page < t
  ·have hd:decide (x.1.page - t < 0)=true:=decide_eq_true (by omega)
   repeat' (first|refine yO ?_|(refine yC ?_;refine ⟨_,hcmp _ (by omega) (by omega),?_⟩;clear hS;intro w' hS))
   refine q_loopK (h + 1,j) (by exact zS) ⟨by show h + 1≤j;omega,hj,fun k q hk hq=>?_,hhi⟩ hS (by show j - (h + 1) < j - i;omega)
   rcases Nat.lt_or_ge k h with h1|h1
   ·exact Int.lt_trans (hr.at_ h1 hq hpx) hp
   ·obtain rfl:k=h:=by have:k < h + 1:=hk;omega
    rw [hpx] at hq
    cases hq
    exact hp
  ·have hd:decide (x.1.page - t < 0)=false:=decide_eq_false (by omega)
   repeat' (first|refine yO ?_|(refine yC ?_;refine ⟨_,hcmp _ (by omega) (by omega),?_⟩;clear hS;intro w' hS))
   refine q_loopK (i,h) (by exact zS) ⟨by show i≤h;omega,by show h≤_;omega,hlo,fun k q hk hq=>?_⟩ hS (by show h - i < j - i;omega)
   rcases Nat.lt_or_ge h k with h1|h1
   ·have:=hr.at_ h1 hpx hq
    have hp':¬ x.1.page < t:=hp
    omega
   ·obtain rfl:k=h:=by have:h≤k:=hk;omega
    rw [hpx] at hq
    cases hq
    have hp':¬ x.1.page < t:=hp
    omega
 ·obtain rfl:i=j:=by omega
  have hlb:lbd (L.map (fun p=>p.1.page)) t=i:=lbd_eq (by rw [List.length_map];omega) hlo (fun q hq=>hhi i q (Nat.le_refl _) hq)
  unfold BsV
  rw [hlb]
  by_cases hil:i < L.length
  ·obtain ⟨x,hx⟩:=lt_get (l:=L) (i:=i) (by omega)
   have hrow:=map_get (f:=(fun p=>shC p.1 p.2)) hx
   have hpx:=map_get (f:=(fun p=>p.1.page)) hx
   have hbx:=hb _ (List.mem_of_getElem? hpx)
   obtain ⟨b,off,rfl,hro⟩:=hL.at_ (i:=i) (by omega)
   have hcmp:=hc x (List.mem_of_getElem? hx)
   have hiff:=lbd_find hr t
   rw [hlb,hpx] at hiff
   have hdm:decide (t ∈ L.map (fun p=>p.1.page))=decide (x.1.page - t=0):=by
    rw [decide_eq_decide,← hiff]
    constructor
    ·intro h
     have h2:x.1.page=t:=Option.some.inj h
     omega
    ·intro h
     have h2:x.1.page=t:=by omega
     rw [h2]
   rw [hdm]
   repeat' (first|refine yO ?_|(refine yS ?_ ?_;all_goals (intro hb hp;try (exfalso;omega)))|(refine yC ?_;refine ⟨_,hcmp _ (by omega) (by omega),?_⟩;clear hS;intro w' hS))
   trace_state
   refine yR2 ?_
   exact ⟨rfl,hS.sub (List.nil_sublist _)⟩
  ·have hdm:decide (t ∈ L.map (fun p=>p.1.page))=false:=by
    rw [decide_eq_false_iff_not,← lbd_find hr t,hlb,List.getElem?_eq_none (by rw [List.length_map];omega)]
    simp
   rw [hdm]
   repeat' (first|refine yO ?_|(refine yS ?_ ?_;all_goals (intro hb hp;try (exfalso;omega))))
   refine yR2 ?_
   exact ⟨rfl,hS.sub (List.nil_sublist _)⟩
set_option maxRecDepth 100000 in
set_option maxHeartbeats 8000000 in
theorem bsEn_fn {L:List En} {w:World} {v:Value} {t:Int} (hL:Sl nF w 3 v (L.map enC)) (hr:Rises (L.map fun e=>e.page)) (hb:∀ q ∈ L.map fun e=>e.page,-9223372036854775808≤q - t∧q - t≤9223372036854775807) :
  Fn Try.prog 47 [v,.int .i64 t,.func (.func 48) #[] #[]] w (RBf (BsV (L.map fun e=>e.page) t) w):=by
 have hc:=fun (x:En) (_:x ∈ L) w=>enPage_fn x t w
 have bnd:=hL.bound
 obtain ⟨p,c,rfl⟩:=hL.len
 refine yEn Try.func47 Try.ntmps47 ?_
 have hS:=St.start w
 repeat' ((refine yO ?_))
 refine c_loopK (X:=Nat×Nat) (fun x=>[(9,.int .i64 (x.1:Nat)),(10,.int .i64 (x.2:Nat))]) [0,1,2,8] rfl (fun _=>[]) (fun x=>x.1≤x.2∧x.2≤L.length∧(∀ (j:Nat) (q:Int),j < x.1→(L.map (fun e=>e.page))[j]?=some q→q < t)∧(∀ (j:Nat) (q:Int),x.2≤j→(L.map (fun e=>e.page))[j]?=some q→t≤q)) (fun x=>x.2 - x.1) (0,L.length) (by exact zS) ⟨Nat.zero_le _,Nat.le_refl _,fun j q h=>by omega,fun j q h hq=>by have:=lt_of_getE hq;rw [List.length_map] at this;omega⟩ hS ?_
 clear hS
 rintro ⟨i,j⟩ w1 ⟨hij,hj,hlo,hhi⟩ hS
 dsimp only [List.cons_append,List.nil_append] at hij hj hlo hhi hS ⊢
 by_cases hlt:i < j
 ·obtain ⟨hm0,hm1⟩:i≤(i + j) / 2∧(i + j) / 2 < j:=by omega
  obtain ⟨h,hh⟩:∃ h,h=(i + j) / 2:=⟨_,rfl⟩
  rw [← hh] at hm0 hm1
  have ehi:((i:Int) + (j:Int)) / 2=(h:Nat):=by omega
  obtain ⟨x,hx⟩:=lt_get (l:=L) (i:=h) (by omega)
  have hrow:=map_get (f:=enC) hx
  have hpx:=map_get (f:=(fun e=>e.page)) hx
  have hbx:=hb _ (List.mem_of_getElem? hpx)
  obtain ⟨b,off,rfl,hro⟩:=hL.at_ (i:=h) (by omega)
  have hcmp:=hc x (List.mem_of_getElem? hx)
  repeat' (first|refine yO ?_|(refine yS ?_ ?_;all_goals (intro hb hp;try (exfalso;omega)))|((with_reducible apply l_shrU);(iterate 3 exact rfl)))
  rw [half_wrap (by omega) (by omega) ehi (by omega)]
  by_cases hp:x.page < t
  ·have hd:decide (x.page - t < 0)=true:=decide_eq_true (by omega)
   repeat' (first|refine yO ?_|(refine yC ?_;refine ⟨_,hcmp _ (by omega) (by omega),?_⟩;clear hS;intro w' hS))
   refine q_loopK (h + 1,j) (by exact zS) ⟨by show h + 1≤j;omega,hj,fun k q hk hq=>?_,hhi⟩ hS (by show j - (h + 1) < j - i;omega)
   rcases Nat.lt_or_ge k h with h1|h1
   ·exact Int.lt_trans (hr.at_ h1 hq hpx) hp
   ·obtain rfl:k=h:=by have:k < h + 1:=hk;omega
    rw [hpx] at hq
    cases hq
    exact hp
  ·have hd:decide (x.page - t < 0)=false:=decide_eq_false (by omega)
   repeat' (first|refine yO ?_|(refine yC ?_;refine ⟨_,hcmp _ (by omega) (by omega),?_⟩;clear hS;intro w' hS))
   refine q_loopK (i,h) (by exact zS) ⟨by show i≤h;omega,by show h≤_;omega,hlo,fun k q hk hq=>?_⟩ hS (by show h - i < j - i;omega)
   rcases Nat.lt_or_ge h k with h1|h1
   ·have:=hr.at_ h1 hpx hq
    have hp':¬ x.page < t:=hp
    omega
   ·obtain rfl:k=h:=by have:h≤k:=hk;omega
    rw [hpx] at hq
    cases hq
    have hp':¬ x.page < t:=hp
    omega
 ·obtain rfl:i=j:=by omega
  have hlb:lbd (L.map (fun e=>e.page)) t=i:=lbd_eq (by rw [List.length_map];omega) hlo (fun q hq=>hhi i q (Nat.le_refl _) hq)
  unfold BsV
  rw [hlb]
  by_cases hil:i < L.length
  ·obtain ⟨x,hx⟩:=lt_get (l:=L) (i:=i) (by omega)
   have hrow:=map_get (f:=enC) hx
   have hpx:=map_get (f:=(fun e=>e.page)) hx
   have hbx:=hb _ (List.mem_of_getElem? hpx)
   obtain ⟨b,off,rfl,hro⟩:=hL.at_ (i:=i) (by omega)
   have hcmp:=hc x (List.mem_of_getElem? hx)
   have hiff:=lbd_find hr t
   rw [hlb,hpx] at hiff
   have hdm:decide (t ∈ L.map (fun e=>e.page))=decide (x.page - t=0):=by
    rw [decide_eq_decide,← hiff]
    constructor
    ·intro h
     have h2:x.page=t:=Option.some.inj h
     omega
    ·intro h
     have h2:x.page=t:=by omega
     rw [h2]
   rw [hdm]
   repeat' (first|refine yO ?_|(refine yS ?_ ?_;all_goals (intro hb hp;try (exfalso;omega)))|(refine yC ?_;refine ⟨_,hcmp _ (by omega) (by omega),?_⟩;clear hS;intro w' hS))
   trace_state
   refine yR2 ?_
   exact ⟨rfl,hS.sub (List.nil_sublist _)⟩
  ·have hdm:decide (t ∈ L.map (fun e=>e.page))=false:=by
    rw [decide_eq_false_iff_not,← lbd_find hr t,hlb,List.getElem?_eq_none (by rw [List.length_map];omega)]
    simp
   rw [hdm]
   repeat' (first|refine yO ?_|(refine yS ?_ ?_;all_goals (intro hb hp;try (exfalso;omega))))
   refine yR2 ?_
   exact ⟨rfl,hS.sub (List.nil_sublist _)⟩
end Go.Proofs.Ytejnpppejalhfac
/- Objects of a link, in plain Lean. -/
namespace Go.Proofs.Ytejnpppejalhfac
open Go.RowKit Go.Sort
structure Ob where
 im:Im
 vn:Value
 vs:Value
 vy:Value
 vr:Value
 at_:Int
def imC (I:Im) (vn vs vy vr:Value):List Value:=[.string ⟨I.name.toArray⟩,vn,vs,vy,vr,.int .i64 I.entry]
def obC (o:Ob):List Value:=[.string ⟨o.im.name.toArray⟩,o.vn,o.vs,o.vy,o.vr,.int .i64 o.im.entry,.int .i64 o.at_]
abbrev ObV (w:World) (o:Ob):Prop:=ImV w o.im o.vn o.vs o.vy o.vr
def symAt (ys:List Sy) (nm:List UInt8):Option Int:=(ys.find? (fun s=>decide (s.name=nm))).map (·.at_)
def adr:List (Im×Int)→List UInt8→Option Int
 |[],_=>none
 |o::r,nm=>match symAt o.1.syms nm with
  |some a=>some (o.2 + a)
  |none=>adr r nm
def obP (os:List Ob):List (Im×Int):=os.map fun o=>(o.im,o.at_)
theorem obP_at {os:List Ob} {i:Nat} {o:Ob} (h:os[i]?=some o):(obP os)[i]?=some (o.im,o.at_):=by unfold obP;rw [List.getElem?_map,h];rfl
theorem obP_len (os:List Ob):(obP os).length=os.length:=by unfold obP;simp
theorem symAt_hit {ys:List Sy} {nm:List UInt8} {k:Nat} {s:Sy} (h:(ys.take k).all (fun s=>!decide (s.name=nm))=true) (hs:ys[k]?=some s) (hn:s.name=nm):symAt ys nm=some s.at_:=by
 unfold symAt
 have e:ys=ys.take k++s::ys.drop (k + 1):=by
  obtain ⟨h1,rfl⟩:=List.getElem?_eq_some_iff.1 hs
  rw [List.getElem_cons_drop,List.take_append_drop]
 rw [e,List.find?_append]
 have:(ys.take k).find? (fun s=>decide (s.name=nm))=none:=by
  rw [List.find?_eq_none]
  intro t ht
  have:=List.all_eq_true.1 h t ht
  simpa using this
 rw [this,Option.none_or,List.find?_cons,decide_eq_true hn]
 rfl
theorem symAt_miss {ys:List Sy} {nm:List UInt8} {k:Nat} (h:(ys.take k).all (fun s=>!decide (s.name=nm))=true) (hk:ys.length≤k):symAt ys nm=none:=by
 unfold symAt
 rw [List.take_of_length_le hk] at h
 have:ys.find? (fun s=>decide (s.name=nm))=none:=by
  rw [List.find?_eq_none]
  intro t ht
  have:=List.all_eq_true.1 h t ht
  simpa using this
 rw [this];rfl
theorem adr_step {l:List (Im×Int)} {nm:List UInt8} {i:Nat} {o:Im×Int} (h:l[i]?=some o):adr (l.drop i) nm=match symAt o.1.syms nm with
  |some a=>some (o.2 + a)
  |none=>adr (l.drop (i + 1)) nm:=by
 have:l.drop i=o::l.drop (i + 1):=by
  obtain ⟨h1,rfl⟩:=List.getElem?_eq_some_iff.1 h
  exact List.drop_eq_getElem_cons h1
 rw [this];rfl
def AdrV (o:Option Int):Value:=.tuple #[.int .i64 (o.getD 0),.bool o.isSome]
end Go.Proofs.Ytejnpppejalhfac
/- The linker's rights and address. -/
namespace Go.Proofs.Ytejnpppejalhfac
open Go.RowKit Go.Sort
def rgt (s:Sg):Int:=(if s.wr then 1 else 0) + (if s.ex then 2 else 0)
theorem rights_fn (s:Sg) (w:World):Fn Try.prog 81 [.agg (sgC s).toArray] w (RBf (.int .i64 (rgt s)) w):=by
 have o1:∀ a b:Int,bits .or .i64 0 1=1:=fun _ _=>by decide
 have o2:bits .or .i64 0 2=2:=by decide
 have o3:bits .or .i64 1 2=3:=by decide
 obtain ⟨pg,n,d,wr,ex⟩:=s
 refine yEn Try.func81 Try.ntmps81 ?_
 have hS:=St.start w
 unfold sgC
 cases wr <;> cases ex
 all_goals (repeat' (first|refine yO ?_|(refine yM ?_;clear hS;intro g w' hS)|((with_reducible apply l_or);exact rfl;exact rfl;(first|exact o1 0 0|exact o2|exact o3);exact rfl)))
 all_goals (refine yR1 ?_)
 all_goals exact ⟨rfl,hS.sub (List.nil_sublist _)⟩
set_option maxRecDepth 100000 in
set_option maxHeartbeats 8000000 in
theorem address_fn {os:List Ob} {w:World} {gw:Nat} {lv:Value} (nm:List UInt8) (hc:Bs nF w ⟨gw,2,none⟩ lv) (hl:Sl nF w 7 lv (os.map obC)) (hO:∀ o ∈ os,ObV w o) (hr:∀ o ∈ os,∀ s ∈ o.im.syms,-9223372036854775808≤o.at_ + s.at_∧o.at_ + s.at_≤9223372036854775807):Fn Try.prog 78 [.pointer (some ⟨gw,0,none⟩),.string ⟨nm.toArray⟩] w (RBf (AdrV (adr (obP os) nm)) w):=by
 have bnd:=hl.bound
 obtain ⟨p,c,rfl⟩:=hl.len
 refine yEn Try.func78 Try.ntmps78 ?_
 have hS:=St.start w
 have hc0:Bs nF w ⟨gw,0 + 2,none⟩ _:=hc
 repeat' ((refine yO ?_))
 refine c_loopK (X:=Nat) (fun x=>[(15,.int .i64 (x:Nat))]) [0,1,13,14] rfl (fun _=>[]) (fun x=>x≤os.length∧adr (obP os) nm=adr ((obP os).drop x) nm) (fun x=>os.length - x) 0 (by exact zS) (by simp) hS ?_
 clear hS
 intro i w1 hI hS
 obtain ⟨hi,had⟩:=hI
 dsimp only [List.cons_append,List.nil_append] at hi had hS ⊢
 by_cases hlt:i < os.length
 rotate_left
 ·rw [List.drop_of_length_le (by rw [obP_len];omega)] at had
  repeat' (first|refine yO ?_|(refine yS ?_ ?_;all_goals (intro hb hp;try (exfalso;omega))))
  refine yR2 ?_
  exact ⟨by rw [had];rfl,hS.sub (List.nil_sublist _)⟩
 obtain ⟨o,ho⟩:=lt_get (l:=os) (i:=i) (by omega)
 have hrow:=map_get (f:=obC) ho
 obtain ⟨b,off,rfl,hro⟩:=hl.at_ (i:=i) hlt
 have hst:=adr_step (nm:=nm) (obP_at ho)
 have hov:=hO o (List.mem_of_getElem? ho)
 have hor:=hr o (List.mem_of_getElem? ho)
 rw [hst] at had
 obtain ⟨I,vn,vs,vy,vr,at_⟩:=o
 dsimp only at had hor
 replace hov:ImV w I vn vs vy vr:=hov
 have by_:=hov.syms.bound
 have hsy:=hov.syms
 obtain ⟨pn,cn,rfl⟩:=hov.needs.len
 obtain ⟨ps,cs,rfl⟩:=hov.segs.len
 obtain ⟨py,cy,rfl⟩:=hov.syms.len
 obtain ⟨pr,cr,rfl⟩:=hov.rels.len
 unfold obC at hrow
 repeat' (first|refine yO ?_|(refine yM ?_;clear hS;intro g w' hS)|(refine yN ?_;clear hS;intro w' hS)|(refine yS ?_ ?_;all_goals (intro hb hp;try (exfalso;omega))))
 rename Nat=>g7
 refine c_loopK (X:=Nat) (fun x=>[(23,.int .i64 (x:Nat))]) [0,1,13,14,15,7,21,22] rfl (fun _=>[]) (fun x=>x≤I.syms.length∧(I.syms.take x).all (fun s=>!decide (s.name=nm))=true) (fun x=>I.syms.length - x) 0 (by exact zS) (by simp) hS ?_
 clear hS
 intro k w2 hK hS
 obtain ⟨hk,hall⟩:=hK
 dsimp only [List.cons_append,List.nil_append] at hk hall hS ⊢
 by_cases hkt:k < I.syms.length
 ·obtain ⟨y,hy⟩:=lt_get (l:=I.syms) (i:=k) (by omega)
  have hrow2:=map_get (f:=syC) hy
  obtain ⟨b2,off2,rfl,hro2⟩:=hsy.at_ (i:=k) hkt
  have hyr:=hor y (List.mem_of_getElem? hy)
  by_cases hn:y.name=nm
  ·have hd:decide (y.name=nm)=true:=decide_eq_true hn
   rw [symAt_hit hall hy hn] at had
   repeat' (first|refine yO ?_|(refine yM ?_;clear hS;intro g w' hS)|(refine yN ?_;clear hS;intro w' hS)|(refine yS ?_ ?_;all_goals (intro hb hp;try (exfalso;omega))))
   refine yR2 ?_
   exact ⟨by rw [had];rfl,hS.sub (List.nil_sublist _)⟩
  ·have hd:decide (y.name=nm)=false:=decide_eq_false hn
   repeat' (first|refine yO ?_|(refine yM ?_;clear hS;intro g w' hS)|(refine yN ?_;clear hS;intro w' hS)|(refine yS ?_ ?_;all_goals (intro hb hp;try (exfalso;omega))))
   exact q_loopK (k + 1) (by exact zS) ⟨by show k + 1≤I.syms.length;omega,all_take_succ hall hy (by simp [hn])⟩ hS.drop (by show I.syms.length - (k + 1) < I.syms.length - k;omega)
 ·rw [symAt_miss hall (by omega)] at had
  repeat' (first|refine yO ?_|(refine yS ?_ ?_;all_goals (intro hb hp;try (exfalso;omega))))
  exact q_loopK (i + 1) (by exact zS) ⟨by show i + 1≤os.length;omega,had⟩ hS.drop (by show os.length - (i + 1) < os.length - i;omega)
end Go.Proofs.Ytejnpppejalhfac
/- The linker places an image. -/
namespace Go.Proofs.Ytejnpppejalhfac
open Go.RowKit Go.Sort
def stK (l:List UInt8):Value:=.string ⟨l.toArray⟩
def PlI (es:Array MapEntry) (os:List Ob):Prop:=∃ L,MapG .string es L∧L.map (·.1)=os.map fun o=>stK o.im.name
abbrev LkS (gw rb rp:Nat) (p:Option Addr) (c:Nat) (next:Int) (es:Array MapEntry) (cc:Nat) (os:List Ob):List Asr :=
 [.blk gw [.map (some rb),.map (some rp),.slice p os.length c,.int .i64 next],.obj rp (.map es cc),.row 153 7 (.slice p os.length c) (os.map obC)]
theorem PlI.mem {es:Array MapEntry} {os:List Ob} {L:List (Value×Value)} (h:L.map (·.1)=os.map fun o=>stK o.im.name) (nm:List UInt8):(∃ v,(stK nm,v) ∈ L) ↔ ∃ o ∈ os,o.im.name=nm:=by
 constructor
 ·rintro ⟨v,hv⟩
  have:stK nm ∈ L.map (·.1):=List.mem_map.2 ⟨_,hv,rfl⟩
  rw [h] at this
  obtain ⟨o,ho,e⟩:=List.mem_map.1 this
  unfold stK at e
  exact ⟨o,ho,by simpa using e⟩
 ·rintro ⟨o,ho,rfl⟩
  have:stK o.im.name ∈ L.map (·.1):=by rw [h];exact List.mem_map.2 ⟨o,ho,rfl⟩
  obtain ⟨p,hp,e⟩:=List.mem_map.1 this
  exact ⟨p.2,by rw [← e];exact hp⟩
theorem Sl.atF {F:Nat→Prop} {w:World} {sz:Nat} {α:Type} {f:α→List Value} {l:List α} {p:Option Addr} {n c i:Nat} (h:Sl F w sz (.slice p n c) (l.map f)) (hi:i < l.length):∃ b off,p=some ⟨b,off,none⟩∧RoAt F w b off sz (l.map f):=by
 rcases h.parts.2 with h2|⟨b,off,rfl,_,_,hro⟩
 ·have:=congrArg List.length h2
  rw [List.length_map,List.length_nil] at this
  omega
 ·exact ⟨b,off,rfl,hro⟩
def isPl (os:List Ob) (nm:List UInt8):Bool:=os.any fun o=>decide (o.im.name=nm)
theorem isPl_iff {os:List Ob} {nm:List UInt8}:isPl os nm=true ↔ ∃ o ∈ os,o.im.name=nm:=by unfold isPl;simp
def lastEnd (I:Im):Int:=match I.segs.getLast? with
 |some s=>s.pg + s.n
 |none=>0
def plOs (os:List Ob) (next:Int) (I:Im) (vn vs vy vr:Value):List Ob:=if isPl os I.name=true then os else os++[⟨I,vn,vs,vy,vr,next * 16⟩]
def plNext (os:List Ob) (next:Int) (I:Im):Int:=if isPl os I.name=true then next else next + lastEnd I
theorem mt_placed:(Try.prog).underlying 146=some (.map 9 3):=by kernel_rfl
theorem ut_string:(Try.prog).underlying 9=some .string:=by kernel_rfl
theorem zt_int:((Try.prog).info? 3).bind (·.zero)=some (.int .i64 0):=by kernel_rfl
set_option maxRecDepth 100000 in
set_option maxHeartbeats 8000000 in
theorem place_fn {F:Nat→Prop} {w0 w:World} {Γ:List Asr} {gw rb rp c cc:Nat} {p:Option Addr} {next:Int} {es:Array MapEntry} {os:List Ob} {I:Im} {vn vs vy vr:Value} (hS0:St F w0 w (LkS gw rb rp p c next es cc os++Γ)) (hP:PlI es os) (hI:ImV w I vn vs vy vr) (hIs:Sl (fps (LkS gw rb rp p c next es cc os)) w 5 vs (I.segs.map sgC)) (hs1:1≤I.segs.length) (hs2:I.segs.all sgOk=true) (hs3:I.segs.length≤6) (hn0:0≤next) (hn1:next≤100000) (hol:os.length≤1000) :
  Fn Try.prog 76 [.pointer (some ⟨gw,0,none⟩),imA I vn vs vy vr] w (fun v w'=>v=.int .i64 0∧∃ p' c' es' cc',PlI es' (plOs os next I vn vs vy vr)∧St (fps (LkS gw rb rp p c next es cc os)) w w' (LkS gw rb rp p' c' (plNext os next I) es' cc' (plOs os next I vn vs vy vr))):=by
 obtain ⟨L,hL,hLk⟩:=hP
 have hmem:=PlI.mem (es:=es) hLk I.name
 unfold plOs plNext
 obtain ⟨pn,cn,rfl⟩:=hI.needs.len
 obtain ⟨ps,cs,rfl⟩:=hI.segs.len
 obtain ⟨py,cy,rfl⟩:=hI.syms.len
 obtain ⟨pr,cr,rfl⟩:=hI.rels.len
 refine yEn Try.func76 Try.ntmps76 ?_
 have hS:=St.startM hS0
 simp only [LkS] at hS
 by_cases hpl:isPl os I.name=true
 ·obtain ⟨v,hv⟩:=hmem.2 (isPl_iff.1 hpl)
  rw [if_pos hpl,if_pos hpl]
  repeat' (first|refine yO ?_|(refine yM ?_;clear hS;intro g w' hS))
  (focus (refine yD ?_;(repeat' (first|refine yP ?_|((with_reducible apply d_look);exact rfl;exact rfl;exact look_hit 2 mt_placed ut_string rfl hL (k:=stK I.name) trivial hv true;exact rfl)));all_goals (refine yZ ?_;clear hS;intro w' hS)))
  repeat' ((refine yO ?_))
  refine yR1 ?_
  exact ⟨rfl,p,c,es,cc,⟨L,hL,hLk⟩,hS.drop⟩
 ·rw [if_neg hpl,if_neg hpl]
  have hno:∀ v,(stK I.name,v) ∉ L:=fun v hv=>hpl (isPl_iff.2 (hmem.1 ⟨v,hv⟩))
  repeat' (first|refine yO ?_|(refine yM ?_;clear hS;intro g w' hS))
  rename Nat=>g3
  (focus (refine yD ?_;(repeat' (first|refine yP ?_|((with_reducible apply d_look);exact rfl;exact rfl;exact look_miss 2 mt_placed ut_string zt_int rfl hL (k:=stK I.name) trivial hno true;exact rfl)));all_goals (refine yZ ?_;clear hS;intro w' hS)))
  obtain ⟨k,hk⟩:∃ k,I.segs.length=k + 1:=⟨I.segs.length - 1,by omega⟩
  have hix:((k:Nat):Int)=(I.segs.length:Int) - 1:=by omega
  have hlt:k < I.segs.length:=by omega
  obtain ⟨y,hy⟩:=lt_get (l:=I.segs) (i:=k) (by omega)
  have hrow:(I.segs.map sgC)[k]?=some [.int .i64 y.pg,.int .i64 y.n,.string ⟨y.data.toArray⟩,.bool y.wr,.bool y.ex]:=map_get (f:=sgC) hy
  obtain ⟨b,off,rfl,hro⟩:=hIs.atF (i:=k) hlt
  have hle:lastEnd I=y.pg + y.n:=by
   unfold lastEnd
   rw [List.getLast?_eq_getElem?,show I.segs.length - 1=k by omega,hy]
  have hyo:=List.all_eq_true.1 hs2 y (List.mem_of_getElem? hy)
  unfold sgOk at hyo
  replace hyo:=of_decide_eq_true hyo
  obtain ⟨y1,y2,y3,y4,-⟩:=hyo
  rw [hle]
  repeat' (first|refine yO ?_|(refine yM ?_;clear hS;intro g w' hS)|(refine yN ?_;clear hS;intro w' hS))
  (focus (refine yW (nn 11) ?_;(repeat' ((refine yP ?_)));all_goals (refine yZ ?_;clear hS;intro w' hS)))
  refine l_gets0 (g_updN hS (i:=3) mt_placed ut_string rfl rfl rfl rfl hL (k:=stK I.name) trivial hno) ?_
  rintro - w9 ⟨es',cc',hL',hS'⟩
  simp only [List.set] at hS'
  clear hS;have hS:=hS';clear hS'
  repeat' ((refine yO ?_))
  refine c_till (fun w'=>(Asr.blk gw [.map (some rb),.map (some rp),.slice p os.length c,.int .i64 next]).holds w'∧(Asr.blk g3 [.string ⟨I.name.toArray⟩,.slice pn I.needs.length cn,.slice (some ⟨b,off,none⟩) I.segs.length cs,.slice py I.syms.length cy,.slice pr I.rels.length cr,.int .i64 I.entry]).holds w') 16 17 rfl hS (by kernel_rfl) ?_
  intro w10 hS'
  clear hS;have hS:=hS';clear hS'
  have hH:=And.intro (hS.at_ (i:=2) rfl) (hS.at_ (i:=1) rfl)
  ((with_reducible apply t_pure (nn 0) tabOk);exact rfl;kernel_rfl;kernel_rfl;kernel_rfl;exact rfl;exact (fun _ _ _ h=>h);exact Or.inr hH;exact rfl;exact rfl)
  ((with_reducible apply t_pure (nn 1) tabOk);exact rfl;kernel_rfl;kernel_rfl;kernel_rfl;exact rfl;exact (fun _ _ _ h=>h);exact Or.inr hH;exact rfl;exact rfl)
  ((with_reducible apply t_pure (nn 2) tabOk);exact rfl;kernel_rfl;kernel_rfl;kernel_rfl;exact rfl;exact (fun _ _ _ h=>h);exact Or.inr hH;exact rfl;exact rfl)
  ((with_reducible apply t_pure (nn 3) tabOk);exact rfl;kernel_rfl;kernel_rfl;kernel_rfl;exact rfl;exact (fun _ _ _ h=>h);exact Or.inr hH;exact rfl;exact rfl)
  ((with_reducible apply t_takeL (nn 4));exact rfl;kernel_rfl;kernel_rfl;kernel_rfl;kernel_rfl;exact rfl;exact rfl;exact (fun _ _ _ h=>h);exact hH;exact rfl;(intro w2 hw2;((with_reducible apply Loads.sl tabOk);exact rfl;exact holdC hw2.1 rfl));exact rfl)
  ((with_reducible apply t_takeL (nn 5));exact rfl;kernel_rfl;kernel_rfl;kernel_rfl;kernel_rfl;exact rfl;exact rfl;exact (fun _ _ _ h=>h);exact hH;exact rfl;(intro w2 hw2;((with_reducible apply Loads.st tabOk);exact rfl;(exact fun j v hj=>by rw [Nat.zero_add];exact holdC hw2.2 hj);exact rfl));exact rfl)
  ((with_reducible apply t_pure (nn 6) tabOk);exact rfl;kernel_rfl;kernel_rfl;kernel_rfl;exact rfl;exact (fun _ _ _ h=>h);exact Or.inr hH;exact rfl;exact rfl)
  ((with_reducible apply t_pure (nn 7) tabOk);exact rfl;kernel_rfl;kernel_rfl;kernel_rfl;exact rfl;exact (fun _ _ _ h=>h);exact Or.inr hH;exact rfl;exact rfl)
  ((with_reducible apply t_pure (nn 8) tabOk);exact rfl;kernel_rfl;kernel_rfl;kernel_rfl;exact rfl;exact (fun _ _ _ h=>h);exact Or.inr hH;exact rfl;exact rfl)
  ((with_reducible apply t_takeL (nn 9));exact rfl;kernel_rfl;kernel_rfl;kernel_rfl;kernel_rfl;exact rfl;exact rfl;exact (fun _ _ _ h=>h);exact hH;exact rfl;(intro w2 hw2;((with_reducible apply Loads.sc tabOk);exact rfl;exact holdC hw2.1 rfl));exact rfl)
  refine t_one (i:=10) (by kernel_rfl) ?_
  refine p_gets rfl (Gets.of_runs fun a ha=>r_mul rfl rfl (by omega) (by omega) a ha _) rfl ?_
  rintro _ _ ⟨rfl,rfl⟩
  refine ⟨Or.inr (Or.inr hH),?_⟩
  refine t_one (i:=11) (by kernel_rfl) ?_
  ((with_reducible apply p_build tabOk);(iterate 3 exact rfl);((exact (rfl:_=some [_,_,_,_,_,_,_])));exact rfl)
  refine ⟨Or.inr (Or.inr hH),?_⟩
  refine t_one (i:=12) (by kernel_rfl) ?_
  refine p_gets rfl (g_bslice hS tabOk rfl rfl rfl rfl rfl rfl) rfl ?_
  rintro _ w' ⟨g9,rfl,hS'⟩
  clear hS;have hS:=hS';clear hS'
  refine ⟨Or.inr (Or.inr ⟨hS.at_ (i:=3) rfl,hS.at_ (i:=2) rfl⟩),?_⟩
  refine t_one (i:=13) (by kernel_rfl) ?_
  refine p_gets rfl (g_append hS tabOk (i:=5) rfl rfl rfl rfl (hS.rowRo 0 rfl) rfl (by simp only [List.length_map];omega)) rfl ?_
  rintro _ w' ⟨p',c',rfl,hS'⟩
  simp only [List.set] at hS'
  clear hS;have hS:=hS';clear hS'
  have hH:=And.intro (hS.at_ (i:=3) rfl) (hS.at_ (i:=2) rfl)
  refine ⟨Or.inr (Or.inr hH),?_⟩
  ((with_reducible apply t_pure (nn 14) tabOk);exact rfl;kernel_rfl;kernel_rfl;kernel_rfl;exact rfl;exact (fun _ _ _ h=>h);exact Or.inr hH;exact rfl;exact rfl)
  ((with_reducible apply t_pure (nn 15) tabOk);exact rfl;kernel_rfl;kernel_rfl;kernel_rfl;exact rfl;exact (fun _ _ _ h=>h);exact Or.inr hH;exact rfl;exact rfl)
  refine t_one (i:=16) (by kernel_rfl) ?_
  refine p_gets0 (Φ:=fun _ w'=>St _ _ w' _) rfl (g_store hS tabOk (i:=3) rfl rfl rfl rfl rfl (Nat.le_of_ble_eq_true rfl) (by intro u hu;simp [Value.cells] at hu;subst hu;rfl)) ?_
  intro _ w' hS'
  simp only [List.set] at hS'
  clear hS;have hS:=hS';clear hS'
  refine ⟨Or.inl rfl,?_⟩
  refine t_done (by kernel_rfl) ?_
  repeat' ((refine yO ?_))
  (focus (refine yW (nn 12) ?_;(repeat' ((refine yP ?_)));all_goals (refine yZ ?_;clear hS;intro w' hS)))
  repeat' (first|refine yO ?_|(refine yN ?_;clear hS;intro w' hS))
  refine yR1 ?_
  have hS2:=hS.drop.drop.drop
  clear hS
  refine ⟨rfl,p',c',es',cc',⟨_,hL',?_⟩,?_⟩
  ·rw [List.map_append,hLk,List.map_append]
   rfl
  ·unfold LkS
   rw [List.length_append,List.map_append]
   rw [List.length_map] at hS2
   exact hS2
end Go.Proofs.Ytejnpppejalhfac
