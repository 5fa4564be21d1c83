/- Texts that the proof stands on, one behind the other: Cx13, Cx14, Cx3, Cpu, Cpu2, CpuBad, Cx15, CyF. -/
import Derived.Lib.QuietBelow
import Derived.Deep.RegionWith
import Derived.Deep.DeepCutAuto
import Derived.Test.YtejnpppejalhfadGreatPFlatPeeks7
set_option linter.unusedVariables false
set_option linter.unusedSimpArgs false
namespace Go.Proofs.YtejnpppejalhfadGreat
set_option maxRecDepth 100000
set_option maxHeartbeats 8000000
open Go.RowKit Go.Sort
def a3Z:Pl->List Nat
 |.alt i _ _ more=>i::a3Z more
 |_=>[]
noncomputable def plB (ops:Array Oper) (p:Pl):(Nat->Array Bool->Bool)×(Nat->Array Bool->Bool):=@Pl.rec (fun _=>(Nat->Array Bool->Bool)×(Nat->Array Bool->Bool))
 (fun _ li=>(Region.ready .any ops li).isEmpty,fun _ _=>false)
 (fun _ _=>false,fun _ _=>true)
 (fun i _ k=>(fun f li=>match f with
  |0=>false
  |f + 1=>Nat.blt i ops.size && (Region.free .any ops li i && ((Region.ready .any ops li).contains i && k.1 f (li.setIfInBounds i true))),fun _ _=>false))
 (fun i dr _ k=>(fun f li=>match f with
  |0=>false
  |f + 1=>(Region.ready .any ops li).all (Nat.beq i) && ((Region.ready .any ops li).contains i && (dr.all (t2 ops i) && k.1 f (li.setIfInBounds i true))),fun _ _=>false))
 (fun _ _ k=>(k.1,fun _ _=>false))
 (fun i dr p more k m=>(fun f li=>match f with
  |0=>false
  |f + 1=>(Region.ready .any ops li).all (fun j=>(i::a3Z more).any (Nat.beq j)) && ((Region.ready .any ops li).contains i && (Nat.blt i ops.size && (!li.getD i true && (dr.all (t2 ops i) && (k.1 f (li.setIfInBounds i true) && m.2 f li))))),
  fun f li=>Nat.blt i ops.size && (!li.getD i true && (dr.all (t2 ops i) && (k.1 f (li.setIfInBounds i true) && m.2 f li))))) p
section
variable {P:Program} {C:Cx} {call:a11} {w0 w w':World} {ρ σ:Ren} {N:Nat} {ds:List Deferred} {a:Act} {E E':Fr} {H H':SH} {n n':Nat} {Q:Exit->Act->World->Prop} {ops:Array Oper}
inductive EL (P:Program) (ρ:Ren) (w:World):a0p->Ea->Prop where
 |nil:EL P ρ w [] []
 |cons {i:Nat} {t:TypeId} {pv v:Value} {p:Addr} {u:Value} {L:a0p} {M:Ea} (hp:VR ρ pv (.pointer (some p))) (hv:VR ρ v u) (hl:Ld P t p u w) (h:EL P ρ w L M):EL P ρ w ((i,t,pv,v)::L) ((i,fun w=>Ld P t p u w)::M)
 |triv {i:Nat} {L:a0p} {M:Ea} (h:EL P ρ w L M):EL P ρ w L ((i,fun _=>True)::M)
theorem EL.all {L:a0p} {M:Ea} (h:EL P ρ w L M):∀ p ∈ M,p.2 w:=by
 induction h with
 |nil=>simp
 |cons _ _ hl _ ih=>
  intro p hp;rcases xb3.1 hp with rfl|hp
  ·exact hl
  ·exact ih p hp
 |triv _ ih=>
  intro p hp;rcases xb3.1 hp with rfl|hp
  ·trivial
  ·exact ih p hp
mutual
theorem a05:∀ (k:Nat) {a b:Value},vEq k a b=true->a=b
 |0,_,_,h=>by cases h
 |k + 1,a,b,h=>by
  unfold vEq at h
  split at h
  ·simp at h;rw [h]
  ·rw [xb6] at h;rw [a7J h.1,xg5 h.2]
  ·rw [xg5 h]
  ·rfl
  ·rw [xb6] at h;rw [xa8 h.1,xa8 h.2]
  ·rw [xb6] at h;rw [xa8 h.1,xa8 h.2]
  ·simp only [xb6] at h;rw [xa8 h.1,xa8 h.2.1,xa8 h.2.2.1,xa8 h.2.2.2]
  ·rfl
  ·rw [xa8 h]
  ·rfl
  ·simp only [xb6] at h;rw [xa8 h.1,a0j k h.2.1,a0j k h.2.2]
  ·rfl
  ·rw [xb6] at h;rw [xa8 h.1,a05 k h.2]
  ·rw [a0j k h]
  ·rw [a0j k h]
  ·cases h
theorem a0j:∀ (k:Nat) {a b:List Value},a3d k a b=true->a=b
 |0,_,_,h=>by cases h
 |k + 1,a,b,h=>by
  unfold a3d at h
  split at h
  ·rename_i e;cases e
  ·rfl
  ·rename_i e
   cases e
   rw [xb6] at h;rw [a05 _ h.1,a0j _ h.2]
  ·cases h
end
theorem a3J:∀ {a b:List (List Value)},a5c a b=true->a=b
 |[],[],_=>rfl
 |a::l,b::r,h=>by
  unfold a5c at h;rw [xb6] at h;rw [a0j _ h.1,a3J h.2]
 |[],_::_,h=>by cases h
 |_::_,[],h=>by cases h
theorem a5i:∀ {a b:List (Value×Value)},a8L a b=true->a=b
 |[],[],_=>rfl
 |(a,c)::l,(b,d)::r,h=>by
  unfold a8L at h;simp only [xb6] at h;rw [a05 _ h.1,a05 _ h.2.1,a5i h.2.2]
 |[],_::_,h=>by cases h
 |_::_,[],h=>by cases h
theorem a8F {a b:SA} (h:a9Y a b=true):a=b:=by
 unfold a9Y at h
 split at h
 ·rw [a0j _ h]
 ·simp only [xb6,beq_iff_eq] at h;rw [xa8 h.1,xa8 h.2.1,xa8 h.2.2.1,h.2.2.2.1,a3J h.2.2.2.2]
 ·rw [xb6] at h;rw [xa8 h.1,a5i h.2]
 ·rw [xb6] at h;rw [xa8 h.1,xg5 h.2]
 ·cases h
theorem a6t:∀ {a b:SH},hEq a b=true->a=b
 |[],[],_=>rfl
 |(i,a)::l,(j,b)::r,h=>by
  unfold hEq at h;simp only [xb6] at h;rw [xa8 h.1,a8F h.2.1,a6t h.2.2]
 |[],_::_,h=>by cases h
 |_::_,[],h=>by cases h
theorem a21 {E1 E2:Fr}:∀ {l:Fr},a2O E1 E2 l=true->∀ d v,(d,v) ∈ l->∃ u,d4 E1 d=some u/\d4 E2 d=some u
 |[],_,d,v,h=>by cases h
 |(d',v')::r,h,d,v,hm=>by
  unfold a2O at h;rw [xb6] at h;rcases xb3.1 hm with e|hm
  ·cases e
   have h1:=h.1
   split at h1
   ·rename_i u u' e1 e2;exact ⟨u,e1,by rw [e2,a05 _ h1]⟩
   ·cases h1
  ·exact a21 h.2 d v hm
theorem HasR.same {E1 E2:Fr} (h:HasR ρ N ds a E2) (he:a2O E1 E2 E1=true):HasR ρ N ds a E1:=⟨h.size,h.defers,fun t v ht=>by
 obtain ⟨u,e1,e2⟩:=a21 he t v (a0A ht);rw [ht] at e1
 cases e1
 exact h.at_ t v e2⟩
theorem EL.still (hT:TOk P C.T) {L:a0p} {M:Ea} {j:Nat} {dr:List Nat} (h:EL P ρ w L M) (hd:dr.all (t2 ops j)=true) (hs:a0F C.T H' (a0a dr L)=true) (hI:Inv P w0 σ H' w') (hle:Rle ρ σ):∃ M',EL P σ w' (a0a dr L) M'/\∀ p ∈ o7 ops j M,p ∈ M':=by
 induction h with
 |nil=>exact ⟨[],EL.nil,fun p hp=>by simp [o7] at hp⟩
 |@triv i L M h ih=>
  obtain ⟨M',h1,h2⟩:=ih hs;refine ⟨_,EL.triv (i:=i) h1,fun q hq=>?_⟩;obtain ⟨hq1,hq2⟩:=xk0.1 hq;rcases xb3.1 hq1 with rfl|hq1
  ·exact xb4
  ·exact xb5 _ (h2 q (xk0.2 ⟨hq1,hq2⟩))
 |@cons i t pv v p u L M hp hv hl h ih=>
  unfold a0a at hs |-;rw [List.filter_cons] at hs |-
  cases e:dr.any (Nat.beq i) with
  |true=>
   simp only [e,Bool.not_true,Bool.false_eq_true,if_false] at hs |-;obtain ⟨M',h1,h2⟩:=ih hs;refine ⟨M',h1,fun q hq=>?_⟩;obtain ⟨hq1,hq2⟩:=xk0.1 hq;rcases xb3.1 hq1 with rfl|hq1
   ·obtain ⟨k,hk,hki⟩:=xh6.1 e;obtain rfl:=xa8 hki;have:=xb7.1 hd _ hk;rw [this] at hq2
    cases hq2
   ·exact h2 q (xk0.2 ⟨hq1,hq2⟩)
  |false=>
   simp only [e,Bool.not_false,if_true] at hs |-;unfold a0F at hs;rw [xb6] at hs;obtain ⟨M',h1,h2⟩:=ih hs.2;have hs1:=hs.1
   split at hs1
   ·rename_i u' hu';obtain rfl:=a05 _ hs1;obtain ⟨b,o,x,e1,e2,e3⟩:=a3k hT hI hu' (hp.mono hle)
    cases e1
    obtain rfl:=VR.fn (hv.mono hle) e2;refine ⟨_,EL.cons (hp.mono hle) (hv.mono hle) e3 h1,fun q hq=>?_⟩;obtain ⟨hq1,hq2⟩:=xk0.1 hq;rcases xb3.1 hq1 with rfl|hq1
    ·exact xb4
    ·exact xb5 _ (h2 q (xk0.2 ⟨hq1,hq2⟩))
   ·cases hs1
theorem EL.mono {L:a0p} {M:Ea} (h:EL P ρ w L M) (hle:Rle ρ σ):EL P σ w L M:=by
 induction h with
 |nil=>exact EL.nil
 |cons hp hv hl _ ih=>exact EL.cons (hp.mono hle) (hv.mono hle) hl ih
 |triv _ ih=>exact EL.triv ih
theorem Stp.join {τ:Ren} {x y m0:Nat} (h:Stp ρ σ x y) (h2:Stp σ τ m0 n') (hx:m0<=x) (hy:y<=n'):Stp ρ τ m0 n' :=
 ⟨h.le.trans h2.le,fun j hj=>(h2.only j hj).trans (h.only j (by omega))⟩
structure PS (P:Program) (w0:World) (ρ:Ren) (N:Nat) (ds:List Deferred) (a:Act) (E:Fr) (H:SH) (w:World) (n hi b z:Nat) (li:Array Bool) (L:a0p) (M:Ea) (size m0:Nat):Prop where
 ha:HasR ρ N ds a E
 hI:Inv P w0 ρ H w
 hF:Fsh ρ n hi
 hG:∀ j,j < size->li.getD j true=false->Fsh ρ (b + z * j) (b + z * (j + 1))
 hb:m0<=b
 hbn:b + z * size<=n
 hL:EL P ρ w L M
theorem a2X {li:Array Bool} {i j:Nat} (h:(li.setIfInBounds i true).getD j true=false):li.getD j true=false/\j≠i:=by
 by_cases e:i=j
 ·subst e;rcases xh8 i li.size with h'|h'
  ·simp [h'] at h
  ·simp [Array.getElem?_eq_none (show (li.setIfInBounds i true).size<=i by simpa using h')] at h
 ·rw [getD_set_ne true e] at h;exact ⟨h,Ne.symm e⟩
theorem b03 {z i j s:Nat} (h:i < j) (hj:j<=s):z * (i + 1)<=z * j/\z * j<=z * s:=⟨xf1 z h,xf1 z hj⟩
theorem PS.next {hi b z m0 i x n1:Nat} {li:Array Bool} {L:a0p} {M:Ea} {dr:List Nat} {v:Option Value} {u:Value} {o:Oper} (hT:TOk P C.T) (h:PS P w0 ρ N ds a E H w n hi b z li L M ops.size m0) (hd:a3H N o=true) (hσ:Stp ρ σ x n1) (hu:OR σ v u) (hI:Inv P w0 σ H' w') (hdr:dr.all (t2 ops i)=true) (hst:a0F C.T H' (a0a dr L)=true)
  (hx:(x=n/\n'=n1)\/(x=b + z * i/\n1<=b + z * (i + 1)/\i < ops.size/\n'=n)) (hle:x<=n1) :
  ∃ M',(∀ p ∈ o7 ops i M,p ∈ M')/\PS P w0 σ N ds (a.put o.dst u) (z6 E o.dst v) H' w' n' hi b z (li.setIfInBounds i true) (a0a dr L) M' ops.size m0:=by
 obtain ⟨M',h1,h2⟩:=h.hL.still hT hdr hst hI hσ.le;refine ⟨M',h2,(h.ha.mono hσ.le).putE o.dst (a1x hd) hu,hI,fun j hj1 hj2=>?_,fun j hj hl k hk1 hk2=>?_,h.hb,?_,h1⟩
 ·rcases hx with ⟨rfl,rfl⟩|⟨rfl,hx,hi',rfl⟩
  ·exact (hσ.only j (xc3 hj1)).trans (h.hF j (by omega) hj2)
  ·have:z * (i + 1)<=z * ops.size:=xf1 z hi';have:=h.hbn;exact (hσ.only j (xc3 (by omega))).trans (h.hF j (by omega) hj2)
 ·obtain ⟨hl,hne⟩:=a2X hl;have h0:=h.hG j hj hl k hk1 hk2;have hj2:z * (j + 1)<=z * ops.size:=xf1 z hj;have:=h.hbn;rcases hx with ⟨rfl,rfl⟩|⟨rfl,hx,hi',rfl⟩
  ·exact (hσ.only k (xc6 (by omega))).trans h0
  ·rcases Nat.lt_or_gt_of_ne hne with hlt|hlt
   ·have:=(b03 (z:=z) (s:=ops.size) hlt (by omega)).1;exact (hσ.only k (xc6 (by omega))).trans h0
   ·have:=(b03 (z:=z) (s:=ops.size) hlt (by omega)).1;exact (hσ.only k (xc3 (by omega))).trans h0
 ·have:=h.hbn;rcases hx with ⟨rfl,rfl⟩|⟨rfl,hx,hi',rfl⟩ <;> omega
theorem a5s {i:Nat} {o:Oper} {b:Bool} {K:Act->World->Prop} (hi:ops[i]?=some o) (hw:Region.wanted o (yielded ops a.tmps)=b) (h1:b=true->Oper.wp P ⟨o.dst,o.op,o.type,o.pos,o.after,none⟩ a w K Q) (h2:b=false->K (a.put o.dst undef) w):wpOp P ops Q i K a w:=by
 unfold wpOp;simp only [hi]
 cases b with
 |true=>rw [xd6 hw];exact xc6 (a4h (h1 rfl))
 |false=>rw [xd7 (by rw [hw];simp)];exact h2 rfl
theorem b0i (hC:COk P C) (hc:v9 P call) (hQ:PQ Q) (hsel:Region.noSelect ops=true) (hd:ops.toList.all (a3H N)=true) (p:Pl) :
  (∀ f li b z L E H n E' H' n',(plB ops p).1 f li=true->xPl C call ops.toList p b z L E H n=.ok (E',H',n')->n<=n'/\∀ {w0 w:World} {ρ:Ren} {ds:List Deferred} {a:Act} {hi m0:Nat} {M:Ea},PS P w0 ρ N ds a E H w n hi b z li L M ops.size m0->n'<=hi->(∀ a' w' σ,Stp ρ σ m0 n'->HasR σ N ds a' E'->Inv P w0 σ H' w'->Q .normal a' w')->wpT P ops Q f M li a w) /\
  (∀ f li b z L E H n E' H' n',(plB ops p).2 f li=true->xPl C call ops.toList p b z L E H n=.ok (E',H',n')->n<=n'/\∀ {w0 w:World} {ρ:Ren} {ds:List Deferred} {a:Act} {hi m0:Nat} {M:Ea},PS P w0 ρ N ds a E H w n hi b z li L M ops.size m0->n'<=hi->(∀ a' w' σ,Stp ρ σ m0 n'->HasR σ N ds a' E'->Inv P w0 σ H' w'->Q .normal a' w')->∀ j ∈ a3Z p,wpOp P ops Q j (fun a' w'=>(∀ q ∈ o7 ops j M,q.2 w')/\wpT P ops Q f (o7 ops j M) (li.setIfInBounds j true) a' w') a w):=by
 have hdo:∀ {i:Nat} {o:Oper},ops[i]?=some o->a3H N o=true:=fun {i o} hi=>xb7.1 hd o (by
  have:ops.toList[i]?=some o:=by simpa using hi
  exact xc0 this)
 induction p with
 |nil=>
  refine ⟨fun f li b z L E H n E' H' n' hp h=>?_,fun f li b z L E H n E' H' n' hp h=>by cases hp⟩
  cases h
  have hr:Region.ready .any ops li=[]:=List.isEmpty_iff.1 hp;refine ⟨xc4 _,fun hS hn k=>?_⟩;have hq:=k _ _ _ (Stp.refl _ _ _) hS.ha hS.hI
  cases f with
  |zero=>exact ⟨hr,hq⟩
  |succ f=>exact ⟨fun _=>hq,by rw [hr];simp⟩
 |stop=>
  exact ⟨fun f li b z L E H n E' H' n' hp h=>(by cases hp),fun f li b z L E H n E' H' n' hp h=>by cases h⟩
 |take i p ih=>
  refine ⟨fun f li b z L E H n E' H' n' hp h=>?_,fun f li b z L E H n E' H' n' hp h=>by cases hp⟩
  cases f with
  |zero=>cases hp
  |succ f=>
  replace hp:(Nat.blt i ops.size && (Region.free .any ops li i && ((Region.ready .any ops li).contains i && (plB ops p).1 f (li.setIfInBounds i true))))=true:=hp;simp only [xb6] at hp;obtain ⟨hp1,hp2,hp3,hp4⟩:=hp;replace h:a7s C ops.toList i (xPl C call ops.toList p) b z L E H n=.ok (E',H',n'):=h;unfold a7s at h;rw [n9] at h
  split at h
  ·rename_i o ho;have ho:ops[i]?=some o:=by simpa using ho
   have hQ':∀ v c (a:Act) w,Q (.panic c) (a.put o.dst v) w->Q (.panic c) a w:=fun v c a w=>hQ c a w o.dst v;have hsp:=Region.noSelect_spec hsel;have hrm:i ∈ Region.ready .any ops li:=by simpa using hp3
   have G:∀ {z:Nat} {ρ:Ren},(∀ j,j < ops.size->li.getD j true=false->Fsh ρ (b + z * j) (b + z * (j + 1)))->∀ j,j < ops.size->(li.setIfInBounds i true).getD j true=false->Fsh ρ (b + z * j) (b + z * (j + 1)):=fun hG j hj hl=>hG j hj (a2X hl).1
   split at h
   ·rename_i hw;obtain ⟨h1,h2⟩:=ih.1 f _ _ _ _ _ _ _ _ _ _ hp4 h;refine ⟨h1,fun {w0 w ρ ds a hi m0 M} hS hn k=>?_⟩;refine a2e (S:=fun _=>True) ho hsp (hQ' undef) f M li a w (Region.free_spec ho hp2) hrm (xc3 ⟨x8 hS.ha hw,rfl⟩) trivial hS.hL.all ?_;exact h2 ⟨hS.ha.putE o.dst (a1x (hdo ho)) VR.undef,hS.hI,hS.hF,G hS.hG,hS.hb,hS.hbn,EL.triv hS.hL⟩ hn k
   ·rename_i hw
    split at h
    ·rename_i t x hop
     split at h
     ·rename_i pv hx
      split at h
      ·rename_i v hv;obtain ⟨h1,h2⟩:=ih.1 f _ _ _ _ _ _ _ _ _ _ hp4 h;refine ⟨h1,fun {w0 w ρ ds a hi m0 M} hS hn k=>?_⟩;obtain ⟨p',hp',gx⟩:=hS.ha.ev hx;obtain ⟨bb,oo,u,rfl,hu,hl⟩:=a3k hC.T hS.hI hv hp';refine a2e (S:=fun w=>Ld P t ⟨bb,oo,none⟩ u w) ho hsp (hQ' u) f M li a w (Region.free_spec ho hp2) hrm (xc6 ⟨x8 hS.ha hw,fun w2 hw2=>?_⟩) hl hS.hL.all ?_
       ·have hw2:(loadVar t ⟨bb,oo,none⟩).run P w2=.ok u w2:=hw2;obtain ⟨dst,op,ty,pos,after,g⟩:=o;dsimp only at hop;subst hop;simp only [execOp,hS.ha.full.ev gx,Instr.loadAt,Instr.sureAddr,Sem.run_bind,Sem.run_pure,Result.andThen_ok,hw2]
       ·exact h2 ⟨hS.ha.putE o.dst (a1x (hdo ho)) (v:=some v) hu,hS.hI,hS.hF,G hS.hG,hS.hb,hS.hbn,EL.cons hp' hu hl hS.hL⟩ hn k
      ·cases h
     ·cases h
    ·split at h
     ·rename_i v hv;obtain ⟨h1,h2⟩:=ih.1 f _ _ _ _ _ _ _ _ _ _ hp4 h;refine ⟨h1,fun {w0 w ρ ds a hi m0 M} hS hn k=>?_⟩;obtain ⟨u,hu,hr⟩:=a6W hC.T hC.Z hC.q hS.ha hv;refine a2e (S:=fun _=>True) ho hsp (hQ' u) f M li a w (Region.free_spec ho hp2) hrm (xc6 ⟨x8 hS.ha hw,fun w2 _=>hr o.dst o.type o.pos o.after w2⟩) trivial hS.hL.all ?_;exact h2 ⟨hS.ha.putE o.dst (a1x (hdo ho)) (v:=some v) hu,hS.hI,hS.hF,G hS.hG,hS.hb,hS.hbn,EL.triv hS.hL⟩ hn k
     ·cases h
   ·cases h
  ·cases h
 |one i dr p ih=>
  refine ⟨fun f li b z L E H n E' H' n' hp h=>?_,fun f li b z L E H n E' H' n' hp h=>by cases hp⟩
  cases f with
  |zero=>cases hp
  |succ f=>
  replace hp:((Region.ready .any ops li).all (Nat.beq i) && ((Region.ready .any ops li).contains i && (dr.all (t2 ops i) && (plB ops p).1 f (li.setIfInBounds i true))))=true:=hp;simp only [xb6] at hp;obtain ⟨hp1,hp2,hp3,hp4⟩:=hp;replace h:a9M C call ops.toList i dr (xPl C call ops.toList p) b z L E H n=.ok (E',H',n'):=h;unfold a9M at h;rw [n9] at h
  split at h
  ·rename_i o ho;have ho:ops[i]?=some o:=by simpa using ho
   split at h
   ·rename_i wb hw
    split at h
    ·rename_i v H1 n1 hr;have key:n<=n1/\(wb=true->Snd P o.op E H n (v,H1,n1))/\(wb=false->v=some undef/\H1=H/\n1=n):=by
      cases wb with
      |true=>
       have:=a2h hC hc hr;exact ⟨this.1,fun _=>this,fun h=>by cases h⟩
      |false=>cases hr;exact ⟨xc4 _,(fun h=>by cases h),fun _=>⟨rfl,rfl,rfl⟩⟩
     cases hst:a0F C.T H1 (a0a dr L) with
     |false=>rw [hst] at h;cases h
     |true=>
     rw [hst] at h;obtain ⟨h1,h2⟩:=ih.1 f _ _ _ _ _ _ _ _ _ _ hp4 h;refine ⟨xc5 key.1 h1,fun {w0 w ρ ds a hi m0 M} hS hn k=>⟨fun h0=>(by rw [h0] at hp2;cases hp2),fun j hj=>?_⟩⟩;obtain rfl:=xa8 (xb7.1 hp1 j hj);have fin:∀ u w' σ,Stp ρ σ n n1->OR σ v u->Inv P w0 σ H1 w'->(∀ q ∈ o7 ops i M,q.2 w')/\wpT P ops Q f (o7 ops i M) (li.setIfInBounds i true) (a.put o.dst u) w':=fun u w' σ hσ hu hI=>by
      obtain ⟨M',h3,h4⟩:=hS.next hC.T (hdo ho) hσ hu hI hp3 hst (xc6 ⟨rfl,rfl⟩) key.1;have hm:m0<=n:=by have:=hS.hb;have:=hS.hbn;omega
      exact ⟨fun q hq=>h4.hL.all q (h3 q hq),a1U f h3 (h2 h4 hn fun a' w' τ hτ ha' hI'=>k a' w' τ (hσ.join hτ hm h1) ha' hI')⟩
     refine a5s ho (x8 hS.ha hw) (fun e=>(key.2.1 e).2 hS.ha hS.hI hS.hF (xc5 h1 hn) _ _ _ _ _ _ fin) fun e=>?_;obtain ⟨rfl,rfl,rfl⟩:=key.2.2 e;exact fin _ _ ρ (Stp.refl _ _ _) VR.undef hS.hI
    ·cases h
   ·cases h
  ·cases h
 |grp wd p ih=>
  refine ⟨fun f li b z L E H n E' H' n' hp h=>?_,fun f li b z L E H n E' H' n' hp h=>by cases hp⟩;replace h:xPl C call ops.toList p n wd L E H (n + wd * ops.toList.length)=.ok (E',H',n'):=h;obtain ⟨h1,h2⟩:=ih.1 f _ _ _ _ _ _ _ _ _ _ hp h;rw [xf2] at h1 h2;refine ⟨by omega,fun {w0 w ρ ds a hi m0 M} hS hn k=>h2 ⟨hS.ha,hS.hI,fun j hj1 hj2=>hS.hF j (by omega) hj2,fun j hj hl q hq1 hq2=>?_,?_,xc4 _,hS.hL⟩ hn k⟩
  ·have:wd * (j + 1)<=wd * ops.size:=xf1 wd hj;exact hS.hF q (by omega) (by omega)
  ·have:=hS.hb;have:=hS.hbn;omega
 |alt i dr p more ih im=>
  have chain:∀ f li b z L E H n E' H' n',(Nat.blt i ops.size && (!li.getD i true && (dr.all (t2 ops i) && ((plB ops p).1 f (li.setIfInBounds i true) && (plB ops more).2 f li))))=true->xPl C call ops.toList (.alt i dr p more) b z L E H n=.ok (E',H',n')->n<=n'/\∀ {w0 w:World} {ρ:Ren} {ds:List Deferred} {a:Act} {hi m0:Nat} {M:Ea},PS P w0 ρ N ds a E H w n hi b z li L M ops.size m0->n'<=hi->(∀ a' w' σ,Stp ρ σ m0 n'->HasR σ N ds a' E'->Inv P w0 σ H' w'->Q .normal a' w')->∀ j ∈ a3Z (.alt i dr p more),wpOp P ops Q j (fun a' w'=>(∀ q ∈ o7 ops j M,q.2 w')/\wpT P ops Q f (o7 ops j M) (li.setIfInBounds j true) a' w') a w:=by
   intro f li b z L E H n E' H' n' hp h;simp only [xb6,xb8] at hp;obtain ⟨hp1,hp2,hp3,hp4,hp5⟩:=hp;have hp1:i < ops.size:=by simpa [xb0] using hp1
   replace h:b0Q C call ops.toList i dr (xPl C call ops.toList p) more.isStop (xPl C call ops.toList more) b z L E H n=.ok (E',H',n'):=h;unfold b0Q at h;rw [n9] at h
   split at h
   ·rename_i o ho;have ho:ops[i]?=some o:=by simpa using ho
    split at h
    ·rename_i wb hw
     split at h
     ·rename_i v H1 n1 hr;have key:b + z * i<=n1/\(wb=true->Snd P o.op E H (b + z * i) (v,H1,n1))/\(wb=false->v=some undef/\H1=H/\n1=b + z * i):=by
       cases wb with
       |true=>
        have:=a2h hC hc hr;exact ⟨this.1,fun _=>this,fun h=>by cases h⟩
       |false=>cases hr;exact ⟨xc4 _,(fun h=>by cases h),fun _=>⟨rfl,rfl,rfl⟩⟩
      cases hst:(Nat.ble n1 (b + z * (i + 1)) && a0F C.T H1 (a0a dr L)) with
      |false=>rw [hst] at h;cases h
      |true=>
      rw [hst] at h;rw [xb6] at hst;obtain ⟨hst1,hst2⟩:=hst;have hst1:=xe5 hst1;have first:∀ {E1:Fr} {H2:SH} {n2:Nat},xPl C call ops.toList p b z (a0a dr L) (z6 E o.dst v) H1 n=.ok (E1,H2,n2)->n<=n2/\∀ {w0 w:World} {ρ:Ren} {ds:List Deferred} {a:Act} {hi m0:Nat} {M:Ea},PS P w0 ρ N ds a E H w n hi b z li L M ops.size m0->n2<=hi->(∀ a' w' σ,Stp ρ σ m0 n2->HasR σ N ds a' E1->Inv P w0 σ H2 w'->Q .normal a' w')->wpOp P ops Q i (fun a' w'=>(∀ q ∈ o7 ops i M,q.2 w')/\wpT P ops Q f (o7 ops i M) (li.setIfInBounds i true) a' w') a w:=by
       intro E1 H2 n2 hx;obtain ⟨h1,h2⟩:=ih.1 f _ _ _ _ _ _ _ _ _ _ hp4 hx;refine ⟨h1,fun {w0 w ρ ds a hi m0 M} hS hn k=>?_⟩;have fin:∀ u w' σ,Stp ρ σ (b + z * i) n1->OR σ v u->Inv P w0 σ H1 w'->(∀ q ∈ o7 ops i M,q.2 w')/\wpT P ops Q f (o7 ops i M) (li.setIfInBounds i true) (a.put o.dst u) w':=fun u w' σ hσ hu hI=>by
        obtain ⟨M',h3,h4⟩:=hS.next hC.T (hdo ho) hσ hu hI hp3 hst2 (xc3 ⟨rfl,hst1,hp1,rfl⟩) key.1;have hm:m0<=b + z * i:=by have:=hS.hb;omega
        have hz:z * (i + 1)<=z * ops.size:=xf1 z hp1;have:=hS.hbn;exact ⟨fun q hq=>h4.hL.all q (h3 q hq),a1U f h3 (h2 h4 hn fun a' w' τ hτ ha' hI'=>k a' w' τ (hσ.join hτ hm (by omega)) ha' hI')⟩
       refine a5s ho (x8 hS.ha hw) (fun e=>(key.2.1 e).2 hS.ha hS.hI (hi:=b + z * (i + 1)) (hS.hG i hp1 hp2) hst1 _ _ _ _ _ _ fin) fun e=>?_;obtain ⟨rfl,rfl,rfl⟩:=key.2.2 e;exact fin _ _ ρ (Stp.refl _ _ _) VR.undef hS.hI
      cases hl:more.isStop with
      |true=>
       rw [hl] at h;obtain ⟨h1,h2⟩:=first h;refine ⟨h1,fun {w0 w ρ ds a hi m0 M} hS hn k j hj=>?_⟩;have he:a3Z more=[]:=by cases more <;> first|rfl|cases hl
       rcases xb3.1 (show j ∈ i::a3Z more from hj) with rfl|hj
       ·exact h2 hS hn k
       ·rw [he] at hj;cases hj
      |false=>
       rw [hl] at h;dsimp only [cond_true,cond_false] at h
       split at h
       ·rename_i E1 H1' n1' E2 H2 n2 hx1 hx2
        cases hs:(a2O E1 E2 E1 && (hEq H1' H2 && Nat.beq n1' n2)) with
        |false=>rw [hs] at h;cases h
        |true=>
        rw [hs] at h
        cases h
        simp only [xb6] at hs;obtain ⟨hs1,hs2,hs3⟩:=hs;obtain rfl:=a6t hs2;obtain rfl:=xa8 hs3;obtain ⟨h1,h2⟩:=first hx1;obtain ⟨h3,h4⟩:=im.2 f _ _ _ _ _ _ _ _ _ _ hp5 hx2;refine ⟨h1,fun {w0 w ρ ds a hi m0 M} hS hn k j hj=>?_⟩;rcases xb3.1 (show j ∈ i::a3Z more from hj) with rfl|hj
        ·exact h2 hS hn k
        ·exact h4 hS hn (fun a' w' σ hσ ha' hI'=>k a' w' σ hσ (ha'.same hs1) hI') j hj
       ·cases h
       ·cases h
     ·cases h
    ·cases h
   ·cases h
  refine ⟨fun f li b z L E H n E' H' n' hp h=>?_,fun f li b z L E H n E' H' n' hp h=>chain f li b z L E H n E' H' n' hp h⟩
  cases f with
  |zero=>cases hp
  |succ f=>
  replace hp:((Region.ready .any ops li).all (fun j=>(i::a3Z more).any (Nat.beq j)) && ((Region.ready .any ops li).contains i && (Nat.blt i ops.size && (!li.getD i true && (dr.all (t2 ops i) && ((plB ops p).1 f (li.setIfInBounds i true) && (plB ops more).2 f li))))))=true:=hp;rw [xb6,xb6] at hp;obtain ⟨hp1,hp2,hp3⟩:=hp;obtain ⟨h1,h2⟩:=chain f li b z L E H n E' H' n' hp3 h;refine ⟨h1,fun {w0 w ρ ds a hi m0 M} hS hn k=>⟨fun h0=>(by rw [h0] at hp2;cases hp2),fun j hj=>h2 hS hn k j ?_⟩⟩;obtain ⟨q,hq,hqj⟩:=xh6.1 (xb7.1 hp1 j hj);rw [xa8 hqj];exact hq
end
noncomputable def n6 (N:Nat) (pl:List (Nat×Pl)) (c:Code):Bool:=@Code.rec (fun _=>Bool) true
 (fun id ops draw=>ops.toList.all (a3H N) && (bif draw then (match d4 pl id with
   |some p=>Region.noSelect ops && (plB ops p).1 ops.size (Array.replicate ops.size false)
   |none=>true) else true))
 (fun _ _ x y=>x && y) (fun _ _ _ x y=>x && y) (fun _ _ x=>x) (fun _ x=>x) (fun _ _ _ _ _ _=>true) (fun _=>true) (fun _ _=>true) (fun _=>true) (fun _=>true) true (fun _=>true) c
inductive BT.All {α:Type} (p:Nat->α->Prop):BT α->Prop where
 |nil:BT.All p .nil
 |node {k:Nat} {v:α} {l r:BT α} (h:p k v) (hl:BT.All p l) (hr:BT.All p r):BT.All p (.node k v l r)
theorem BT.All.get {α:Type} {p:Nat->α->Prop} {t:BT α} (h:BT.All p t) {i:Nat} {v:α} (hg:t.get i=some v):p i v:=by
 induction h with
 |nil=>cases hg
 |@node k u l r hp hl hr ihl ihr=>
  replace hg:@Bool.rec (fun _=>Option α) (@Bool.rec (fun _=>Option α) (r.get i) (l.get i) (Nat.blt i k)) (some u) (Nat.beq i k)=some v:=hg
  cases e:Nat.beq i k with
  |true=>
   rw [e] at hg
   cases hg
   rw [xa8 e];exact hp
  |false=>
   rw [e] at hg
   cases e2:Nat.blt i k with
   |true=>rw [e2] at hg;exact ihl hg
   |false=>rw [e2] at hg;exact ihr hg
structure FOk (P:Program) (C:Cx):Prop where
 ok:COk P C
 mixed:P.follows .mixedOrders=true
 F:BT.All (fun g (x:Func×List (Nat×Pl))=>j8 P g x.1/\∃ c,x.1.body=some c/\n6 x.1.ntmps x.2 c=true) C.F
 M:∀ g f,d4 C.M g=some f->∀ vs v,f vs=some v->(∀ ρ,LR ρ vs vs)/\(∀ ρ,VR ρ v v)/\∀ w,Fn P g vs w (RBf v w)
def toX:SX->Exit
 |.normal=>.normal
 |.exit i=>.exit i
 |.ret=>.ret
section
variable {P:Program} {C:Cx} {call:a11} {w0 w w':World} {ρ σ:Ren} {N:Nat} {ds:List Deferred} {a:Act} {E E':Fr} {H H':SH} {n n':Nat} {Q:Exit->Act->World->Prop}
theorem PQ.then {x:Act->World->Prop} (h:PQ Q):PQ (Exit.then x Q):=fun c a w d v hq=>h c a w d v hq
theorem PQ.block {i:Nat} (h:PQ Q):PQ (Exit.inBlock i Q):=fun c a w d v hq=>h c a w d v hq
theorem a1o:∀ (E:Fr) (s:List Nat) {t:Nat} {v:Value},d4 (a2T E s) t=some v->d4 E t=some v/\t ∉ s
 |[],s,t,v,h=>by cases h
 |(k,u)::r,s,t,v,h=>by
  have hany:∀ s:List Nat,@List.rec Nat (fun _=>Bool) false (fun x _ h=>bif Nat.beq k x then true else h) s=s.any (Nat.beq k):=fun s=>by
   induction s with
   |nil=>rfl
   |cons x s ih=>simp only [List.any_cons];rw [<- ih];cases Nat.beq k x <;> rfl
  have e:a2T ((k,u)::r) s=bif s.any (Nat.beq k) then a2T r s else (k,u)::a2T r (k::s):=by rw [<- hany];rfl
  rw [e] at h
  cases hs:s.any (Nat.beq k) with
  |true=>
   rw [hs] at h;obtain ⟨h1,h2⟩:=a1o r s h;obtain ⟨x,hx,hkx⟩:=xh6.1 hs;have hkx:=xa8 hkx;refine ⟨?_,h2⟩;rw [e9,xd7 (fun e=>h2 (by rw [<- e,hkx];exact hx))];exact h1
  |false=>
   rw [hs] at h;replace h:d4 ((k,u)::a2T r (k::s)) t=some v:=h;rw [e9] at h |-;by_cases ek:k=t
   ·rw [xd6 ek] at h |-;refine ⟨h,fun hm=>?_⟩;have:s.any (Nat.beq k)=true:=xh6.2 ⟨t,hm,by rw [ek];exact xk2 _⟩;rw [hs] at this
    cases this
   ·rw [xd7 ek] at h |-;obtain ⟨h1,h2⟩:=a1o r (k::s) h;exact ⟨h1,fun hm=>h2 (xb5 _ hm)⟩
theorem HasR.shrink (h:HasR ρ N ds a E):HasR ρ N ds a (a1S E):=⟨h.size,h.defers,fun t v ht=>by
 unfold a1S at ht
 cases e:Nat.blt 400 (@List.rec (Nat×Value) (fun _=>Nat) 0 (fun _ _ n=>n + 1) E) with
 |true=>rw [e] at ht;exact h.at_ t v (a1o E [] ht).1
 |false=>rw [e] at ht;exact h.at_ t v ht⟩
def a5q (P:Program) (c:Code) (N:Nat) (f:a10):Prop:=∀ E H n e E' H' n',f E H n=.ok (e,E',H',n')->n<=n'/\∀ {w0 w:World} {ρ:Ren} {ds:List Deferred} {a:Act} {hi:Nat} {Q:Exit->Act->World->Prop},PQ Q->HasR ρ N ds a E->Inv P w0 ρ H w->Fsh ρ n hi->n'<=hi->(∀ a' w' σ,Stp ρ σ n n'->HasR σ N ds a' E'->Inv P w0 σ H' w'->Q (toX e) a' w')->c.wp P Q a w
theorem a7j {c:Code} {f:a10} (hf:a5q P c N f):∀ k E H n e E' H' n',a5y f k E H n=.ok (e,E',H',n')->n<=n'/\∀ {w0 w:World} {ρ:Ren} {ds:List Deferred} {a:Act} {hi:Nat} {Q:Exit->Act->World->Prop},PQ Q->HasR ρ N ds a E->Inv P w0 ρ H w->Fsh ρ n hi->n'<=hi->(∀ a' w' σ,Stp ρ σ n n'->HasR σ N ds a' E'->Inv P w0 σ H' w'->Q (toX e) a' w')->Code.rounds P c Q k a w:=by
 intro k
 induction k with
 |zero=>intro E H n e E' H' n' h;cases h
 |succ k ih=>
  intro E H n e E' H' n' h;replace h:(match f E H n with
   |.ok (.normal,E',H',n')=>a5y f k (a1S E') H' n'
   |r=>r)=.ok (e,E',H',n'):=h
  split at h
  ·rename_i E1 H1 n1 hr;obtain ⟨h1,h2⟩:=hf _ _ _ _ _ _ _ hr;obtain ⟨h3,h4⟩:=ih _ _ _ _ _ _ _ h;refine ⟨xc5 h1 h3,fun {w0 w ρ ds a hi Q} hQ ha hI hF hn kk=>?_⟩;rw [rounds_succ];exact h2 hQ.then ha hI hF (xc5 h3 hn) fun a' w' σ hσ ha' hI'=>h4 hQ ha'.shrink hI' (hF.step hσ h1) hn fun a2 w2 τ hτ ha2 hI2=>kk a2 w2 τ (hσ.trans hτ h1 h3) ha2 hI2
  ·rename_i hne;obtain ⟨h1,h2⟩:=hf _ _ _ _ _ _ _ h;refine ⟨h1,fun {w0 w ρ ds a hi Q} hQ ha hI hF hn kk=>?_⟩;rw [rounds_succ];refine h2 hQ.then ha hI hF hn fun a' w' σ hσ ha' hI'=>?_;have:=kk a' w' σ hσ ha' hI'
   cases e with
   |normal=>exact (hne _ _ _ h).elim
   |exit i=>exact this
   |ret=>exact this
theorem a71 (hC:FOk P C) (hc:v9 P call) (pl:List (Nat×Pl)) (c:Code) (hB:n6 N pl c=true):a5q P c N (a1D C call pl c):=by
 induction c with
 |skip=>
  intro E H n e E' H' n' h
  cases h
  exact ⟨xc4 _,fun hQ ha hI hF hn k=>wp_skip (k _ _ _ (Stp.refl _ _ _) ha hI)⟩
 |region id ops draw=>
  intro E H n e E' H' n' h;replace hB:(ops.toList.all (a3H N) && (bif draw then (match d4 pl id with
   |some p=>Region.noSelect ops && (plB ops p).1 ops.size (Array.replicate ops.size false)
   |none=>true) else true))=true:=hB
  rw [xb6] at hB;obtain ⟨hd,hB⟩:=hB
  cases draw with
  |false=>
   replace h:(match a2W C call ops.toList ops.toList E H n with
    |.ok (E',H',n')=>Rs.ok (SX.normal,E',H',n')
    |.no p=>.no p)=.ok (e,E',H',n'):=h
   split at h
   ·rename_i E1 H1 n1 hr
    cases h
    obtain ⟨h1,_⟩:=a08 (Q:=fun _ _ _=>True) hC.ok hc hd hr;refine ⟨h1,fun {w0 w ρ ds a hi Q} hQ ha hI hF hn k=>?_⟩;obtain ⟨_,h2⟩:=a08 (Q:=Q) hC.ok hc hd hr;have:=wp_region_lit (id:=id) (l:=ops.toList) (h2 ha hI hF hn k)
    simpa using this
   ·cases h
  |true=>
   replace h:(match d4 pl id with
    |some p=>match xPl C call ops.toList p n 0 [] E H n with
     |.ok (E',H',n')=>Rs.ok (SX.normal,E',H',n')
     |.no p=>.no p
    | none => .no "plan") = .ok (e, E', H', n') := h
   split at h
   ·rename_i p hp;rw [hp] at hB;dsimp only [cond_true] at hB;rw [xb6] at hB
    split at h
    ·rename_i E1 H1 n1 hr
     cases h
     have hpl:=fun (Q:Exit->Act->World->Prop) (hQ:PQ Q)=>(b0i hC.ok hc hQ hB.1 hd p).1 _ _ _ _ _ _ _ _ _ _ _ hB.2 hr;refine ⟨(hpl (fun _ _ _=>True) (fun _ _ _ _ _ _=>trivial)).1,fun {w0 w ρ ds a hi Q} hQ ha hI hF hn k=>?_⟩;refine wp_region_any hC.mixed (a5w _ [] _ _ _ ((hpl Q hQ).2 (hi:=hi) (m0:=n) ⟨ha,hI.grow ⟨rfl,rfl,rfl,xc4 _,fun _ _ _=>rfl⟩,hF,fun j _ _ q h1 h2=>by simp at h1 h2;omega,xc4 _,by simp,EL.nil⟩ hn k))
    ·cases h
   ·cases h
 |seq x y ihx ihy=>
  intro E H n e E' H' n' h;replace hB:(n6 N pl x && n6 N pl y)=true:=hB;rw [xb6] at hB;replace h:(match a1D C call pl x E H n with
   |.ok (.normal,E',H',n')=>a1D C call pl y E' H' n'
   |r=>r)=.ok (e,E',H',n'):=h
  split at h
  ·rename_i E1 H1 n1 hr;obtain ⟨h1,h2⟩:=ihx hB.1 _ _ _ _ _ _ _ hr;obtain ⟨h3,h4⟩:=ihy hB.2 _ _ _ _ _ _ _ h;refine ⟨xc5 h1 h3,fun {w0 w ρ ds a hi Q} hQ ha hI hF hn k=>wp_seq ?_⟩;exact h2 hQ.then ha hI hF (xc5 h3 hn) fun a' w' σ hσ ha' hI'=>h4 hQ ha' hI' (hF.step hσ h1) hn fun a2 w2 τ hτ ha2 hI2=>k a2 w2 τ (hσ.trans hτ h1 h3) ha2 hI2
  ·rename_i hne;obtain ⟨h1,h2⟩:=ihx hB.1 _ _ _ _ _ _ _ h;refine ⟨h1,fun {w0 w ρ ds a hi Q} hQ ha hI hF hn k=>wp_seq ?_⟩;refine h2 hQ.then ha hI hF hn fun a' w' σ hσ ha' hI'=>?_;have:=k a' w' σ hσ ha' hI'
   cases e with
   |normal=>exact (hne _ _ _ h).elim
   |exit i=>exact this
   |ret=>exact this
 |cond o x y ihx ihy=>
  intro E H n e E' H' n' h;replace hB:(n6 N pl x && n6 N pl y)=true:=hB;rw [xb6] at hB;replace h:(match sEv E o with
   |some (.bool true)=>a1D C call pl x E H n
   |some (.bool false)=>a1D C call pl y E H n
   | _ => Rs.no "cond") = .ok (e, E', H', n') := h
  split at h
  ·rename_i ho;obtain ⟨h1,h2⟩:=ihx hB.1 _ _ _ _ _ _ _ h;refine ⟨h1,fun {w0 w ρ ds a hi Q} hQ ha hI hF hn k=>?_⟩;obtain ⟨u,hu,go⟩:=ha.ev ho;rw [VR.bool hu] at go;exact wp_cond_split (ha.full.ev go) (fun _=>h2 hQ ha hI hF hn k) (fun e=>by cases e)
  ·rename_i ho;obtain ⟨h1,h2⟩:=ihy hB.2 _ _ _ _ _ _ _ h;refine ⟨h1,fun {w0 w ρ ds a hi Q} hQ ha hI hF hn k=>?_⟩;obtain ⟨u,hu,go⟩:=ha.ev ho;rw [VR.bool hu] at go;exact wp_cond_split (ha.full.ev go) (fun e=>by cases e) (fun _=>h2 hQ ha hI hF hn k)
  ·cases h
 |block i x ih=>
  intro E H n e E' H' n' h;replace hB:n6 N pl x=true:=hB;replace h:(match a1D C call pl x E H n with
   |.ok (.exit j,E',H',n')=>bif Nat.beq j i then Rs.ok (SX.normal,E',H',n') else Rs.ok (SX.exit j,E',H',n')
   |r=>r)=.ok (e,E',H',n'):=h
  split at h
  ·rename_i j E1 H1 n1 hr;obtain ⟨h1,h2⟩:=ih hB _ _ _ _ _ _ _ hr
   cases hj:Nat.beq j i with
   |true=>
    rw [hj] at h
    cases h
    obtain rfl:=xa8 hj;refine ⟨h1,fun {w0 w ρ ds a hi Q} hQ ha hI hF hn k=>wp_block (h2 hQ.block ha hI hF hn fun a' w' σ hσ ha' hI'=>?_)⟩;show if j=j then _ else _;rw [xd6 rfl];exact k a' w' σ hσ ha' hI'
   |false=>
    rw [hj] at h
    cases h
    have hne:j≠i:=fun e=>by subst e;rw [xk2] at hj;cases hj
    refine ⟨h1,fun {w0 w ρ ds a hi Q} hQ ha hI hF hn k=>wp_block (h2 hQ.block ha hI hF hn fun a' w' σ hσ ha' hI'=>?_)⟩;show if j=i then _ else _;rw [xd7 hne];exact k a' w' σ hσ ha' hI'
  ·rename_i hne;obtain ⟨h1,h2⟩:=ih hB _ _ _ _ _ _ _ h;refine ⟨h1,fun {w0 w ρ ds a hi Q} hQ ha hI hF hn k=>wp_block (h2 hQ.block ha hI hF hn fun a' w' σ hσ ha' hI'=>?_)⟩;have:=k a' w' σ hσ ha' hI'
   cases e with
   |normal=>exact this
   |exit j=>exact (hne _ _ _ _ h).elim
   |ret=>exact this
 |loop x ih=>
  intro E H n e E' H' n' h;replace hB:n6 N pl x=true:=hB;replace h:a5y (a1D C call pl x) a6H E H n=.ok (e,E',H',n'):=h;generalize a6H=kk at h;obtain ⟨h1,h2⟩:=a7j (ih hB) kk _ _ _ _ _ _ _ h;exact ⟨h1,fun hQ ha hI hF hn k=>wp_loop_rounds kk (h2 hQ ha hI hF hn k)⟩
 |rangeFunc f ps x y _ _=>intro E H n e E' H' n' h;cases h
 |exit i=>
  intro E H n e E' H' n' h
  cases h
  exact ⟨xc4 _,fun hQ ha hI hF hn k=>wp_exit (k _ _ _ (Stp.refl _ _ _) ha hI)⟩
 |scope x _=>intro E H n e E' H' n' h;cases h
 |label l=>intro E H n e E' H' n' h;cases h
 |goto l=>intro E H n e E' H' n' h;cases h
 |ret=>
  intro E H n e E' H' n' h
  cases h
  exact ⟨xc4 _,fun hQ ha hI hF hn k=>wp_ret (k _ _ _ (Stp.refl _ _ _) ha hI)⟩
 |refuse s=>intro E H n e E' H' n' h;cases h
theorem a3e (hT:TOk P C.T) (ha:HasR ρ N ds a E) (hI:Inv P w0 ρ H w):∀ {rs:List ResultVar} {vs:List Value},a6b C.T E H rs=some vs->∃ us,LR ρ vs us/\ResL P (t9 a) w rs us
 |[],vs,h=>by cases h;exact ⟨[],LR.nil,ResL.nil⟩
 |.tmp t::r,vs,h=>by
  unfold a6b at h
  split at h
  ·rename_i v vs' h1 h2
   cases h
   obtain ⟨u,hu,hat⟩:=ha.at_ t v h1;obtain ⟨us,h3,h4⟩:=a3e hT ha hI h2;exact ⟨u::us,LR.cons hu h3,ResL.tmp (a1r hat) h4⟩
  ·cases h
 |.cell p t::r,vs,h=>by
  unfold a6b at h
  split at h
  ·rename_i pv hp
   split at h
   ·rename_i v vs' h1 h2
    cases h
    obtain ⟨p',hp',hat⟩:=ha.at_ p pv hp;obtain ⟨b,o,u,rfl,hu,hl⟩:=a3k hT hI h1 hp';obtain ⟨us,h3,h4⟩:=a3e hT ha hI h2;exact ⟨u::us,LR.cons hu h3,ResL.cell (a1r hat) hl h4⟩
   ·cases h
  ·cases h
theorem VR.pack {vs us:List Value} (h:LR ρ vs us):VR ρ (a1b vs) (a1b us):=by
 match vs,us,h with
 |[],us,h=>rw [LR.nil_inv h];exact VR.mkTup LR.nil
 |[v],us,h=>
  obtain ⟨u,r,rfl,h1,h2⟩:=LR.inv h;rw [LR.nil_inv h2];exact h1
 |v::v2::r,us,h=>
  obtain ⟨u,r',rfl,h1,h2⟩:=LR.inv h;obtain ⟨u2,r2,rfl,h3,h4⟩:=LR.inv h2;exact VR.mkTup h
theorem a2g (m e:Nat):∀ (H:SH) {i:Nat} {s:SA},d4 (a5W m e H) i=some s->d4 H i=some s/\inR m e i=true
 |[],i,s,h=>by cases h
 |(k,t)::r,i,s,h=>by
  replace h:d4 (@Bool.rec (fun _=>SH) (a5W m e r) ((k,t)::a5W m e r) (inR m e k)) i=some s:=h
  cases hb:inR m e k with
  |true=>
   rw [hb] at h;rw [e9] at h |-;by_cases hk:k=i
   ·rw [xd6 hk] at h |-;exact ⟨h,by rw [<- hk];exact hb⟩
   ·rw [xd7 hk] at h |-;exact a2g m e r h
  |false=>
   rw [hb] at h;obtain ⟨h1,h2⟩:=a2g m e r h;have hk:k≠i:=fun e2=>by
    subst e2;rw [hb] at h2
    cases h2
   rw [e9,xd7 hk];exact ⟨h1,h2⟩
theorem b0k {m e:Nat} {v:Value} {i:Nat} {s:SA} (h:d4 (gc m e v H) i=some s):d4 H i=some s:=by
 unfold gc at h
 cases hb:(Nat.blt 20 (a9u m e H) && (a52 1000 m e v && (a5W m e H).all fun p=>a9A m e p.2)) with
 |true=>rw [hb] at h;exact (a2g m e H h).1
 |false=>rw [hb] at h;exact h
theorem a15:∀ {vs us:List Value} {k t:Nat} {v:Value},LR ρ vs us->d4 (a1H k vs) t=some v->k<=t/\∃ u,us[t - k]?=some u/\VR ρ v u
 |[],us,k,t,v,_,h=>by cases h
 |x::vs,us,k,t,v,hr,h=>by
  obtain ⟨u,r,rfl,h1,h2⟩:=LR.inv hr;replace h:d4 ((k,x)::a1H (k + 1) vs) t=some v:=h;rw [e9] at h;by_cases e:k=t
  ·rw [xd6 e] at h
   cases h
   subst e;exact ⟨xc4 _,u,by simp,h1⟩
  ·rw [xd7 e] at h;obtain ⟨h3,u',h4,h5⟩:=a15 h2 h;exact ⟨by omega,u',by rw [show t - k=(t - (k + 1)) + 1 from by omega];simpa using h4,h5⟩
theorem a62 (hC:FOk P C) (hc:v9 P call):v9 P (a6N C call):=by
 intro g vs H n v H' n' h;unfold a6N at h
 split at h
 ·rename_i f hf
  split at h
  ·rename_i u hu
   cases h
   refine ⟨xc4 _,fun {w0 w ρ hi us} hr hI hF hn=>?_⟩;obtain ⟨h1,h2,h3⟩:=hC.M g f hf vs _ hu;have e:us=vs:=by
    have:=h1 ρ;unfold LR at hr this;rw [hr] at this
    cases this
    rfl
   rw [e];exact (h3 w).mono fun v' w' ⟨e1,hS⟩=>⟨ρ,Stp.refl _ _ _,by rw [e1];exact h2 ρ,hI.grow (St.grown0 hS)⟩
  ·cases h
 ·split at h
  ·rename_i fn pl hf;obtain ⟨hok,c',hb',hB⟩:=hC.F.get hf
   split at h
   ·rename_i c hb;obtain rfl:c=c':=by rw [hb] at hb';exact Option.some.inj hb'
    cases hl:Nat.ble vs.length fn.ntmps with
    |false=>rw [hl] at h;cases h
    |true=>
    rw [hl] at h;dsimp only [cond_true] at h
    split at h
    ·cases h
    ·rename_i e E1 H1 n1 hne hr
     split at h
     ·rename_i rs hrs
      cases h
      obtain ⟨h1,h2⟩:=a71 hC hc pl c hB _ _ _ _ _ _ _ hr;refine ⟨h1,fun {w0 w ρ hi us} hus hI hF hn=>⟨⟨fn,hok⟩,?_⟩⟩;refine calls_of_wp hok.at_ hb (h2 (fun c a w d v hq=>by cases d <;> exact hq) ⟨?_,rfl,fun t v ht=>?_⟩ hI hF hn fun a' w' σ hσ ha' hI'=>?_)
      ·have:=xe5 hl;have:=hus.len;simp;omega
      ·obtain ⟨_,u,hu,hv⟩:=a15 hus ht;rw [Nat.sub_zero] at hu;have hlt:=a7 hu;exact ⟨u,hv,by rw [Array.getElem?_append_left (by simpa using hlt)];simpa using hu⟩
      ·obtain ⟨us',h3,h4⟩:=a3e hC.ok.T ha' hI' hrs;have q:=a9K (P:=P) (fn:=fn) (Φ:=fun u w'=>∃ σ,Stp ρ σ n n'/\VR σ (a1b rs) u/\Inv P w0 σ (gc n n' (a1b rs) H1) w') rfl h4 rfl ⟨σ,hσ,VR.pack h3,hI'.sub fun i s hs=>b0k hs⟩ ha'.full
       cases e with
       |normal=>exact q
       |exit i=>exact (hne _ rfl).elim
       |ret=>exact q
     ·cases h
    ·cases h
   ·cases h
  ·cases h
theorem a9f (hC:FOk P C) (k:Nat):v9 P (a9H C k):=by
 induction k with
 |zero=>intro g vs H n v H' n' h;cases h
 |succ k ih=>exact a62 hC ih
noncomputable def xIs (r:Rs (Value×SH×Nat)) (v:Value):Bool:=match r with
 |.ok (u,_,_)=>vEq 1000 u v
 |.no _=>false
theorem a9L (hC:FOk P C) {g:Nat} {vs:List Value} {v:Value} (k:Nat) (h:xIs (a9H C k g vs [] 0) v=true) (hvs:vs.all cOk=true) (hv:∀ ρ,VR ρ v v) (w:World):Fn P g vs w (RBf v w):=by
 unfold xIs at h
 split at h
 ·rename_i u H n hr;obtain rfl:=a05 _ h;obtain ⟨h1,h2⟩:=a9f hC k _ _ _ _ _ _ _ hr;refine (h2 (w0:=w) (w:=w) (ρ:=fun _=>none) (hi:=n) (LR.cOks hvs) ⟨⟨rfl,rfl,rfl,xc4 _,fun _ _=>rfl⟩,(fun i s h=>by cases h),(fun i j s t x y h=>by cases h)⟩ (fun _ _ _=>rfl) (xc4 _)).mono fun u' w' ⟨σ,hσ,hu,hI⟩=>?_;exact ⟨VR.fn (hv σ) hu,St.of_below hI.below⟩
 ·cases h
end
theorem a6h {α:Type} {l:List (Nat×α)} {i:Nat} {x:α} (h:d4 l i=some x):(i,x) ∈ l:=by
 induction l with
 |nil=>cases h
 |cons p r ih=>
  have h2:(@Bool.rec (fun _=>Option α) (d4 r i) (some p.2) (Nat.beq p.1 i))=some x:=h
  cases hb:Nat.beq p.1 i with
  |true=>
   rw [hb] at h2
   cases h2
   rw [<- xa8 hb];exact xb4
  |false=>
   rw [hb] at h2;exact xb5 _ (ih h2)
theorem a64 {l:List (String×Nat)} {i:String} {x:Nat} (h:a8Q l i=some x):(i,x) ∈ l:=by
 induction l with
 |nil=>cases h
 |cons p r ih=>
  have h2:(@Bool.rec (fun _=>Option Nat) (a8Q r i) (some p.2) (decide (p.1=i)))=some x:=h
  cases hb:decide (p.1=i) with
  |true=>
   rw [hb] at h2
   cases h2
   rw [<- xg5 hb];exact xb4
  |false=>
   rw [hb] at h2;exact xb5 _ (ih h2)
theorem a9W {P:Program} {I:List (Nat×List (String×Nat))} (h:I.all (fun p=>P.concrete p.1 && p.2.all fun q=>a7r P p.1 q.1 q.2)=true):IOk P I:=fun t ms ht=>by
 have h1:=xb7.1 h _ (a6h ht);rw [xb6] at h1;exact ⟨h1.1,fun name g hg=>xb7.1 h1.2 _ (a64 hg)⟩
def cxQ:EqT:=[(177,[1,0,2,2]),(182,[1,0]),(76,[0,0])]
noncomputable def b0f:List Value->Option Value
 |[.string ⟨⟨s⟩⟩,.int .i64 off,.string ⟨⟨t⟩⟩]=>ifB (inB off t.length s.length && Nat.ble s.length 100000) (some (.tuple #[.string ⟨(splice s off.toNat t).toArray⟩,.int .i64 0])) none
 |_=>none
noncomputable def cxM:List (Nat×(List Value->Option Value)):=[(116,b0f)]
theorem b09 {ρ:Ren} {z:Value} {l:List Value} (h:celL z=some l) (hl:l.all cOk=true):VR ρ z z:=by
 cases z
 all_goals first
  |(cases h;exact VR.mkAgg (LR.cOks hl);done)
  |(cases h;exact VR.cOk (by simpa using hl);done)
  |(cases h;done)
def zOk (z:Value):Bool:=match celL z with
 |some l=>l.all cOk
 |none=>false
def ForA {α:Type} (p:α->Prop):List α->Prop
 |[]=>True
 |x::r=>p x/\ForA p r
theorem ForA.nil {α:Type} {p:α->Prop}:ForA p []:=trivial
theorem ForA.cons {α:Type} {p:α->Prop} {x:α} {l:List α} (h:p x) (h':ForA p l):ForA p (x::l):=⟨h,h'⟩
theorem ForA.mem {α:Type} {p:α->Prop}:∀ {l:List α},ForA p l->∀ x ∈ l,p x
 |[],_,x,h=>by cases h
 |y::r,⟨h1,h2⟩,x,h=>by
  rcases xb3.1 h with rfl|h
  ·exact h1
  ·exact ForA.mem h2 x h
theorem a9e {P:Program} {ez:List (Nat×Value)} (h:ForA (fun p=>∃ Kt Et,P.underlying p.1=some (.map Kt Et)/\(P.info? Et).bind (·.zero)=some p.2/\zOk p.2=true) ez):a8g P ez:=fun t z hg Kt Et hu=>by
 obtain ⟨K,E,h1,h2,h3⟩:=h.mem _ (a0A hg);dsimp only at h1 h2 h3;rw [hu] at h1
 cases h1
 refine ⟨h2,fun ρ=>?_⟩;unfold zOk at h3
 split at h3
 ·rename_i l hl;exact b09 hl h3
 ·cases h3
theorem a9P:∀ g f,d4 cxM g=some f->∀ vs v,f vs=some v->(∀ ρ,LR ρ vs vs)/\(∀ ρ,VR ρ v v)/\∀ w,Fn Tryz.prog g vs w (RBf v w):=by
 intro g f h vs v hv;have hm:=a0A h;unfold cxM at hm;rw [xh5] at hm
 cases hm
 unfold b0f at hv
 split at hv
 ·rename_i s off t;obtain ⟨h1,h2⟩:=a8 hv
  cases h2
  rw [xb6] at h1;have h3:=xe5 h1.2;refine ⟨fun ρ=>LR.cOks rfl,fun ρ=>VR.mkTup (LR.cOks rfl),fun w=>?_⟩;have:=b0U s t off w (by unfold maxLen;omega);rw [xd6 h1.1,xd6 h1.1] at this;exact this
 ·cases hv
theorem a2s {l l':List Value} {b:Bool} (h:sEqS [] l l'=some b):l=[]/\l'=[]/\b=true:=by
 cases l <;> cases l' <;> simp_all [sEqS]
theorem a3w {s:List Nat} {l l':List Value} {b:Bool} (h:sEqS (0::s) l l'=some b):∃ x y m m' c,l=.int .i64 x::m/\l'=.int .i64 y::m'/\sEqS s m m'=some c/\b=(decide (x=y) && c):=by
 unfold sEqS at h
 split at h
 all_goals first
  |(cases h;done)
  |(exfalso;simp_all;done)
  |(obtain ⟨c,hc,rfl⟩:=xk1.1 h;simp_all;done)
  |(obtain ⟨c,hc,rfl⟩:=xk1.1 h;rename_i e;cases e;exact ⟨_,_,_,_,c,rfl,rfl,hc,rfl⟩)
theorem a7v {s:List Nat} {l l':List Value} {b:Bool} (h:sEqS (1::s) l l'=some b):∃ x y m m' c,l=.string ⟨⟨x⟩⟩::m/\l'=.string ⟨⟨y⟩⟩::m'/\sEqS s m m'=some c/\b=(decide (x=y) && c):=by
 unfold sEqS at h
 split at h
 all_goals first
  |(cases h;done)
  |(exfalso;simp_all;done)
  |(obtain ⟨c,hc,rfl⟩:=xk1.1 h;simp_all;done)
  |(obtain ⟨c,hc,rfl⟩:=xk1.1 h;rename_i e;cases e;exact ⟨_,_,_,_,c,rfl,rfl,hc,rfl⟩)
theorem a7f {s:List Nat} {l l':List Value} {b:Bool} (h:sEqS (2::s) l l'=some b):∃ x y m m' c,l=.bool x::m/\l'=.bool y::m'/\sEqS s m m'=some c/\b=(decide (x=y) && c):=by
 unfold sEqS at h
 split at h
 all_goals first
  |(cases h;done)
  |(exfalso;simp_all;done)
  |(obtain ⟨c,hc,rfl⟩:=xk1.1 h;simp_all;done)
  |(obtain ⟨c,hc,rfl⟩:=xk1.1 h;rename_i e;cases e;exact ⟨_,_,_,_,c,rfl,rfl,hc,rfl⟩)
theorem a90:QOk Tryz.prog cxQ:=fun t s h l l' b hb=>by
 have hm:=a0A h;unfold cxQ at hm;simp only [xb3,List.not_mem_nil,or_false,Prod.mk.injEq] at hm;rcases hm with ⟨rfl,rfl⟩|⟨rfl,rfl⟩|⟨rfl,rfl⟩
 ·obtain ⟨x1,y1,m1,n1,c1,rfl,rfl,hb1,rfl⟩:=a7v hb;obtain ⟨x2,y2,m2,n2,c2,rfl,rfl,hb2,rfl⟩:=a3w hb1;obtain ⟨x3,y3,m3,n3,c3,rfl,rfl,hb3,rfl⟩:=a7f hb2;obtain ⟨x4,y4,m4,n4,c4,rfl,rfl,hb4,rfl⟩:=a7f hb3;obtain ⟨rfl,rfl,rfl⟩:=a2s hb4;refine ⟨fun w=>?_,by kernel_rfl⟩;simp [go_sem]
  repeat' split
  all_goals simp_all
 ·obtain ⟨x1,y1,m1,n1,c1,rfl,rfl,hb1,rfl⟩:=a7v hb;obtain ⟨x2,y2,m2,n2,c2,rfl,rfl,hb2,rfl⟩:=a3w hb1;obtain ⟨rfl,rfl,rfl⟩:=a2s hb2;refine ⟨fun w=>?_,by kernel_rfl⟩;simp [go_sem]
  repeat' split
  all_goals simp_all
 ·obtain ⟨x1,y1,m1,n1,c1,rfl,rfl,hb1,rfl⟩:=a3w hb;obtain ⟨x2,y2,m2,n2,c2,rfl,rfl,hb2,rfl⟩:=a3w hb1;obtain ⟨rfl,rfl,rfl⟩:=a2s hb2;refine ⟨fun w=>?_,by kernel_rfl⟩;simp [go_sem]
  repeat' split
  all_goals simp_all
def b1p (op a b c imm:Int):Value:=.agg #[.int .i64 op,.int .i64 a,.int .i64 b,.int .i64 c,.int .i64 imm]
attribute [go_sem] a3M
end Go.Proofs.YtejnpppejalhfadGreat
namespace Go.Proofs.YtejnpppejalhfadGreat
set_option maxRecDepth 100000
set_option maxHeartbeats 8000000
open Go.RowKit Go.Sort Go.MapKept
def sh (a b c:Bool):Value:=.agg #[.bool a,.bool b,.bool c]
def shapeL:List (Value×Value):=[(.int .i64 1,sh true false false),(.int .i64 11,sh true false false),(.int .i64 15,sh true false false),(.int .i64 12,sh false false false),(.int .i64 16,sh false false false),
 (.int .i64 2,sh true true true),(.int .i64 3,sh true true true),(.int .i64 4,sh true true true),(.int .i64 5,sh true true true),(.int .i64 6,sh true true true),(.int .i64 7,sh true true true),
 (.int .i64 8,sh true true false),(.int .i64 9,sh true true false),(.int .i64 10,sh true true false),(.int .i64 13,sh true true false),(.int .i64 14,sh true true false)]
def a4X (w:World) (e:Ending) (w':World):Prop:=∃ r,e=.returned (.map (some r))/\Below w.heap.size w w'/\w.heap.size<=r/\MapAt (.int .i64) w' r shapeL
theorem x5 (w:World):Calls Tryz.prog 166 #[] w (a4X w):=by
 have hsz:(Tryz.prog.info? 285).map (·.size)=some 3:=by kernel_rfl
 have Hsz:=hid hsz;clear hsz
 go_enter Tryz.func166,Tryz.ntmps166
 go_wp2_with (first|(with_reducible refine l2 3 ?_);refine a2n (.int .i64) w.heap.size w ?cb ?cs ?_;(case cb=>exact (by repeat (first|with_reducible exact Below.refl _ _|with_reducible refine Below.alloc ?_ (by simp <;> omega) _)));(case cs=>simp);intro w1 hM hb hz hg;have hT:=(hg w.heap.size (by simp)).trans (heap_alloc_new w _);have hM:MapAt (.int .i64) w1 (w.heap.size + 1) (shapeL.take 0):=(by simpa using hM);clear hg hz|(with_reducible refine b5 1 ?_);refine b6 (d:=.int .i64) Tryz.underlying287 Tryz.underlying3 (w.heap.size + 1) (.int .i64 1) (sh true false false) (shapeL.take 0) rfl rfl rfl hM (by simp [IsKey]) (by simp [shapeL]) w.heap.size w hb (by omega) ?_;intro w1 hM hb hz hg;have hT:=(hg w.heap.size (by omega)).trans hT;clear hg hz;have hM:MapAt (.int .i64) w1 (w.heap.size + 1) (shapeL.take 1):=hM|(with_reducible refine b5 11 ?_);refine b6 (d:=.int .i64) Tryz.underlying287 Tryz.underlying3 (w.heap.size + 1) (.int .i64 11) (sh true false false) (shapeL.take 1) rfl rfl rfl hM (by simp [IsKey]) (by simp [shapeL]) w.heap.size w hb (by omega) ?_;intro w1 hM hb hz hg;have hT:=(hg w.heap.size (by omega)).trans hT;clear hg hz;have hM:MapAt (.int .i64) w1 (w.heap.size + 1) (shapeL.take 2):=hM|(with_reducible refine b5 15 ?_);refine b6 (d:=.int .i64) Tryz.underlying287 Tryz.underlying3 (w.heap.size + 1) (.int .i64 15) (sh true false false) (shapeL.take 2) rfl rfl rfl hM (by simp [IsKey]) (by simp [shapeL]) w.heap.size w hb (by omega) ?_;intro w1 hM hb hz hg;have hT:=(hg w.heap.size (by omega)).trans hT;clear hg hz;have hM:MapAt (.int .i64) w1 (w.heap.size + 1) (shapeL.take 3):=hM|(with_reducible refine b5 12 ?_);refine b6 (d:=.int .i64) Tryz.underlying287 Tryz.underlying3 (w.heap.size + 1) (.int .i64 12) (sh false false false) (shapeL.take 3) rfl rfl rfl hM (by simp [IsKey]) (by simp [shapeL]) w.heap.size w hb (by omega) ?_;intro w1 hM hb hz hg;have hT:=(hg w.heap.size (by omega)).trans hT;clear hg hz;have hM:MapAt (.int .i64) w1 (w.heap.size + 1) (shapeL.take 4):=hM|(with_reducible refine b5 16 ?_);refine b6 (d:=.int .i64) Tryz.underlying287 Tryz.underlying3 (w.heap.size + 1) (.int .i64 16) (sh false false false) (shapeL.take 4) rfl rfl rfl hM (by simp [IsKey]) (by simp [shapeL]) w.heap.size w hb (by omega) ?_;intro w1 hM hb hz hg;have hT:=(hg w.heap.size (by omega)).trans hT;clear hg hz;have hM:MapAt (.int .i64) w1 (w.heap.size + 1) (shapeL.take 5):=hM|(with_reducible refine b5 2 ?_);refine b6 (d:=.int .i64) Tryz.underlying287 Tryz.underlying3 (w.heap.size + 1) (.int .i64 2) (sh true true true) (shapeL.take 5) rfl rfl rfl hM (by simp [IsKey]) (by simp [shapeL]) w.heap.size w hb (by omega) ?_;intro w1 hM hb hz hg;have hT:=(hg w.heap.size (by omega)).trans hT;clear hg hz;have hM:MapAt (.int .i64) w1 (w.heap.size + 1) (shapeL.take 6):=hM|(with_reducible refine b5 3 ?_);refine b6 (d:=.int .i64) Tryz.underlying287 Tryz.underlying3 (w.heap.size + 1) (.int .i64 3) (sh true true true) (shapeL.take 6) rfl rfl rfl hM (by simp [IsKey]) (by simp [shapeL]) w.heap.size w hb (by omega) ?_;intro w1 hM hb hz hg;have hT:=(hg w.heap.size (by omega)).trans hT;clear hg hz;have hM:MapAt (.int .i64) w1 (w.heap.size + 1) (shapeL.take 7):=hM|(with_reducible refine b5 4 ?_);refine b6 (d:=.int .i64) Tryz.underlying287 Tryz.underlying3 (w.heap.size + 1) (.int .i64 4) (sh true true true) (shapeL.take 7) rfl rfl rfl hM (by simp [IsKey]) (by simp [shapeL]) w.heap.size w hb (by omega) ?_;intro w1 hM hb hz hg;have hT:=(hg w.heap.size (by omega)).trans hT;clear hg hz;have hM:MapAt (.int .i64) w1 (w.heap.size + 1) (shapeL.take 8):=hM|(with_reducible refine b5 5 ?_);refine b6 (d:=.int .i64) Tryz.underlying287 Tryz.underlying3 (w.heap.size + 1) (.int .i64 5) (sh true true true) (shapeL.take 8) rfl rfl rfl hM (by simp [IsKey]) (by simp [shapeL]) w.heap.size w hb (by omega) ?_;intro w1 hM hb hz hg;have hT:=(hg w.heap.size (by omega)).trans hT;clear hg hz;have hM:MapAt (.int .i64) w1 (w.heap.size + 1) (shapeL.take 9):=hM|(with_reducible refine b5 6 ?_);refine b6 (d:=.int .i64) Tryz.underlying287 Tryz.underlying3 (w.heap.size + 1) (.int .i64 6) (sh true true true) (shapeL.take 9) rfl rfl rfl hM (by simp [IsKey]) (by simp [shapeL]) w.heap.size w hb (by omega) ?_;intro w1 hM hb hz hg;have hT:=(hg w.heap.size (by omega)).trans hT;clear hg hz;have hM:MapAt (.int .i64) w1 (w.heap.size + 1) (shapeL.take 10):=hM|(with_reducible refine b5 7 ?_);refine b6 (d:=.int .i64) Tryz.underlying287 Tryz.underlying3 (w.heap.size + 1) (.int .i64 7) (sh true true true) (shapeL.take 10) rfl rfl rfl hM (by simp [IsKey]) (by simp [shapeL]) w.heap.size w hb (by omega) ?_;intro w1 hM hb hz hg;have hT:=(hg w.heap.size (by omega)).trans hT;clear hg hz;have hM:MapAt (.int .i64) w1 (w.heap.size + 1) (shapeL.take 11):=hM|(with_reducible refine b5 8 ?_);refine b6 (d:=.int .i64) Tryz.underlying287 Tryz.underlying3 (w.heap.size + 1) (.int .i64 8) (sh true true false) (shapeL.take 11) rfl rfl rfl hM (by simp [IsKey]) (by simp [shapeL]) w.heap.size w hb (by omega) ?_;intro w1 hM hb hz hg;have hT:=(hg w.heap.size (by omega)).trans hT;clear hg hz;have hM:MapAt (.int .i64) w1 (w.heap.size + 1) (shapeL.take 12):=hM|(with_reducible refine b5 9 ?_);refine b6 (d:=.int .i64) Tryz.underlying287 Tryz.underlying3 (w.heap.size + 1) (.int .i64 9) (sh true true false) (shapeL.take 12) rfl rfl rfl hM (by simp [IsKey]) (by simp [shapeL]) w.heap.size w hb (by omega) ?_;intro w1 hM hb hz hg;have hT:=(hg w.heap.size (by omega)).trans hT;clear hg hz;have hM:MapAt (.int .i64) w1 (w.heap.size + 1) (shapeL.take 13):=hM|(with_reducible refine b5 10 ?_);refine b6 (d:=.int .i64) Tryz.underlying287 Tryz.underlying3 (w.heap.size + 1) (.int .i64 10) (sh true true false) (shapeL.take 13) rfl rfl rfl hM (by simp [IsKey]) (by simp [shapeL]) w.heap.size w hb (by omega) ?_;intro w1 hM hb hz hg;have hT:=(hg w.heap.size (by omega)).trans hT;clear hg hz;have hM:MapAt (.int .i64) w1 (w.heap.size + 1) (shapeL.take 14):=hM|(with_reducible refine b5 13 ?_);refine b6 (d:=.int .i64) Tryz.underlying287 Tryz.underlying3 (w.heap.size + 1) (.int .i64 13) (sh true true false) (shapeL.take 14) rfl rfl rfl hM (by simp [IsKey]) (by simp [shapeL]) w.heap.size w hb (by omega) ?_;intro w1 hM hb hz hg;have hT:=(hg w.heap.size (by omega)).trans hT;clear hg hz;have hM:MapAt (.int .i64) w1 (w.heap.size + 1) (shapeL.take 15):=hM|(with_reducible refine b5 14 ?_);refine b6 (d:=.int .i64) Tryz.underlying287 Tryz.underlying3 (w.heap.size + 1) (.int .i64 14) (sh true true false) (shapeL.take 15) rfl rfl rfl hM (by simp [IsKey]) (by simp [shapeL]) w.heap.size w hb (by omega) ?_;intro w1 hM hb hz hg;have hT:=(hg w.heap.size (by omega)).trans hT;clear hg hz;have hM:MapAt (.int .i64) w1 (w.heap.size + 1) (shapeL.take 16):=hM|(first|with_reducible refine l2 9 ?_|with_reducible refine l2 10 ?_|with_reducible refine l2 11 ?_|with_reducible refine l2 12 ?_|with_reducible refine l2 13 ?_|with_reducible refine l2 14 ?_);refine wpList_load_row rfl 285 (.tmp 1) rfl w.heap.size rfl _ _ _ _ hT Tryz.underlying285 rfl Hsz.out ?_)
 go_ret
 exact ⟨w.heap.size + 1,rfl,hb,by omega,hM⟩
def b0o (op:Int):Prop:=1<=op/\op<=16/\op≠12/\op≠16
def b0R (op:Int):Prop:=(2<=op/\op<=10)\/op=13\/op=14
def a9X (op:Int):Prop:=2<=op/\op<=7
def a8S (op a b c imm:Int):Prop:=op < 1\/16 < op\/(b0o op/\8<=a)\/(b0R op/\8<=b)\/(a9X op/\8<=c) \/
 ((op=9\/op=10)/\c≠1/\c≠2/\c≠4/\c≠8)\/(op=16/\(imm < 1\/6 < imm))
def a4Z (op:Int) (sa sb sc ok:Bool):Prop:=∀ (w:World) (r:Nat),MapAt (.int .i64) w r shapeL ->
 (Instr.lookup 287 (.map (some r)) (.int .i64 op) true).run Tryz.prog w=.ok (.tuple #[.agg #[.bool sa,.bool sb,.bool sc],.bool ok]) w
theorem a0K (op:Int) (sa sb sc:Bool) (h:(Value.int .i64 op,sh sa sb sc) ∈ shapeL):a4Z op sa sb sc true:=fun _ _ hM=>
 a0E (P:=Tryz.prog) Tryz.underlying287 Tryz.underlying3 hM (by simp [IsKey]) h true
theorem a4H (op:Int) (h:op < 1\/16 < op):a4Z op false false false false:=fun _ _ hM=>
 a0q (P:=Tryz.prog) Tryz.underlying287 Tryz.underlying3 hM (by simp [IsKey]) (by intro v;simp [shapeL];omega) (by kernel_rfl) true
theorem a6y (op:Int):(a4Z op false false false false/\(op < 1\/16 < op))\/(a4Z op true false false true/\(op=1\/op=11\/op=15))\/(a4Z op false false false true/\(op=12\/op=16)) \/
  (a4Z op true true true true/\2<=op/\op<=7)\/(a4Z op true true false true/\(op=8\/op=9\/op=10\/op=13\/op=14)):=by
 rcases show (op < 1\/16 < op)\/(op=1\/op=11\/op=15)\/(op=12\/op=16)\/(op=2\/op=3\/op=4\/op=5\/op=6\/op=7)\/(op=8\/op=9\/op=10\/op=13\/op=14) from by omega with h|h|h|h|h
 ·exact .inl ⟨a4H op h,h⟩
 ·exact .inr (.inl ⟨a0K op _ _ _ (by rcases h with rfl|rfl|rfl <;> simp [shapeL]),h⟩)
 ·exact .inr (.inr (.inl ⟨a0K op _ _ _ (by rcases h with rfl|rfl <;> simp [shapeL]),h⟩))
 ·exact .inr (.inr (.inr (.inl ⟨a0K op _ _ _ (by rcases h with rfl|rfl|rfl|rfl|rfl|rfl <;> simp [shapeL]),by omega,by omega⟩)))
 ·exact .inr (.inr (.inr (.inr ⟨a0K op _ _ _ (by rcases h with rfl|rfl|rfl|rfl|rfl <;> simp [shapeL]),h⟩)))
def a19 (sa sb sc ok:Bool) (op a b c imm:Int) (w:World) (v3 v4:Value) (wx:World):Prop :=
 ∃ g,v3=.pointer (some ⟨g,0,none⟩)/\v4=.bool ok/\Below w.heap.size w wx/\wx.cell? ⟨g,0,none⟩=some (.bool sa)/\wx.cell? ⟨g,1,none⟩=some (.bool sb)/\wx.cell? ⟨g,2,none⟩=some (.bool sc) /\
  wx.cell? ⟨w.heap.size,0,none⟩=some (.int .i64 op)/\wx.cell? ⟨w.heap.size,1,none⟩=some (.int .i64 a)/\wx.cell? ⟨w.heap.size,2,none⟩=some (.int .i64 b)/\wx.cell? ⟨w.heap.size,3,none⟩=some (.int .i64 c)/\wx.cell? ⟨w.heap.size,4,none⟩=some (.int .i64 imm)
theorem a8o (op a b c imm:Int) (w:World) (res:Bool) (h:res=true ↔ a8S op a b c imm) :
  Calls Tryz.prog 127 #[b1p op a b c imm] w (RB (.bool res) w):=by
 unfold b1p;unfold a8S b0o b0R a9X at h;rcases a6y op with ⟨hl,hop⟩|⟨hl,hop⟩|⟨hl,hop⟩|⟨hl,hop1,hop2⟩|⟨hl,hop⟩
 ·have hl:=hid hl;have H:=hid h;clear h;have HO:=hid hop;clear hop
  go_enter Tryz.func127,Tryz.ntmps127
  go_upto_region 1 with fail
  go_cut [3,4] (fun v3 v4 wx=>a19 false false false false op a b c imm w v3 v4 wx)
  case first=>
   go_region_with ((go_at_call 166;refine (x5 _).mono ?_;rintro e w1 ⟨r,rfl,hb1,hr1,hM⟩;have HL:=hl.out _ _ hM;have HL2:=fun o=>hl.out _ _ (hM.grown ((Below.refl _ w1).alloc (xc4 _) o));clear hM;obtain ⟨hc1,hf1⟩:=a3L hb1;have hz1:w.heap.size < w1.heap.size:=by (have:=hb1.size;simp at this;omega)))
   all_goals
    go_wp2_with fail
    go_meet
    exact ⟨_,rfl,rfl,(by repeat (first|with_reducible exact Below.refl _ _|with_reducible refine Below.alloc ?_ (by first|omega|(simp;done)) _|with_reducible refine Below.setCell ?_ (by (simp;done)) _|with_reducible refine Below.drew ?_|refine bt ?_ (by with_reducible assumption))),by simp [go_sem,hc1,hz1],by simp [go_sem,hc1,hz1],by simp [go_sem,hc1,hz1],by simp [go_sem,hc1,hz1],by simp [go_sem,hc1,hz1],by simp [go_sem,hc1,hz1],by simp [go_sem,hc1,hz1],by simp [go_sem,hc1,hz1]⟩
  case rest=>
   obtain ⟨g,rfl,rfl,hb,f0,f1,f2,q0,q1,q2,q3,q4⟩:=hcut
   go_wp2
   all_goals
    have h:=H.out;have hop:=HO.out
    go_ret
    refine ⟨g9 ?_,hb⟩;rw [xb9,h];clear h H hl HO hb f0 f1 f2 q0 q1 q2 q3 q4;simp only [beq_iff_eq,xh0,xh7,xk5,ne_eq,xj0,xj9] at *
    first
     |omega
     |(simp;omega)
 ·have hl:=hid hl;have H:=hid h;clear h;have HO:=hid hop;clear hop
  go_enter Tryz.func127,Tryz.ntmps127
  go_upto_region 1 with fail
  go_cut [3,4] (fun v3 v4 wx=>a19 true false false true op a b c imm w v3 v4 wx)
  case first=>
   go_region_with ((go_at_call 166;refine (x5 _).mono ?_;rintro e w1 ⟨r,rfl,hb1,hr1,hM⟩;have HL:=hl.out _ _ hM;have HL2:=fun o=>hl.out _ _ (hM.grown ((Below.refl _ w1).alloc (xc4 _) o));clear hM;obtain ⟨hc1,hf1⟩:=a3L hb1;have hz1:w.heap.size < w1.heap.size:=by (have:=hb1.size;simp at this;omega)))
   all_goals
    go_wp2_with fail
    go_meet
    exact ⟨_,rfl,rfl,(by repeat (first|with_reducible exact Below.refl _ _|with_reducible refine Below.alloc ?_ (by first|omega|(simp;done)) _|with_reducible refine Below.setCell ?_ (by (simp;done)) _|with_reducible refine Below.drew ?_|refine bt ?_ (by with_reducible assumption))),by simp [go_sem,hc1,hz1],by simp [go_sem,hc1,hz1],by simp [go_sem,hc1,hz1],by simp [go_sem,hc1,hz1],by simp [go_sem,hc1,hz1],by simp [go_sem,hc1,hz1],by simp [go_sem,hc1,hz1],by simp [go_sem,hc1,hz1]⟩
  case rest=>
   obtain ⟨g,rfl,rfl,hb,f0,f1,f2,q0,q1,q2,q3,q4⟩:=hcut
   go_wp2
   all_goals
    have h:=H.out;have hop:=HO.out
    go_ret
    refine ⟨g9 ?_,hb⟩;rw [xb9,h];clear h H hl HO hb f0 f1 f2 q0 q1 q2 q3 q4;simp only [beq_iff_eq,xh0,xh7,xk5,ne_eq,xj0,xj9] at *
    first
     |omega
     |(simp;omega)
 ·have hl:=hid hl;have H:=hid h;clear h;have HO:=hid hop;clear hop
  go_enter Tryz.func127,Tryz.ntmps127
  go_upto_region 1 with fail
  go_cut [3,4] (fun v3 v4 wx=>a19 false false false true op a b c imm w v3 v4 wx)
  case first=>
   go_region_with ((go_at_call 166;refine (x5 _).mono ?_;rintro e w1 ⟨r,rfl,hb1,hr1,hM⟩;have HL:=hl.out _ _ hM;have HL2:=fun o=>hl.out _ _ (hM.grown ((Below.refl _ w1).alloc (xc4 _) o));clear hM;obtain ⟨hc1,hf1⟩:=a3L hb1;have hz1:w.heap.size < w1.heap.size:=by (have:=hb1.size;simp at this;omega)))
   all_goals
    go_wp2_with fail
    go_meet
    exact ⟨_,rfl,rfl,(by repeat (first|with_reducible exact Below.refl _ _|with_reducible refine Below.alloc ?_ (by first|omega|(simp;done)) _|with_reducible refine Below.setCell ?_ (by (simp;done)) _|with_reducible refine Below.drew ?_|refine bt ?_ (by with_reducible assumption))),by simp [go_sem,hc1,hz1],by simp [go_sem,hc1,hz1],by simp [go_sem,hc1,hz1],by simp [go_sem,hc1,hz1],by simp [go_sem,hc1,hz1],by simp [go_sem,hc1,hz1],by simp [go_sem,hc1,hz1],by simp [go_sem,hc1,hz1]⟩
  case rest=>
   obtain ⟨g,rfl,rfl,hb,f0,f1,f2,q0,q1,q2,q3,q4⟩:=hcut
   go_wp2
   all_goals
    have h:=H.out;have hop:=HO.out
    go_ret
    refine ⟨g9 ?_,hb⟩;rw [xb9,h];clear h H hl HO hb f0 f1 f2 q0 q1 q2 q3 q4;simp only [beq_iff_eq,xh0,xh7,xk5,ne_eq,xj0,xj9] at *
    first
     |omega
     |(simp;omega)
 ·have hl:=hid hl;have H:=hid h;clear h;have HO:=hid (And.intro hop1 hop2);clear hop1 hop2
  go_enter Tryz.func127,Tryz.ntmps127
  go_upto_region 1 with fail
  go_cut [3,4] (fun v3 v4 wx=>a19 true true true true op a b c imm w v3 v4 wx)
  case first=>
   go_region_with ((go_at_call 166;refine (x5 _).mono ?_;rintro e w1 ⟨r,rfl,hb1,hr1,hM⟩;have HL:=hl.out _ _ hM;have HL2:=fun o=>hl.out _ _ (hM.grown ((Below.refl _ w1).alloc (xc4 _) o));clear hM;obtain ⟨hc1,hf1⟩:=a3L hb1;have hz1:w.heap.size < w1.heap.size:=by (have:=hb1.size;simp at this;omega)))
   all_goals
    go_wp2_with fail
    go_meet
    exact ⟨_,rfl,rfl,(by repeat (first|with_reducible exact Below.refl _ _|with_reducible refine Below.alloc ?_ (by first|omega|(simp;done)) _|with_reducible refine Below.setCell ?_ (by (simp;done)) _|with_reducible refine Below.drew ?_|refine bt ?_ (by with_reducible assumption))),by simp [go_sem,hc1,hz1],by simp [go_sem,hc1,hz1],by simp [go_sem,hc1,hz1],by simp [go_sem,hc1,hz1],by simp [go_sem,hc1,hz1],by simp [go_sem,hc1,hz1],by simp [go_sem,hc1,hz1],by simp [go_sem,hc1,hz1]⟩
  case rest=>
   obtain ⟨g,rfl,rfl,hb,f0,f1,f2,q0,q1,q2,q3,q4⟩:=hcut
   go_wp2
   all_goals
    have h:=H.out;have hop:=HO.out
    go_ret
    refine ⟨g9 ?_,hb⟩;rw [xb9,h];clear h H hl HO hb f0 f1 f2 q0 q1 q2 q3 q4;simp only [beq_iff_eq,xh0,xh7,xk5,ne_eq,xj0,xj9] at *
    first
     |omega
     |(simp;omega)
 ·have hl:=hid hl;have H:=hid h;clear h;have HO:=hid hop;clear hop
  go_enter Tryz.func127,Tryz.ntmps127
  go_upto_region 1 with fail
  go_cut [3,4] (fun v3 v4 wx=>a19 true true false true op a b c imm w v3 v4 wx)
  case first=>
   go_region_with ((go_at_call 166;refine (x5 _).mono ?_;rintro e w1 ⟨r,rfl,hb1,hr1,hM⟩;have HL:=hl.out _ _ hM;have HL2:=fun o=>hl.out _ _ (hM.grown ((Below.refl _ w1).alloc (xc4 _) o));clear hM;obtain ⟨hc1,hf1⟩:=a3L hb1;have hz1:w.heap.size < w1.heap.size:=by (have:=hb1.size;simp at this;omega)))
   all_goals
    go_wp2_with fail
    go_meet
    exact ⟨_,rfl,rfl,(by repeat (first|with_reducible exact Below.refl _ _|with_reducible refine Below.alloc ?_ (by first|omega|(simp;done)) _|with_reducible refine Below.setCell ?_ (by (simp;done)) _|with_reducible refine Below.drew ?_|refine bt ?_ (by with_reducible assumption))),by simp [go_sem,hc1,hz1],by simp [go_sem,hc1,hz1],by simp [go_sem,hc1,hz1],by simp [go_sem,hc1,hz1],by simp [go_sem,hc1,hz1],by simp [go_sem,hc1,hz1],by simp [go_sem,hc1,hz1],by simp [go_sem,hc1,hz1]⟩
  case rest=>
   obtain ⟨g,rfl,rfl,hb,f0,f1,f2,q0,q1,q2,q3,q4⟩:=hcut
   go_wp2
   all_goals
    have h:=H.out;have hop:=HO.out
    go_ret
    refine ⟨g9 ?_,hb⟩;rw [xb9,h];clear h H hl HO hb f0 f1 f2 q0 q1 q2 q3 q4;simp only [beq_iff_eq,xh0,xh7,xk5,ne_eq,xj0,xj9] at *
    first
     |omega
     |(simp;omega)
end Go.Proofs.YtejnpppejalhfadGreat
namespace Go.Proofs.YtejnpppejalhfadGreat
set_option maxRecDepth 100000
set_option maxHeartbeats 8000000
open Go.RowKit Go.Sort
def b0L (op a b c imm:Int):Bool:=decide (op < 1)||(decide (16 < op)||((decide (1<=op/\op<=16/\op≠12/\op≠16) && decide (8<=a))||((decide ((2<=op/\op<=10)\/op=13\/op=14) && decide (8<=b))||((decide (2<=op/\op<=7) && decide (8<=c))||(decide ((op=9\/op=10)/\c≠1/\c≠2/\c≠4/\c≠8)||decide (op=16/\(imm < 1\/6 < imm)))))))
theorem a6m (op a b c imm:Int):b0L op a b c imm=true ↔ a8S op a b c imm:=by
 unfold b0L a8S b0o b0R a9X;simp only [Bool.or_eq_true,xb6,xj0]
noncomputable def b1w:List Value->Option Value
 |[.agg ⟨[.int .i64 op,.int .i64 a,.int .i64 b,.int .i64 c,.int .i64 imm]⟩]=>some (.bool (b0L op a b c imm))
 |_=>none
noncomputable def b0P:List (Nat×(List Value->Option Value)):=[(116,b0f),(127,b1w)]
theorem a8Y:∀ g f,d4 b0P g=some f->∀ vs v,f vs=some v->(∀ ρ,LR ρ vs vs)/\(∀ ρ,VR ρ v v)/\∀ w,Fn Tryz.prog g vs w (RBf v w):=by
 intro g f h vs v hv;have hm:=a0A h;unfold b0P at hm;rcases xb3.1 hm with hm|hm
 ·cases hm
  exact a9P _ _ rfl vs v hv
 ·rw [xh5] at hm
  cases hm
  unfold b1w at hv
  split at hv
  ·rename_i op a b c imm
   cases hv
   exact ⟨fun ρ=>LR.cons (VR.mkAgg (LR.cOks rfl)) LR.nil,fun ρ=>VR.cOk rfl,fun w=>Fn.of_rb ⟨Tryz.func127,by kernel_rfl,by kernel_rfl⟩ (a8o op a b c imm w _ (a6m op a b c imm))⟩
  ·cases hv
set_option maxRecDepth 100000
set_option maxHeartbeats 4000000
noncomputable def a67:BT (Func×List (Nat×Pl)):=.node 23 (Tryz.f23,[]) (.node 9 (Tryz.f9,[(2,.take 0 (.one 1 [] (.one 2 [0] (.take 3 (.take 4 (.take 5 (.one 6 [] (.take 7 .nil)))))))),(3,.take 0 (.take 1 (.take 2 (.take 3 (.take 4 (.take 5 (.take 6 (.take 7 (.take 8 (.take 9 (.take 10 (.take 11 (.take 12 (.take 13 (.take 14 (.take 15 (.take 16 (.take 17 (.take 18 (.take 19 (.take 20 (.take 21 (.take 22 (.take 23 (.take 24 (.take 25 (.take 26 (.take 27 (.take 28 (.take 29 (.take 30 (.take 31 (.take 32 (.take 33 (.take 34 (.take 35 (.take 36 (.take 37 (.take 38 (.take 39 (.take 40 (.take 41 (.take 42 (.take 43 (.take 44 (.take 45 (.take 46 (.take 47 (.take 48 .nil)))))))))))))))))))))))))))))))))))))))))))))))))]) (.node 7 (Tryz.f7,[]) .nil .nil) (.node 22 (Tryz.f22,[(8,.take 0 (.take 1 (.take 2 (.take 3 (.take 4 (.take 5 (.take 6 (.take 7 (.take 8 (.take 9 (.take 10 (.take 11 (.take 12 (.take 13 (.take 14 (.one 15 [1,5,9,13] (.take 16 .nil)))))))))))))))))]) .nil .nil)) (.node 26 (Tryz.f26,[(15,.take 0 (.take 1 (.take 3 (.take 4 (.grp 4096 (.alt 2 [1] (.alt 5 [4] (.take 6 (.alt 7 [] (.take 8 .nil) .stop)) .stop) (.alt 5 [4] (.alt 2 [1] (.take 6 (.alt 7 [] (.take 8 .nil) .stop)) .stop) .stop)))))))]) (.node 24 (Tryz.f24,[]) .nil .nil) .nil)
noncomputable def a6o:BT (Func×List (Nat×Pl)):=.node 62 (Tryz.f62,[(7,.take 0 (.one 1 [0] (.take 2 (.take 3 (.take 4 (.take 5 (.take 6 (.take 7 (.take 8 (.take 9 (.take 10 (.one 11 [8,10] (.take 12 (.take 13 .nil))))))))))))))]) (.node 34 (Tryz.f34,[(8,.take 0 (.take 1 (.take 2 (.take 3 (.take 4 (.take 5 (.take 6 (.grp 16777216 (.alt 7 [3,6] (.take 8 (.take 9 (.take 10 (.alt 11 [] (.take 12 (.alt 13 [] .nil .stop)) .stop)))) (.alt 11 [] (.alt 7 [3,6] (.take 8 (.take 9 (.take 10 (.take 12 (.alt 13 [] .nil .stop))))) .stop) .stop)))))))))),(15,.take 0 (.take 1 (.take 2 (.take 3 (.take 4 (.take 5 (.take 6 (.take 7 (.take 8 (.take 9 (.take 10 (.take 11 (.take 12 (.one 13 [3,8] (.take 14 (.take 15 (.one 16 [10] .nil))))))))))))))))),(18,.take 0 (.take 1 (.take 2 (.take 3 (.take 4 (.take 5 (.take 6 (.take 7 (.one 8 [5] (.take 9 (.take 10 (.take 11 (.take 12 (.one 13 [3] .nil)))))))))))))),(21,.take 0 (.take 1 (.take 2 (.take 3 (.take 4 (.take 5 (.one 6 [5] (.one 7 [4] (.take 8 (.take 9 (.one 10 [] .nil)))))))))))]) (.node 28 (Tryz.f28,[]) .nil .nil) (.node 49 (Tryz.f49,[]) .nil .nil)) (.node 64 (Tryz.f64,[(5,.take 0 (.take 1 (.take 2 (.take 3 (.take 4 (.take 5 (.one 6 [5] (.one 7 [] (.one 8 [4] (.take 9 (.take 10 (.one 11 [] .nil)))))))))))),(7,.take 0 (.take 1 (.take 3 (.take 4 (.take 6 (.take 7 (.grp 4096 (.alt 2 [] (.alt 5 [4] (.alt 8 [7] (.take 9 (.take 11 (.alt 10 [] (.take 12 .nil) .stop))) .stop) .stop) (.alt 5 [4] (.alt 2 [] (.alt 8 [7] (.take 9 (.take 11 (.alt 10 [] (.take 12 .nil) .stop))) .stop) (.alt 8 [7] (.take 11 (.alt 2 [] (.take 9 (.alt 10 [] (.take 12 .nil) .stop)) .stop)) .stop)) .stop)))))))))]) (.node 63 (Tryz.f63,[]) .nil .nil) .nil)
noncomputable def a7Q:BT (Func×List (Nat×Pl)):=.node 69 (Tryz.f69,[(1,.take 0 (.take 1 (.take 3 (.take 4 (.take 7 (.take 8 (.take 11 (.take 12 (.take 15 (.take 16 (.one 2 [1] (.one 5 [4] (.take 6 (.one 9 [8] (.take 10 (.one 13 [12] (.take 14 (.one 17 [16] (.take 18 (.take 19 .nil))))))))))))))))))))]) (.node 67 (Tryz.f67,[]) (.node 66 (Tryz.f66,[]) .nil .nil) (.node 68 (Tryz.f68,[]) .nil .nil)) (.node 73 (Tryz.f73,[]) (.node 70 (Tryz.f70,[(11,.take 0 (.take 1 (.take 2 (.take 3 (.take 4 (.take 5 (.take 6 (.one 7 [3,5,6] .nil)))))))),(18,.take 0 (.take 1 (.take 2 (.take 3 (.take 4 (.take 5 (.take 6 (.take 7 (.take 8 (.take 9 (.take 10 (.one 11 [] (.one 12 [3,6,8] .nil)))))))))))))]) .nil .nil) .nil)
noncomputable def a7Y:BT (Func×List (Nat×Pl)):=.node 106 (Tryz.f106,[(3,.take 0 (.take 1 (.one 2 [1] (.take 3 (.take 4 (.take 5 (.take 6 (.take 7 (.take 8 (.take 9 (.one 10 [9] (.take 11 (.take 12 .nil))))))))))))),(9,.take 0 (.take 1 (.take 2 (.take 3 (.take 4 (.take 5 (.take 6 (.take 7 (.take 8 (.take 9 (.take 10 (.take 11 (.take 12 (.take 13 (.take 14 (.take 15 (.take 16 (.take 17 (.take 18 (.take 19 (.take 20 (.take 21 (.take 22 (.take 23 .nil))))))))))))))))))))))))]) (.node 76 (Tryz.f76,[(3,.take 0 (.take 1 (.take 2 (.take 3 (.take 4 (.take 5 (.take 6 (.take 7 (.take 8 (.take 9 (.one 10 [3,7] .nil))))))))))),(5,.take 0 (.take 1 (.take 2 (.take 3 (.take 4 (.take 5 (.take 6 (.take 7 (.take 8 (.grp 4096 (.alt 9 [3,6,8] (.take 10 (.take 11 (.take 12 (.alt 13 [] (.take 14 (.alt 15 [] .nil .stop)) .stop)))) (.alt 13 [] (.alt 9 [3,6,8] (.take 10 (.take 11 (.take 12 (.take 14 (.alt 15 [] .nil .stop))))) .stop) .stop)))))))))))),(7,.take 0 (.take 1 (.take 2 (.one 3 [1] .nil)))),(10,.take 0 (.take 1 (.take 2 (.take 3 (.take 4 (.take 5 (.take 6 (.take 7 (.one 8 [3,6] (.take 9 (.one 10 [] .nil)))))))))))]) (.node 75 (Tryz.f75,[(15,.take 0 (.take 1 (.take 2 (.take 3 (.take 4 (.take 5 (.take 6 (.take 7 (.take 8 (.take 9 (.take 10 (.one 11 [1,4,6] (.take 12 (.one 13 [9] .nil)))))))))))))),(16,.take 0 (.take 1 (.take 2 (.one 3 [] (.take 4 (.one 5 [1] .nil))))))]) .nil .nil) (.node 77 (Tryz.f77,[]) .nil .nil)) (.node 108 (Tryz.f108,[]) (.node 107 (Tryz.f107,[]) .nil .nil) .nil)
noncomputable def a7h:BT (Func×List (Nat×Pl)):=.node 113 (Tryz.f113,[]) (.node 111 (Tryz.f111,[(1,.take 0 (.take 1 (.take 2 (.take 3 (.take 5 (.take 6 (.one 4 [3] (.one 7 [6] (.take 8 (.one 9 [1] .nil))))))))))]) (.node 110 (Tryz.f110,[]) .nil .nil) (.node 112 (Tryz.f112,[(6,.take 0 (.take 1 (.take 2 (.take 3 (.take 4 (.take 5 (.one 6 [1,3,5] (.take 7 (.take 8 (.take 9 (.take 10 (.take 11 (.take 12 (.take 13 (.take 14 (.take 15 (.take 16 (.take 17 (.take 18 (.one 19 [18] (.take 20 (.take 21 (.take 22 (.take 23 (.take 24 (.take 25 (.take 26 (.take 27 (.one 28 [26,27] (.take 29 (.take 30 (.take 31 .nil))))))))))))))))))))))))))))))))]) .nil .nil)) (.node 115 (Tryz.f115,[]) (.node 114 (Tryz.f114,[]) .nil .nil) .nil)
noncomputable def a65:BT (Func×List (Nat×Pl)):=.node 126 (Tryz.f126,[(4,.take 0 (.take 1 (.take 2 (.take 3 (.take 4 (.take 5 (.take 6 (.take 7 (.take 8 (.take 9 (.take 10 (.take 11 (.take 12 (.take 13 (.take 14 (.take 15 (.one 16 [] (.take 17 .nil))))))))))))))))))]) (.node 119 (Tryz.f119,[]) (.node 118 (Tryz.f118,[]) .nil .nil) (.node 120 (Tryz.f120,[(18,.take 0 (.take 1 (.take 2 (.take 3 (.grp 4096 (.alt 4 [3] (.take 5 (.alt 6 [] (.alt 7 [2] .nil .stop) .stop)) (.alt 6 [] (.alt 4 [3] (.take 5 (.alt 7 [2] .nil .stop)) .stop) .stop))))))),(20,.take 0 (.take 1 (.take 2 (.take 3 (.take 4 (.take 5 (.take 6 (.take 7 (.take 8 (.take 9 (.take 10 (.take 11 (.take 12 (.take 13 (.take 14 (.take 15 (.take 16 (.take 17 (.take 18 (.take 19 (.take 20 (.take 21 (.take 22 (.take 23 (.take 24 (.take 25 (.take 26 (.take 27 (.take 28 (.take 29 (.take 30 (.take 31 (.take 32 (.take 33 (.take 34 (.take 35 (.take 36 (.take 37 (.take 38 .nil))))))))))))))))))))))))))))))))))))))),(21,.take 0 (.take 1 (.take 2 (.take 3 (.take 4 (.take 5 (.take 6 (.take 7 (.take 8 (.take 9 (.take 10 (.take 11 (.take 12 (.take 13 (.one 14 [3,8,10] .nil))))))))))))))),(22,.take 0 (.take 1 (.take 2 (.take 3 (.take 4 (.take 5 (.one 6 [5] (.one 7 [4] (.take 8 (.take 9 (.one 10 [] .nil))))))))))),(26,.take 0 (.take 1 (.take 2 (.take 3 (.take 4 (.take 5 (.take 6 (.take 7 (.take 8 (.one 9 [] (.take 10 (.take 11 (.one 12 [11] (.one 13 [4] (.take 14 (.take 15 (.one 16 [] .nil)))))))))))))))))]) .nil .nil)) (.node 129 (Tryz.f129,[]) (.node 128 (Tryz.f128,[]) .nil .nil) .nil)
noncomputable def a7T:BT (Func×List (Nat×Pl)):=.node 143 (Tryz.f143,[]) (.node 132 (Tryz.f132,[(5,.take 0 (.take 1 (.take 2 (.take 3 (.take 4 (.take 5 (.take 6 (.take 7 (.take 8 .nil))))))))),(9,.take 0 (.take 1 (.take 2 (.take 3 (.take 4 (.take 5 (.take 6 (.take 7 (.take 8 (.take 9 (.take 10 (.take 11 .nil)))))))))))),(11,.take 0 (.take 1 (.take 2 (.take 3 (.take 4 (.take 5 (.take 6 (.take 7 (.take 8 (.take 9 (.take 10 (.take 11 (.take 12 (.take 13 (.take 14 (.take 15 (.take 16 .nil))))))))))))))))),(13,.take 0 (.take 1 (.take 2 (.take 3 (.take 4 (.take 5 (.take 6 (.take 7 (.take 8 (.take 9 (.take 10 (.take 11 (.take 12 (.take 13 (.take 14 (.take 15 (.take 16 .nil))))))))))))))))),(15,.take 0 (.take 1 (.take 2 (.take 3 (.take 4 (.take 5 (.take 6 (.take 7 (.take 8 (.take 9 (.take 10 (.take 11 (.take 12 (.take 13 (.take 14 (.take 15 (.take 16 .nil))))))))))))))))),(17,.take 0 (.take 1 (.take 2 (.take 3 (.take 4 (.take 5 (.take 6 (.take 7 (.take 8 (.take 9 (.take 10 (.take 11 (.take 12 (.take 13 (.take 14 (.take 15 (.take 16 .nil))))))))))))))))),(19,.take 0 (.take 1 (.take 2 (.take 3 (.take 4 (.take 5 (.take 6 (.take 7 (.take 8 (.take 9 (.take 10 (.take 11 (.take 12 (.take 13 (.take 14 (.take 15 (.take 16 .nil))))))))))))))))),(21,.take 0 (.take 1 (.take 2 (.take 3 (.take 4 (.take 5 (.take 6 (.take 7 (.take 8 (.take 9 (.take 10 (.take 11 (.take 12 (.take 13 (.take 14 (.take 15 (.take 16 (.take 17 (.take 18 (.take 19 (.take 20 .nil)))))))))))))))))))))]) (.node 131 (Tryz.f131,[(1,.take 0 (.take 1 (.take 2 (.take 3 (.take 4 (.take 5 (.take 6 (.take 7 .nil)))))))),(3,.take 0 (.take 1 (.take 2 (.take 3 (.take 4 (.take 5 (.take 6 (.take 7 (.take 8 (.take 9 (.take 10 (.take 11 (.take 12 (.take 13 (.take 14 (.take 15 (.take 16 (.take 17 (.take 18 (.take 19 (.take 20 .nil))))))))))))))))))))),(4,.take 0 (.take 1 (.take 2 (.take 3 (.take 4 (.take 5 (.take 6 (.take 7 (.take 8 (.take 9 (.take 10 (.take 11 (.take 12 (.take 13 (.take 14 (.take 15 (.take 16 (.take 17 (.take 18 (.take 19 (.take 20 .nil))))))))))))))))))))),(7,.take 0 (.take 1 (.take 2 (.take 3 (.take 4 (.take 5 (.take 6 (.take 7 .nil))))))))]) .nil .nil) (.node 142 (Tryz.f142,[]) .nil .nil)) (.node 145 (Tryz.f145,[(1,.take 0 (.take 2 (.take 3 (.one 1 [0] (.take 4 (.take 5 (.take 6 (.take 7 (.take 8 (.take 9 (.take 10 (.take 11 (.take 12 (.take 13 (.take 14 (.take 15 (.take 16 (.take 17 (.take 18 (.take 19 .nil))))))))))))))))))))]) (.node 144 (Tryz.f144,[]) .nil .nil) .nil)
noncomputable def a6p:BT (Func×List (Nat×Pl)):=.node 151 (Tryz.f151,[]) (.node 149 (Tryz.f149,[]) (.node 147 (Tryz.f147,[]) .nil .nil) (.node 150 (Tryz.f150,[]) .nil .nil)) (.node 153 (Tryz.f153,[(4,.take 0 (.take 1 (.take 2 (.take 3 (.take 4 (.take 5 (.take 6 (.take 7 (.take 8 (.take 9 (.take 10 (.take 11 (.take 12 (.take 13 (.take 14 (.take 15 (.take 16 (.take 17 (.take 18 (.take 19 (.take 20 (.take 21 .nil))))))))))))))))))))))]) (.node 152 (Tryz.f152,[]) .nil .nil) .nil)
noncomputable def a6q:BT (Func×List (Nat×Pl)):=.node 158 (Tryz.f158,[(4,.take 0 (.take 1 (.take 2 (.take 3 (.take 4 (.take 5 (.take 6 (.take 7 (.take 8 (.take 9 (.one 10 [] (.one 11 [4] (.take 12 (.take 13 (.one 14 [] .nil))))))))))))))),(5,.take 0 (.take 1 (.take 2 (.take 3 (.take 4 (.take 5 (.take 6 (.take 7 .nil))))))))]) (.node 156 (Tryz.f156,[]) (.node 155 (Tryz.f155,[(1,.take 0 (.take 1 (.take 2 (.take 3 (.take 4 (.take 5 (.one 6 [3,5] (.take 7 (.take 8 (.take 9 (.take 10 (.take 11 .nil)))))))))))),(5,.take 0 (.take 1 (.take 2 (.take 3 (.take 4 (.take 5 (.take 6 (.take 7 (.take 8 (.take 9 (.take 10 (.one 11 [3,5,9] .nil)))))))))))),(6,.take 0 (.take 1 (.take 2 (.take 3 (.take 4 (.take 5 (.take 6 (.take 7 (.take 8 (.take 9 (.take 10 (.take 11 (.one 12 [] (.one 13 [4] (.take 14 (.take 15 (.one 16 [5,9] .nil))))))))))))))))),(7,.take 0 (.take 1 (.take 2 (.take 3 (.take 4 (.take 5 (.take 6 (.take 7 (.take 8 (.take 9 (.take 10 (.take 11 (.one 12 [3,5,7] .nil)))))))))))))]) .nil .nil) (.node 157 (Tryz.f157,[]) .nil .nil)) (.node 168 (Tryz.f168,[]) (.node 159 (Tryz.f159,[]) .nil .nil) .nil)
noncomputable def a7d:BT (Func×List (Nat×Pl)):=.node 180 (Tryz.f180,[]) (.node 175 (Tryz.f175,[]) (.node 170 (Tryz.f170,[]) .nil .nil) (.node 176 (Tryz.f176,[]) .nil .nil)) (.node 197 (Tryz.f197,[]) (.node 181 (Tryz.f181,[]) .nil .nil) .nil)
noncomputable def a4A:BT (Func×List (Nat×Pl)):=.node 202 (Tryz.f202,[(8,.take 0 (.take 1 (.take 2 (.take 3 (.take 4 (.take 5 (.take 6 (.take 7 (.take 8 (.take 9 (.take 10 (.take 11 (.take 12 (.take 13 (.one 14 [4] (.take 15 (.take 16 (.take 17 (.take 18 (.take 19 (.one 20 [] .nil)))))))))))))))))))))]) (.node 200 (Tryz.f200,[(4,.take 0 (.take 2 (.take 4 (.take 5 (.take 6 (.take 7 (.one 1 [] (.take 3 (.take 8 .nil))))))))),(11,.take 0 (.take 1 (.take 2 (.take 3 (.take 4 (.take 5 (.one 6 [] (.one 7 [] (.take 8 (.one 9 [] (.one 10 [4] (.take 11 (.take 12 (.one 13 [] .nil))))))))))))))]) (.node 199 (Tryz.f199,[(3,.take 0 (.take 1 (.one 2 [0] .nil)))]) .nil .nil) (.node 201 (Tryz.f201,[]) .nil .nil)) (.node 204 (Tryz.f204,[]) (.node 203 (Tryz.f203,[(1,.take 0 (.take 1 (.take 2 (.take 3 (.take 4 (.take 5 (.take 6 (.take 7 (.take 8 (.take 9 (.one 10 [7,8,9] (.take 11 (.take 12 (.take 13 (.take 14 (.take 15 .nil))))))))))))))))]) .nil .nil) .nil)
noncomputable def a4y:BT (Func×List (Nat×Pl)):=.node 209 (Tryz.f209,[]) (.node 207 (Tryz.f207,[]) (.node 206 (Tryz.f206,[]) .nil .nil) (.node 208 (Tryz.f208,[]) .nil .nil)) (.node 211 (Tryz.f211,[]) (.node 210 (Tryz.f210,[]) .nil .nil) .nil)
noncomputable def a47:BT (Func×List (Nat×Pl)):=.node 216 (Tryz.f216,[]) (.node 214 (Tryz.f214,[]) (.node 213 (Tryz.f213,[]) .nil .nil) (.node 215 (Tryz.f215,[(17,.take 0 (.take 1 (.take 2 (.take 3 (.take 4 (.take 5 (.take 6 (.take 7 (.take 8 (.take 9 (.take 10 (.take 11 (.take 12 (.one 13 [8,12] (.take 14 (.take 15 (.take 16 .nil)))))))))))))))))]) .nil .nil)) (.node 218 (Tryz.f218,[]) (.node 217 (Tryz.f217,[]) .nil .nil) .nil)
noncomputable def a4v:BT (Func×List (Nat×Pl)):=.node 223 (Tryz.f223,[(4,.take 0 (.take 1 (.take 2 (.take 3 (.take 4 (.take 5 (.take 6 (.take 7 (.take 8 (.take 9 (.take 10 (.take 11 (.take 12 (.take 13 (.one 14 [8,13] (.take 15 (.take 16 .nil))))))))))))))))),(6,.take 0 (.take 1 (.take 2 (.take 3 (.take 4 (.take 5 (.take 6 (.take 7 (.take 8 (.take 9 (.take 10 (.take 11 (.take 12 (.take 13 (.take 14 (.one 15 [9,13] (.take 16 (.one 17 [] .nil))))))))))))))))))]) (.node 221 (Tryz.f221,[(6,.take 0 (.take 1 (.take 2 (.take 3 (.take 4 (.take 5 (.take 6 (.take 7 (.take 8 (.one 9 [7,8] (.take 10 .nil))))))))))),(7,.take 0 (.take 1 (.take 2 (.take 3 (.take 4 (.take 5 (.take 6 (.take 7 (.take 8 (.take 9 (.take 10 (.one 11 [5,7] .nil))))))))))))]) (.node 220 (Tryz.f220,[(7,.take 0 (.take 2 (.take 4 (.take 5 (.one 1 [0] (.take 3 (.take 6 (.take 7 (.one 8 [5] .nil))))))))),(12,.take 0 (.take 2 (.take 3 (.one 1 [0] (.take 4 (.take 5 (.one 6 [3] .nil)))))))]) .nil .nil) (.node 222 (Tryz.f222,[]) .nil .nil)) (.node 225 (Tryz.f225,[(10,.take 0 (.take 1 (.take 2 (.take 3 (.take 4 (.take 5 (.take 6 (.take 7 (.take 8 (.take 9 (.take 10 (.take 11 (.take 12 (.take 13 (.take 14 (.take 15 (.take 16 (.one 17 [11,15] (.take 18 (.one 19 [] .nil))))))))))))))))))))]) (.node 224 (Tryz.f224,[(10,.take 0 (.take 1 (.take 2 (.take 3 (.take 4 (.take 5 (.take 6 (.take 7 (.take 8 (.take 9 (.take 10 (.take 11 (.take 12 (.take 13 (.take 14 (.take 15 (.take 16 (.one 17 [11,15] (.take 18 (.one 19 [] .nil))))))))))))))))))))]) .nil .nil) .nil)
noncomputable def a4D:BT (Func×List (Nat×Pl)):=.node 230 (Tryz.f230,[(1,.take 0 (.take 1 (.take 2 (.take 3 (.take 4 (.take 5 (.take 6 (.take 7 (.take 8 (.take 9 (.take 10 (.take 11 (.take 12 (.one 13 [7,11] (.take 14 (.one 15 [] .nil)))))))))))))))),(3,.take 0 (.take 1 (.take 2 (.take 3 (.take 4 (.take 5 (.take 6 (.take 7 (.take 8 (.take 9 (.take 10 (.take 11 (.take 12 (.one 13 [8,12] (.take 14 (.take 15 .nil)))))))))))))))),(5,.take 0 (.take 1 (.take 2 (.take 3 (.take 4 (.take 5 (.take 6 (.take 7 (.take 8 (.take 9 (.take 10 (.take 11 (.take 12 (.one 13 [8,12] (.take 14 (.take 15 (.take 16 .nil))))))))))))))))),(8,.take 0 (.take 1 (.take 2 (.take 3 (.take 4 (.take 5 (.take 6 (.take 7 (.take 8 (.take 9 (.take 10 (.take 11 (.take 12 (.one 13 [7,11] (.take 14 (.one 15 [] .nil)))))))))))))))),(10,.take 0 (.take 1 (.take 2 (.take 3 (.take 4 (.take 5 (.take 6 (.take 7 (.take 8 (.take 9 (.take 10 (.take 11 (.take 12 (.one 13 [7,11] (.take 14 (.one 15 [] .nil)))))))))))))))),(13,.take 0 (.take 1 (.take 2 (.take 3 (.take 4 (.take 5 (.take 6 (.take 7 (.take 8 (.take 9 (.take 10 (.take 11 (.take 12 (.one 13 [8,12] (.take 14 (.take 15 .nil)))))))))))))))),(15,.take 0 (.take 1 (.take 2 (.take 3 (.take 4 (.take 5 (.take 6 (.take 7 (.take 8 (.take 9 (.take 10 (.take 11 (.take 12 (.one 13 [8,12] (.take 14 (.take 15 (.take 16 .nil))))))))))))))))),(18,.take 0 (.take 1 (.take 2 (.take 3 (.take 4 (.take 5 (.take 6 (.take 7 (.take 8 (.take 9 (.take 10 (.take 11 (.take 12 (.one 13 [7,11] (.take 14 (.one 15 [] .nil)))))))))))))))),(21,.take 0 (.take 1 (.take 2 (.take 3 (.take 4 (.take 5 (.take 6 (.take 7 (.take 8 (.take 9 (.take 10 (.take 11 (.take 12 (.one 13 [7,11] (.take 14 (.one 15 [] .nil))))))))))))))))]) (.node 228 (Tryz.f228,[(5,.take 0 (.take 1 (.take 2 (.take 3 (.take 4 (.take 5 (.take 6 (.take 7 (.take 8 (.take 9 (.take 10 (.take 11 (.take 12 (.take 13 (.one 14 [8,13] (.take 15 (.take 16 (.take 17 .nil)))))))))))))))))),(11,.take 0 (.take 1 (.take 2 (.take 3 (.take 4 (.take 5 (.take 6 (.take 7 (.take 8 (.take 9 (.take 10 (.take 11 (.take 12 (.take 13 (.take 14 (.one 15 [9,13] (.take 16 (.one 17 [] .nil)))))))))))))))))),(16,.take 0 (.take 1 (.take 2 (.take 3 (.take 4 (.take 5 (.take 6 (.take 7 (.take 8 (.take 9 (.one 10 [4,9] (.take 11 (.take 12 .nil))))))))))))),(17,.take 0 (.take 1 (.take 2 (.take 3 (.take 4 (.take 5 (.take 6 (.take 7 (.take 8 (.take 9 (.take 10 (.take 11 (.take 12 (.take 13 (.take 14 (.one 15 [9,13] (.take 16 (.one 17 [] .nil)))))))))))))))))),(22,.take 0 (.take 1 (.take 2 (.take 3 (.take 4 (.take 5 (.take 6 (.take 7 (.take 8 (.take 9 (.one 10 [4,9] (.take 11 (.take 12 .nil))))))))))))),(23,.take 0 (.take 1 (.take 2 (.take 3 (.take 4 (.take 5 (.take 6 (.take 7 (.take 8 (.take 9 (.take 10 (.take 11 (.take 12 (.take 13 (.take 14 (.one 15 [9,13] (.take 16 (.one 17 [] .nil))))))))))))))))))]) (.node 227 (Tryz.f227,[(3,.take 0 (.take 1 (.take 2 (.take 3 (.take 4 (.take 5 (.take 6 (.take 7 (.take 8 (.take 9 (.take 10 (.take 11 (.take 12 (.one 13 [7,11] (.take 14 (.one 15 [] .nil))))))))))))))))]) .nil .nil) (.node 229 (Tryz.f229,[(1,.take 0 (.take 1 (.take 2 (.take 3 (.take 4 (.take 5 (.take 6 (.take 7 (.take 8 (.take 9 (.take 10 (.take 11 (.take 12 (.one 13 [7,11] (.take 14 (.one 15 [] .nil)))))))))))))))),(3,.take 0 (.take 1 (.take 2 (.take 3 (.take 4 (.take 5 (.take 6 (.take 7 (.take 8 (.take 9 (.take 10 (.take 11 (.take 12 (.one 13 [8,12] (.take 14 (.take 15 (.take 16 .nil))))))))))))))))),(5,.take 0 (.take 1 (.take 2 (.take 3 (.take 4 (.take 5 (.take 6 (.take 7 (.take 8 (.take 9 (.take 10 (.take 11 (.take 12 (.one 13 [8,12] (.take 14 (.take 15 .nil)))))))))))))))),(8,.take 0 (.take 1 (.take 2 (.take 3 (.take 4 (.take 5 (.take 6 (.take 7 (.take 8 (.take 9 (.take 10 (.take 11 (.take 12 (.one 13 [7,11] (.take 14 (.one 15 [] .nil))))))))))))))))]) .nil .nil)) (.node 232 (Tryz.f232,[]) (.node 231 (Tryz.f231,[]) .nil .nil) .nil)
noncomputable def a4s:BT (Func×List (Nat×Pl)):=.node 237 (Tryz.f237,[]) (.node 235 (Tryz.f235,[]) (.node 234 (Tryz.f234,[(3,.take 0 (.take 1 (.take 2 (.take 3 (.take 4 (.take 5 (.take 6 (.take 7 (.take 8 (.take 9 (.take 10 (.take 11 (.take 12 (.take 13 (.take 14 (.take 15 (.take 16 (.take 17 (.take 18 (.one 19 [11,18] (.take 20 (.take 21 .nil)))))))))))))))))))))),(5,.take 0 (.take 1 (.take 2 (.take 3 (.take 4 (.take 5 (.take 6 (.take 7 (.take 8 (.take 9 (.take 10 (.take 11 (.take 12 (.one 13 [6,12] (.take 14 (.take 15 .nil)))))))))))))))),(6,.take 0 (.take 1 (.take 2 (.take 3 (.take 4 (.take 5 (.take 6 (.take 7 (.take 8 (.take 9 (.take 10 (.take 11 (.take 12 (.take 13 (.take 14 (.take 15 (.take 16 (.take 17 (.take 18 (.take 19 (.take 20 (.one 21 [13,19] (.take 22 (.one 23 [] .nil))))))))))))))))))))))))]) .nil .nil) (.node 236 (Tryz.f236,[(1,.take 0 (.take 1 (.take 2 (.take 3 (.take 4 (.take 5 (.take 6 (.take 7 (.take 8 (.one 9 [2,5] .nil)))))))))),(2,.take 0 (.take 1 (.take 2 (.take 3 (.take 4 (.take 5 (.take 6 (.take 7 (.take 8 (.one 9 [2,5] .nil)))))))))),(3,.take 0 (.take 1 (.take 2 (.take 3 (.take 4 (.take 5 (.take 6 (.take 7 (.take 8 (.one 9 [2,5] .nil))))))))))]) .nil .nil)) (.node 239 (Tryz.f239,[(1,.take 0 (.take 1 (.take 2 (.take 3 (.take 4 (.take 5 (.take 6 (.take 7 (.take 8 (.one 9 [4,8] (.take 10 .nil)))))))))))]) (.node 238 (Tryz.f238,[]) .nil .nil) .nil)
noncomputable def b0p:BT (Func×List (Nat×Pl)):=.node 154 (Tryz.f154,[(11,.take 0 (.take 1 (.take 2 (.take 3 (.take 4 (.take 5 (.take 6 (.take 7 (.take 8 (.take 9 (.take 10 (.take 11 (.take 12 (.take 13 (.take 14 (.take 15 (.take 16 (.take 17 (.take 18 (.take 19 (.take 20 (.take 21 (.take 22 (.take 23 (.take 24 .nil)))))))))))))))))))))))))]) (.node 109 (Tryz.f109,[]) (.node 65 (Tryz.f65,[(4,.take 0 (.take 1 (.take 2 (.take 3 (.take 4 (.one 5 [4] (.take 6 .nil)))))))]) (.node 27 (Tryz.f27,[]) a67 a6o) (.node 74 (Tryz.f74,[]) a7Q a7Y)) (.node 130 (Tryz.f130,[(4,.take 0 (.take 1 (.take 2 (.take 3 (.take 4 (.take 5 (.take 6 (.take 7 (.take 8 (.one 9 [] (.one 10 [4] (.take 11 (.take 12 (.one 13 [7] .nil)))))))))))))),(6,.take 0 (.take 1 (.take 2 (.take 3 (.take 4 (.take 5 (.take 6 (.take 7 (.take 8 (.take 9 (.take 10 (.one 11 [3,6,8,10] (.take 12 .nil))))))))))))),(8,.take 0 (.take 1 (.take 2 (.take 3 (.take 4 (.take 5 (.take 6 (.take 7 (.take 8 (.one 9 [3,6,8] (.take 10 .nil))))))))))),(10,.take 0 (.take 1 (.take 2 (.take 3 (.take 4 (.take 5 (.take 6 (.take 7 (.take 8 (.take 9 (.take 10 (.one 11 [3,6,8,10] (.take 12 .nil)))))))))))))]) (.node 117 (Tryz.f117,[]) a7h a65) (.node 146 (Tryz.f146,[]) a7T a6p))) (.node 212 (Tryz.f212,[]) (.node 198 (Tryz.f198,[(1,.take 0 (.take 1 (.take 2 (.take 3 (.take 4 (.take 5 (.take 6 (.take 7 (.take 9 (.take 10 (.take 11 (.take 12 (.take 13 (.take 14 (.take 15 (.take 16 (.take 17 (.take 19 (.take 20 (.take 21 (.take 22 (.one 8 [] (.take 18 (.take 23 (.take 24 .nil))))))))))))))))))))))))),(3,.take 0 (.take 1 (.take 2 (.take 3 (.take 4 (.take 5 (.take 6 (.take 7 (.take 8 (.take 9 (.take 10 (.take 11 (.one 12 [11] (.one 13 [] (.one 14 [4] (.take 15 (.take 16 (.one 17 [8] .nil))))))))))))))))))]) (.node 169 (Tryz.f169,[]) a6q a7d) (.node 205 (Tryz.f205,[]) a4A a4y)) (.node 226 (Tryz.f226,[]) (.node 219 (Tryz.f219,[]) a47 a4v) (.node 233 (Tryz.f233,[]) a4D a4s)))
noncomputable def b0j:TT:=.node 151 (.st 5 [(0,1,false),(1,1,false),(2,1,false),(3,1,false),(4,1,false)] [.int .i64 0,.int .i64 0,.string ⟨#[]⟩,.bool false,.bool false]) (.node 69 (.st 3 [(0,1,false),(1,1,false),(2,1,false)] [.slice none 0 0,.slice none 0 0,.int .i64 0]) (.node 26 (.st 4 [(0,1,false),(1,1,false),(2,1,false),(3,1,false)] [.int .i64 0,.slice none 0 0,.slice none 0 0,.slice none 0 0]) (.node 21 (.sc (.int .i32) 1 (.int .i32 0)) (.node 5 (.sc (.int .u8) 1 (.int .u8 0)) (.node 4 (.sc .bool 1 (.bool false)) (.node 3 (.sc (.int .i64) 1 (.int .i64 0)) .nil .nil) .nil) (.node 9 (.sc .string 1 (.string ⟨#[]⟩)) .nil .nil)) (.node 23 (.sl 78 13 104 true [.int .i64 0,.int .i64 0,.int .i64 0,.int .i64 0,.int .i64 0,.int .i64 0,.int .i64 0,.int .i64 0,.int .i64 0,.int .i64 0,.int .i64 0,.int .i64 0,.int .i64 0]) (.node 22 (.sl 60 3 56 true [.bool false,.slice none 0 0,.slice none 0 0]) .nil .nil) (.node 24 (.sl 73 2 16 true [.int .i64 0,.int .i64 0]) .nil .nil))) (.node 58 (.sl 83 2 24 true [.int .i64 0,.string ⟨#[]⟩]) (.node 34 (.sl 143 3 48 true [.int .i64 0,.string ⟨#[]⟩,.slice none 0 0]) (.node 28 (.sc (.int .i64) 1 (.int .i64 0)) (.node 27 (.sl 3 1 8 false [.int .i64 0]) .nil .nil) .nil) (.node 57 (.sl 119 4 32 true [.int .i64 0,.int .i64 0,.int .i64 0,.bool false]) .nil .nil)) (.node 63 (.sc (.pointer 138) 1 (.pointer none)) (.node 60 (.st 3 [(0,1,false),(1,1,false),(2,1,false)] [.bool false,.slice none 0 0,.slice none 0 0]) .nil .nil) (.node 65 (.sc (.func #[63] #[28] false) 1 (.nilFunc)) .nil .nil)))) (.node 119 (.st 4 [(0,1,false),(1,1,false),(2,1,false),(3,1,false)] [.int .i64 0,.int .i64 0,.int .i64 0,.bool false]) (.node 83 (.st 2 [(0,1,false),(1,1,false)] [.int .i64 0,.string ⟨#[]⟩]) (.node 76 (.st 2 [(0,1,false),(1,1,false)] [.int .i64 0,.int .i64 0]) (.node 74 (.ar 8 8 1 false [.int .i64 0,.int .i64 0,.int .i64 0,.int .i64 0,.int .i64 0,.int .i64 0,.int .i64 0,.int .i64 0]) (.node 73 (.st 2 [(0,1,false),(1,1,false)] [.int .i64 0,.int .i64 0]) .nil .nil) .nil) (.node 78 (.st 13 [(0,8,true),(8,1,false),(9,1,false),(10,1,false),(11,2,true)] [.int .i64 0,.int .i64 0,.int .i64 0,.int .i64 0,.int .i64 0,.int .i64 0,.int .i64 0,.int .i64 0,.int .i64 0,.int .i64 0,.int .i64 0,.int .i64 0,.int .i64 0]) .nil .nil)) (.node 97 (.st 5 [(0,1,false),(1,1,false),(2,1,false),(3,1,false),(4,1,false)] [.int .i64 0,.int .i64 0,.int .i64 0,.int .i64 0,.int .i64 0]) (.node 94 (.sc (.pointer 78) 1 (.pointer none)) .nil .nil) (.node 99 (.st 5 [(0,1,false),(1,1,false),(2,1,false),(3,1,false),(4,1,false)] [.int .i64 0,.int .i64 0,.int .i64 0,.int .i64 0,.int .i64 0]) .nil .nil))) (.node 138 (.st 3 [(0,1,false),(1,1,false),(2,1,false)] [.nilIface,.slice none 0 0,.slice none 0 0]) (.node 129 (.st 2 [(0,1,false),(1,1,false)] [.int .i64 0,.slice none 0 0]) (.node 127 (.sc (.pointer 129) 1 (.pointer none)) .nil .nil) (.node 136 (.sc ((Tryz.prog.underlying 136).getD .bool) 1 .nilIface) .nil .nil)) (.node 143 (.st 3 [(0,1,false),(1,1,false),(2,1,false)] [.int .i64 0,.string ⟨#[]⟩,.slice none 0 0]) (.node 141 (.sl 219 2 24 true [.int .i64 0,.string ⟨#[]⟩]) .nil .nil) (.node 146 (.sl 97 5 40 true [.int .i64 0,.int .i64 0,.int .i64 0,.int .i64 0,.int .i64 0]) .nil .nil))))) (.node 231 (.st 7 [(0,6,true),(6,1,false)] [.string ⟨#[]⟩,.slice none 0 0,.slice none 0 0,.slice none 0 0,.slice none 0 0,.int .i64 0,.int .i64 0]) (.node 219 (.st 2 [(0,1,false),(1,1,false)] [.int .i64 0,.string ⟨#[]⟩]) (.node 157 (.st 6 [(0,1,false),(1,1,false),(2,1,false),(3,1,false),(4,1,false),(5,1,false)] [.string ⟨#[]⟩,.slice none 0 0,.slice none 0 0,.slice none 0 0,.slice none 0 0,.int .i64 0]) (.node 154 (.sl 294 2 24 true [.string ⟨#[]⟩,.int .i64 0]) (.node 153 (.sl 9 1 16 false [.string ⟨#[]⟩]) (.node 152 (.sl 151 5 40 true [.int .i64 0,.int .i64 0,.string ⟨#[]⟩,.bool false,.bool false]) .nil .nil) .nil) (.node 155 (.sl 270 3 32 true [.int .i64 0,.string ⟨#[]⟩,.int .i64 0]) .nil .nil)) (.node 194 (.sl 5 1 1 false [.int .u8 0]) (.node 191 (.sc (.int .u64) 1 (.int .u64 0)) .nil .nil) (.node 215 (.sc (.func #[83,3] #[3] false) 1 (.nilFunc)) .nil .nil))) (.node 224 (.sc (.map 9 3) 1 (.map none)) (.node 222 (.sc (.pointer 227) 1 (.pointer none)) (.node 221 (.sl 157 6 120 true [.string ⟨#[]⟩,.slice none 0 0,.slice none 0 0,.slice none 0 0,.slice none 0 0,.int .i64 0]) .nil .nil) (.node 223 (.sc (.map 9 157) 1 (.map none)) .nil .nil)) (.node 227 (.st 4 [(0,1,false),(1,1,false),(2,1,false),(3,1,false)] [.map none,.map none,.slice none 0 0,.int .i64 0]) (.node 225 (.sl 231 7 128 true [.string ⟨#[]⟩,.slice none 0 0,.slice none 0 0,.slice none 0 0,.slice none 0 0,.int .i64 0,.int .i64 0]) .nil .nil) (.node 229 (.sc (.func #[157] #[28] false) 1 (.nilFunc)) .nil .nil)))) (.node 306 (.sc (.func #[21] #[4] false) 1 (.nilFunc)) (.node 265 (.sl 229 1 8 false [.nilFunc]) (.node 262 (.sc (.func #[119,3] #[3] false) 1 (.nilFunc)) (.node 255 (.sc (.int .u64) 1 (.int .u64 0)) (.node 233 (.sc (.pointer 69) 1 (.pointer none)) .nil .nil) .nil) (.node 263 (.sl 221 1 24 false [.slice none 0 0]) .nil .nil)) (.node 270 (.st 3 [(0,1,false),(1,1,false),(2,1,false)] [.int .i64 0,.string ⟨#[]⟩,.int .i64 0]) (.node 267 (.sc (.map 3 274) 1 (.map none)) .nil .nil) (.node 294 (.st 2 [(0,1,false),(1,1,false)] [.string ⟨#[]⟩,.int .i64 0]) .nil .nil))) (.node 334 (.sc (.func #[57] #[57,28] false) 1 (.nilFunc)) (.node 330 (.sc (.func #[83,83] #[3] false) 1 (.nilFunc)) (.node 319 (.sc (.int .u32) 1 (.int .u32 0)) .nil .nil) (.node 332 (.sc (.func #[83] #[4] false) 1 (.nilFunc)) .nil .nil)) (.node 353 (.sc (.int .u64) 1 (.int .u64 0)) (.node 351 (.sl 57 1 24 false [.slice none 0 0]) .nil .nil) (.node 357 (.sc (.pointer 3) 1 (.pointer none)) .nil .nil)))))
def b0O:List (Nat×Value):=[(223,.agg #[.string ⟨#[]⟩,.slice none 0 0,.slice none 0 0,.slice none 0 0,.slice none 0 0,.int .i64 0]),(224,.int .i64 0),(267,.pointer none),(287,.agg #[.bool false,.bool false,.bool false])]
def b1g : List (Nat × List (String × Nat)) := [(9, []), (127, [("Drop", 197), ("Fork", 198), ("Load", 199), ("Map", 200), ("Protect", 201), ("Store", 202), ("Unmap", 203)])]
noncomputable def cxF:Cx:=⟨b0j,cxQ,b0O,b0p,b0P,b1g⟩
theorem cxOkTF:BT.All (fun t ti=>(a3m Tryz.prog t=some ti/\ti.okB=true)/\ti.zeros.all cOk=true) b0j:=by
 unfold b0j
 repeat' (first|exact BT.All.nil|refine BT.All.node ⟨⟨by kernel_rfl,by kernel_rfl⟩,by kernel_rfl⟩ ?_ ?_)
theorem b0T:ForA (fun p:Nat×Value=>∃ Kt Et,Tryz.prog.underlying p.1=some (.map Kt Et)/\(Tryz.prog.info? Et).bind (·.zero)=some p.2/\zOk p.2=true) b0O:=by
 unfold b0O;exact ForA.cons ⟨9,157,by kernel_rfl,by kernel_rfl,by kernel_rfl⟩ (ForA.cons ⟨9,3,by kernel_rfl,by kernel_rfl,by kernel_rfl⟩ (ForA.cons ⟨3,274,by kernel_rfl,by kernel_rfl,by kernel_rfl⟩ (ForA.cons ⟨3,285,by kernel_rfl,by kernel_rfl,by kernel_rfl⟩ (ForA.nil))))
theorem a8s:BT.All (fun g (x:Func×List (Nat×Pl))=>j8 Tryz.prog g x.1/\∃ c,x.1.body=some c/\n6 x.1.ntmps x.2 c=true) a67:=by
 unfold a67
 repeat' (first|exact BT.All.nil|refine BT.All.node ⟨⟨by kernel_rfl,by kernel_rfl,by kernel_rfl⟩,_,rfl,by kernel_rfl⟩ ?_ ?_)
theorem a8w:BT.All (fun g (x:Func×List (Nat×Pl))=>j8 Tryz.prog g x.1/\∃ c,x.1.body=some c/\n6 x.1.ntmps x.2 c=true) a6o:=by
 unfold a6o
 repeat' (first|exact BT.All.nil|refine BT.All.node ⟨⟨by kernel_rfl,by kernel_rfl,by kernel_rfl⟩,_,rfl,by kernel_rfl⟩ ?_ ?_)
theorem a8t:BT.All (fun g (x:Func×List (Nat×Pl))=>j8 Tryz.prog g x.1/\∃ c,x.1.body=some c/\n6 x.1.ntmps x.2 c=true) a7Q:=by
 unfold a7Q
 repeat' (first|exact BT.All.nil|refine BT.All.node ⟨⟨by kernel_rfl,by kernel_rfl,by kernel_rfl⟩,_,rfl,by kernel_rfl⟩ ?_ ?_)
theorem a8x:BT.All (fun g (x:Func×List (Nat×Pl))=>j8 Tryz.prog g x.1/\∃ c,x.1.body=some c/\n6 x.1.ntmps x.2 c=true) a7Y:=by
 unfold a7Y
 repeat' (first|exact BT.All.nil|refine BT.All.node ⟨⟨by kernel_rfl,by kernel_rfl,by kernel_rfl⟩,_,rfl,by kernel_rfl⟩ ?_ ?_)
theorem a8f:BT.All (fun g (x:Func×List (Nat×Pl))=>j8 Tryz.prog g x.1/\∃ c,x.1.body=some c/\n6 x.1.ntmps x.2 c=true) a7h:=by
 unfold a7h
 repeat' (first|exact BT.All.nil|refine BT.All.node ⟨⟨by kernel_rfl,by kernel_rfl,by kernel_rfl⟩,_,rfl,by kernel_rfl⟩ ?_ ?_)
theorem a84:BT.All (fun g (x:Func×List (Nat×Pl))=>j8 Tryz.prog g x.1/\∃ c,x.1.body=some c/\n6 x.1.ntmps x.2 c=true) a65:=by
 unfold a65
 repeat' (first|exact BT.All.nil|refine BT.All.node ⟨⟨by kernel_rfl,by kernel_rfl,by kernel_rfl⟩,_,rfl,by kernel_rfl⟩ ?_ ?_)
theorem a8D:BT.All (fun g (x:Func×List (Nat×Pl))=>j8 Tryz.prog g x.1/\∃ c,x.1.body=some c/\n6 x.1.ntmps x.2 c=true) a7T:=by
 unfold a7T
 repeat' (first|exact BT.All.nil|refine BT.All.node ⟨⟨by kernel_rfl,by kernel_rfl,by kernel_rfl⟩,_,rfl,by kernel_rfl⟩ ?_ ?_)
theorem a8b:BT.All (fun g (x:Func×List (Nat×Pl))=>j8 Tryz.prog g x.1/\∃ c,x.1.body=some c/\n6 x.1.ntmps x.2 c=true) a6p:=by
 unfold a6p
 repeat' (first|exact BT.All.nil|refine BT.All.node ⟨⟨by kernel_rfl,by kernel_rfl,by kernel_rfl⟩,_,rfl,by kernel_rfl⟩ ?_ ?_)
theorem a8X:BT.All (fun g (x:Func×List (Nat×Pl))=>j8 Tryz.prog g x.1/\∃ c,x.1.body=some c/\n6 x.1.ntmps x.2 c=true) a6q:=by
 unfold a6q
 repeat' (first|exact BT.All.nil|refine BT.All.node ⟨⟨by kernel_rfl,by kernel_rfl,by kernel_rfl⟩,_,rfl,by kernel_rfl⟩ ?_ ?_)
theorem a8z:BT.All (fun g (x:Func×List (Nat×Pl))=>j8 Tryz.prog g x.1/\∃ c,x.1.body=some c/\n6 x.1.ntmps x.2 c=true) a7d:=by
 unfold a7d
 repeat' (first|exact BT.All.nil|refine BT.All.node ⟨⟨by kernel_rfl,by kernel_rfl,by kernel_rfl⟩,_,rfl,by kernel_rfl⟩ ?_ ?_)
theorem a6T:BT.All (fun g (x:Func×List (Nat×Pl))=>j8 Tryz.prog g x.1/\∃ c,x.1.body=some c/\n6 x.1.ntmps x.2 c=true) a4A:=by
 unfold a4A
 repeat' (first|exact BT.All.nil|refine BT.All.node ⟨⟨by kernel_rfl,by kernel_rfl,by kernel_rfl⟩,_,rfl,by kernel_rfl⟩ ?_ ?_)
theorem a69:BT.All (fun g (x:Func×List (Nat×Pl))=>j8 Tryz.prog g x.1/\∃ c,x.1.body=some c/\n6 x.1.ntmps x.2 c=true) a4y:=by
 unfold a4y
 repeat' (first|exact BT.All.nil|refine BT.All.node ⟨⟨by kernel_rfl,by kernel_rfl,by kernel_rfl⟩,_,rfl,by kernel_rfl⟩ ?_ ?_)
theorem a61:BT.All (fun g (x:Func×List (Nat×Pl))=>j8 Tryz.prog g x.1/\∃ c,x.1.body=some c/\n6 x.1.ntmps x.2 c=true) a47:=by
 unfold a47
 repeat' (first|exact BT.All.nil|refine BT.All.node ⟨⟨by kernel_rfl,by kernel_rfl,by kernel_rfl⟩,_,rfl,by kernel_rfl⟩ ?_ ?_)
theorem a7e:BT.All (fun g (x:Func×List (Nat×Pl))=>j8 Tryz.prog g x.1/\∃ c,x.1.body=some c/\n6 x.1.ntmps x.2 c=true) a4v:=by
 unfold a4v
 repeat' (first|exact BT.All.nil|refine BT.All.node ⟨⟨by kernel_rfl,by kernel_rfl,by kernel_rfl⟩,_,rfl,by kernel_rfl⟩ ?_ ?_)
theorem a7k:BT.All (fun g (x:Func×List (Nat×Pl))=>j8 Tryz.prog g x.1/\∃ c,x.1.body=some c/\n6 x.1.ntmps x.2 c=true) a4D:=by
 unfold a4D
 repeat' (first|exact BT.All.nil|refine BT.All.node ⟨⟨by kernel_rfl,by kernel_rfl,by kernel_rfl⟩,_,rfl,by kernel_rfl⟩ ?_ ?_)
theorem a6D:BT.All (fun g (x:Func×List (Nat×Pl))=>j8 Tryz.prog g x.1/\∃ c,x.1.body=some c/\n6 x.1.ntmps x.2 c=true) a4s:=by
 unfold a4s
 repeat' (first|exact BT.All.nil|refine BT.All.node ⟨⟨by kernel_rfl,by kernel_rfl,by kernel_rfl⟩,_,rfl,by kernel_rfl⟩ ?_ ?_)
theorem b0A:BT.All (fun g (x:Func×List (Nat×Pl))=>j8 Tryz.prog g x.1/\∃ c,x.1.body=some c/\n6 x.1.ntmps x.2 c=true) b0p:=by
 unfold b0p
 repeat' (first|exact BT.All.nil|exact a8s|exact a8w|exact a8t|exact a8x|exact a8f|exact a84|exact a8D|exact a8b|exact a8X|exact a8z|exact a6T|exact a69|exact a61|exact a7e|exact a7k|exact a6D|refine BT.All.node ⟨⟨by kernel_rfl,by kernel_rfl,by kernel_rfl⟩,_,rfl,by kernel_rfl⟩ ?_ ?_)
theorem b0q:IOk Tryz.prog b1g:=a9W (by kernel_rfl)
theorem b0Z:FOk Tryz.prog cxF:=⟨⟨fun t ti h=>(cxOkTF.get h).1,fun t ti h=>(cxOkTF.get h).2,a90,a9e b0T,b0q⟩,by kernel_rfl,b0A,a8Y⟩
theorem a2w (w:World):Fn Tryz.prog 9 [] w (RBf (.bool true) w):=a9L b0Z 60 (by kernel_rfl) rfl (fun _=>VR.cOk (v:=.bool true) rfl) w
end Go.Proofs.YtejnpppejalhfadGreat
