/- Texts that the proof stands on, one behind the other: Cx13, Cx14, Cx3, Cpu, Cpu2, CpuBad, Cx15, CyF. -/
import Derived.Lib.QuietBelow
import Derived.Deep.RegionWith
import Derived.Deep.DeepCutAuto
import Derived.Test.YtejnpppejalhfacGreatPFlatStarts9
set_option linter.unusedVariables false
set_option linter.unusedSimpArgs false
namespace Go.Proofs.YtejnpppejalhfacGreat
set_option maxRecDepth 100000
set_option maxHeartbeats 8000000
open Go.RowKit Go.Sort
def a48:Pl->List Nat
 |.alt i _ _ more=>i::a48 more
 |_=>[]
noncomputable def plB (ops:Array Oper) (p:Pl):(Nat->Array Bool->Bool)×(Nat->Array Bool->Bool):=@Pl.rec (fun _=>(Nat->Array Bool->Bool)×(Nat->Array Bool->Bool))
 (fun _ li=>(Region.ready .any ops li).isEmpty,fun _ _=>false)
 (fun _ _=>false,fun _ _=>true)
 (fun i _ k=>(fun f li=>match f with
  |0=>false
  |f + 1=>Nat.blt i ops.size && (Region.free .any ops li i && ((Region.ready .any ops li).contains i && k.1 f (li.setIfInBounds i true))),fun _ _=>false))
 (fun i dr _ k=>(fun f li=>match f with
  |0=>false
  |f + 1=>(Region.ready .any ops li).all (Nat.beq i) && ((Region.ready .any ops li).contains i && (dr.all (t8 ops i) && k.1 f (li.setIfInBounds i true))),fun _ _=>false))
 (fun _ _ k=>(k.1,fun _ _=>false))
 (fun i dr p more k m=>(fun f li=>match f with
  |0=>false
  |f + 1=>(Region.ready .any ops li).all (fun j=>(i::a48 more).any (Nat.beq j)) && ((Region.ready .any ops li).contains i && (Nat.blt i ops.size && (!li.getD i true && (dr.all (t8 ops i) && (k.1 f (li.setIfInBounds i true) && m.2 f li))))),
  fun f li=>Nat.blt i ops.size && (!li.getD i true && (dr.all (t8 ops i) && (k.1 f (li.setIfInBounds i true) && m.2 f li))))) p
section
variable {P:Program} {C:Cx} {call:a2N} {w0 w w':World} {ρ σ:Ren} {N:Nat} {ds:List Deferred} {a:Act} {E E':Fr} {H H':SH} {n n':Nat} {Q:Exit->Act->World->Prop} {ops:Array Oper}
inductive EL (P:Program) (ρ:Ren) (w:World):a0R->Ea->Prop where
 |nil:EL P ρ w [] []
 |cons {i:Nat} {t:TypeId} {pv v:Value} {p:Addr} {u:Value} {L:a0R} {M:Ea} (hp:VR ρ pv (.pointer (some p))) (hv:VR ρ v u) (hl:Ld P t p u w) (h:EL P ρ w L M):EL P ρ w ((i,t,pv,v)::L) ((i,fun w=>Ld P t p u w)::M)
 |triv {i:Nat} {L:a0R} {M:Ea} (h:EL P ρ w L M):EL P ρ w L ((i,fun _=>True)::M)
theorem EL.all {L:a0R} {M:Ea} (h:EL P ρ w L M):∀ p ∈ M,p.2 w:=by
 induction h with
 |nil=>simp
 |cons _ _ hl _ ih=>
  intro p hp;rcases xb4.1 hp with rfl|hp
  ·exact hl
  ·exact ih p hp
 |triv _ ih=>
  intro p hp;rcases xb4.1 hp with rfl|hp
  ·trivial
  ·exact ih p hp
mutual
theorem a1D:∀ (k:Nat) {a b:Value},vEq k a b=true->a=b
 |0,_,_,h=>by cases h
 |k + 1,a,b,h=>by
  unfold vEq at h
  split at h
  ·simp at h;rw [h]
  ·rw [xb7] at h;rw [a73 h.1,xg4 h.2]
  ·rw [xg4 h]
  ·rfl
  ·rw [xb7] at h;rw [xa9 h.1,xa9 h.2]
  ·rw [xb7] at h;rw [xa9 h.1,xa9 h.2]
  ·simp only [xb7] at h;rw [xa9 h.1,xa9 h.2.1,xa9 h.2.2.1,xa9 h.2.2.2]
  ·rfl
  ·rw [xa9 h]
  ·rfl
  ·simp only [xb7] at h;rw [xa9 h.1,a0F k h.2.1,a0F k h.2.2]
  ·rfl
  ·rw [xb7] at h;rw [xa9 h.1,a1D k h.2]
  ·rw [a0F k h]
  ·rw [a0F k h]
  ·cases h
theorem a0F:∀ (k:Nat) {a b:List Value},a4A k a b=true->a=b
 |0,_,_,h=>by cases h
 |k + 1,a,b,h=>by
  unfold a4A at h
  split at h
  ·rename_i e;cases e
  ·rfl
  ·rename_i e
   cases e
   rw [xb7] at h;rw [a1D _ h.1,a0F _ h.2]
  ·cases h
end
theorem a5b:∀ {a b:List (List Value)},a6F a b=true->a=b
 |[],[],_=>rfl
 |a::l,b::r,h=>by
  unfold a6F at h;rw [xb7] at h;rw [a0F _ h.1,a5b h.2]
 |[],_::_,h=>by cases h
 |_::_,[],h=>by cases h
theorem a6T:∀ {a b:List (Value×Value)},a95 a b=true->a=b
 |[],[],_=>rfl
 |(a,c)::l,(b,d)::r,h=>by
  unfold a95 at h;simp only [xb7] at h;rw [a1D _ h.1,a1D _ h.2.1,a6T h.2.2]
 |[],_::_,h=>by cases h
 |_::_,[],h=>by cases h
theorem a92 {a b:SA} (h:b1k a b=true):a=b:=by
 unfold b1k at h
 split at h
 ·rw [a0F _ h]
 ·simp only [xb7,beq_iff_eq] at h;rw [xa9 h.1,xa9 h.2.1,xa9 h.2.2.1,h.2.2.2.1,a5b h.2.2.2.2]
 ·rw [xb7] at h;rw [xa9 h.1,a6T h.2]
 ·rw [xb7] at h;rw [xa9 h.1,xg4 h.2]
 ·cases h
theorem a8k:∀ {a b:SH},hEq a b=true->a=b
 |[],[],_=>rfl
 |(i,a)::l,(j,b)::r,h=>by
  unfold hEq at h;simp only [xb7] at h;rw [xa9 h.1,a92 h.2.1,a8k h.2.2]
 |[],_::_,h=>by cases h
 |_::_,[],h=>by cases h
theorem a31 {E1 E2:Fr}:∀ {l:Fr},a3D E1 E2 l=true->∀ d v,(d,v) ∈ l->∃ u,g8 E1 d=some u/\g8 E2 d=some u
 |[],_,d,v,h=>by cases h
 |(d',v')::r,h,d,v,hm=>by
  unfold a3D at h;rw [xb7] at h;rcases xb4.1 hm with e|hm
  ·cases e
   have h1:=h.1
   split at h1
   ·rename_i u u' e1 e2;exact ⟨u,e1,by rw [e2,a1D _ h1]⟩
   ·cases h1
  ·exact a31 h.2 d v hm
theorem HasR.same {E1 E2:Fr} (h:HasR ρ N ds a E2) (he:a3D E1 E2 E1=true):HasR ρ N ds a E1:=⟨h.size,h.defers,fun t v ht=>by
 obtain ⟨u,e1,e2⟩:=a31 he t v (a1b ht);rw [ht] at e1
 cases e1
 exact h.at_ t v e2⟩
theorem EL.still (hT:TOk P C.T) {L:a0R} {M:Ea} {j:Nat} {dr:List Nat} (h:EL P ρ w L M) (hd:dr.all (t8 ops j)=true) (hs:a07 C.T H' (a0A dr L)=true) (hI:Inv P w0 σ H' w') (hle:Rle ρ σ):∃ M',EL P σ w' (a0A dr L) M'/\∀ p ∈ t2 ops j M,p ∈ M':=by
 induction h with
 |nil=>exact ⟨[],EL.nil,fun p hp=>by simp [t2] at hp⟩
 |@triv i L M h ih=>
  obtain ⟨M',h1,h2⟩:=ih hs;refine ⟨_,EL.triv (i:=i) h1,fun q hq=>?_⟩;obtain ⟨hq1,hq2⟩:=xg5.1 hq;rcases xb4.1 hq1 with rfl|hq1
  ·exact xb5
  ·exact xb6 _ (h2 q (xg5.2 ⟨hq1,hq2⟩))
 |@cons i t pv v p u L M hp hv hl h ih=>
  unfold a0A at hs |-;rw [List.filter_cons] at hs |-
  cases e:dr.any (Nat.beq i) with
  |true=>
   simp only [e,Bool.not_true,Bool.false_eq_true,if_false] at hs |-;obtain ⟨M',h1,h2⟩:=ih hs;refine ⟨M',h1,fun q hq=>?_⟩;obtain ⟨hq1,hq2⟩:=xg5.1 hq;rcases xb4.1 hq1 with rfl|hq1
   ·obtain ⟨k,hk,hki⟩:=xg6.1 e;obtain rfl:=xa9 hki;have:=xb8.1 hd _ hk;rw [this] at hq2
    cases hq2
   ·exact h2 q (xg5.2 ⟨hq1,hq2⟩)
  |false=>
   simp only [e,Bool.not_false,if_true] at hs |-;unfold a07 at hs;rw [xb7] at hs;obtain ⟨M',h1,h2⟩:=ih hs.2;have hs1:=hs.1
   split at hs1
   ·rename_i u' hu';obtain rfl:=a1D _ hs1;obtain ⟨b,o,x,e1,e2,e3⟩:=a4h hT hI hu' (hp.mono hle)
    cases e1
    obtain rfl:=VR.fn (hv.mono hle) e2;refine ⟨_,EL.cons (hp.mono hle) (hv.mono hle) e3 h1,fun q hq=>?_⟩;obtain ⟨hq1,hq2⟩:=xg5.1 hq;rcases xb4.1 hq1 with rfl|hq1
    ·exact xb5
    ·exact xb6 _ (h2 q (xg5.2 ⟨hq1,hq2⟩))
   ·cases hs1
theorem EL.mono {L:a0R} {M:Ea} (h:EL P ρ w L M) (hle:Rle ρ σ):EL P σ w L M:=by
 induction h with
 |nil=>exact EL.nil
 |cons hp hv hl _ ih=>exact EL.cons (hp.mono hle) (hv.mono hle) hl ih
 |triv _ ih=>exact EL.triv ih
theorem Stp.join {τ:Ren} {x y m0:Nat} (h:Stp ρ σ x y) (h2:Stp σ τ m0 n') (hx:m0<=x) (hy:y<=n'):Stp ρ τ m0 n' :=
 ⟨h.le.trans h2.le,fun j hj=>(h2.only j hj).trans (h.only j (by omega))⟩
structure PS (P:Program) (w0:World) (ρ:Ren) (N:Nat) (ds:List Deferred) (a:Act) (E:Fr) (H:SH) (w:World) (n hi b z:Nat) (li:Array Bool) (L:a0R) (M:Ea) (size m0:Nat):Prop where
 ha:HasR ρ N ds a E
 hI:Inv P w0 ρ H w
 hF:Fsh ρ n hi
 hG:∀ j,j < size->li.getD j true=false->Fsh ρ (b + z * j) (b + z * (j + 1))
 hb:m0<=b
 hbn:b + z * size<=n
 hL:EL P ρ w L M
theorem a3H {li:Array Bool} {i j:Nat} (h:(li.setIfInBounds i true).getD j true=false):li.getD j true=false/\j≠i:=by
 by_cases e:i=j
 ·subst e;rcases xg7 i li.size with h'|h'
  ·simp [h'] at h
  ·simp [xg8 (show (li.setIfInBounds i true).size<=i by simpa using h')] at h
 ·rw [getD_set_ne true e] at h;exact ⟨h,Ne.symm e⟩
theorem b28 {z i j s:Nat} (h:i < j) (hj:j<=s):z * (i + 1)<=z * j/\z * j<=z * s:=⟨xf4 z h,xf4 z hj⟩
theorem PS.next {hi b z m0 i x n1:Nat} {li:Array Bool} {L:a0R} {M:Ea} {dr:List Nat} {v:Option Value} {u:Value} {o:Oper} (hT:TOk P C.T) (h:PS P w0 ρ N ds a E H w n hi b z li L M ops.size m0) (hd:a41 N o=true) (hσ:Stp ρ σ x n1) (hu:OR σ v u) (hI:Inv P w0 σ H' w') (hdr:dr.all (t8 ops i)=true) (hst:a07 C.T H' (a0A dr L)=true)
  (hx:(x=n/\n'=n1)\/(x=b + z * i/\n1<=b + z * (i + 1)/\i < ops.size/\n'=n)) (hle:x<=n1) :
  ∃ M',(∀ p ∈ t2 ops i M,p ∈ M')/\PS P w0 σ N ds (a.put o.dst u) (a0x E o.dst v) H' w' n' hi b z (li.setIfInBounds i true) (a0A dr L) M' ops.size m0:=by
 obtain ⟨M',h1,h2⟩:=h.hL.still hT hdr hst hI hσ.le;refine ⟨M',h2,(h.ha.mono hσ.le).putE o.dst (a19 hd) hu,hI,fun j hj1 hj2=>?_,fun j hj hl k hk1 hk2=>?_,h.hb,?_,h1⟩
 ·rcases hx with ⟨rfl,rfl⟩|⟨rfl,hx,hi',rfl⟩
  ·exact (hσ.only j (xc4 hj1)).trans (h.hF j (by omega) hj2)
  ·have:z * (i + 1)<=z * ops.size:=xf4 z hi';have:=h.hbn;exact (hσ.only j (xc4 (by omega))).trans (h.hF j (by omega) hj2)
 ·obtain ⟨hl,hne⟩:=a3H hl;have h0:=h.hG j hj hl k hk1 hk2;have hj2:z * (j + 1)<=z * ops.size:=xf4 z hj;have:=h.hbn;rcases hx with ⟨rfl,rfl⟩|⟨rfl,hx,hi',rfl⟩
  ·exact (hσ.only k (xc7 (by omega))).trans h0
  ·rcases Nat.lt_or_gt_of_ne hne with hlt|hlt
   ·have:=(b28 (z:=z) (s:=ops.size) hlt (by omega)).1;exact (hσ.only k (xc7 (by omega))).trans h0
   ·have:=(b28 (z:=z) (s:=ops.size) hlt (by omega)).1;exact (hσ.only k (xc4 (by omega))).trans h0
 ·have:=h.hbn;rcases hx with ⟨rfl,rfl⟩|⟨rfl,hx,hi',rfl⟩ <;> omega
theorem a6z {i:Nat} {o:Oper} {b:Bool} {K:Act->World->Prop} (hi:ops[i]?=some o) (hw:Region.wanted o (yielded ops a.tmps)=b) (h1:b=true->Oper.wp P ⟨o.dst,o.op,o.type,o.pos,o.after,none⟩ a w K Q) (h2:b=false->K (a.put o.dst undef) w):wpOp P ops Q i K a w:=by
 unfold wpOp;simp only [hi]
 cases b with
 |true=>rw [xd8 hw];exact xc7 (a4Y (h1 rfl))
 |false=>rw [xd9 (by rw [hw];simp)];exact h2 rfl
theorem b2t (hC:COk P C) (hc:a0g P call) (hQ:PQ Q) (hsel:Region.noSelect ops=true) (hd:ops.toList.all (a41 N)=true) (p:Pl) :
  (∀ f li b z L E H n E' H' n',(plB ops p).1 f li=true->xPl C call ops.toList p b z L E H n=.ok (E',H',n')->n<=n'/\∀ {w0 w:World} {ρ:Ren} {ds:List Deferred} {a:Act} {hi m0:Nat} {M:Ea},PS P w0 ρ N ds a E H w n hi b z li L M ops.size m0->n'<=hi->(∀ a' w' σ,Stp ρ σ m0 n'->HasR σ N ds a' E'->Inv P w0 σ H' w'->Q .normal a' w')->wpT P ops Q f M li a w) /\
  (∀ f li b z L E H n E' H' n',(plB ops p).2 f li=true->xPl C call ops.toList p b z L E H n=.ok (E',H',n')->n<=n'/\∀ {w0 w:World} {ρ:Ren} {ds:List Deferred} {a:Act} {hi m0:Nat} {M:Ea},PS P w0 ρ N ds a E H w n hi b z li L M ops.size m0->n'<=hi->(∀ a' w' σ,Stp ρ σ m0 n'->HasR σ N ds a' E'->Inv P w0 σ H' w'->Q .normal a' w')->∀ j ∈ a48 p,wpOp P ops Q j (fun a' w'=>(∀ q ∈ t2 ops j M,q.2 w')/\wpT P ops Q f (t2 ops j M) (li.setIfInBounds j true) a' w') a w):=by
 have hdo:∀ {i:Nat} {o:Oper},ops[i]?=some o->a41 N o=true:=fun {i o} hi=>xb8.1 hd o (by
  have:ops.toList[i]?=some o:=by simpa using hi
  exact xc1 this)
 induction p with
 |nil=>
  refine ⟨fun f li b z L E H n E' H' n' hp h=>?_,fun f li b z L E H n E' H' n' hp h=>by cases hp⟩
  cases h
  have hr:Region.ready .any ops li=[]:=List.isEmpty_iff.1 hp;refine ⟨xc5 _,fun hS hn k=>?_⟩;have hq:=k _ _ _ (Stp.refl _ _ _) hS.ha hS.hI
  cases f with
  |zero=>exact ⟨hr,hq⟩
  |succ f=>exact ⟨fun _=>hq,by rw [hr];simp⟩
 |stop=>
  exact ⟨fun f li b z L E H n E' H' n' hp h=>(by cases hp),fun f li b z L E H n E' H' n' hp h=>by cases h⟩
 |take i p ih=>
  refine ⟨fun f li b z L E H n E' H' n' hp h=>?_,fun f li b z L E H n E' H' n' hp h=>by cases hp⟩
  cases f with
  |zero=>cases hp
  |succ f=>
  replace hp:(Nat.blt i ops.size && (Region.free .any ops li i && ((Region.ready .any ops li).contains i && (plB ops p).1 f (li.setIfInBounds i true))))=true:=hp;simp only [xb7] at hp;obtain ⟨hp1,hp2,hp3,hp4⟩:=hp;replace h:a8F C ops.toList i (xPl C call ops.toList p) b z L E H n=.ok (E',H',n'):=h;unfold a8F at h;rw [s4] at h
  split at h
  ·rename_i o ho;have ho:ops[i]?=some o:=by simpa using ho
   have hQ':∀ v c (a:Act) w,Q (.panic c) (a.put o.dst v) w->Q (.panic c) a w:=fun v c a w=>hQ c a w o.dst v;have hsp:=Region.noSelect_spec hsel;have hrm:i ∈ Region.ready .any ops li:=by simpa using hp3
   have G:∀ {z:Nat} {ρ:Ren},(∀ j,j < ops.size->li.getD j true=false->Fsh ρ (b + z * j) (b + z * (j + 1)))->∀ j,j < ops.size->(li.setIfInBounds i true).getD j true=false->Fsh ρ (b + z * j) (b + z * (j + 1)):=fun hG j hj hl=>hG j hj (a3H hl).1
   split at h
   ·rename_i hw;obtain ⟨h1,h2⟩:=ih.1 f _ _ _ _ _ _ _ _ _ _ hp4 h;refine ⟨h1,fun {w0 w ρ ds a hi m0 M} hS hn k=>?_⟩;refine a25 (S:=fun _=>True) ho hsp (hQ' undef) f M li a w (Region.free_spec ho hp2) hrm (xc4 ⟨a0n hS.ha hw,rfl⟩) trivial hS.hL.all ?_;exact h2 ⟨hS.ha.putE o.dst (a19 (hdo ho)) VR.undef,hS.hI,hS.hF,G hS.hG,hS.hb,hS.hbn,EL.triv hS.hL⟩ hn k
   ·rename_i hw
    split at h
    ·rename_i t x hop
     split at h
     ·rename_i pv hx
      split at h
      ·rename_i v hv;obtain ⟨h1,h2⟩:=ih.1 f _ _ _ _ _ _ _ _ _ _ hp4 h;refine ⟨h1,fun {w0 w ρ ds a hi m0 M} hS hn k=>?_⟩;obtain ⟨p',hp',gx⟩:=hS.ha.ev hx;obtain ⟨bb,oo,u,rfl,hu,hl⟩:=a4h hC.T hS.hI hv hp';refine a25 (S:=fun w=>Ld P t ⟨bb,oo,none⟩ u w) ho hsp (hQ' u) f M li a w (Region.free_spec ho hp2) hrm (xc7 ⟨a0n hS.ha hw,fun w2 hw2=>?_⟩) hl hS.hL.all ?_
       ·have hw2:(loadVar t ⟨bb,oo,none⟩).run P w2=.ok u w2:=hw2;obtain ⟨dst,op,ty,pos,after,g⟩:=o;dsimp only at hop;subst hop;simp only [execOp,hS.ha.full.ev gx,Instr.loadAt,Instr.sureAddr,Sem.run_bind,Sem.run_pure,Result.andThen_ok,hw2]
       ·exact h2 ⟨hS.ha.putE o.dst (a19 (hdo ho)) (v:=some v) hu,hS.hI,hS.hF,G hS.hG,hS.hb,hS.hbn,EL.cons hp' hu hl hS.hL⟩ hn k
      ·cases h
     ·cases h
    ·split at h
     ·rename_i v hv;obtain ⟨h1,h2⟩:=ih.1 f _ _ _ _ _ _ _ _ _ _ hp4 h;refine ⟨h1,fun {w0 w ρ ds a hi m0 M} hS hn k=>?_⟩;obtain ⟨u,hu,hr⟩:=a8N hC.T hC.Z hC.q hS.ha hv;refine a25 (S:=fun _=>True) ho hsp (hQ' u) f M li a w (Region.free_spec ho hp2) hrm (xc7 ⟨a0n hS.ha hw,fun w2 _=>hr o.dst o.type o.pos o.after w2⟩) trivial hS.hL.all ?_;exact h2 ⟨hS.ha.putE o.dst (a19 (hdo ho)) (v:=some v) hu,hS.hI,hS.hF,G hS.hG,hS.hb,hS.hbn,EL.triv hS.hL⟩ hn k
     ·cases h
   ·cases h
  ·cases h
 |one i dr p ih=>
  refine ⟨fun f li b z L E H n E' H' n' hp h=>?_,fun f li b z L E H n E' H' n' hp h=>by cases hp⟩
  cases f with
  |zero=>cases hp
  |succ f=>
  replace hp:((Region.ready .any ops li).all (Nat.beq i) && ((Region.ready .any ops li).contains i && (dr.all (t8 ops i) && (plB ops p).1 f (li.setIfInBounds i true))))=true:=hp;simp only [xb7] at hp;obtain ⟨hp1,hp2,hp3,hp4⟩:=hp;replace h:b2s C call ops.toList i dr (xPl C call ops.toList p) b z L E H n=.ok (E',H',n'):=h;unfold b2s at h;rw [s4] at h
  split at h
  ·rename_i o ho;have ho:ops[i]?=some o:=by simpa using ho
   split at h
   ·rename_i wb hw
    split at h
    ·rename_i v H1 n1 hr;have key:n<=n1/\(wb=true->Snd P o.op E H n (v,H1,n1))/\(wb=false->v=some undef/\H1=H/\n1=n):=by
      cases wb with
      |true=>
       have:=a2O hC hc hr;exact ⟨this.1,fun _=>this,fun h=>by cases h⟩
      |false=>cases hr;exact ⟨xc5 _,(fun h=>by cases h),fun _=>⟨rfl,rfl,rfl⟩⟩
     cases hst:a07 C.T H1 (a0A dr L) with
     |false=>rw [hst] at h;cases h
     |true=>
     rw [hst] at h;obtain ⟨h1,h2⟩:=ih.1 f _ _ _ _ _ _ _ _ _ _ hp4 h;refine ⟨xc6 key.1 h1,fun {w0 w ρ ds a hi m0 M} hS hn k=>⟨fun h0=>(by rw [h0] at hp2;cases hp2),fun j hj=>?_⟩⟩;obtain rfl:=xa9 (xb8.1 hp1 j hj);have fin:∀ u w' σ,Stp ρ σ n n1->OR σ v u->Inv P w0 σ H1 w'->(∀ q ∈ t2 ops i M,q.2 w')/\wpT P ops Q f (t2 ops i M) (li.setIfInBounds i true) (a.put o.dst u) w':=fun u w' σ hσ hu hI=>by
      obtain ⟨M',h3,h4⟩:=hS.next hC.T (hdo ho) hσ hu hI hp3 hst (xc7 ⟨rfl,rfl⟩) key.1;have hm:m0<=n:=by have:=hS.hb;have:=hS.hbn;omega
      exact ⟨fun q hq=>h4.hL.all q (h3 q hq),a2C f h3 (h2 h4 hn fun a' w' τ hτ ha' hI'=>k a' w' τ (hσ.join hτ hm h1) ha' hI')⟩
     refine a6z ho (a0n hS.ha hw) (fun e=>(key.2.1 e).2 hS.ha hS.hI hS.hF (xc6 h1 hn) _ _ _ _ _ _ fin) fun e=>?_;obtain ⟨rfl,rfl,rfl⟩:=key.2.2 e;exact fin _ _ ρ (Stp.refl _ _ _) VR.undef hS.hI
    ·cases h
   ·cases h
  ·cases h
 |grp wd p ih=>
  refine ⟨fun f li b z L E H n E' H' n' hp h=>?_,fun f li b z L E H n E' H' n' hp h=>by cases hp⟩;replace h:xPl C call ops.toList p n wd L E H (n + wd * ops.toList.length)=.ok (E',H',n'):=h;obtain ⟨h1,h2⟩:=ih.1 f _ _ _ _ _ _ _ _ _ _ hp h;rw [xf5] at h1 h2;refine ⟨by omega,fun {w0 w ρ ds a hi m0 M} hS hn k=>h2 ⟨hS.ha,hS.hI,fun j hj1 hj2=>hS.hF j (by omega) hj2,fun j hj hl q hq1 hq2=>?_,?_,xc5 _,hS.hL⟩ hn k⟩
  ·have:wd * (j + 1)<=wd * ops.size:=xf4 wd hj;exact hS.hF q (by omega) (by omega)
  ·have:=hS.hb;have:=hS.hbn;omega
 |alt i dr p more ih im=>
  have chain:∀ f li b z L E H n E' H' n',(Nat.blt i ops.size && (!li.getD i true && (dr.all (t8 ops i) && ((plB ops p).1 f (li.setIfInBounds i true) && (plB ops more).2 f li))))=true->xPl C call ops.toList (.alt i dr p more) b z L E H n=.ok (E',H',n')->n<=n'/\∀ {w0 w:World} {ρ:Ren} {ds:List Deferred} {a:Act} {hi m0:Nat} {M:Ea},PS P w0 ρ N ds a E H w n hi b z li L M ops.size m0->n'<=hi->(∀ a' w' σ,Stp ρ σ m0 n'->HasR σ N ds a' E'->Inv P w0 σ H' w'->Q .normal a' w')->∀ j ∈ a48 (.alt i dr p more),wpOp P ops Q j (fun a' w'=>(∀ q ∈ t2 ops j M,q.2 w')/\wpT P ops Q f (t2 ops j M) (li.setIfInBounds j true) a' w') a w:=by
   intro f li b z L E H n E' H' n' hp h;simp only [xb7,xb9] at hp;obtain ⟨hp1,hp2,hp3,hp4,hp5⟩:=hp;have hp1:i < ops.size:=by simpa [xb1] using hp1
   replace h:b1H C call ops.toList i dr (xPl C call ops.toList p) more.isStop (xPl C call ops.toList more) b z L E H n=.ok (E',H',n'):=h;unfold b1H at h;rw [s4] at h
   split at h
   ·rename_i o ho;have ho:ops[i]?=some o:=by simpa using ho
    split at h
    ·rename_i wb hw
     split at h
     ·rename_i v H1 n1 hr;have key:b + z * i<=n1/\(wb=true->Snd P o.op E H (b + z * i) (v,H1,n1))/\(wb=false->v=some undef/\H1=H/\n1=b + z * i):=by
       cases wb with
       |true=>
        have:=a2O hC hc hr;exact ⟨this.1,fun _=>this,fun h=>by cases h⟩
       |false=>cases hr;exact ⟨xc5 _,(fun h=>by cases h),fun _=>⟨rfl,rfl,rfl⟩⟩
      cases hst:(Nat.ble n1 (b + z * (i + 1)) && a07 C.T H1 (a0A dr L)) with
      |false=>rw [hst] at h;cases h
      |true=>
      rw [hst] at h;rw [xb7] at hst;obtain ⟨hst1,hst2⟩:=hst;have hst1:=xe8 hst1;have first:∀ {E1:Fr} {H2:SH} {n2:Nat},xPl C call ops.toList p b z (a0A dr L) (a0x E o.dst v) H1 n=.ok (E1,H2,n2)->n<=n2/\∀ {w0 w:World} {ρ:Ren} {ds:List Deferred} {a:Act} {hi m0:Nat} {M:Ea},PS P w0 ρ N ds a E H w n hi b z li L M ops.size m0->n2<=hi->(∀ a' w' σ,Stp ρ σ m0 n2->HasR σ N ds a' E1->Inv P w0 σ H2 w'->Q .normal a' w')->wpOp P ops Q i (fun a' w'=>(∀ q ∈ t2 ops i M,q.2 w')/\wpT P ops Q f (t2 ops i M) (li.setIfInBounds i true) a' w') a w:=by
       intro E1 H2 n2 hx;obtain ⟨h1,h2⟩:=ih.1 f _ _ _ _ _ _ _ _ _ _ hp4 hx;refine ⟨h1,fun {w0 w ρ ds a hi m0 M} hS hn k=>?_⟩;have fin:∀ u w' σ,Stp ρ σ (b + z * i) n1->OR σ v u->Inv P w0 σ H1 w'->(∀ q ∈ t2 ops i M,q.2 w')/\wpT P ops Q f (t2 ops i M) (li.setIfInBounds i true) (a.put o.dst u) w':=fun u w' σ hσ hu hI=>by
        obtain ⟨M',h3,h4⟩:=hS.next hC.T (hdo ho) hσ hu hI hp3 hst2 (xc4 ⟨rfl,hst1,hp1,rfl⟩) key.1;have hm:m0<=b + z * i:=by have:=hS.hb;omega
        have hz:z * (i + 1)<=z * ops.size:=xf4 z hp1;have:=hS.hbn;exact ⟨fun q hq=>h4.hL.all q (h3 q hq),a2C f h3 (h2 h4 hn fun a' w' τ hτ ha' hI'=>k a' w' τ (hσ.join hτ hm (by omega)) ha' hI')⟩
       refine a6z ho (a0n hS.ha hw) (fun e=>(key.2.1 e).2 hS.ha hS.hI (hi:=b + z * (i + 1)) (hS.hG i hp1 hp2) hst1 _ _ _ _ _ _ fin) fun e=>?_;obtain ⟨rfl,rfl,rfl⟩:=key.2.2 e;exact fin _ _ ρ (Stp.refl _ _ _) VR.undef hS.hI
      cases hl:more.isStop with
      |true=>
       rw [hl] at h;obtain ⟨h1,h2⟩:=first h;refine ⟨h1,fun {w0 w ρ ds a hi m0 M} hS hn k j hj=>?_⟩;have he:a48 more=[]:=by cases more <;> first|rfl|cases hl
       rcases xb4.1 (show j ∈ i::a48 more from hj) with rfl|hj
       ·exact h2 hS hn k
       ·rw [he] at hj;cases hj
      |false=>
       rw [hl] at h;dsimp only [cond_true,cond_false] at h
       split at h
       ·rename_i E1 H1' n1' E2 H2 n2 hx1 hx2
        cases hs:(a3D E1 E2 E1 && (hEq H1' H2 && Nat.beq n1' n2)) with
        |false=>rw [hs] at h;cases h
        |true=>
        rw [hs] at h
        cases h
        simp only [xb7] at hs;obtain ⟨hs1,hs2,hs3⟩:=hs;obtain rfl:=a8k hs2;obtain rfl:=xa9 hs3;obtain ⟨h1,h2⟩:=first hx1;obtain ⟨h3,h4⟩:=im.2 f _ _ _ _ _ _ _ _ _ _ hp5 hx2;refine ⟨h1,fun {w0 w ρ ds a hi m0 M} hS hn k j hj=>?_⟩;rcases xb4.1 (show j ∈ i::a48 more from hj) with rfl|hj
        ·exact h2 hS hn k
        ·exact h4 hS hn (fun a' w' σ hσ ha' hI'=>k a' w' σ hσ (ha'.same hs1) hI') j hj
       ·cases h
       ·cases h
     ·cases h
    ·cases h
   ·cases h
  refine ⟨fun f li b z L E H n E' H' n' hp h=>?_,fun f li b z L E H n E' H' n' hp h=>chain f li b z L E H n E' H' n' hp h⟩
  cases f with
  |zero=>cases hp
  |succ f=>
  replace hp:((Region.ready .any ops li).all (fun j=>(i::a48 more).any (Nat.beq j)) && ((Region.ready .any ops li).contains i && (Nat.blt i ops.size && (!li.getD i true && (dr.all (t8 ops i) && ((plB ops p).1 f (li.setIfInBounds i true) && (plB ops more).2 f li))))))=true:=hp;rw [xb7,xb7] at hp;obtain ⟨hp1,hp2,hp3⟩:=hp;obtain ⟨h1,h2⟩:=chain f li b z L E H n E' H' n' hp3 h;refine ⟨h1,fun {w0 w ρ ds a hi m0 M} hS hn k=>⟨fun h0=>(by rw [h0] at hp2;cases hp2),fun j hj=>h2 hS hn k j ?_⟩⟩;obtain ⟨q,hq,hqj⟩:=xg6.1 (xb8.1 hp1 j hj);rw [xa9 hqj];exact hq
end
noncomputable def q7 (N:Nat) (pl:List (Nat×Pl)) (c:Code):Bool:=@Code.rec (fun _=>Bool) true
 (fun id ops draw=>ops.toList.all (a41 N) && (bif draw then (match g8 pl id with
   |some p=>Region.noSelect ops && (plB ops p).1 ops.size (Array.replicate ops.size false)
   |none=>true) else true))
 (fun _ _ x y=>x && y) (fun _ _ _ x y=>x && y) (fun _ _ x=>x) (fun _ x=>x) (fun _ _ _ _ _ _=>true) (fun _=>true) (fun _ _=>true) (fun _=>true) (fun _=>true) true (fun _=>true) c
inductive BT.All {α:Type} (p:Nat->α->Prop):BT α->Prop where
 |nil:BT.All p .nil
 |node {k:Nat} {v:α} {l r:BT α} (h:p k v) (hl:BT.All p l) (hr:BT.All p r):BT.All p (.node k v l r)
theorem BT.All.get {α:Type} {p:Nat->α->Prop} {t:BT α} (h:BT.All p t) {i:Nat} {v:α} (hg:t.get i=some v):p i v:=by
 induction h with
 |nil=>cases hg
 |@node k u l r hp hl hr ihl ihr=>
  replace hg:@Bool.rec (fun _=>Option α) (@Bool.rec (fun _=>Option α) (r.get i) (l.get i) (Nat.blt i k)) (some u) (Nat.beq i k)=some v:=hg
  cases e:Nat.beq i k with
  |true=>
   rw [e] at hg
   cases hg
   rw [xa9 e];exact hp
  |false=>
   rw [e] at hg
   cases e2:Nat.blt i k with
   |true=>rw [e2] at hg;exact ihl hg
   |false=>rw [e2] at hg;exact ihr hg
structure FOk (P:Program) (C:Cx):Prop where
 ok:COk P C
 mixed:P.follows .mixedOrders=true
 F:BT.All (fun g (x:Func×List (Nat×Pl))=>m9 P g x.1/\∃ c,x.1.body=some c/\q7 x.1.ntmps x.2 c=true) C.F
 M:∀ g f,g8 C.M g=some f->∀ vs v,f vs=some v->(∀ ρ,LR ρ vs vs)/\(∀ ρ,VR ρ v v)/\∀ w,Fn P g vs w (RBf v w)
def toX:SX->Exit
 |.normal=>.normal
 |.exit i=>.exit i
 |.ret=>.ret
section
variable {P:Program} {C:Cx} {call:a2N} {w0 w w':World} {ρ σ:Ren} {N:Nat} {ds:List Deferred} {a:Act} {E E':Fr} {H H':SH} {n n':Nat} {Q:Exit->Act->World->Prop}
theorem PQ.then {x:Act->World->Prop} (h:PQ Q):PQ (Exit.then x Q):=fun c a w d v hq=>h c a w d v hq
theorem PQ.block {i:Nat} (h:PQ Q):PQ (Exit.inBlock i Q):=fun c a w d v hq=>h c a w d v hq
theorem a2e:∀ (E:Fr) (s:List Nat) {t:Nat} {v:Value},g8 (a35 E s) t=some v->g8 E t=some v/\t ∉ s
 |[],s,t,v,h=>by cases h
 |(k,u)::r,s,t,v,h=>by
  have hany:∀ s:List Nat,@List.rec Nat (fun _=>Bool) false (fun x _ h=>bif Nat.beq k x then true else h) s=s.any (Nat.beq k):=fun s=>by
   induction s with
   |nil=>rfl
   |cons x s ih=>simp only [List.any_cons];rw [<- ih];cases Nat.beq k x <;> rfl
  have e:a35 ((k,u)::r) s=bif s.any (Nat.beq k) then a35 r s else (k,u)::a35 r (k::s):=by rw [<- hany];rfl
  rw [e] at h
  cases hs:s.any (Nat.beq k) with
  |true=>
   rw [hs] at h;obtain ⟨h1,h2⟩:=a2e r s h;obtain ⟨x,hx,hkx⟩:=xg6.1 hs;have hkx:=xa9 hkx;refine ⟨?_,h2⟩;rw [j3,xd9 (fun e=>h2 (by rw [<- e,hkx];exact hx))];exact h1
  |false=>
   rw [hs] at h;replace h:g8 ((k,u)::a35 r (k::s)) t=some v:=h;rw [j3] at h |-;by_cases ek:k=t
   ·rw [xd8 ek] at h |-;refine ⟨h,fun hm=>?_⟩;have:s.any (Nat.beq k)=true:=xg6.2 ⟨t,hm,by rw [ek];exact xg9 _⟩;rw [hs] at this
    cases this
   ·rw [xd9 ek] at h |-;obtain ⟨h1,h2⟩:=a2e r (k::s) h;exact ⟨h1,fun hm=>h2 (xb6 _ hm)⟩
theorem HasR.shrink (h:HasR ρ N ds a E):HasR ρ N ds a (a2F E):=⟨h.size,h.defers,fun t v ht=>by
 unfold a2F at ht
 cases e:Nat.blt 400 (@List.rec (Nat×Value) (fun _=>Nat) 0 (fun _ _ n=>n + 1) E) with
 |true=>rw [e] at ht;exact h.at_ t v (a2e E [] ht).1
 |false=>rw [e] at ht;exact h.at_ t v ht⟩
def a6C (P:Program) (c:Code) (N:Nat) (f:a3i):Prop:=∀ E H n e E' H' n',f E H n=.ok (e,E',H',n')->n<=n'/\∀ {w0 w:World} {ρ:Ren} {ds:List Deferred} {a:Act} {hi:Nat} {Q:Exit->Act->World->Prop},PQ Q->HasR ρ N ds a E->Inv P w0 ρ H w->Fsh ρ n hi->n'<=hi->(∀ a' w' σ,Stp ρ σ n n'->HasR σ N ds a' E'->Inv P w0 σ H' w'->Q (toX e) a' w')->c.wp P Q a w
theorem a9z {c:Code} {f:a3i} (hf:a6C P c N f):∀ k E H n e E' H' n',a6J f k E H n=.ok (e,E',H',n')->n<=n'/\∀ {w0 w:World} {ρ:Ren} {ds:List Deferred} {a:Act} {hi:Nat} {Q:Exit->Act->World->Prop},PQ Q->HasR ρ N ds a E->Inv P w0 ρ H w->Fsh ρ n hi->n'<=hi->(∀ a' w' σ,Stp ρ σ n n'->HasR σ N ds a' E'->Inv P w0 σ H' w'->Q (toX e) a' w')->Code.rounds P c Q k a w:=by
 intro k
 induction k with
 |zero=>intro E H n e E' H' n' h;cases h
 |succ k ih=>
  intro E H n e E' H' n' h;replace h:(match f E H n with
   |.ok (.normal,E',H',n')=>a6J f k (a2F E') H' n'
   |r=>r)=.ok (e,E',H',n'):=h
  split at h
  ·rename_i E1 H1 n1 hr;obtain ⟨h1,h2⟩:=hf _ _ _ _ _ _ _ hr;obtain ⟨h3,h4⟩:=ih _ _ _ _ _ _ _ h;refine ⟨xc6 h1 h3,fun {w0 w ρ ds a hi Q} hQ ha hI hF hn kk=>?_⟩;rw [rounds_succ];exact h2 hQ.then ha hI hF (xc6 h3 hn) fun a' w' σ hσ ha' hI'=>h4 hQ ha'.shrink hI' (hF.step hσ h1) hn fun a2 w2 τ hτ ha2 hI2=>kk a2 w2 τ (hσ.trans hτ h1 h3) ha2 hI2
  ·rename_i hne;obtain ⟨h1,h2⟩:=hf _ _ _ _ _ _ _ h;refine ⟨h1,fun {w0 w ρ ds a hi Q} hQ ha hI hF hn kk=>?_⟩;rw [rounds_succ];refine h2 hQ.then ha hI hF hn fun a' w' σ hσ ha' hI'=>?_;have:=kk a' w' σ hσ ha' hI'
   cases e with
   |normal=>exact (hne _ _ _ h).elim
   |exit i=>exact this
   |ret=>exact this
theorem a78 (hC:FOk P C) (hc:a0g P call) (pl:List (Nat×Pl)) (c:Code) (hB:q7 N pl c=true):a6C P c N (a2l C call pl c):=by
 induction c with
 |skip=>
  intro E H n e E' H' n' h
  cases h
  exact ⟨xc5 _,fun hQ ha hI hF hn k=>wp_skip (k _ _ _ (Stp.refl _ _ _) ha hI)⟩
 |region id ops draw=>
  intro E H n e E' H' n' h;replace hB:(ops.toList.all (a41 N) && (bif draw then (match g8 pl id with
   |some p=>Region.noSelect ops && (plB ops p).1 ops.size (Array.replicate ops.size false)
   |none=>true) else true))=true:=hB
  rw [xb7] at hB;obtain ⟨hd,hB⟩:=hB
  cases draw with
  |false=>
   replace h:(match a33 C call ops.toList ops.toList E H n with
    |.ok (E',H',n')=>Rs.ok (SX.normal,E',H',n')
    |.no p=>.no p)=.ok (e,E',H',n'):=h
   split at h
   ·rename_i E1 H1 n1 hr
    cases h
    obtain ⟨h1,_⟩:=a10 (Q:=fun _ _ _=>True) hC.ok hc hd hr;refine ⟨h1,fun {w0 w ρ ds a hi Q} hQ ha hI hF hn k=>?_⟩;obtain ⟨_,h2⟩:=a10 (Q:=Q) hC.ok hc hd hr;have:=wp_region_lit (id:=id) (l:=ops.toList) (h2 ha hI hF hn k)
    simpa using this
   ·cases h
  |true=>
   replace h:(match g8 pl id with
    |some p=>match xPl C call ops.toList p n 0 [] E H n with
     |.ok (E',H',n')=>Rs.ok (SX.normal,E',H',n')
     |.no p=>.no p
    | none => .no "plan") = .ok (e, E', H', n') := h
   split at h
   ·rename_i p hp;rw [hp] at hB;dsimp only [cond_true] at hB;rw [xb7] at hB
    split at h
    ·rename_i E1 H1 n1 hr
     cases h
     have hpl:=fun (Q:Exit->Act->World->Prop) (hQ:PQ Q)=>(b2t hC.ok hc hQ hB.1 hd p).1 _ _ _ _ _ _ _ _ _ _ _ hB.2 hr;refine ⟨(hpl (fun _ _ _=>True) (fun _ _ _ _ _ _=>trivial)).1,fun {w0 w ρ ds a hi Q} hQ ha hI hF hn k=>?_⟩;refine wp_region_any hC.mixed (a6u _ [] _ _ _ ((hpl Q hQ).2 (hi:=hi) (m0:=n) ⟨ha,hI.grow ⟨rfl,rfl,rfl,xc5 _,fun _ _ _=>rfl⟩,hF,fun j _ _ q h1 h2=>by simp at h1 h2;omega,xc5 _,by simp,EL.nil⟩ hn k))
    ·cases h
   ·cases h
 |seq x y ihx ihy=>
  intro E H n e E' H' n' h;replace hB:(q7 N pl x && q7 N pl y)=true:=hB;rw [xb7] at hB;replace h:(match a2l C call pl x E H n with
   |.ok (.normal,E',H',n')=>a2l C call pl y E' H' n'
   |r=>r)=.ok (e,E',H',n'):=h
  split at h
  ·rename_i E1 H1 n1 hr;obtain ⟨h1,h2⟩:=ihx hB.1 _ _ _ _ _ _ _ hr;obtain ⟨h3,h4⟩:=ihy hB.2 _ _ _ _ _ _ _ h;refine ⟨xc6 h1 h3,fun {w0 w ρ ds a hi Q} hQ ha hI hF hn k=>wp_seq ?_⟩;exact h2 hQ.then ha hI hF (xc6 h3 hn) fun a' w' σ hσ ha' hI'=>h4 hQ ha' hI' (hF.step hσ h1) hn fun a2 w2 τ hτ ha2 hI2=>k a2 w2 τ (hσ.trans hτ h1 h3) ha2 hI2
  ·rename_i hne;obtain ⟨h1,h2⟩:=ihx hB.1 _ _ _ _ _ _ _ h;refine ⟨h1,fun {w0 w ρ ds a hi Q} hQ ha hI hF hn k=>wp_seq ?_⟩;refine h2 hQ.then ha hI hF hn fun a' w' σ hσ ha' hI'=>?_;have:=k a' w' σ hσ ha' hI'
   cases e with
   |normal=>exact (hne _ _ _ h).elim
   |exit i=>exact this
   |ret=>exact this
 |cond o x y ihx ihy=>
  intro E H n e E' H' n' h;replace hB:(q7 N pl x && q7 N pl y)=true:=hB;rw [xb7] at hB;replace h:(match sEv E o with
   |some (.bool true)=>a2l C call pl x E H n
   |some (.bool false)=>a2l C call pl y E H n
   | _ => Rs.no "cond") = .ok (e, E', H', n') := h
  split at h
  ·rename_i ho;obtain ⟨h1,h2⟩:=ihx hB.1 _ _ _ _ _ _ _ h;refine ⟨h1,fun {w0 w ρ ds a hi Q} hQ ha hI hF hn k=>?_⟩;obtain ⟨u,hu,go⟩:=ha.ev ho;rw [VR.bool hu] at go;exact wp_cond_split (ha.full.ev go) (fun _=>h2 hQ ha hI hF hn k) (fun e=>by cases e)
  ·rename_i ho;obtain ⟨h1,h2⟩:=ihy hB.2 _ _ _ _ _ _ _ h;refine ⟨h1,fun {w0 w ρ ds a hi Q} hQ ha hI hF hn k=>?_⟩;obtain ⟨u,hu,go⟩:=ha.ev ho;rw [VR.bool hu] at go;exact wp_cond_split (ha.full.ev go) (fun e=>by cases e) (fun _=>h2 hQ ha hI hF hn k)
  ·cases h
 |block i x ih=>
  intro E H n e E' H' n' h;replace hB:q7 N pl x=true:=hB;replace h:(match a2l C call pl x E H n with
   |.ok (.exit j,E',H',n')=>bif Nat.beq j i then Rs.ok (SX.normal,E',H',n') else Rs.ok (SX.exit j,E',H',n')
   |r=>r)=.ok (e,E',H',n'):=h
  split at h
  ·rename_i j E1 H1 n1 hr;obtain ⟨h1,h2⟩:=ih hB _ _ _ _ _ _ _ hr
   cases hj:Nat.beq j i with
   |true=>
    rw [hj] at h
    cases h
    obtain rfl:=xa9 hj;refine ⟨h1,fun {w0 w ρ ds a hi Q} hQ ha hI hF hn k=>wp_block (h2 hQ.block ha hI hF hn fun a' w' σ hσ ha' hI'=>?_)⟩;show if j=j then _ else _;rw [xd8 rfl];exact k a' w' σ hσ ha' hI'
   |false=>
    rw [hj] at h
    cases h
    have hne:j≠i:=fun e=>by subst e;rw [xg9] at hj;cases hj
    refine ⟨h1,fun {w0 w ρ ds a hi Q} hQ ha hI hF hn k=>wp_block (h2 hQ.block ha hI hF hn fun a' w' σ hσ ha' hI'=>?_)⟩;show if j=i then _ else _;rw [xd9 hne];exact k a' w' σ hσ ha' hI'
  ·rename_i hne;obtain ⟨h1,h2⟩:=ih hB _ _ _ _ _ _ _ h;refine ⟨h1,fun {w0 w ρ ds a hi Q} hQ ha hI hF hn k=>wp_block (h2 hQ.block ha hI hF hn fun a' w' σ hσ ha' hI'=>?_)⟩;have:=k a' w' σ hσ ha' hI'
   cases e with
   |normal=>exact this
   |exit j=>exact (hne _ _ _ _ h).elim
   |ret=>exact this
 |loop x ih=>
  intro E H n e E' H' n' h;replace hB:q7 N pl x=true:=hB;replace h:a6J (a2l C call pl x) a8Q E H n=.ok (e,E',H',n'):=h;generalize a8Q=kk at h;obtain ⟨h1,h2⟩:=a9z (ih hB) kk _ _ _ _ _ _ _ h;exact ⟨h1,fun hQ ha hI hF hn k=>wp_loop_rounds kk (h2 hQ ha hI hF hn k)⟩
 |rangeFunc f ps x y _ _=>intro E H n e E' H' n' h;cases h
 |exit i=>
  intro E H n e E' H' n' h
  cases h
  exact ⟨xc5 _,fun hQ ha hI hF hn k=>wp_exit (k _ _ _ (Stp.refl _ _ _) ha hI)⟩
 |scope x _=>intro E H n e E' H' n' h;cases h
 |label l=>intro E H n e E' H' n' h;cases h
 |goto l=>intro E H n e E' H' n' h;cases h
 |ret=>
  intro E H n e E' H' n' h
  cases h
  exact ⟨xc5 _,fun hQ ha hI hF hn k=>wp_ret (k _ _ _ (Stp.refl _ _ _) ha hI)⟩
 |refuse s=>intro E H n e E' H' n' h;cases h
theorem a4u (hT:TOk P C.T) (ha:HasR ρ N ds a E) (hI:Inv P w0 ρ H w):∀ {rs:List ResultVar} {vs:List Value},a7m C.T E H rs=some vs->∃ us,LR ρ vs us/\ResL P (a0d a) w rs us
 |[],vs,h=>by cases h;exact ⟨[],LR.nil,ResL.nil⟩
 |.tmp t::r,vs,h=>by
  unfold a7m at h
  split at h
  ·rename_i v vs' h1 h2
   cases h
   obtain ⟨u,hu,hat⟩:=ha.at_ t v h1;obtain ⟨us,h3,h4⟩:=a4u hT ha hI h2;exact ⟨u::us,LR.cons hu h3,ResL.tmp (a2b hat) h4⟩
  ·cases h
 |.cell p t::r,vs,h=>by
  unfold a7m at h
  split at h
  ·rename_i pv hp
   split at h
   ·rename_i v vs' h1 h2
    cases h
    obtain ⟨p',hp',hat⟩:=ha.at_ p pv hp;obtain ⟨b,o,u,rfl,hu,hl⟩:=a4h hT hI h1 hp';obtain ⟨us,h3,h4⟩:=a4u hT ha hI h2;exact ⟨u::us,LR.cons hu h3,ResL.cell (a2b hat) hl h4⟩
   ·cases h
  ·cases h
theorem VR.pack {vs us:List Value} (h:LR ρ vs us):VR ρ (a1M vs) (a1M us):=by
 match vs,us,h with
 |[],us,h=>rw [LR.nil_inv h];exact VR.mkTup LR.nil
 |[v],us,h=>
  obtain ⟨u,r,rfl,h1,h2⟩:=LR.inv h;rw [LR.nil_inv h2];exact h1
 |v::v2::r,us,h=>
  obtain ⟨u,r',rfl,h1,h2⟩:=LR.inv h;obtain ⟨u2,r2,rfl,h3,h4⟩:=LR.inv h2;exact VR.mkTup h
theorem a2Y (m e:Nat):∀ (H:SH) {i:Nat} {s:SA},g8 (a7h m e H) i=some s->g8 H i=some s/\inR m e i=true
 |[],i,s,h=>by cases h
 |(k,t)::r,i,s,h=>by
  replace h:g8 (@Bool.rec (fun _=>SH) (a7h m e r) ((k,t)::a7h m e r) (inR m e k)) i=some s:=h
  cases hb:inR m e k with
  |true=>
   rw [hb] at h;rw [j3] at h |-;by_cases hk:k=i
   ·rw [xd8 hk] at h |-;exact ⟨h,by rw [<- hk];exact hb⟩
   ·rw [xd9 hk] at h |-;exact a2Y m e r h
  |false=>
   rw [hb] at h;obtain ⟨h1,h2⟩:=a2Y m e r h;have hk:k≠i:=fun e2=>by
    subst e2;rw [hb] at h2
    cases h2
   rw [j3,xd9 hk];exact ⟨h1,h2⟩
theorem b2j {m e:Nat} {v:Value} {i:Nat} {s:SA} (h:g8 (gc m e v H) i=some s):g8 H i=some s:=by
 unfold gc at h
 cases hb:(Nat.blt 20 (b0W m e H) && (a7p 1000 m e v && (a7h m e H).all fun p=>b1c m e p.2)) with
 |true=>rw [hb] at h;exact (a2Y m e H h).1
 |false=>rw [hb] at h;exact h
theorem a2T:∀ {vs us:List Value} {k t:Nat} {v:Value},LR ρ vs us->g8 (a2m k vs) t=some v->k<=t/\∃ u,us[t - k]?=some u/\VR ρ v u
 |[],us,k,t,v,_,h=>by cases h
 |x::vs,us,k,t,v,hr,h=>by
  obtain ⟨u,r,rfl,h1,h2⟩:=LR.inv hr;replace h:g8 ((k,x)::a2m (k + 1) vs) t=some v:=h;rw [j3] at h;by_cases e:k=t
  ·rw [xd8 e] at h
   cases h
   subst e;exact ⟨xc5 _,u,by simp,h1⟩
  ·rw [xd9 e] at h;obtain ⟨h3,u',h4,h5⟩:=a2T h2 h;exact ⟨by omega,u',by rw [show t - k=(t - (k + 1)) + 1 from by omega];simpa using h4,h5⟩
theorem a87 (hC:FOk P C) (hc:a0g P call):a0g P (a7S C call):=by
 intro g vs H n v H' n' h;unfold a7S at h
 split at h
 ·rename_i f hf
  split at h
  ·rename_i u hu
   cases h
   refine ⟨xc5 _,fun {w0 w ρ hi us} hr hI hF hn=>?_⟩;obtain ⟨h1,h2,h3⟩:=hC.M g f hf vs _ hu;have e:us=vs:=by
    have:=h1 ρ;unfold LR at hr this;rw [hr] at this
    cases this
    rfl
   rw [e];exact (h3 w).mono fun v' w' ⟨e1,hS⟩=>⟨ρ,Stp.refl _ _ _,by rw [e1];exact h2 ρ,hI.grow (St.grown0 hS)⟩
  ·cases h
 ·split at h
  ·rename_i fn pl hf;obtain ⟨hok,c',hb',hB⟩:=hC.F.get hf
   split at h
   ·rename_i c hb;obtain rfl:c=c':=by rw [hb] at hb';exact Option.some.inj hb'
    cases hl:Nat.ble vs.length fn.ntmps with
    |false=>rw [hl] at h;cases h
    |true=>
    rw [hl] at h;dsimp only [cond_true] at h
    split at h
    ·cases h
    ·rename_i e E1 H1 n1 hne hr
     split at h
     ·rename_i rs hrs
      cases h
      obtain ⟨h1,h2⟩:=a78 hC hc pl c hB _ _ _ _ _ _ _ hr;refine ⟨h1,fun {w0 w ρ hi us} hus hI hF hn=>⟨⟨fn,hok⟩,?_⟩⟩;refine calls_of_wp hok.at_ hb (h2 (fun c a w d v hq=>by cases d <;> exact hq) ⟨?_,rfl,fun t v ht=>?_⟩ hI hF hn fun a' w' σ hσ ha' hI'=>?_)
      ·have:=xe8 hl;have:=hus.len;simp;omega
      ·obtain ⟨_,u,hu,hv⟩:=a2T hus ht;rw [Nat.sub_zero] at hu;have hlt:=j8 hu;exact ⟨u,hv,by rw [Array.getElem?_append_left (by simpa using hlt)];simpa using hu⟩
      ·obtain ⟨us',h3,h4⟩:=a4u hC.ok.T ha' hI' hrs;have q:=b07 (P:=P) (fn:=fn) (Φ:=fun u w'=>∃ σ,Stp ρ σ n n'/\VR σ (a1M rs) u/\Inv P w0 σ (gc n n' (a1M rs) H1) w') rfl h4 rfl ⟨σ,hσ,VR.pack h3,hI'.sub fun i s hs=>b2j hs⟩ ha'.full
       cases e with
       |normal=>exact q
       |exit i=>exact (hne _ rfl).elim
       |ret=>exact q
     ·cases h
    ·cases h
   ·cases h
  ·cases h
theorem b0N (hC:FOk P C) (k:Nat):a0g P (b0Q C k):=by
 induction k with
 |zero=>intro g vs H n v H' n' h;cases h
 |succ k ih=>exact a87 hC ih
noncomputable def xIs (r:Rs (Value×SH×Nat)) (v:Value):Bool:=match r with
 |.ok (u,_,_)=>vEq 1000 u v
 |.no _=>false
theorem b2b (hC:FOk P C) {g:Nat} {vs:List Value} {v:Value} (k:Nat) (h:xIs (b0Q C k g vs [] 0) v=true) (hvs:vs.all cOk=true) (hv:∀ ρ,VR ρ v v) (w:World):Fn P g vs w (RBf v w):=by
 unfold xIs at h
 split at h
 ·rename_i u H n hr;obtain rfl:=a1D _ h;obtain ⟨h1,h2⟩:=b0N hC k _ _ _ _ _ _ _ hr;refine (h2 (w0:=w) (w:=w) (ρ:=fun _=>none) (hi:=n) (LR.cOks hvs) ⟨⟨rfl,rfl,rfl,xc5 _,fun _ _=>rfl⟩,(fun i s h=>by cases h),(fun i j s t x y h=>by cases h)⟩ (fun _ _ _=>rfl) (xc5 _)).mono fun u' w' ⟨σ,hσ,hu,hI⟩=>?_;exact ⟨VR.fn (hv σ) hu,St.of_below hI.below⟩
 ·cases h
end
theorem a7F {α:Type} {l:List (Nat×α)} {i:Nat} {x:α} (h:g8 l i=some x):(i,x) ∈ l:=by
 induction l with
 |nil=>cases h
 |cons p r ih=>
  have h2:(@Bool.rec (fun _=>Option α) (g8 r i) (some p.2) (Nat.beq p.1 i))=some x:=h
  cases hb:Nat.beq p.1 i with
  |true=>
   rw [hb] at h2
   cases h2
   rw [<- xa9 hb];exact xb5
  |false=>
   rw [hb] at h2;exact xb6 _ (ih h2)
theorem a8a {l:List (String×Nat)} {i:String} {x:Nat} (h:a94 l i=some x):(i,x) ∈ l:=by
 induction l with
 |nil=>cases h
 |cons p r ih=>
  have h2:(@Bool.rec (fun _=>Option Nat) (a94 r i) (some p.2) (decide (p.1=i)))=some x:=h
  cases hb:decide (p.1=i) with
  |true=>
   rw [hb] at h2
   cases h2
   rw [<- xg4 hb];exact xb5
  |false=>
   rw [hb] at h2;exact xb6 _ (ih h2)
theorem b1V {P:Program} {I:List (Nat×List (String×Nat))} (h:I.all (fun p=>P.concrete p.1 && p.2.all fun q=>a9e P p.1 q.1 q.2)=true):IOk P I:=fun t ms ht=>by
 have h1:=xb8.1 h _ (a7F ht);rw [xb7] at h1;exact ⟨h1.1,fun name g hg=>xb8.1 h1.2 _ (a8a hg)⟩
def cxQ:EqT:=[(84,[1,0,2,2]),(88,[1,0]),(99,[0,0])]
noncomputable def b2n:List Value->Option Value
 |[.string ⟨⟨s⟩⟩,.int .i64 off,.string ⟨⟨t⟩⟩]=>ifB (inB off t.length s.length && Nat.ble s.length 100000) (some (.tuple #[.string ⟨(splice s off.toNat t).toArray⟩,.int .i64 0])) none
 |_=>none
noncomputable def cxM:List (Nat×(List Value->Option Value)):=[(110,b2n)]
theorem b2H {ρ:Ren} {z:Value} {l:List Value} (h:celL z=some l) (hl:l.all cOk=true):VR ρ z z:=by
 cases z
 all_goals first
  |(cases h;exact VR.mkAgg (LR.cOks hl);done)
  |(cases h;exact VR.cOk (by simpa using hl);done)
  |(cases h;done)
def zOk (z:Value):Bool:=match celL z with
 |some l=>l.all cOk
 |none=>false
def ForA {α:Type} (p:α->Prop):List α->Prop
 |[]=>True
 |x::r=>p x/\ForA p r
theorem ForA.nil {α:Type} {p:α->Prop}:ForA p []:=trivial
theorem ForA.cons {α:Type} {p:α->Prop} {x:α} {l:List α} (h:p x) (h':ForA p l):ForA p (x::l):=⟨h,h'⟩
theorem ForA.mem {α:Type} {p:α->Prop}:∀ {l:List α},ForA p l->∀ x ∈ l,p x
 |[],_,x,h=>by cases h
 |y::r,⟨h1,h2⟩,x,h=>by
  rcases xb4.1 h with rfl|h
  ·exact h1
  ·exact ForA.mem h2 x h
theorem a99 {P:Program} {ez:List (Nat×Value)} (h:ForA (fun p=>∃ Kt Et,P.underlying p.1=some (.map Kt Et)/\(P.info? Et).bind (·.zero)=some p.2/\zOk p.2=true) ez):b0k P ez:=fun t z hg Kt Et hu=>by
 obtain ⟨K,E,h1,h2,h3⟩:=h.mem _ (a1b hg);dsimp only at h1 h2 h3;rw [hu] at h1
 cases h1
 refine ⟨h2,fun ρ=>?_⟩;unfold zOk at h3
 split at h3
 ·rename_i l hl;exact b2H hl h3
 ·cases h3
theorem b2o:∀ g f,g8 cxM g=some f->∀ vs v,f vs=some v->(∀ ρ,LR ρ vs vs)/\(∀ ρ,VR ρ v v)/\∀ w,Fn Tryz.prog g vs w (RBf v w):=by
 intro g f h vs v hv;have hm:=a1b h;unfold cxM at hm;rw [xh0] at hm
 cases hm
 unfold b2n at hv
 split at hv
 ·rename_i s off t;obtain ⟨h1,h2⟩:=d6 hv
  cases h2
  rw [xb7] at h1;have h3:=xe8 h1.2;refine ⟨fun ρ=>LR.cOks rfl,fun ρ=>VR.mkTup (LR.cOks rfl),fun w=>?_⟩;have:=a8X s t off w (by unfold maxLen;omega);rw [xd8 h1.1,xd8 h1.1] at this;exact this
 ·cases hv
theorem a29 {l l':List Value} {b:Bool} (h:sEqS [] l l'=some b):l=[]/\l'=[]/\b=true:=by
 cases l <;> cases l' <;> simp_all [sEqS]
theorem a4d {s:List Nat} {l l':List Value} {b:Bool} (h:sEqS (0::s) l l'=some b):∃ x y m m' c,l=.int .i64 x::m/\l'=.int .i64 y::m'/\sEqS s m m'=some c/\b=(decide (x=y) && c):=by
 unfold sEqS at h
 split at h
 all_goals first
  |(cases h;done)
  |(exfalso;simp_all;done)
  |(obtain ⟨c,hc,rfl⟩:=xh1.1 h;simp_all;done)
  |(obtain ⟨c,hc,rfl⟩:=xh1.1 h;rename_i e;cases e;exact ⟨_,_,_,_,c,rfl,rfl,hc,rfl⟩)
theorem a9m {s:List Nat} {l l':List Value} {b:Bool} (h:sEqS (1::s) l l'=some b):∃ x y m m' c,l=.string ⟨⟨x⟩⟩::m/\l'=.string ⟨⟨y⟩⟩::m'/\sEqS s m m'=some c/\b=(decide (x=y) && c):=by
 unfold sEqS at h
 split at h
 all_goals first
  |(cases h;done)
  |(exfalso;simp_all;done)
  |(obtain ⟨c,hc,rfl⟩:=xh1.1 h;simp_all;done)
  |(obtain ⟨c,hc,rfl⟩:=xh1.1 h;rename_i e;cases e;exact ⟨_,_,_,_,c,rfl,rfl,hc,rfl⟩)
theorem a8c {s:List Nat} {l l':List Value} {b:Bool} (h:sEqS (2::s) l l'=some b):∃ x y m m' c,l=.bool x::m/\l'=.bool y::m'/\sEqS s m m'=some c/\b=(decide (x=y) && c):=by
 unfold sEqS at h
 split at h
 all_goals first
  |(cases h;done)
  |(exfalso;simp_all;done)
  |(obtain ⟨c,hc,rfl⟩:=xh1.1 h;simp_all;done)
  |(obtain ⟨c,hc,rfl⟩:=xh1.1 h;rename_i e;cases e;exact ⟨_,_,_,_,c,rfl,rfl,hc,rfl⟩)
theorem b1m:QOk Tryz.prog cxQ:=fun t s h l l' b hb=>by
 have hm:=a1b h;unfold cxQ at hm;simp only [xb4,List.not_mem_nil,or_false,Prod.mk.injEq] at hm;rcases hm with ⟨rfl,rfl⟩|⟨rfl,rfl⟩|⟨rfl,rfl⟩
 ·obtain ⟨x1,y1,m1,n1,c1,rfl,rfl,hb1,rfl⟩:=a9m hb;obtain ⟨x2,y2,m2,n2,c2,rfl,rfl,hb2,rfl⟩:=a4d hb1;obtain ⟨x3,y3,m3,n3,c3,rfl,rfl,hb3,rfl⟩:=a8c hb2;obtain ⟨x4,y4,m4,n4,c4,rfl,rfl,hb4,rfl⟩:=a8c hb3;obtain ⟨rfl,rfl,rfl⟩:=a29 hb4;refine ⟨fun w=>?_,by kernel_rfl⟩;simp [go_sem]
  repeat' split
  all_goals simp_all
 ·obtain ⟨x1,y1,m1,n1,c1,rfl,rfl,hb1,rfl⟩:=a9m hb;obtain ⟨x2,y2,m2,n2,c2,rfl,rfl,hb2,rfl⟩:=a4d hb1;obtain ⟨rfl,rfl,rfl⟩:=a29 hb2;refine ⟨fun w=>?_,by kernel_rfl⟩;simp [go_sem]
  repeat' split
  all_goals simp_all
 ·obtain ⟨x1,y1,m1,n1,c1,rfl,rfl,hb1,rfl⟩:=a4d hb;obtain ⟨x2,y2,m2,n2,c2,rfl,rfl,hb2,rfl⟩:=a4d hb1;obtain ⟨rfl,rfl,rfl⟩:=a29 hb2;refine ⟨fun w=>?_,by kernel_rfl⟩;simp [go_sem]
  repeat' split
  all_goals simp_all
def b2B (op a b c imm:Int):Value:=.agg #[.int .i64 op,.int .i64 a,.int .i64 b,.int .i64 c,.int .i64 imm]
attribute [go_sem] a4M
end Go.Proofs.YtejnpppejalhfacGreat
namespace Go.Proofs.YtejnpppejalhfacGreat
set_option maxRecDepth 100000
set_option maxHeartbeats 8000000
open Go.RowKit Go.Sort Go.MapKept
def sh (a b c:Bool):Value:=.agg #[.bool a,.bool b,.bool c]
def shapeL:List (Value×Value):=[(.int .i64 1,sh true false false),(.int .i64 11,sh true false false),(.int .i64 15,sh true false false),(.int .i64 12,sh false false false),(.int .i64 16,sh false false false),
 (.int .i64 2,sh true true true),(.int .i64 3,sh true true true),(.int .i64 4,sh true true true),(.int .i64 5,sh true true true),(.int .i64 6,sh true true true),(.int .i64 7,sh true true true),
 (.int .i64 8,sh true true false),(.int .i64 9,sh true true false),(.int .i64 10,sh true true false),(.int .i64 13,sh true true false),(.int .i64 14,sh true true false)]
def a6g (w:World) (e:Ending) (w':World):Prop:=∃ r,e=.returned (.map (some r))/\Below w.heap.size w w'/\w.heap.size<=r/\MapAt (.int .i64) w' r shapeL
theorem a0j (w:World):Calls Tryz.prog 220 #[] w (a6g w):=by
 have hsz:(Tryz.prog.info? 334).map (·.size)=some 3:=by kernel_rfl
 have Hsz:=hid hsz;clear hsz
 go_enter Tryz.func220,Tryz.ntmps220
 go_wp2_with (first|(with_reducible refine n7 3 ?_);refine a2V (.int .i64) w.heap.size w ?cb ?cs ?_;(case cb=>exact (by repeat (first|with_reducible exact Below.refl _ _|with_reducible refine Below.alloc ?_ (by simp <;> omega) _)));(case cs=>simp);intro w1 hM hb hz hg;have hT:=(hg w.heap.size (by simp)).trans (heap_alloc_new w _);have hM:MapAt (.int .i64) w1 (w.heap.size + 1) (shapeL.take 0):=(by simpa using hM);clear hg hz|(with_reducible refine f6 1 ?_);refine f5 (d:=.int .i64) Tryz.underlying336 Tryz.underlying3 (w.heap.size + 1) (.int .i64 1) (sh true false false) (shapeL.take 0) rfl rfl rfl hM (by simp [IsKey]) (by simp [shapeL]) w.heap.size w hb (by omega) ?_;intro w1 hM hb hz hg;have hT:=(hg w.heap.size (by omega)).trans hT;clear hg hz;have hM:MapAt (.int .i64) w1 (w.heap.size + 1) (shapeL.take 1):=hM|(with_reducible refine f6 11 ?_);refine f5 (d:=.int .i64) Tryz.underlying336 Tryz.underlying3 (w.heap.size + 1) (.int .i64 11) (sh true false false) (shapeL.take 1) rfl rfl rfl hM (by simp [IsKey]) (by simp [shapeL]) w.heap.size w hb (by omega) ?_;intro w1 hM hb hz hg;have hT:=(hg w.heap.size (by omega)).trans hT;clear hg hz;have hM:MapAt (.int .i64) w1 (w.heap.size + 1) (shapeL.take 2):=hM|(with_reducible refine f6 15 ?_);refine f5 (d:=.int .i64) Tryz.underlying336 Tryz.underlying3 (w.heap.size + 1) (.int .i64 15) (sh true false false) (shapeL.take 2) rfl rfl rfl hM (by simp [IsKey]) (by simp [shapeL]) w.heap.size w hb (by omega) ?_;intro w1 hM hb hz hg;have hT:=(hg w.heap.size (by omega)).trans hT;clear hg hz;have hM:MapAt (.int .i64) w1 (w.heap.size + 1) (shapeL.take 3):=hM|(with_reducible refine f6 12 ?_);refine f5 (d:=.int .i64) Tryz.underlying336 Tryz.underlying3 (w.heap.size + 1) (.int .i64 12) (sh false false false) (shapeL.take 3) rfl rfl rfl hM (by simp [IsKey]) (by simp [shapeL]) w.heap.size w hb (by omega) ?_;intro w1 hM hb hz hg;have hT:=(hg w.heap.size (by omega)).trans hT;clear hg hz;have hM:MapAt (.int .i64) w1 (w.heap.size + 1) (shapeL.take 4):=hM|(with_reducible refine f6 16 ?_);refine f5 (d:=.int .i64) Tryz.underlying336 Tryz.underlying3 (w.heap.size + 1) (.int .i64 16) (sh false false false) (shapeL.take 4) rfl rfl rfl hM (by simp [IsKey]) (by simp [shapeL]) w.heap.size w hb (by omega) ?_;intro w1 hM hb hz hg;have hT:=(hg w.heap.size (by omega)).trans hT;clear hg hz;have hM:MapAt (.int .i64) w1 (w.heap.size + 1) (shapeL.take 5):=hM|(with_reducible refine f6 2 ?_);refine f5 (d:=.int .i64) Tryz.underlying336 Tryz.underlying3 (w.heap.size + 1) (.int .i64 2) (sh true true true) (shapeL.take 5) rfl rfl rfl hM (by simp [IsKey]) (by simp [shapeL]) w.heap.size w hb (by omega) ?_;intro w1 hM hb hz hg;have hT:=(hg w.heap.size (by omega)).trans hT;clear hg hz;have hM:MapAt (.int .i64) w1 (w.heap.size + 1) (shapeL.take 6):=hM|(with_reducible refine f6 3 ?_);refine f5 (d:=.int .i64) Tryz.underlying336 Tryz.underlying3 (w.heap.size + 1) (.int .i64 3) (sh true true true) (shapeL.take 6) rfl rfl rfl hM (by simp [IsKey]) (by simp [shapeL]) w.heap.size w hb (by omega) ?_;intro w1 hM hb hz hg;have hT:=(hg w.heap.size (by omega)).trans hT;clear hg hz;have hM:MapAt (.int .i64) w1 (w.heap.size + 1) (shapeL.take 7):=hM|(with_reducible refine f6 4 ?_);refine f5 (d:=.int .i64) Tryz.underlying336 Tryz.underlying3 (w.heap.size + 1) (.int .i64 4) (sh true true true) (shapeL.take 7) rfl rfl rfl hM (by simp [IsKey]) (by simp [shapeL]) w.heap.size w hb (by omega) ?_;intro w1 hM hb hz hg;have hT:=(hg w.heap.size (by omega)).trans hT;clear hg hz;have hM:MapAt (.int .i64) w1 (w.heap.size + 1) (shapeL.take 8):=hM|(with_reducible refine f6 5 ?_);refine f5 (d:=.int .i64) Tryz.underlying336 Tryz.underlying3 (w.heap.size + 1) (.int .i64 5) (sh true true true) (shapeL.take 8) rfl rfl rfl hM (by simp [IsKey]) (by simp [shapeL]) w.heap.size w hb (by omega) ?_;intro w1 hM hb hz hg;have hT:=(hg w.heap.size (by omega)).trans hT;clear hg hz;have hM:MapAt (.int .i64) w1 (w.heap.size + 1) (shapeL.take 9):=hM|(with_reducible refine f6 6 ?_);refine f5 (d:=.int .i64) Tryz.underlying336 Tryz.underlying3 (w.heap.size + 1) (.int .i64 6) (sh true true true) (shapeL.take 9) rfl rfl rfl hM (by simp [IsKey]) (by simp [shapeL]) w.heap.size w hb (by omega) ?_;intro w1 hM hb hz hg;have hT:=(hg w.heap.size (by omega)).trans hT;clear hg hz;have hM:MapAt (.int .i64) w1 (w.heap.size + 1) (shapeL.take 10):=hM|(with_reducible refine f6 7 ?_);refine f5 (d:=.int .i64) Tryz.underlying336 Tryz.underlying3 (w.heap.size + 1) (.int .i64 7) (sh true true true) (shapeL.take 10) rfl rfl rfl hM (by simp [IsKey]) (by simp [shapeL]) w.heap.size w hb (by omega) ?_;intro w1 hM hb hz hg;have hT:=(hg w.heap.size (by omega)).trans hT;clear hg hz;have hM:MapAt (.int .i64) w1 (w.heap.size + 1) (shapeL.take 11):=hM|(with_reducible refine f6 8 ?_);refine f5 (d:=.int .i64) Tryz.underlying336 Tryz.underlying3 (w.heap.size + 1) (.int .i64 8) (sh true true false) (shapeL.take 11) rfl rfl rfl hM (by simp [IsKey]) (by simp [shapeL]) w.heap.size w hb (by omega) ?_;intro w1 hM hb hz hg;have hT:=(hg w.heap.size (by omega)).trans hT;clear hg hz;have hM:MapAt (.int .i64) w1 (w.heap.size + 1) (shapeL.take 12):=hM|(with_reducible refine f6 9 ?_);refine f5 (d:=.int .i64) Tryz.underlying336 Tryz.underlying3 (w.heap.size + 1) (.int .i64 9) (sh true true false) (shapeL.take 12) rfl rfl rfl hM (by simp [IsKey]) (by simp [shapeL]) w.heap.size w hb (by omega) ?_;intro w1 hM hb hz hg;have hT:=(hg w.heap.size (by omega)).trans hT;clear hg hz;have hM:MapAt (.int .i64) w1 (w.heap.size + 1) (shapeL.take 13):=hM|(with_reducible refine f6 10 ?_);refine f5 (d:=.int .i64) Tryz.underlying336 Tryz.underlying3 (w.heap.size + 1) (.int .i64 10) (sh true true false) (shapeL.take 13) rfl rfl rfl hM (by simp [IsKey]) (by simp [shapeL]) w.heap.size w hb (by omega) ?_;intro w1 hM hb hz hg;have hT:=(hg w.heap.size (by omega)).trans hT;clear hg hz;have hM:MapAt (.int .i64) w1 (w.heap.size + 1) (shapeL.take 14):=hM|(with_reducible refine f6 13 ?_);refine f5 (d:=.int .i64) Tryz.underlying336 Tryz.underlying3 (w.heap.size + 1) (.int .i64 13) (sh true true false) (shapeL.take 14) rfl rfl rfl hM (by simp [IsKey]) (by simp [shapeL]) w.heap.size w hb (by omega) ?_;intro w1 hM hb hz hg;have hT:=(hg w.heap.size (by omega)).trans hT;clear hg hz;have hM:MapAt (.int .i64) w1 (w.heap.size + 1) (shapeL.take 15):=hM|(with_reducible refine f6 14 ?_);refine f5 (d:=.int .i64) Tryz.underlying336 Tryz.underlying3 (w.heap.size + 1) (.int .i64 14) (sh true true false) (shapeL.take 15) rfl rfl rfl hM (by simp [IsKey]) (by simp [shapeL]) w.heap.size w hb (by omega) ?_;intro w1 hM hb hz hg;have hT:=(hg w.heap.size (by omega)).trans hT;clear hg hz;have hM:MapAt (.int .i64) w1 (w.heap.size + 1) (shapeL.take 16):=hM|(first|with_reducible refine n7 9 ?_|with_reducible refine n7 10 ?_|with_reducible refine n7 11 ?_|with_reducible refine n7 12 ?_|with_reducible refine n7 13 ?_|with_reducible refine n7 14 ?_);refine wpList_load_row rfl 334 (.tmp 1) rfl w.heap.size rfl _ _ _ _ hT Tryz.underlying334 rfl Hsz.out ?_)
 go_ret
 exact ⟨w.heap.size + 1,rfl,hb,by omega,hM⟩
def b1T (op:Int):Prop:=1<=op/\op<=16/\op≠12/\op≠16
def b1W (op:Int):Prop:=(2<=op/\op<=10)\/op=13\/op=14
def b2u (op:Int):Prop:=2<=op/\op<=7
def b0L (op a b c imm:Int):Prop:=op < 1\/16 < op\/(b1T op/\8<=a)\/(b1W op/\8<=b)\/(b2u op/\8<=c) \/
 ((op=9\/op=10)/\c≠1/\c≠2/\c≠4/\c≠8)\/(op=16/\(imm < 1\/6 < imm))
def a5M (op:Int) (sa sb sc ok:Bool):Prop:=∀ (w:World) (r:Nat),MapAt (.int .i64) w r shapeL ->
 (Instr.lookup 336 (.map (some r)) (.int .i64 op) true).run Tryz.prog w=.ok (.tuple #[.agg #[.bool sa,.bool sb,.bool sc],.bool ok]) w
theorem a1i (op:Int) (sa sb sc:Bool) (h:(Value.int .i64 op,sh sa sb sc) ∈ shapeL):a5M op sa sb sc true:=fun _ _ hM=>
 a1d (P:=Tryz.prog) Tryz.underlying336 Tryz.underlying3 hM (by simp [IsKey]) h true
theorem a5R (op:Int) (h:op < 1\/16 < op):a5M op false false false false:=fun _ _ hM=>
 a0P (P:=Tryz.prog) Tryz.underlying336 Tryz.underlying3 hM (by simp [IsKey]) (by intro v;simp [shapeL];omega) (by kernel_rfl) true
theorem a9l (op:Int):(a5M op false false false false/\(op < 1\/16 < op))\/(a5M op true false false true/\(op=1\/op=11\/op=15))\/(a5M op false false false true/\(op=12\/op=16)) \/
  (a5M op true true true true/\2<=op/\op<=7)\/(a5M op true true false true/\(op=8\/op=9\/op=10\/op=13\/op=14)):=by
 rcases show (op < 1\/16 < op)\/(op=1\/op=11\/op=15)\/(op=12\/op=16)\/(op=2\/op=3\/op=4\/op=5\/op=6\/op=7)\/(op=8\/op=9\/op=10\/op=13\/op=14) from by omega with h|h|h|h|h
 ·exact .inl ⟨a5R op h,h⟩
 ·exact .inr (.inl ⟨a1i op _ _ _ (by rcases h with rfl|rfl|rfl <;> simp [shapeL]),h⟩)
 ·exact .inr (.inr (.inl ⟨a1i op _ _ _ (by rcases h with rfl|rfl <;> simp [shapeL]),h⟩))
 ·exact .inr (.inr (.inr (.inl ⟨a1i op _ _ _ (by rcases h with rfl|rfl|rfl|rfl|rfl|rfl <;> simp [shapeL]),by omega,by omega⟩)))
 ·exact .inr (.inr (.inr (.inr ⟨a1i op _ _ _ (by rcases h with rfl|rfl|rfl|rfl|rfl <;> simp [shapeL]),h⟩)))
def a2K (sa sb sc ok:Bool) (op a b c imm:Int) (w:World) (v3 v4:Value) (wx:World):Prop :=
 ∃ g,v3=.pointer (some ⟨g,0,none⟩)/\v4=.bool ok/\Below w.heap.size w wx/\wx.cell? ⟨g,0,none⟩=some (.bool sa)/\wx.cell? ⟨g,1,none⟩=some (.bool sb)/\wx.cell? ⟨g,2,none⟩=some (.bool sc) /\
  wx.cell? ⟨w.heap.size,0,none⟩=some (.int .i64 op)/\wx.cell? ⟨w.heap.size,1,none⟩=some (.int .i64 a)/\wx.cell? ⟨w.heap.size,2,none⟩=some (.int .i64 b)/\wx.cell? ⟨w.heap.size,3,none⟩=some (.int .i64 c)/\wx.cell? ⟨w.heap.size,4,none⟩=some (.int .i64 imm)
theorem b0z (op a b c imm:Int) (w:World) (res:Bool) (h:res=true ↔ b0L op a b c imm) :
  Calls Tryz.prog 203 #[b2B op a b c imm] w (RB (.bool res) w):=by
 unfold b2B;unfold b0L b1T b1W b2u at h;rcases a9l op with ⟨hl,hop⟩|⟨hl,hop⟩|⟨hl,hop⟩|⟨hl,hop1,hop2⟩|⟨hl,hop⟩
 ·have hl:=hid hl;have H:=hid h;clear h;have HO:=hid hop;clear hop
  go_enter Tryz.func203,Tryz.ntmps203
  go_upto_region 1 with fail
  go_cut [3,4] (fun v3 v4 wx=>a2K false false false false op a b c imm w v3 v4 wx)
  case first=>
   go_region_with ((go_at_call 220;refine (a0j _).mono ?_;rintro e w1 ⟨r,rfl,hb1,hr1,hM⟩;have HL:=hl.out _ _ hM;have HL2:=fun o=>hl.out _ _ (hM.grown ((Below.refl _ w1).alloc (xc5 _) o));clear hM;obtain ⟨hc1,hf1⟩:=a4G hb1;have hz1:w.heap.size < w1.heap.size:=by (have:=hb1.size;simp at this;omega)))
   all_goals
    go_wp2_with fail
    go_meet
    exact ⟨_,rfl,rfl,(by repeat (first|with_reducible exact Below.refl _ _|with_reducible refine Below.alloc ?_ (by first|omega|(simp;done)) _|with_reducible refine Below.setCell ?_ (by (simp;done)) _|with_reducible refine Below.drew ?_|refine bt ?_ (by with_reducible assumption))),by simp [go_sem,hc1,hz1],by simp [go_sem,hc1,hz1],by simp [go_sem,hc1,hz1],by simp [go_sem,hc1,hz1],by simp [go_sem,hc1,hz1],by simp [go_sem,hc1,hz1],by simp [go_sem,hc1,hz1],by simp [go_sem,hc1,hz1]⟩
  case rest=>
   obtain ⟨g,rfl,rfl,hb,f0,f1,f2,q0,q1,q2,q3,q4⟩:=hcut
   go_wp2
   all_goals
    have h:=H.out;have hop:=HO.out
    go_ret
    refine ⟨j6 ?_,hb⟩;rw [xc0,h];clear h H hl HO hb f0 f1 f2 q0 q1 q2 q3 q4;simp only [beq_iff_eq,xh2,xh3,xh4,ne_eq,xh5,xh6] at *
    first
     |omega
     |(simp;omega)
 ·have hl:=hid hl;have H:=hid h;clear h;have HO:=hid hop;clear hop
  go_enter Tryz.func203,Tryz.ntmps203
  go_upto_region 1 with fail
  go_cut [3,4] (fun v3 v4 wx=>a2K true false false true op a b c imm w v3 v4 wx)
  case first=>
   go_region_with ((go_at_call 220;refine (a0j _).mono ?_;rintro e w1 ⟨r,rfl,hb1,hr1,hM⟩;have HL:=hl.out _ _ hM;have HL2:=fun o=>hl.out _ _ (hM.grown ((Below.refl _ w1).alloc (xc5 _) o));clear hM;obtain ⟨hc1,hf1⟩:=a4G hb1;have hz1:w.heap.size < w1.heap.size:=by (have:=hb1.size;simp at this;omega)))
   all_goals
    go_wp2_with fail
    go_meet
    exact ⟨_,rfl,rfl,(by repeat (first|with_reducible exact Below.refl _ _|with_reducible refine Below.alloc ?_ (by first|omega|(simp;done)) _|with_reducible refine Below.setCell ?_ (by (simp;done)) _|with_reducible refine Below.drew ?_|refine bt ?_ (by with_reducible assumption))),by simp [go_sem,hc1,hz1],by simp [go_sem,hc1,hz1],by simp [go_sem,hc1,hz1],by simp [go_sem,hc1,hz1],by simp [go_sem,hc1,hz1],by simp [go_sem,hc1,hz1],by simp [go_sem,hc1,hz1],by simp [go_sem,hc1,hz1]⟩
  case rest=>
   obtain ⟨g,rfl,rfl,hb,f0,f1,f2,q0,q1,q2,q3,q4⟩:=hcut
   go_wp2
   all_goals
    have h:=H.out;have hop:=HO.out
    go_ret
    refine ⟨j6 ?_,hb⟩;rw [xc0,h];clear h H hl HO hb f0 f1 f2 q0 q1 q2 q3 q4;simp only [beq_iff_eq,xh2,xh3,xh4,ne_eq,xh5,xh6] at *
    first
     |omega
     |(simp;omega)
 ·have hl:=hid hl;have H:=hid h;clear h;have HO:=hid hop;clear hop
  go_enter Tryz.func203,Tryz.ntmps203
  go_upto_region 1 with fail
  go_cut [3,4] (fun v3 v4 wx=>a2K false false false true op a b c imm w v3 v4 wx)
  case first=>
   go_region_with ((go_at_call 220;refine (a0j _).mono ?_;rintro e w1 ⟨r,rfl,hb1,hr1,hM⟩;have HL:=hl.out _ _ hM;have HL2:=fun o=>hl.out _ _ (hM.grown ((Below.refl _ w1).alloc (xc5 _) o));clear hM;obtain ⟨hc1,hf1⟩:=a4G hb1;have hz1:w.heap.size < w1.heap.size:=by (have:=hb1.size;simp at this;omega)))
   all_goals
    go_wp2_with fail
    go_meet
    exact ⟨_,rfl,rfl,(by repeat (first|with_reducible exact Below.refl _ _|with_reducible refine Below.alloc ?_ (by first|omega|(simp;done)) _|with_reducible refine Below.setCell ?_ (by (simp;done)) _|with_reducible refine Below.drew ?_|refine bt ?_ (by with_reducible assumption))),by simp [go_sem,hc1,hz1],by simp [go_sem,hc1,hz1],by simp [go_sem,hc1,hz1],by simp [go_sem,hc1,hz1],by simp [go_sem,hc1,hz1],by simp [go_sem,hc1,hz1],by simp [go_sem,hc1,hz1],by simp [go_sem,hc1,hz1]⟩
  case rest=>
   obtain ⟨g,rfl,rfl,hb,f0,f1,f2,q0,q1,q2,q3,q4⟩:=hcut
   go_wp2
   all_goals
    have h:=H.out;have hop:=HO.out
    go_ret
    refine ⟨j6 ?_,hb⟩;rw [xc0,h];clear h H hl HO hb f0 f1 f2 q0 q1 q2 q3 q4;simp only [beq_iff_eq,xh2,xh3,xh4,ne_eq,xh5,xh6] at *
    first
     |omega
     |(simp;omega)
 ·have hl:=hid hl;have H:=hid h;clear h;have HO:=hid (And.intro hop1 hop2);clear hop1 hop2
  go_enter Tryz.func203,Tryz.ntmps203
  go_upto_region 1 with fail
  go_cut [3,4] (fun v3 v4 wx=>a2K true true true true op a b c imm w v3 v4 wx)
  case first=>
   go_region_with ((go_at_call 220;refine (a0j _).mono ?_;rintro e w1 ⟨r,rfl,hb1,hr1,hM⟩;have HL:=hl.out _ _ hM;have HL2:=fun o=>hl.out _ _ (hM.grown ((Below.refl _ w1).alloc (xc5 _) o));clear hM;obtain ⟨hc1,hf1⟩:=a4G hb1;have hz1:w.heap.size < w1.heap.size:=by (have:=hb1.size;simp at this;omega)))
   all_goals
    go_wp2_with fail
    go_meet
    exact ⟨_,rfl,rfl,(by repeat (first|with_reducible exact Below.refl _ _|with_reducible refine Below.alloc ?_ (by first|omega|(simp;done)) _|with_reducible refine Below.setCell ?_ (by (simp;done)) _|with_reducible refine Below.drew ?_|refine bt ?_ (by with_reducible assumption))),by simp [go_sem,hc1,hz1],by simp [go_sem,hc1,hz1],by simp [go_sem,hc1,hz1],by simp [go_sem,hc1,hz1],by simp [go_sem,hc1,hz1],by simp [go_sem,hc1,hz1],by simp [go_sem,hc1,hz1],by simp [go_sem,hc1,hz1]⟩
  case rest=>
   obtain ⟨g,rfl,rfl,hb,f0,f1,f2,q0,q1,q2,q3,q4⟩:=hcut
   go_wp2
   all_goals
    have h:=H.out;have hop:=HO.out
    go_ret
    refine ⟨j6 ?_,hb⟩;rw [xc0,h];clear h H hl HO hb f0 f1 f2 q0 q1 q2 q3 q4;simp only [beq_iff_eq,xh2,xh3,xh4,ne_eq,xh5,xh6] at *
    first
     |omega
     |(simp;omega)
 ·have hl:=hid hl;have H:=hid h;clear h;have HO:=hid hop;clear hop
  go_enter Tryz.func203,Tryz.ntmps203
  go_upto_region 1 with fail
  go_cut [3,4] (fun v3 v4 wx=>a2K true true false true op a b c imm w v3 v4 wx)
  case first=>
   go_region_with ((go_at_call 220;refine (a0j _).mono ?_;rintro e w1 ⟨r,rfl,hb1,hr1,hM⟩;have HL:=hl.out _ _ hM;have HL2:=fun o=>hl.out _ _ (hM.grown ((Below.refl _ w1).alloc (xc5 _) o));clear hM;obtain ⟨hc1,hf1⟩:=a4G hb1;have hz1:w.heap.size < w1.heap.size:=by (have:=hb1.size;simp at this;omega)))
   all_goals
    go_wp2_with fail
    go_meet
    exact ⟨_,rfl,rfl,(by repeat (first|with_reducible exact Below.refl _ _|with_reducible refine Below.alloc ?_ (by first|omega|(simp;done)) _|with_reducible refine Below.setCell ?_ (by (simp;done)) _|with_reducible refine Below.drew ?_|refine bt ?_ (by with_reducible assumption))),by simp [go_sem,hc1,hz1],by simp [go_sem,hc1,hz1],by simp [go_sem,hc1,hz1],by simp [go_sem,hc1,hz1],by simp [go_sem,hc1,hz1],by simp [go_sem,hc1,hz1],by simp [go_sem,hc1,hz1],by simp [go_sem,hc1,hz1]⟩
  case rest=>
   obtain ⟨g,rfl,rfl,hb,f0,f1,f2,q0,q1,q2,q3,q4⟩:=hcut
   go_wp2
   all_goals
    have h:=H.out;have hop:=HO.out
    go_ret
    refine ⟨j6 ?_,hb⟩;rw [xc0,h];clear h H hl HO hb f0 f1 f2 q0 q1 q2 q3 q4;simp only [beq_iff_eq,xh2,xh3,xh4,ne_eq,xh5,xh6] at *
    first
     |omega
     |(simp;omega)
end Go.Proofs.YtejnpppejalhfacGreat
namespace Go.Proofs.YtejnpppejalhfacGreat
set_option maxRecDepth 100000
set_option maxHeartbeats 8000000
open Go.RowKit Go.Sort
def b1x (op a b c imm:Int):Bool:=decide (op < 1)||(decide (16 < op)||((decide (1<=op/\op<=16/\op≠12/\op≠16) && decide (8<=a))||((decide ((2<=op/\op<=10)\/op=13\/op=14) && decide (8<=b))||((decide (2<=op/\op<=7) && decide (8<=c))||(decide ((op=9\/op=10)/\c≠1/\c≠2/\c≠4/\c≠8)||decide (op=16/\(imm < 1\/6 < imm)))))))
theorem a7T (op a b c imm:Int):b1x op a b c imm=true ↔ b0L op a b c imm:=by
 unfold b1x b0L b1T b1W b2u;simp only [Bool.or_eq_true,xb7,xh5]
noncomputable def b2P:List Value->Option Value
 |[.agg ⟨[.int .i64 op,.int .i64 a,.int .i64 b,.int .i64 c,.int .i64 imm]⟩]=>some (.bool (b1x op a b c imm))
 |_=>none
noncomputable def b1F:List (Nat×(List Value->Option Value)):=[(110,b2n),(203,b2P)]
theorem a9H:∀ g f,g8 b1F g=some f->∀ vs v,f vs=some v->(∀ ρ,LR ρ vs vs)/\(∀ ρ,VR ρ v v)/\∀ w,Fn Tryz.prog g vs w (RBf v w):=by
 intro g f h vs v hv;have hm:=a1b h;unfold b1F at hm;rcases xb4.1 hm with hm|hm
 ·cases hm
  exact b2o _ _ rfl vs v hv
 ·rw [xh0] at hm
  cases hm
  unfold b2P at hv
  split at hv
  ·rename_i op a b c imm
   cases hv
   exact ⟨fun ρ=>LR.cons (VR.mkAgg (LR.cOks rfl)) LR.nil,fun ρ=>VR.cOk rfl,fun w=>Fn.of_rb ⟨Tryz.func203,by kernel_rfl,by kernel_rfl⟩ (b0z op a b c imm w _ (a7T op a b c imm))⟩
  ·cases hv
set_option maxRecDepth 100000
set_option maxHeartbeats 4000000
noncomputable def a8d:BT (Func×List (Nat×Pl)):=.node 43 (Tryz.f43,[]) (.node 37 (Tryz.f37,[(2,.take 0 (.one 1 [] (.one 2 [0] (.take 3 (.take 4 (.take 5 (.one 6 [] (.take 7 .nil)))))))),(3,.take 0 (.take 1 (.take 2 (.take 3 (.take 4 (.take 5 (.take 6 (.take 7 (.take 8 (.take 9 (.take 10 (.take 11 (.take 12 (.take 13 (.take 14 (.take 15 (.take 16 (.take 17 (.take 18 (.take 19 (.take 20 (.take 21 (.take 22 (.take 23 (.take 24 (.take 25 (.take 26 (.take 27 (.take 28 (.take 29 (.take 30 (.take 31 (.take 32 (.take 33 (.take 34 (.take 35 (.take 36 (.take 37 (.take 38 (.take 39 (.take 40 (.take 41 (.take 42 (.take 43 (.take 44 (.take 45 (.take 46 (.take 47 (.take 48 .nil)))))))))))))))))))))))))))))))))))))))))))))))))]) (.node 34 (Tryz.f34,[(15,.take 0 (.take 1 (.take 3 (.take 4 (.grp 4096 (.alt 2 [1] (.alt 5 [4] (.take 6 (.alt 7 [] (.take 8 .nil) .stop)) .stop) (.alt 5 [4] (.alt 2 [1] (.take 6 (.alt 7 [] (.take 8 .nil) .stop)) .stop) .stop)))))))]) .nil .nil) (.node 39 (Tryz.f39,[(7,.take 0 (.one 1 [0] (.take 2 (.take 3 (.take 4 (.take 5 (.take 6 (.take 7 (.take 8 (.take 9 (.take 10 (.one 11 [8,10] (.take 12 (.take 13 .nil))))))))))))))]) .nil .nil)) (.node 64 (Tryz.f64,[]) (.node 62 (Tryz.f62,[]) .nil .nil) .nil)
noncomputable def a9r:BT (Func×List (Nat×Pl)):=.node 79 (Tryz.f79,[]) (.node 76 (Tryz.f76,[]) (.node 72 (Tryz.f72,[]) .nil .nil) (.node 77 (Tryz.f77,[]) .nil .nil)) (.node 86 (Tryz.f86,[]) (.node 80 (Tryz.f80,[]) .nil .nil) .nil)
noncomputable def a9k:BT (Func×List (Nat×Pl)):=.node 95 (Tryz.f95,[(3,.take 0 (.take 1 (.one 2 [1] (.take 3 (.take 4 (.take 5 (.take 6 (.take 7 (.take 8 (.take 9 (.one 10 [9] (.take 11 (.take 12 .nil))))))))))))),(9,.take 0 (.take 1 (.take 2 (.take 3 (.take 4 (.take 5 (.take 6 (.take 7 (.take 8 (.take 9 (.take 10 (.take 11 (.take 12 (.take 13 (.take 14 (.take 15 (.take 16 (.take 17 (.take 18 (.take 19 (.take 20 (.take 21 (.take 22 (.take 23 .nil))))))))))))))))))))))))]) (.node 92 (Tryz.f92,[]) (.node 91 (Tryz.f91,[]) .nil .nil) (.node 94 (Tryz.f94,[]) .nil .nil)) (.node 105 (Tryz.f105,[(11,.take 0 (.take 1 (.take 2 (.take 3 (.take 4 (.take 5 (.take 6 (.one 7 [3,5,6] .nil)))))))),(18,.take 0 (.take 1 (.take 2 (.take 3 (.take 4 (.take 5 (.take 6 (.take 7 (.take 8 (.take 9 (.take 10 (.one 11 [] (.one 12 [3,6,8] .nil)))))))))))))]) (.node 98 (Tryz.f98,[(6,.take 0 (.take 1 (.take 2 (.take 3 (.take 4 (.take 5 (.one 6 [1,3,5] (.take 7 (.take 8 (.take 9 (.take 10 (.take 11 (.take 12 (.take 13 (.take 14 (.take 15 (.take 16 (.take 17 (.take 18 (.one 19 [18] (.take 20 (.take 21 (.take 22 (.take 23 (.take 24 (.take 25 (.take 26 (.take 27 (.one 28 [26,27] (.take 29 (.take 30 (.take 31 .nil))))))))))))))))))))))))))))))))]) .nil .nil) .nil)
noncomputable def a8o:BT (Func×List (Nat×Pl)):=.node 117 (Tryz.f117,[]) (.node 115 (Tryz.f115,[]) (.node 112 (Tryz.f112,[]) .nil .nil) (.node 116 (Tryz.f116,[]) .nil .nil)) (.node 134 (Tryz.f134,[]) (.node 118 (Tryz.f118,[]) .nil .nil) .nil)
noncomputable def a8H:BT (Func×List (Nat×Pl)):=.node 150 (Tryz.f150,[(8,.take 0 (.take 1 (.take 2 (.take 3 (.take 4 (.take 5 (.take 6 (.take 7 (.take 8 (.take 9 (.take 10 (.take 11 (.take 12 (.take 13 (.take 14 (.one 15 [1,5,9,13] (.take 16 .nil)))))))))))))))))]) (.node 145 (Tryz.f145,[]) (.node 136 (Tryz.f136,[(8,.take 0 (.take 1 (.take 2 (.take 3 (.take 4 (.take 5 (.take 6 (.grp 16777216 (.alt 7 [3,6] (.take 8 (.take 9 (.take 10 (.alt 11 [] (.take 12 (.alt 13 [] .nil .stop)) .stop)))) (.alt 11 [] (.alt 7 [3,6] (.take 8 (.take 9 (.take 10 (.take 12 (.alt 13 [] .nil .stop))))) .stop) .stop)))))))))),(15,.take 0 (.take 1 (.take 2 (.take 3 (.take 4 (.take 5 (.take 6 (.take 7 (.take 8 (.take 9 (.take 10 (.take 11 (.take 12 (.one 13 [3,8] (.take 14 (.take 15 (.one 16 [10] .nil))))))))))))))))),(18,.take 0 (.take 1 (.take 2 (.take 3 (.take 4 (.take 5 (.take 6 (.take 7 (.one 8 [5] (.take 9 (.take 10 (.take 11 (.take 12 (.one 13 [3] .nil)))))))))))))),(21,.take 0 (.take 1 (.take 2 (.take 3 (.take 4 (.take 5 (.one 6 [5] (.one 7 [4] (.take 8 (.take 9 (.one 10 [] .nil)))))))))))]) .nil .nil) (.node 148 (Tryz.f148,[]) .nil .nil)) (.node 152 (Tryz.f152,[]) (.node 151 (Tryz.f151,[]) .nil .nil) .nil)
noncomputable def a8I:BT (Func×List (Nat×Pl)):=.node 158 (Tryz.f158,[]) (.node 156 (Tryz.f156,[]) (.node 154 (Tryz.f154,[(1,.take 0 (.take 2 (.take 3 (.one 1 [0] (.take 4 (.take 5 (.take 6 (.take 7 (.take 8 (.take 9 (.take 10 (.take 11 (.take 12 (.take 13 (.take 14 (.take 15 (.take 16 (.take 17 (.take 18 (.take 19 .nil))))))))))))))))))))]) .nil .nil) (.node 157 (Tryz.f157,[]) .nil .nil)) (.node 163 (Tryz.f163,[]) (.node 159 (Tryz.f159,[(18,.take 0 (.take 1 (.take 2 (.take 3 (.grp 4096 (.alt 4 [3] (.take 5 (.alt 6 [] (.alt 7 [2] .nil .stop) .stop)) (.alt 6 [] (.alt 4 [3] (.take 5 (.alt 7 [2] .nil .stop)) .stop) .stop))))))),(20,.take 0 (.take 1 (.take 2 (.take 3 (.take 4 (.take 5 (.take 6 (.take 7 (.take 8 (.take 9 (.take 10 (.take 11 (.take 12 (.take 13 (.take 14 (.take 15 (.take 16 (.take 17 (.take 18 (.take 19 (.take 20 (.take 21 (.take 22 (.take 23 (.take 24 (.take 25 (.take 26 (.take 27 (.take 28 (.take 29 (.take 30 (.take 31 (.take 32 (.take 33 (.take 34 (.take 35 (.take 36 (.take 37 (.take 38 .nil))))))))))))))))))))))))))))))))))))))),(21,.take 0 (.take 1 (.take 2 (.take 3 (.take 4 (.take 5 (.take 6 (.take 7 (.take 8 (.take 9 (.take 10 (.take 11 (.take 12 (.take 13 (.one 14 [3,8,10] .nil))))))))))))))),(22,.take 0 (.take 1 (.take 2 (.take 3 (.take 4 (.take 5 (.one 6 [5] (.one 7 [4] (.take 8 (.take 9 (.one 10 [] .nil))))))))))),(26,.take 0 (.take 1 (.take 2 (.take 3 (.take 4 (.take 5 (.take 6 (.take 7 (.take 8 (.one 9 [] (.take 10 (.take 11 (.one 12 [11] (.one 13 [4] (.take 14 (.take 15 (.one 16 [] .nil)))))))))))))))))]) .nil .nil) .nil)
noncomputable def a8L:BT (Func×List (Nat×Pl)):=.node 177 (Tryz.f177,[(15,.take 0 (.take 1 (.take 2 (.take 3 (.take 4 (.take 5 (.take 6 (.take 7 (.take 8 (.take 9 (.take 10 (.one 11 [1,4,6] (.take 12 (.one 13 [9] .nil)))))))))))))),(16,.take 0 (.take 1 (.take 2 (.one 3 [] (.take 4 (.one 5 [1] .nil))))))]) (.node 170 (Tryz.f170,[(6,.take 0 (.take 1 (.take 2 (.take 3 (.take 4 (.take 5 (.take 6 (.take 7 (.take 8 (.one 9 [7,8] (.take 10 .nil))))))))))),(7,.take 0 (.take 1 (.take 2 (.take 3 (.take 4 (.take 5 (.take 6 (.take 7 (.take 8 (.take 9 (.take 10 (.one 11 [5,7] .nil))))))))))))]) (.node 169 (Tryz.f169,[(7,.take 0 (.take 2 (.take 4 (.take 5 (.one 1 [0] (.take 3 (.take 6 (.take 7 (.one 8 [5] .nil))))))))),(12,.take 0 (.take 2 (.take 3 (.one 1 [0] (.take 4 (.take 5 (.one 6 [3] .nil)))))))]) .nil .nil) (.node 171 (Tryz.f171,[]) .nil .nil)) (.node 179 (Tryz.f179,[]) (.node 178 (Tryz.f178,[(3,.take 0 (.take 1 (.take 2 (.take 3 (.take 4 (.take 5 (.take 6 (.take 7 (.take 8 (.take 9 (.one 10 [3,7] .nil))))))))))),(5,.take 0 (.take 1 (.take 2 (.take 3 (.take 4 (.take 5 (.take 6 (.take 7 (.take 8 (.grp 4096 (.alt 9 [3,6,8] (.take 10 (.take 11 (.take 12 (.alt 13 [] (.take 14 (.alt 15 [] .nil .stop)) .stop)))) (.alt 13 [] (.alt 9 [3,6,8] (.take 10 (.take 11 (.take 12 (.take 14 (.alt 15 [] .nil .stop))))) .stop) .stop)))))))))))),(7,.take 0 (.take 1 (.take 2 (.one 3 [1] .nil)))),(10,.take 0 (.take 1 (.take 2 (.take 3 (.take 4 (.take 5 (.take 6 (.take 7 (.one 8 [3,6] (.take 9 (.one 10 [] .nil)))))))))))]) .nil .nil) .nil)
noncomputable def a8f:BT (Func×List (Nat×Pl)):=.node 189 (Tryz.f189,[]) (.node 187 (Tryz.f187,[]) (.node 186 (Tryz.f186,[]) .nil .nil) (.node 188 (Tryz.f188,[]) .nil .nil)) (.node 191 (Tryz.f191,[(11,.take 0 (.take 1 (.take 2 (.take 3 (.take 4 (.take 5 (.take 6 (.take 7 (.take 8 (.take 9 (.take 10 (.take 11 (.take 12 (.take 13 (.take 14 (.take 15 (.take 16 (.take 17 (.take 18 (.take 19 (.take 20 (.take 21 (.take 22 (.take 23 (.take 24 .nil)))))))))))))))))))))))))]) (.node 190 (Tryz.f190,[(4,.take 0 (.take 1 (.take 2 (.take 3 (.take 4 (.take 5 (.take 6 (.take 7 (.take 8 (.take 9 (.take 10 (.take 11 (.take 12 (.take 13 (.take 14 (.take 15 (.take 16 (.take 17 (.take 18 (.take 19 (.take 20 (.take 21 .nil))))))))))))))))))))))]) .nil .nil) .nil)
noncomputable def a8O:BT (Func×List (Nat×Pl)):=.node 196 (Tryz.f196,[(4,.take 0 (.take 1 (.take 2 (.take 3 (.take 4 (.take 5 (.take 6 (.take 7 (.take 8 (.take 9 (.one 10 [] (.one 11 [4] (.take 12 (.take 13 (.one 14 [] .nil))))))))))))))),(5,.take 0 (.take 1 (.take 2 (.take 3 (.take 4 (.take 5 (.take 6 (.take 7 .nil))))))))]) (.node 194 (Tryz.f194,[]) (.node 193 (Tryz.f193,[]) .nil .nil) (.node 195 (Tryz.f195,[]) .nil .nil)) (.node 200 (Tryz.f200,[]) (.node 197 (Tryz.f197,[]) .nil .nil) .nil)
noncomputable def a75:BT (Func×List (Nat×Pl)):=.node 207 (Tryz.f207,[(5,.take 0 (.take 1 (.take 2 (.take 3 (.take 4 (.take 5 (.take 6 (.take 7 (.take 8 .nil))))))))),(9,.take 0 (.take 1 (.take 2 (.take 3 (.take 4 (.take 5 (.take 6 (.take 7 (.take 8 (.take 9 (.take 10 (.take 11 .nil)))))))))))),(11,.take 0 (.take 1 (.take 2 (.take 3 (.take 4 (.take 5 (.take 6 (.take 7 (.take 8 (.take 9 (.take 10 (.take 11 (.take 12 (.take 13 (.take 14 (.take 15 (.take 16 .nil))))))))))))))))),(13,.take 0 (.take 1 (.take 2 (.take 3 (.take 4 (.take 5 (.take 6 (.take 7 (.take 8 (.take 9 (.take 10 (.take 11 (.take 12 (.take 13 (.take 14 (.take 15 (.take 16 .nil))))))))))))))))),(15,.take 0 (.take 1 (.take 2 (.take 3 (.take 4 (.take 5 (.take 6 (.take 7 (.take 8 (.take 9 (.take 10 (.take 11 (.take 12 (.take 13 (.take 14 (.take 15 (.take 16 .nil))))))))))))))))),(17,.take 0 (.take 1 (.take 2 (.take 3 (.take 4 (.take 5 (.take 6 (.take 7 (.take 8 (.take 9 (.take 10 (.take 11 (.take 12 (.take 13 (.take 14 (.take 15 (.take 16 .nil))))))))))))))))),(19,.take 0 (.take 1 (.take 2 (.take 3 (.take 4 (.take 5 (.take 6 (.take 7 (.take 8 (.take 9 (.take 10 (.take 11 (.take 12 (.take 13 (.take 14 (.take 15 (.take 16 .nil))))))))))))))))),(21,.take 0 (.take 1 (.take 2 (.take 3 (.take 4 (.take 5 (.take 6 (.take 7 (.take 8 (.take 9 (.take 10 (.take 11 (.take 12 (.take 13 (.take 14 (.take 15 (.take 16 (.take 17 (.take 18 (.take 19 (.take 20 .nil)))))))))))))))))))))]) (.node 205 (Tryz.f205,[(4,.take 0 (.take 1 (.take 2 (.take 3 (.take 4 (.take 5 (.take 6 (.take 7 (.take 8 (.one 9 [] (.one 10 [4] (.take 11 (.take 12 (.one 13 [7] .nil)))))))))))))),(6,.take 0 (.take 1 (.take 2 (.take 3 (.take 4 (.take 5 (.take 6 (.take 7 (.take 8 (.take 9 (.take 10 (.one 11 [3,6,8,10] (.take 12 .nil))))))))))))),(8,.take 0 (.take 1 (.take 2 (.take 3 (.take 4 (.take 5 (.take 6 (.take 7 (.take 8 (.one 9 [3,6,8] (.take 10 .nil))))))))))),(10,.take 0 (.take 1 (.take 2 (.take 3 (.take 4 (.take 5 (.take 6 (.take 7 (.take 8 (.take 9 (.take 10 (.one 11 [3,6,8,10] (.take 12 .nil)))))))))))))]) (.node 204 (Tryz.f204,[]) .nil .nil) (.node 206 (Tryz.f206,[(1,.take 0 (.take 1 (.take 2 (.take 3 (.take 4 (.take 5 (.take 6 (.take 7 .nil)))))))),(3,.take 0 (.take 1 (.take 2 (.take 3 (.take 4 (.take 5 (.take 6 (.take 7 (.take 8 (.take 9 (.take 10 (.take 11 (.take 12 (.take 13 (.take 14 (.take 15 (.take 16 (.take 17 (.take 18 (.take 19 (.take 20 .nil))))))))))))))))))))),(4,.take 0 (.take 1 (.take 2 (.take 3 (.take 4 (.take 5 (.take 6 (.take 7 (.take 8 (.take 9 (.take 10 (.take 11 (.take 12 (.take 13 (.take 14 (.take 15 (.take 16 (.take 17 (.take 18 (.take 19 (.take 20 .nil))))))))))))))))))))),(7,.take 0 (.take 1 (.take 2 (.take 3 (.take 4 (.take 5 (.take 6 (.take 7 .nil))))))))]) .nil .nil)) (.node 212 (Tryz.f212,[]) (.node 211 (Tryz.f211,[(1,.take 0 (.take 1 (.take 2 (.take 3 (.take 5 (.take 6 (.one 4 [3] (.one 7 [6] (.take 8 (.one 9 [1] .nil))))))))))]) .nil .nil) .nil)
noncomputable def a5P:BT (Func×List (Nat×Pl)):=.node 224 (Tryz.f224,[]) (.node 222 (Tryz.f222,[]) (.node 214 (Tryz.f214,[]) .nil .nil) (.node 223 (Tryz.f223,[]) .nil .nil)) (.node 233 (Tryz.f233,[]) (.node 231 (Tryz.f231,[]) .nil .nil) .nil)
noncomputable def a5B:BT (Func×List (Nat×Pl)):=.node 262 (Tryz.f262,[]) (.node 260 (Tryz.f260,[(3,.take 0 (.take 1 (.one 2 [0] .nil)))]) (.node 259 (Tryz.f259,[(1,.take 0 (.take 1 (.take 2 (.take 3 (.take 4 (.take 5 (.take 6 (.take 7 (.take 9 (.take 10 (.take 11 (.take 12 (.take 13 (.take 14 (.take 15 (.take 16 (.take 17 (.take 19 (.take 20 (.take 21 (.take 22 (.one 8 [] (.take 18 (.take 23 (.take 24 .nil))))))))))))))))))))))))),(3,.take 0 (.take 1 (.take 2 (.take 3 (.take 4 (.take 5 (.take 6 (.take 7 (.take 8 (.take 9 (.take 10 (.take 11 (.one 12 [11] (.one 13 [] (.one 14 [4] (.take 15 (.take 16 (.one 17 [8] .nil))))))))))))))))))]) .nil .nil) (.node 261 (Tryz.f261,[(4,.take 0 (.take 2 (.take 4 (.take 5 (.take 6 (.take 7 (.one 1 [] (.take 3 (.take 8 .nil))))))))),(11,.take 0 (.take 1 (.take 2 (.take 3 (.take 4 (.take 5 (.one 6 [] (.one 7 [] (.take 8 (.one 9 [] (.one 10 [4] (.take 11 (.take 12 (.one 13 [] .nil))))))))))))))]) .nil .nil)) (.node 264 (Tryz.f264,[(1,.take 0 (.take 1 (.take 2 (.take 3 (.take 4 (.take 5 (.take 6 (.take 7 (.take 8 (.take 9 (.one 10 [7,8,9] (.take 11 (.take 12 (.take 13 (.take 14 (.take 15 .nil))))))))))))))))]) (.node 263 (Tryz.f263,[(8,.take 0 (.take 1 (.take 2 (.take 3 (.take 4 (.take 5 (.take 6 (.take 7 (.take 8 (.take 9 (.take 10 (.take 11 (.take 12 (.take 13 (.one 14 [4] (.take 15 (.take 16 (.take 17 (.take 18 (.take 19 (.one 20 [] .nil)))))))))))))))))))))]) .nil .nil) .nil)
noncomputable def a5v:BT (Func×List (Nat×Pl)):=.node 269 (Tryz.f269,[]) (.node 267 (Tryz.f267,[]) (.node 266 (Tryz.f266,[]) .nil .nil) (.node 268 (Tryz.f268,[]) .nil .nil)) (.node 271 (Tryz.f271,[]) (.node 270 (Tryz.f270,[]) .nil .nil) .nil)
noncomputable def a54:BT (Func×List (Nat×Pl)):=.node 276 (Tryz.f276,[]) (.node 274 (Tryz.f274,[(17,.take 0 (.take 1 (.take 2 (.take 3 (.take 4 (.take 5 (.take 6 (.take 7 (.take 8 (.take 9 (.take 10 (.take 11 (.take 12 (.one 13 [8,12] (.take 14 (.take 15 (.take 16 .nil)))))))))))))))))]) (.node 273 (Tryz.f273,[]) .nil .nil) (.node 275 (Tryz.f275,[]) .nil .nil)) (.node 278 (Tryz.f278,[(10,.take 0 (.take 1 (.take 2 (.take 3 (.take 4 (.take 5 (.take 6 (.take 7 (.take 8 (.take 9 (.take 10 (.take 11 (.take 12 (.take 13 (.take 14 (.take 15 (.take 16 (.one 17 [11,15] (.take 18 (.one 19 [] .nil))))))))))))))))))))]) (.node 277 (Tryz.f277,[(4,.take 0 (.take 1 (.take 2 (.take 3 (.take 4 (.take 5 (.take 6 (.take 7 (.take 8 (.take 9 (.take 10 (.take 11 (.take 12 (.take 13 (.one 14 [8,13] (.take 15 (.take 16 .nil))))))))))))))))),(6,.take 0 (.take 1 (.take 2 (.take 3 (.take 4 (.take 5 (.take 6 (.take 7 (.take 8 (.take 9 (.take 10 (.take 11 (.take 12 (.take 13 (.take 14 (.one 15 [9,13] (.take 16 (.one 17 [] .nil))))))))))))))))))]) .nil .nil) .nil)
noncomputable def a5K:BT (Func×List (Nat×Pl)):=.node 283 (Tryz.f283,[(1,.take 0 (.take 1 (.take 2 (.take 3 (.take 4 (.take 5 (.take 6 (.take 7 (.take 8 (.take 9 (.take 10 (.take 11 (.take 12 (.one 13 [7,11] (.take 14 (.one 15 [] .nil)))))))))))))))),(3,.take 0 (.take 1 (.take 2 (.take 3 (.take 4 (.take 5 (.take 6 (.take 7 (.take 8 (.take 9 (.take 10 (.take 11 (.take 12 (.one 13 [8,12] (.take 14 (.take 15 (.take 16 .nil))))))))))))))))),(5,.take 0 (.take 1 (.take 2 (.take 3 (.take 4 (.take 5 (.take 6 (.take 7 (.take 8 (.take 9 (.take 10 (.take 11 (.take 12 (.one 13 [8,12] (.take 14 (.take 15 .nil)))))))))))))))),(8,.take 0 (.take 1 (.take 2 (.take 3 (.take 4 (.take 5 (.take 6 (.take 7 (.take 8 (.take 9 (.take 10 (.take 11 (.take 12 (.one 13 [7,11] (.take 14 (.one 15 [] .nil))))))))))))))))]) (.node 281 (Tryz.f281,[(3,.take 0 (.take 1 (.take 2 (.take 3 (.take 4 (.take 5 (.take 6 (.take 7 (.take 8 (.take 9 (.take 10 (.take 11 (.take 12 (.one 13 [7,11] (.take 14 (.one 15 [] .nil))))))))))))))))]) (.node 280 (Tryz.f280,[]) .nil .nil) (.node 282 (Tryz.f282,[(5,.take 0 (.take 1 (.take 2 (.take 3 (.take 4 (.take 5 (.take 6 (.take 7 (.take 8 (.take 9 (.take 10 (.take 11 (.take 12 (.take 13 (.one 14 [8,13] (.take 15 (.take 16 (.take 17 .nil)))))))))))))))))),(11,.take 0 (.take 1 (.take 2 (.take 3 (.take 4 (.take 5 (.take 6 (.take 7 (.take 8 (.take 9 (.take 10 (.take 11 (.take 12 (.take 13 (.take 14 (.one 15 [9,13] (.take 16 (.one 17 [] .nil)))))))))))))))))),(16,.take 0 (.take 1 (.take 2 (.take 3 (.take 4 (.take 5 (.take 6 (.take 7 (.take 8 (.take 9 (.one 10 [4,9] (.take 11 (.take 12 .nil))))))))))))),(17,.take 0 (.take 1 (.take 2 (.take 3 (.take 4 (.take 5 (.take 6 (.take 7 (.take 8 (.take 9 (.take 10 (.take 11 (.take 12 (.take 13 (.take 14 (.one 15 [9,13] (.take 16 (.one 17 [] .nil)))))))))))))))))),(22,.take 0 (.take 1 (.take 2 (.take 3 (.take 4 (.take 5 (.take 6 (.take 7 (.take 8 (.take 9 (.one 10 [4,9] (.take 11 (.take 12 .nil))))))))))))),(23,.take 0 (.take 1 (.take 2 (.take 3 (.take 4 (.take 5 (.take 6 (.take 7 (.take 8 (.take 9 (.take 10 (.take 11 (.take 12 (.take 13 (.take 14 (.one 15 [9,13] (.take 16 (.one 17 [] .nil))))))))))))))))))]) .nil .nil)) (.node 285 (Tryz.f285,[]) (.node 284 (Tryz.f284,[(1,.take 0 (.take 1 (.take 2 (.take 3 (.take 4 (.take 5 (.take 6 (.take 7 (.take 8 (.take 9 (.take 10 (.take 11 (.take 12 (.one 13 [7,11] (.take 14 (.one 15 [] .nil)))))))))))))))),(3,.take 0 (.take 1 (.take 2 (.take 3 (.take 4 (.take 5 (.take 6 (.take 7 (.take 8 (.take 9 (.take 10 (.take 11 (.take 12 (.one 13 [8,12] (.take 14 (.take 15 .nil)))))))))))))))),(5,.take 0 (.take 1 (.take 2 (.take 3 (.take 4 (.take 5 (.take 6 (.take 7 (.take 8 (.take 9 (.take 10 (.take 11 (.take 12 (.one 13 [8,12] (.take 14 (.take 15 (.take 16 .nil))))))))))))))))),(8,.take 0 (.take 1 (.take 2 (.take 3 (.take 4 (.take 5 (.take 6 (.take 7 (.take 8 (.take 9 (.take 10 (.take 11 (.take 12 (.one 13 [7,11] (.take 14 (.one 15 [] .nil)))))))))))))))),(10,.take 0 (.take 1 (.take 2 (.take 3 (.take 4 (.take 5 (.take 6 (.take 7 (.take 8 (.take 9 (.take 10 (.take 11 (.take 12 (.one 13 [7,11] (.take 14 (.one 15 [] .nil)))))))))))))))),(13,.take 0 (.take 1 (.take 2 (.take 3 (.take 4 (.take 5 (.take 6 (.take 7 (.take 8 (.take 9 (.take 10 (.take 11 (.take 12 (.one 13 [8,12] (.take 14 (.take 15 .nil)))))))))))))))),(15,.take 0 (.take 1 (.take 2 (.take 3 (.take 4 (.take 5 (.take 6 (.take 7 (.take 8 (.take 9 (.take 10 (.take 11 (.take 12 (.one 13 [8,12] (.take 14 (.take 15 (.take 16 .nil))))))))))))))))),(18,.take 0 (.take 1 (.take 2 (.take 3 (.take 4 (.take 5 (.take 6 (.take 7 (.take 8 (.take 9 (.take 10 (.take 11 (.take 12 (.one 13 [7,11] (.take 14 (.one 15 [] .nil)))))))))))))))),(21,.take 0 (.take 1 (.take 2 (.take 3 (.take 4 (.take 5 (.take 6 (.take 7 (.take 8 (.take 9 (.take 10 (.take 11 (.take 12 (.one 13 [7,11] (.take 14 (.one 15 [] .nil))))))))))))))))]) .nil .nil) .nil)
noncomputable def a5F:BT (Func×List (Nat×Pl)):=.node 290 (Tryz.f290,[]) (.node 288 (Tryz.f288,[]) (.node 287 (Tryz.f287,[(3,.take 0 (.take 1 (.take 2 (.take 3 (.take 4 (.take 5 (.take 6 (.take 7 (.take 8 (.take 9 (.take 10 (.take 11 (.take 12 (.take 13 (.take 14 (.take 15 (.take 16 (.take 17 (.take 18 (.one 19 [11,18] (.take 20 (.take 21 .nil)))))))))))))))))))))),(5,.take 0 (.take 1 (.take 2 (.take 3 (.take 4 (.take 5 (.take 6 (.take 7 (.take 8 (.take 9 (.take 10 (.take 11 (.take 12 (.one 13 [6,12] (.take 14 (.take 15 .nil)))))))))))))))),(6,.take 0 (.take 1 (.take 2 (.take 3 (.take 4 (.take 5 (.take 6 (.take 7 (.take 8 (.take 9 (.take 10 (.take 11 (.take 12 (.take 13 (.take 14 (.take 15 (.take 16 (.take 17 (.take 18 (.take 19 (.take 20 (.one 21 [13,19] (.take 22 (.one 23 [] .nil))))))))))))))))))))))))]) .nil .nil) (.node 289 (Tryz.f289,[(1,.take 0 (.take 1 (.take 2 (.take 3 (.take 4 (.take 5 (.take 6 (.take 7 (.take 8 (.one 9 [2,5] .nil)))))))))),(2,.take 0 (.take 1 (.take 2 (.take 3 (.take 4 (.take 5 (.take 6 (.take 7 (.take 8 (.one 9 [2,5] .nil)))))))))),(3,.take 0 (.take 1 (.take 2 (.take 3 (.take 4 (.take 5 (.take 6 (.take 7 (.take 8 (.one 9 [2,5] .nil))))))))))]) .nil .nil)) (.node 292 (Tryz.f292,[(1,.take 0 (.take 1 (.take 2 (.take 3 (.take 4 (.take 5 (.take 6 (.take 7 (.take 8 (.one 9 [4,8] (.take 10 .nil)))))))))))]) (.node 291 (Tryz.f291,[]) .nil .nil) .nil)
noncomputable def b1N:BT (Func×List (Nat×Pl)):=.node 192 (Tryz.f192,[(1,.take 0 (.take 1 (.take 2 (.take 3 (.take 4 (.take 5 (.one 6 [3,5] (.take 7 (.take 8 (.take 9 (.take 10 (.take 11 .nil)))))))))))),(5,.take 0 (.take 1 (.take 2 (.take 3 (.take 4 (.take 5 (.take 6 (.take 7 (.take 8 (.take 9 (.take 10 (.one 11 [3,5,9] .nil)))))))))))),(6,.take 0 (.take 1 (.take 2 (.take 3 (.take 4 (.take 5 (.take 6 (.take 7 (.take 8 (.take 9 (.take 10 (.take 11 (.one 12 [] (.one 13 [4] (.take 14 (.take 15 (.one 16 [5,9] .nil))))))))))))))))),(7,.take 0 (.take 1 (.take 2 (.take 3 (.take 4 (.take 5 (.take 6 (.take 7 (.take 8 (.take 9 (.take 10 (.take 11 (.one 12 [3,5,7] .nil)))))))))))))]) (.node 135 (Tryz.f135,[]) (.node 90 (Tryz.f90,[(4,.take 0 (.take 1 (.take 2 (.take 3 (.take 4 (.one 5 [4] (.take 6 .nil)))))))]) (.node 67 (Tryz.f67,[]) a8d a9r) (.node 106 (Tryz.f106,[(1,.take 0 (.take 1 (.take 3 (.take 4 (.take 7 (.take 8 (.take 11 (.take 12 (.take 15 (.take 16 (.one 2 [1] (.one 5 [4] (.take 6 (.one 9 [8] (.take 10 (.one 13 [12] (.take 14 (.one 17 [16] (.take 18 (.take 19 .nil))))))))))))))))))))]) a9k a8o)) (.node 164 (Tryz.f164,[]) (.node 153 (Tryz.f153,[]) a8H a8I) (.node 185 (Tryz.f185,[(5,.take 0 (.take 1 (.take 2 (.take 3 (.take 4 (.take 5 (.one 6 [5] (.one 7 [] (.one 8 [4] (.take 9 (.take 10 (.one 11 [] .nil)))))))))))),(7,.take 0 (.take 1 (.take 3 (.take 4 (.take 6 (.take 7 (.grp 4096 (.alt 2 [] (.alt 5 [4] (.alt 8 [7] (.take 9 (.take 11 (.alt 10 [] (.take 12 .nil) .stop))) .stop) .stop) (.alt 5 [4] (.alt 2 [] (.alt 8 [7] (.take 9 (.take 11 (.alt 10 [] (.take 12 .nil) .stop))) .stop) (.alt 8 [7] (.take 11 (.alt 2 [] (.take 9 (.alt 10 [] (.take 12 .nil) .stop)) .stop)) .stop)) .stop)))))))))]) a8L a8f))) (.node 265 (Tryz.f265,[]) (.node 213 (Tryz.f213,[]) (.node 202 (Tryz.f202,[(4,.take 0 (.take 1 (.take 2 (.take 3 (.take 4 (.take 5 (.take 6 (.take 7 (.take 8 (.take 9 (.take 10 (.take 11 (.take 12 (.take 13 (.take 14 (.take 15 (.one 16 [] (.take 17 .nil))))))))))))))))))]) a8O a75) (.node 258 (Tryz.f258,[]) a5P a5B)) (.node 279 (Tryz.f279,[(10,.take 0 (.take 1 (.take 2 (.take 3 (.take 4 (.take 5 (.take 6 (.take 7 (.take 8 (.take 9 (.take 10 (.take 11 (.take 12 (.take 13 (.take 14 (.take 15 (.take 16 (.one 17 [11,15] (.take 18 (.one 19 [] .nil))))))))))))))))))))]) (.node 272 (Tryz.f272,[]) a5v a54) (.node 286 (Tryz.f286,[]) a5K a5F)))
noncomputable def b1U:TT:=.node 172 (.st 6 [(0,1,false),(1,1,false),(2,1,false),(3,1,false),(4,1,false),(5,1,false)] [.string ⟨#[]⟩,.slice none 0 0,.slice none 0 0,.slice none 0 0,.slice none 0 0,.int .i64 0]) (.node 121 (.ar 8 8 1 false [.int .i64 0,.int .i64 0,.int .i64 0,.int .i64 0,.int .i64 0,.int .i64 0,.int .i64 0,.int .i64 0]) (.node 41 (.st 3 [(0,1,false),(1,1,false),(2,1,false)] [.slice none 0 0,.slice none 0 0,.int .i64 0]) (.node 21 (.sc (.int .i32) 1 (.int .i32 0)) (.node 5 (.sc (.int .u8) 1 (.int .u8 0)) (.node 4 (.sc .bool 1 (.bool false)) (.node 3 (.sc (.int .i64) 1 (.int .i64 0)) .nil .nil) .nil) (.node 9 (.sc .string 1 (.string ⟨#[]⟩)) .nil .nil)) (.node 28 (.sc (.int .i64) 1 (.int .i64 0)) (.node 22 (.sl 142 3 48 true [.int .i64 0,.string ⟨#[]⟩,.slice none 0 0]) .nil .nil) (.node 39 (.sl 136 4 32 true [.int .i64 0,.int .i64 0,.int .i64 0,.bool false]) .nil .nil))) (.node 63 (.st 4 [(0,1,false),(1,1,false),(2,1,false),(3,1,false)] [.int .i64 0,.slice none 0 0,.slice none 0 0,.slice none 0 0]) (.node 53 (.sl 3 1 8 false [.int .i64 0]) (.node 43 (.sl 120 2 16 true [.int .i64 0,.int .i64 0]) (.node 42 (.sl 123 13 104 true [.int .i64 0,.int .i64 0,.int .i64 0,.int .i64 0,.int .i64 0,.int .i64 0,.int .i64 0,.int .i64 0,.int .i64 0,.int .i64 0,.int .i64 0,.int .i64 0,.int .i64 0]) .nil .nil) .nil) (.node 61 (.sl 139 3 56 true [.bool false,.slice none 0 0,.slice none 0 0]) .nil .nil)) (.node 111 (.sc (.func #[39] #[39,28] false) 1 (.nilFunc)) (.node 99 (.st 2 [(0,1,false),(1,1,false)] [.int .i64 0,.int .i64 0]) .nil .nil) (.node 120 (.st 2 [(0,1,false),(1,1,false)] [.int .i64 0,.int .i64 0]) .nil .nil)))) (.node 145 (.st 2 [(0,1,false),(1,1,false)] [.int .i64 0,.string ⟨#[]⟩]) (.node 137 (.sl 145 2 24 true [.int .i64 0,.string ⟨#[]⟩]) (.node 130 (.sc (.func #[128] #[28] false) 1 (.nilFunc)) (.node 128 (.sc (.pointer 216) 1 (.pointer none)) (.node 123 (.st 13 [(0,8,true),(8,1,false),(9,1,false),(10,1,false),(11,2,true)] [.int .i64 0,.int .i64 0,.int .i64 0,.int .i64 0,.int .i64 0,.int .i64 0,.int .i64 0,.int .i64 0,.int .i64 0,.int .i64 0,.int .i64 0,.int .i64 0,.int .i64 0]) .nil .nil) .nil) (.node 136 (.st 4 [(0,1,false),(1,1,false),(2,1,false),(3,1,false)] [.int .i64 0,.int .i64 0,.int .i64 0,.bool false]) .nil .nil)) (.node 140 (.sl 156 2 24 true [.int .i64 0,.string ⟨#[]⟩]) (.node 139 (.st 3 [(0,1,false),(1,1,false),(2,1,false)] [.bool false,.slice none 0 0,.slice none 0 0]) .nil .nil) (.node 142 (.st 3 [(0,1,false),(1,1,false),(2,1,false)] [.int .i64 0,.string ⟨#[]⟩,.slice none 0 0]) .nil .nil))) (.node 167 (.sl 166 5 40 true [.int .i64 0,.int .i64 0,.string ⟨#[]⟩,.bool false,.bool false]) (.node 164 (.st 5 [(0,1,false),(1,1,false),(2,1,false),(3,1,false),(4,1,false)] [.int .i64 0,.int .i64 0,.int .i64 0,.int .i64 0,.int .i64 0]) (.node 156 (.st 2 [(0,1,false),(1,1,false)] [.int .i64 0,.string ⟨#[]⟩]) .nil .nil) (.node 166 (.st 5 [(0,1,false),(1,1,false),(2,1,false),(3,1,false),(4,1,false)] [.int .i64 0,.int .i64 0,.string ⟨#[]⟩,.bool false,.bool false]) .nil .nil)) (.node 169 (.sl 324 2 24 true [.string ⟨#[]⟩,.int .i64 0]) (.node 168 (.sl 9 1 16 false [.string ⟨#[]⟩]) .nil .nil) (.node 170 (.sl 300 3 32 true [.int .i64 0,.string ⟨#[]⟩,.int .i64 0]) .nil .nil))))) (.node 285 (.sc (.int .u64) 1 (.int .u64 0)) (.node 242 (.sc (.map 9 172) 1 (.map none)) (.node 218 (.sc (.pointer 123) 1 (.pointer none)) (.node 214 (.sc ((Tryz.prog.underlying 214).getD .bool) 1 .nilIface) (.node 194 (.sl 164 5 40 true [.int .i64 0,.int .i64 0,.int .i64 0,.int .i64 0,.int .i64 0]) (.node 179 (.sl 5 1 1 false [.int .u8 0]) .nil .nil) .nil) (.node 216 (.st 3 [(0,1,false),(1,1,false),(2,1,false)] [.nilIface,.slice none 0 0,.slice none 0 0]) .nil .nil)) (.node 240 (.sl 172 6 120 true [.string ⟨#[]⟩,.slice none 0 0,.slice none 0 0,.slice none 0 0,.slice none 0 0,.int .i64 0]) (.node 221 (.st 5 [(0,1,false),(1,1,false),(2,1,false),(3,1,false),(4,1,false)] [.int .i64 0,.int .i64 0,.int .i64 0,.int .i64 0,.int .i64 0]) .nil .nil) (.node 241 (.sc (.pointer 246) 1 (.pointer none)) .nil .nil))) (.node 248 (.sc (.func #[172] #[28] false) 1 (.nilFunc)) (.node 244 (.sl 250 7 128 true [.string ⟨#[]⟩,.slice none 0 0,.slice none 0 0,.slice none 0 0,.slice none 0 0,.int .i64 0,.int .i64 0]) (.node 243 (.sc (.map 9 3) 1 (.map none)) .nil .nil) (.node 246 (.st 4 [(0,1,false),(1,1,false),(2,1,false),(3,1,false)] [.map none,.map none,.slice none 0 0,.int .i64 0]) .nil .nil)) (.node 252 (.sc (.pointer 41) 1 (.pointer none)) (.node 250 (.st 7 [(0,6,true),(6,1,false)] [.string ⟨#[]⟩,.slice none 0 0,.slice none 0 0,.slice none 0 0,.slice none 0 0,.int .i64 0,.int .i64 0]) .nil .nil) (.node 257 (.sc (.func #[136,3] #[3] false) 1 (.nilFunc)) .nil .nil)))) (.node 324 (.st 2 [(0,1,false),(1,1,false)] [.string ⟨#[]⟩,.int .i64 0]) (.node 297 (.sc (.map 3 305) 1 (.map none)) (.node 293 (.sl 240 1 24 false [.slice none 0 0]) (.node 292 (.st 2 [(0,1,false),(1,1,false)] [.int .i64 0,.slice none 0 0]) (.node 288 (.sc (.pointer 292) 1 (.pointer none)) .nil .nil) .nil) (.node 295 (.sl 248 1 8 false [.nilFunc]) .nil .nil)) (.node 307 (.sl 39 1 24 false [.slice none 0 0]) (.node 300 (.st 3 [(0,1,false),(1,1,false),(2,1,false)] [.int .i64 0,.string ⟨#[]⟩,.int .i64 0]) .nil .nil) (.node 321 (.sc (.int .u64) 1 (.int .u64 0)) .nil .nil))) (.node 377 (.sc (.func #[145] #[4] false) 1 (.nilFunc)) (.node 359 (.sc (.int .u32) 1 (.int .u32 0)) (.node 344 (.sc (.func #[21] #[4] false) 1 (.nilFunc)) .nil .nil) (.node 375 (.sc (.func #[145,145] #[3] false) 1 (.nilFunc)) .nil .nil)) (.node 392 (.sc (.int .u64) 1 (.int .u64 0)) (.node 379 (.sc (.func #[145,3] #[3] false) 1 (.nilFunc)) .nil .nil) (.node 396 (.sc (.pointer 3) 1 (.pointer none)) .nil .nil)))))
def b1C:List (Nat×Value):=[(242,.agg #[.string ⟨#[]⟩,.slice none 0 0,.slice none 0 0,.slice none 0 0,.slice none 0 0,.int .i64 0]),(243,.int .i64 0),(297,.pointer none),(336,.agg #[.bool false,.bool false,.bool false])]
def b2E : List (Nat × List (String × Nat)) := [(9, []), (288, [("Drop", 258), ("Fork", 259), ("Load", 260), ("Map", 261), ("Protect", 262), ("Store", 263), ("Unmap", 264)])]
noncomputable def cxF:Cx:=⟨b1U,cxQ,b1C,b1N,b1F,b2E⟩
theorem cxOkTF:BT.All (fun t ti=>(a4v Tryz.prog t=some ti/\ti.okB=true)/\ti.zeros.all cOk=true) b1U:=by
 unfold b1U
 repeat' (first|exact BT.All.nil|refine BT.All.node ⟨⟨by kernel_rfl,by kernel_rfl⟩,by kernel_rfl⟩ ?_ ?_)
theorem b1q:ForA (fun p:Nat×Value=>∃ Kt Et,Tryz.prog.underlying p.1=some (.map Kt Et)/\(Tryz.prog.info? Et).bind (·.zero)=some p.2/\zOk p.2=true) b1C:=by
 unfold b1C;exact ForA.cons ⟨9,172,by kernel_rfl,by kernel_rfl,by kernel_rfl⟩ (ForA.cons ⟨9,3,by kernel_rfl,by kernel_rfl,by kernel_rfl⟩ (ForA.cons ⟨3,305,by kernel_rfl,by kernel_rfl,by kernel_rfl⟩ (ForA.cons ⟨3,334,by kernel_rfl,by kernel_rfl,by kernel_rfl⟩ (ForA.nil))))
theorem a9R:BT.All (fun g (x:Func×List (Nat×Pl))=>m9 Tryz.prog g x.1/\∃ c,x.1.body=some c/\q7 x.1.ntmps x.2 c=true) a8d:=by
 unfold a8d
 repeat' (first|exact BT.All.nil|refine BT.All.node ⟨⟨by kernel_rfl,by kernel_rfl,by kernel_rfl⟩,_,rfl,by kernel_rfl⟩ ?_ ?_)
theorem b0r:BT.All (fun g (x:Func×List (Nat×Pl))=>m9 Tryz.prog g x.1/\∃ c,x.1.body=some c/\q7 x.1.ntmps x.2 c=true) a9r:=by
 unfold a9r
 repeat' (first|exact BT.All.nil|refine BT.All.node ⟨⟨by kernel_rfl,by kernel_rfl,by kernel_rfl⟩,_,rfl,by kernel_rfl⟩ ?_ ?_)
theorem b0a:BT.All (fun g (x:Func×List (Nat×Pl))=>m9 Tryz.prog g x.1/\∃ c,x.1.body=some c/\q7 x.1.ntmps x.2 c=true) a9k:=by
 unfold a9k
 repeat' (first|exact BT.All.nil|refine BT.All.node ⟨⟨by kernel_rfl,by kernel_rfl,by kernel_rfl⟩,_,rfl,by kernel_rfl⟩ ?_ ?_)
theorem a93:BT.All (fun g (x:Func×List (Nat×Pl))=>m9 Tryz.prog g x.1/\∃ c,x.1.body=some c/\q7 x.1.ntmps x.2 c=true) a8o:=by
 unfold a8o
 repeat' (first|exact BT.All.nil|refine BT.All.node ⟨⟨by kernel_rfl,by kernel_rfl,by kernel_rfl⟩,_,rfl,by kernel_rfl⟩ ?_ ?_)
theorem b0h:BT.All (fun g (x:Func×List (Nat×Pl))=>m9 Tryz.prog g x.1/\∃ c,x.1.body=some c/\q7 x.1.ntmps x.2 c=true) a8H:=by
 unfold a8H
 repeat' (first|exact BT.All.nil|refine BT.All.node ⟨⟨by kernel_rfl,by kernel_rfl,by kernel_rfl⟩,_,rfl,by kernel_rfl⟩ ?_ ?_)
theorem a9P:BT.All (fun g (x:Func×List (Nat×Pl))=>m9 Tryz.prog g x.1/\∃ c,x.1.body=some c/\q7 x.1.ntmps x.2 c=true) a8I:=by
 unfold a8I
 repeat' (first|exact BT.All.nil|refine BT.All.node ⟨⟨by kernel_rfl,by kernel_rfl,by kernel_rfl⟩,_,rfl,by kernel_rfl⟩ ?_ ?_)
theorem b0y:BT.All (fun g (x:Func×List (Nat×Pl))=>m9 Tryz.prog g x.1/\∃ c,x.1.body=some c/\q7 x.1.ntmps x.2 c=true) a8L:=by
 unfold a8L
 repeat' (first|exact BT.All.nil|refine BT.All.node ⟨⟨by kernel_rfl,by kernel_rfl,by kernel_rfl⟩,_,rfl,by kernel_rfl⟩ ?_ ?_)
theorem b0G:BT.All (fun g (x:Func×List (Nat×Pl))=>m9 Tryz.prog g x.1/\∃ c,x.1.body=some c/\q7 x.1.ntmps x.2 c=true) a8f:=by
 unfold a8f
 repeat' (first|exact BT.All.nil|refine BT.All.node ⟨⟨by kernel_rfl,by kernel_rfl,by kernel_rfl⟩,_,rfl,by kernel_rfl⟩ ?_ ?_)
theorem b0m:BT.All (fun g (x:Func×List (Nat×Pl))=>m9 Tryz.prog g x.1/\∃ c,x.1.body=some c/\q7 x.1.ntmps x.2 c=true) a8O:=by
 unfold a8O
 repeat' (first|exact BT.All.nil|refine BT.All.node ⟨⟨by kernel_rfl,by kernel_rfl,by kernel_rfl⟩,_,rfl,by kernel_rfl⟩ ?_ ?_)
theorem b0l:BT.All (fun g (x:Func×List (Nat×Pl))=>m9 Tryz.prog g x.1/\∃ c,x.1.body=some c/\q7 x.1.ntmps x.2 c=true) a75:=by
 unfold a75
 repeat' (first|exact BT.All.nil|refine BT.All.node ⟨⟨by kernel_rfl,by kernel_rfl,by kernel_rfl⟩,_,rfl,by kernel_rfl⟩ ?_ ?_)
theorem a9a:BT.All (fun g (x:Func×List (Nat×Pl))=>m9 Tryz.prog g x.1/\∃ c,x.1.body=some c/\q7 x.1.ntmps x.2 c=true) a5P:=by
 unfold a5P
 repeat' (first|exact BT.All.nil|refine BT.All.node ⟨⟨by kernel_rfl,by kernel_rfl,by kernel_rfl⟩,_,rfl,by kernel_rfl⟩ ?_ ?_)
theorem a7X:BT.All (fun g (x:Func×List (Nat×Pl))=>m9 Tryz.prog g x.1/\∃ c,x.1.body=some c/\q7 x.1.ntmps x.2 c=true) a5B:=by
 unfold a5B
 repeat' (first|exact BT.All.nil|refine BT.All.node ⟨⟨by kernel_rfl,by kernel_rfl,by kernel_rfl⟩,_,rfl,by kernel_rfl⟩ ?_ ?_)
theorem a7U:BT.All (fun g (x:Func×List (Nat×Pl))=>m9 Tryz.prog g x.1/\∃ c,x.1.body=some c/\q7 x.1.ntmps x.2 c=true) a5v:=by
 unfold a5v
 repeat' (first|exact BT.All.nil|refine BT.All.node ⟨⟨by kernel_rfl,by kernel_rfl,by kernel_rfl⟩,_,rfl,by kernel_rfl⟩ ?_ ?_)
theorem a7R:BT.All (fun g (x:Func×List (Nat×Pl))=>m9 Tryz.prog g x.1/\∃ c,x.1.body=some c/\q7 x.1.ntmps x.2 c=true) a54:=by
 unfold a54
 repeat' (first|exact BT.All.nil|refine BT.All.node ⟨⟨by kernel_rfl,by kernel_rfl,by kernel_rfl⟩,_,rfl,by kernel_rfl⟩ ?_ ?_)
theorem a8z:BT.All (fun g (x:Func×List (Nat×Pl))=>m9 Tryz.prog g x.1/\∃ c,x.1.body=some c/\q7 x.1.ntmps x.2 c=true) a5K:=by
 unfold a5K
 repeat' (first|exact BT.All.nil|refine BT.All.node ⟨⟨by kernel_rfl,by kernel_rfl,by kernel_rfl⟩,_,rfl,by kernel_rfl⟩ ?_ ?_)
theorem a7Y:BT.All (fun g (x:Func×List (Nat×Pl))=>m9 Tryz.prog g x.1/\∃ c,x.1.body=some c/\q7 x.1.ntmps x.2 c=true) a5F:=by
 unfold a5F
 repeat' (first|exact BT.All.nil|refine BT.All.node ⟨⟨by kernel_rfl,by kernel_rfl,by kernel_rfl⟩,_,rfl,by kernel_rfl⟩ ?_ ?_)
theorem b2e:BT.All (fun g (x:Func×List (Nat×Pl))=>m9 Tryz.prog g x.1/\∃ c,x.1.body=some c/\q7 x.1.ntmps x.2 c=true) b1N:=by
 unfold b1N
 repeat' (first|exact BT.All.nil|exact a9R|exact b0r|exact b0a|exact a93|exact b0h|exact a9P|exact b0y|exact b0G|exact b0m|exact b0l|exact a9a|exact a7X|exact a7U|exact a7R|exact a8z|exact a7Y|refine BT.All.node ⟨⟨by kernel_rfl,by kernel_rfl,by kernel_rfl⟩,_,rfl,by kernel_rfl⟩ ?_ ?_)
theorem b2m:IOk Tryz.prog b2E:=b1V (by kernel_rfl)
theorem b3c:FOk Tryz.prog cxF:=⟨⟨fun t ti h=>(cxOkTF.get h).1,fun t ti h=>(cxOkTF.get h).2,b1m,a99 b1q,b2m⟩,by kernel_rfl,b2e,a9H⟩
theorem a3o (w:World):Fn Tryz.prog 37 [] w (RBf (.bool true) w):=b2b b3c 60 (by kernel_rfl) rfl (fun _=>VR.cOk (v:=.bool true) rfl) w
end Go.Proofs.YtejnpppejalhfacGreat
