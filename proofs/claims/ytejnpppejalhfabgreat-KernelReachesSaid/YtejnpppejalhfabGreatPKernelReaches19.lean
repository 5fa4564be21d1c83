/- Texts that the proof stands on, one behind the other: Cx14, Cx3, CyK, LawReaches, Op1, OpA, OpK, OpR. -/
import Derived.Deep.Slices
import Derived.OpenShut
import Derived.WideShapes
import Derived.ProofKit
import Derived.Test.YtejnpppejalhfabGreatPKernelReaches18
set_option linter.unusedVariables false
set_option linter.unusedSimpArgs false
namespace Go.Proofs.YtejnpppejalhfabGreat
set_option maxRecDepth 100000
set_option maxHeartbeats 8000000
open Go.RowKit Go.Sort
noncomputable def a48 (N:Nat) (pl:List (Nat×Pl)) (c:Code):Bool:=@Code.rec (fun _=>Bool) true
 (fun id ops draw=>ops.toList.all (a9E N) && (bif draw then (match r5 pl id with
   |some p=>Region.noSelect ops && (plB ops p).1 ops.size (Array.replicate ops.size false)
   |none=>true) else true))
 (fun _ _ x y=>x && y) (fun _ _ _ x y=>x && y) (fun _ _ x=>x) (fun _ x=>x) (fun _ _ _ _ _ _=>true) (fun _=>true) (fun _ _=>true) (fun _=>true) (fun _=>true) true (fun _=>true) c
inductive BT.All {α:Type} (p:Nat->α->Prop):BT α->Prop where
 |nil:BT.All p .nil
 |node {k:Nat} {v:α} {l r:BT α} (h:p k v) (hl:BT.All p l) (hr:BT.All p r):BT.All p (.node k v l r)
theorem BT.All.get {α:Type} {p:Nat->α->Prop} {t:BT α} (h:BT.All p t) {i:Nat} {v:α} (hg:t.get i=some v):p i v:=by
 induction h with
 |nil=>cases hg
 |@node k u l r hp hl hr ihl ihr=>
  replace hg:@Bool.rec (fun _=>Option α) (@Bool.rec (fun _=>Option α) (r.get i) (l.get i) (Nat.blt i k)) (some u) (Nat.beq i k)=some v:=hg
  cases e:Nat.beq i k with
  |true=>
   rw [e] at hg
   cases hg
   rw [xb9 e];exact hp
  |false=>
   rw [e] at hg
   cases e2:Nat.blt i k with
   |true=>rw [e2] at hg;exact ihl hg
   |false=>rw [e2] at hg;exact ihr hg
structure FOk (P:Program) (C:Cx):Prop where
 ok:COk P C
 mixed:P.follows .mixedOrders=true
 F:BT.All (fun g (x:Func×List (Nat×Pl))=>a3x P g x.1/\∃ c,x.1.body=some c/\a48 x.1.ntmps x.2 c=true) C.F
 M:∀ g f,r5 C.M g=some f->∀ vs v,f vs=some v->vs.all cOk=true/\(∀ ρ,VR ρ v v)/\∀ w,Fn P g vs w (RBf v w)
def toX:SX->Exit
 |.normal=>.normal
 |.exit i=>.exit i
 |.ret=>.ret
section
variable {P:Program} {C:Cx} {call:a62} {w0 w w':World} {ρ σ:Ren} {N:Nat} {ds:List Deferred} {a:Act} {E E':Fr} {H H':SH} {n n':Nat} {Q:Exit->Act->World->Prop}
theorem PQ.then {x:Act->World->Prop} (h:PQ Q):PQ (Exit.then x Q):=fun c a w d v hq=>h c a w d v hq
theorem PQ.block {i:Nat} (h:PQ Q):PQ (Exit.inBlock i Q):=fun c a w d v hq=>h c a w d v hq
theorem a5s:∀ (E:Fr) (s:List Nat) {t:Nat} {v:Value},r5 (a71 E s) t=some v->r5 E t=some v/\t ∉ s
 |[],s,t,v,h=>by cases h
 |(k,u)::r,s,t,v,h=>by
  have hany:∀ s:List Nat,@List.rec Nat (fun _=>Bool) false (fun x _ h=>bif Nat.beq k x then true else h) s=s.any (Nat.beq k):=fun s=>by
   induction s with
   |nil=>rfl
   |cons x s ih=>simp only [List.any_cons];rw [<- ih];cases Nat.beq k x <;> rfl
  have e:a71 ((k,u)::r) s=bif s.any (Nat.beq k) then a71 r s else (k,u)::a71 r (k::s):=by rw [<- hany];rfl
  rw [e] at h
  cases hs:s.any (Nat.beq k) with
  |true=>
   rw [hs] at h;obtain ⟨h1,h2⟩:=a5s r s h;obtain ⟨x,hx,hkx⟩:=xn4.1 hs;have hkx:=xb9 hkx;refine ⟨?_,h2⟩;rw [t5,xf1 (fun e=>h2 (by rw [<- e,hkx];exact hx))];exact h1
  |false=>
   rw [hs] at h;replace h:r5 ((k,u)::a71 r (k::s)) t=some v:=h;rw [t5] at h |-;by_cases ek:k=t
   ·rw [xf0 ek] at h |-;refine ⟨h,fun hm=>?_⟩;have:s.any (Nat.beq k)=true:=xn4.2 ⟨t,hm,by rw [ek];exact xo8 _⟩;rw [hs] at this
    cases this
   ·rw [xf1 ek] at h |-;obtain ⟨h1,h2⟩:=a5s r (k::s) h;exact ⟨h1,fun hm=>h2 (xc6 _ hm)⟩
theorem HasR.shrink (h:HasR ρ N ds a E):HasR ρ N ds a (a6g E):=⟨h.size,h.defers,fun t v ht=>by
 unfold a6g at ht
 cases e:Nat.blt 400 (@List.rec (Nat×Value) (fun _=>Nat) 0 (fun _ _ n=>n + 1) E) with
 |true=>rw [e] at ht;exact h.at_ t v (a5s E [] ht).1
 |false=>rw [e] at ht;exact h.at_ t v ht⟩
def b1f (P:Program) (c:Code) (N:Nat) (f:a6D):Prop:=∀ E H n e E' H' n',f E H n=.ok (e,E',H',n')->n<=n'/\∀ {w0 w:World} {ρ:Ren} {ds:List Deferred} {a:Act} {hi:Nat} {Q:Exit->Act->World->Prop},PQ Q->HasR ρ N ds a E->Inv P w0 ρ H w->Fsh ρ n hi->n'<=hi->(∀ a' w' σ,Stp ρ σ n n'->HasR σ N ds a' E'->Inv P w0 σ H' w'->Q (toX e) a' w')->c.wp P Q a w
theorem b3D {c:Code} {f:a6D} (hf:b1f P c N f):∀ k E H n e E' H' n',b01 f k E H n=.ok (e,E',H',n')->n<=n'/\∀ {w0 w:World} {ρ:Ren} {ds:List Deferred} {a:Act} {hi:Nat} {Q:Exit->Act->World->Prop},PQ Q->HasR ρ N ds a E->Inv P w0 ρ H w->Fsh ρ n hi->n'<=hi->(∀ a' w' σ,Stp ρ σ n n'->HasR σ N ds a' E'->Inv P w0 σ H' w'->Q (toX e) a' w')->Code.rounds P c Q k a w:=by
 intro k
 induction k with
 |zero=>intro E H n e E' H' n' h;cases h
 |succ k ih=>
  intro E H n e E' H' n' h;replace h:(match f E H n with
   |.ok (.normal,E',H',n')=>b01 f k (a6g E') H' n'
   |r=>r)=.ok (e,E',H',n'):=h
  split at h
  ·rename_i E1 H1 n1 hr;obtain ⟨h1,h2⟩:=hf _ _ _ _ _ _ _ hr;obtain ⟨h3,h4⟩:=ih _ _ _ _ _ _ _ h;refine ⟨xd5 h1 h3,fun {w0 w ρ ds a hi Q} hQ ha hI hF hn kk=>?_⟩;rw [rounds_succ];exact h2 hQ.then ha hI hF (xd5 h3 hn) fun a' w' σ hσ ha' hI'=>h4 hQ ha'.shrink hI' (hF.step hσ h1) hn fun a2 w2 τ hτ ha2 hI2=>kk a2 w2 τ (hσ.trans hτ h1 h3) ha2 hI2
  ·rename_i hne;obtain ⟨h1,h2⟩:=hf _ _ _ _ _ _ _ h;refine ⟨h1,fun {w0 w ρ ds a hi Q} hQ ha hI hF hn kk=>?_⟩;rw [rounds_succ];refine h2 hQ.then ha hI hF hn fun a' w' σ hσ ha' hI'=>?_;have:=kk a' w' σ hσ ha' hI'
   cases e with
   |normal=>exact (hne _ _ _ h).elim
   |exit i=>exact this
   |ret=>exact this
theorem b3R (hC:FOk P C) (hc:a2z P call) (pl:List (Nat×Pl)) (c:Code) (hB:a48 N pl c=true):b1f P c N (a5J C call pl c):=by
 induction c with
 |skip=>
  intro E H n e E' H' n' h
  cases h
  exact ⟨xd4 _,fun hQ ha hI hF hn k=>wp_skip (k _ _ _ (Stp.refl _ _ _) ha hI)⟩
 |region id ops draw=>
  intro E H n e E' H' n' h;replace hB:(ops.toList.all (a9E N) && (bif draw then (match r5 pl id with
   |some p=>Region.noSelect ops && (plB ops p).1 ops.size (Array.replicate ops.size false)
   |none=>true) else true))=true:=hB
  rw [xb2] at hB;obtain ⟨hd,hB⟩:=hB
  cases draw with
  |false=>
   replace h:(match a7I C call ops.toList ops.toList E H n with
    |.ok (E',H',n')=>Rs.ok (SX.normal,E',H',n')
    |.no p=>.no p)=.ok (e,E',H',n'):=h
   split at h
   ·rename_i E1 H1 n1 hr
    cases h
    obtain ⟨h1,_⟩:=a4Q (Q:=fun _ _ _=>True) hC.ok hc hd hr;refine ⟨h1,fun {w0 w ρ ds a hi Q} hQ ha hI hF hn k=>?_⟩;obtain ⟨_,h2⟩:=a4Q (Q:=Q) hC.ok hc hd hr;have:=wp_region_lit (id:=id) (l:=ops.toList) (h2 ha hI hF hn k)
    simpa using this
   ·cases h
  |true=>
   replace h:(match r5 pl id with
    |some p=>match xPl C call ops.toList p n 0 [] E H n with
     |.ok (E',H',n')=>Rs.ok (SX.normal,E',H',n')
     |.no p=>.no p
    | none => .no "plan") = .ok (e, E', H', n') := h
   split at h
   ·rename_i p hp;rw [hp] at hB;dsimp only [cond_true] at hB;rw [xb2] at hB
    split at h
    ·rename_i E1 H1 n1 hr
     cases h
     have hpl:=fun (Q:Exit->Act->World->Prop) (hQ:PQ Q)=>(b6D hC.ok hc hQ hB.1 hd p).1 _ _ _ _ _ _ _ _ _ _ _ hB.2 hr;refine ⟨(hpl (fun _ _ _=>True) (fun _ _ _ _ _ _=>trivial)).1,fun {w0 w ρ ds a hi Q} hQ ha hI hF hn k=>?_⟩;refine wp_region_any hC.mixed (b1r _ [] _ _ _ ((hpl Q hQ).2 (hi:=hi) (m0:=n) ⟨ha,hI.grow ⟨rfl,rfl,rfl,xd4 _,fun _ _ _=>rfl⟩,hF,fun j _ _ q h1 h2=>by simp at h1 h2;omega,xd4 _,by simp,EL.nil⟩ hn k))
    ·cases h
   ·cases h
 |seq x y ihx ihy=>
  intro E H n e E' H' n' h;replace hB:(a48 N pl x && a48 N pl y)=true:=hB;rw [xb2] at hB;replace h:(match a5J C call pl x E H n with
   |.ok (.normal,E',H',n')=>a5J C call pl y E' H' n'
   |r=>r)=.ok (e,E',H',n'):=h
  split at h
  ·rename_i E1 H1 n1 hr;obtain ⟨h1,h2⟩:=ihx hB.1 _ _ _ _ _ _ _ hr;obtain ⟨h3,h4⟩:=ihy hB.2 _ _ _ _ _ _ _ h;refine ⟨xd5 h1 h3,fun {w0 w ρ ds a hi Q} hQ ha hI hF hn k=>wp_seq ?_⟩;exact h2 hQ.then ha hI hF (xd5 h3 hn) fun a' w' σ hσ ha' hI'=>h4 hQ ha' hI' (hF.step hσ h1) hn fun a2 w2 τ hτ ha2 hI2=>k a2 w2 τ (hσ.trans hτ h1 h3) ha2 hI2
  ·rename_i hne;obtain ⟨h1,h2⟩:=ihx hB.1 _ _ _ _ _ _ _ h;refine ⟨h1,fun {w0 w ρ ds a hi Q} hQ ha hI hF hn k=>wp_seq ?_⟩;refine h2 hQ.then ha hI hF hn fun a' w' σ hσ ha' hI'=>?_;have:=k a' w' σ hσ ha' hI'
   cases e with
   |normal=>exact (hne _ _ _ h).elim
   |exit i=>exact this
   |ret=>exact this
 |cond o x y ihx ihy=>
  intro E H n e E' H' n' h;replace hB:(a48 N pl x && a48 N pl y)=true:=hB;rw [xb2] at hB;replace h:(match sEv E o with
   |some (.bool true)=>a5J C call pl x E H n
   |some (.bool false)=>a5J C call pl y E H n
   | _ => Rs.no "cond") = .ok (e, E', H', n') := h
  split at h
  ·rename_i ho;obtain ⟨h1,h2⟩:=ihx hB.1 _ _ _ _ _ _ _ h;refine ⟨h1,fun {w0 w ρ ds a hi Q} hQ ha hI hF hn k=>?_⟩;obtain ⟨u,hu,go⟩:=ha.ev ho;rw [VR.bool hu] at go;exact wp_cond_split (ha.full.ev go) (fun _=>h2 hQ ha hI hF hn k) (fun e=>by cases e)
  ·rename_i ho;obtain ⟨h1,h2⟩:=ihy hB.2 _ _ _ _ _ _ _ h;refine ⟨h1,fun {w0 w ρ ds a hi Q} hQ ha hI hF hn k=>?_⟩;obtain ⟨u,hu,go⟩:=ha.ev ho;rw [VR.bool hu] at go;exact wp_cond_split (ha.full.ev go) (fun e=>by cases e) (fun _=>h2 hQ ha hI hF hn k)
  ·cases h
 |block i x ih=>
  intro E H n e E' H' n' h;replace hB:a48 N pl x=true:=hB;replace h:(match a5J C call pl x E H n with
   |.ok (.exit j,E',H',n')=>bif Nat.beq j i then Rs.ok (SX.normal,E',H',n') else Rs.ok (SX.exit j,E',H',n')
   |r=>r)=.ok (e,E',H',n'):=h
  split at h
  ·rename_i j E1 H1 n1 hr;obtain ⟨h1,h2⟩:=ih hB _ _ _ _ _ _ _ hr
   cases hj:Nat.beq j i with
   |true=>
    rw [hj] at h
    cases h
    obtain rfl:=xb9 hj;refine ⟨h1,fun {w0 w ρ ds a hi Q} hQ ha hI hF hn k=>wp_block (h2 hQ.block ha hI hF hn fun a' w' σ hσ ha' hI'=>?_)⟩;show if j=j then _ else _;rw [xf0 rfl];exact k a' w' σ hσ ha' hI'
   |false=>
    rw [hj] at h
    cases h
    have hne:j≠i:=fun e=>by subst e;rw [xo8] at hj;cases hj
    refine ⟨h1,fun {w0 w ρ ds a hi Q} hQ ha hI hF hn k=>wp_block (h2 hQ.block ha hI hF hn fun a' w' σ hσ ha' hI'=>?_)⟩;show if j=i then _ else _;rw [xf1 hne];exact k a' w' σ hσ ha' hI'
  ·rename_i hne;obtain ⟨h1,h2⟩:=ih hB _ _ _ _ _ _ _ h;refine ⟨h1,fun {w0 w ρ ds a hi Q} hQ ha hI hF hn k=>wp_block (h2 hQ.block ha hI hF hn fun a' w' σ hσ ha' hI'=>?_)⟩;have:=k a' w' σ hσ ha' hI'
   cases e with
   |normal=>exact this
   |exit j=>exact (hne _ _ _ _ h).elim
   |ret=>exact this
 |loop x ih=>
  intro E H n e E' H' n' h;replace hB:a48 N pl x=true:=hB;replace h:b01 (a5J C call pl x) b3h E H n=.ok (e,E',H',n'):=h;generalize b3h=kk at h;obtain ⟨h1,h2⟩:=b3D (ih hB) kk _ _ _ _ _ _ _ h;exact ⟨h1,fun hQ ha hI hF hn k=>wp_loop_rounds kk (h2 hQ ha hI hF hn k)⟩
 |rangeFunc f ps x y _ _=>intro E H n e E' H' n' h;cases h
 |exit i=>
  intro E H n e E' H' n' h
  cases h
  exact ⟨xd4 _,fun hQ ha hI hF hn k=>wp_exit (k _ _ _ (Stp.refl _ _ _) ha hI)⟩
 |scope x _=>intro E H n e E' H' n' h;cases h
 |label l=>intro E H n e E' H' n' h;cases h
 |goto l=>intro E H n e E' H' n' h;cases h
 |ret=>
  intro E H n e E' H' n' h
  cases h
  exact ⟨xd4 _,fun hQ ha hI hF hn k=>wp_ret (k _ _ _ (Stp.refl _ _ _) ha hI)⟩
 |refuse s=>intro E H n e E' H' n' h;cases h
theorem a8o (hT:TOk P C.T) (ha:HasR ρ N ds a E) (hI:Inv P w0 ρ H w):∀ {rs:List ResultVar} {vs:List Value},b2f C.T E H rs=some vs->∃ us,LR ρ vs us/\ResL P (a2e a) w rs us
 |[],vs,h=>by cases h;exact ⟨[],LR.nil,ResL.nil⟩
 |.tmp t::r,vs,h=>by
  unfold b2f at h
  split at h
  ·rename_i v vs' h1 h2
   cases h
   obtain ⟨u,hu,hat⟩:=ha.at_ t v h1;obtain ⟨us,h3,h4⟩:=a8o hT ha hI h2;exact ⟨u::us,LR.cons hu h3,ResL.tmp (a5l hat) h4⟩
  ·cases h
 |.cell p t::r,vs,h=>by
  unfold b2f at h
  split at h
  ·rename_i pv hp
   split at h
   ·rename_i v vs' h1 h2
    cases h
    obtain ⟨p',hp',hat⟩:=ha.at_ p pv hp;obtain ⟨b,o,u,rfl,hu,hl⟩:=a8C hT hI h1 hp';obtain ⟨us,h3,h4⟩:=a8o hT ha hI h2;exact ⟨u::us,LR.cons hu h3,ResL.cell (a5l hat) hl h4⟩
   ·cases h
  ·cases h
theorem VR.pack {vs us:List Value} (h:LR ρ vs us):VR ρ (a4f vs) (a4f us):=by
 match vs,us,h with
 |[],us,h=>rw [LR.nil_inv h];exact VR.mkTup LR.nil
 |[v],us,h=>
  obtain ⟨u,r,rfl,h1,h2⟩:=LR.inv h;rw [LR.nil_inv h2];exact h1
 |v::v2::r,us,h=>
  obtain ⟨u,r',rfl,h1,h2⟩:=LR.inv h;obtain ⟨u2,r2,rfl,h3,h4⟩:=LR.inv h2;exact VR.mkTup h
theorem a7g (m:Nat):∀ (H:SH) {i:Nat} {s:SA},r5 (b1Q m H) i=some s->r5 H i=some s/\i < m
 |[],i,s,h=>by cases h
 |(k,t)::r,i,s,h=>by
  replace h:r5 (@Bool.rec (fun _=>SH) (b1Q m r) ((k,t)::b1Q m r) (Nat.blt k m)) i=some s:=h
  cases e:Nat.blt k m with
  |true=>
   rw [e] at h;have e:k < m:=by simpa [xc1] using e
   rw [t5] at h |-;by_cases hk:k=i
   ·rw [xf0 hk] at h |-;exact ⟨h,by omega⟩
   ·rw [xf1 hk] at h |-;exact a7g m r h
  |false=>
   rw [e] at h;obtain ⟨h1,h2⟩:=a7g m r h;have hk:k≠i:=fun e2=>by
    subst e2;have:Nat.blt k m=true:=by simpa [xc1] using h2
    rw [e] at this
    cases this
   rw [t5,xf1 hk];exact ⟨h1,h2⟩
theorem b6U {m:Nat} {v:Value} {i:Nat} {s:SA} (h:r5 (gc m v H) i=some s):r5 H i=some s:=by
 unfold gc at h
 cases e:(Nat.blt 20 (b5O m H) && (b3G 1000 m v && (b1Q m H).all fun p=>b57 m p.2)) with
 |true=>rw [e] at h;exact (a7g m H h).1
 |false=>rw [e] at h;exact h
theorem a7n:∀ {vs us:List Value} {k t:Nat} {v:Value},LR ρ vs us->r5 (a5y k vs) t=some v->k<=t/\∃ u,us[t - k]?=some u/\VR ρ v u
 |[],us,k,t,v,_,h=>by cases h
 |x::vs,us,k,t,v,hr,h=>by
  obtain ⟨u,r,rfl,h1,h2⟩:=LR.inv hr;replace h:r5 ((k,x)::a5y (k + 1) vs) t=some v:=h;rw [t5] at h;by_cases e:k=t
  ·rw [xf0 e] at h
   cases h
   subst e;exact ⟨xd4 _,u,by simp,h1⟩
  ·rw [xf1 e] at h;obtain ⟨h3,u',h4,h5⟩:=a7n h2 h;exact ⟨by omega,u',by rw [show t - k=(t - (k + 1)) + 1 from by omega];simpa using h4,h5⟩
theorem b3x (hC:FOk P C) (hc:a2z P call):a2z P (b3T C call):=by
 intro g vs H n v H' n' h;unfold b3T at h
 split at h
 ·rename_i f hf
  split at h
  ·rename_i u hu
   cases h
   refine ⟨xd4 _,fun {w0 w ρ hi us} hr hI hF hn=>?_⟩;obtain ⟨h1,h2,h3⟩:=hC.M g f hf vs _ hu;have e:us=vs:=by
    have:=LR.cOks (ρ:=ρ) h1;unfold LR at hr this;rw [hr] at this
    cases this
    rfl
   rw [e];exact (h3 w).mono fun v' w' ⟨e1,hS⟩=>⟨ρ,Stp.refl _ _ _,by rw [e1];exact h2 ρ,hI.grow (St.grown0 hS)⟩
  ·cases h
 ·split at h
  ·rename_i fn pl hf;obtain ⟨hok,c',hb',hB⟩:=hC.F.get hf
   split at h
   ·rename_i c hb;obtain rfl:c=c':=by rw [hb] at hb';exact Option.some.inj hb'
    cases hl:Nat.ble vs.length fn.ntmps with
    |false=>rw [hl] at h;cases h
    |true=>
    rw [hl] at h;dsimp only [cond_true] at h
    split at h
    ·cases h
    ·rename_i e E1 H1 n1 hne hr
     split at h
     ·rename_i rs hrs
      cases h
      obtain ⟨h1,h2⟩:=b3R hC hc pl c hB _ _ _ _ _ _ _ hr;refine ⟨h1,fun {w0 w ρ hi us} hus hI hF hn=>⟨⟨fn,hok⟩,?_⟩⟩;refine calls_of_wp hok.at_ hb (h2 (fun c a w d v hq=>by cases d <;> exact hq) ⟨?_,rfl,fun t v ht=>?_⟩ hI hF hn fun a' w' σ hσ ha' hI'=>?_)
      ·have:=xg3 hl;have:=hus.len;simp;omega
      ·obtain ⟨_,u,hu,hv⟩:=a7n hus ht;rw [Nat.sub_zero] at hu;have hlt:=b9 hu;exact ⟨u,hv,by rw [Array.getElem?_append_left (by simpa using hlt)];simpa using hu⟩
      ·obtain ⟨us',h3,h4⟩:=a8o hC.ok.T ha' hI' hrs;have q:=b4f (P:=P) (fn:=fn) (Φ:=fun u w'=>∃ σ,Stp ρ σ n n'/\VR σ (a4f rs) u/\Inv P w0 σ (gc n (a4f rs) H1) w') rfl h4 rfl ⟨σ,hσ,VR.pack h3,hI'.sub fun i s hs=>b6U hs⟩ ha'.full
       cases e with
       |normal=>exact q
       |exit i=>exact (hne _ rfl).elim
       |ret=>exact q
     ·cases h
    ·cases h
   ·cases h
  ·cases h
theorem b5j (hC:FOk P C) (k:Nat):a2z P (b5L C k):=by
 induction k with
 |zero=>intro g vs H n v H' n' h;cases h
 |succ k ih=>exact b3x hC ih
noncomputable def xIs (r:Rs (Value×SH×Nat)) (v:Value):Bool:=match r with
 |.ok (u,_,_)=>vEq 1000 u v
 |.no _=>false
theorem b6M (hC:FOk P C) {g:Nat} {vs:List Value} {v:Value} (k:Nat) (h:xIs (b5L C k g vs [] 0) v=true) (hvs:vs.all cOk=true) (hv:∀ ρ,VR ρ v v) (w:World):Fn P g vs w (RBf v w):=by
 unfold xIs at h
 split at h
 ·rename_i u H n hr;obtain rfl:=a5e _ h;obtain ⟨h1,h2⟩:=b5j hC k _ _ _ _ _ _ _ hr;refine (h2 (w0:=w) (w:=w) (ρ:=fun _=>none) (hi:=n) (LR.cOks hvs) ⟨⟨rfl,rfl,rfl,xd4 _,fun _ _=>rfl⟩,(fun i s h=>by cases h),(fun i j s t x y h=>by cases h)⟩ (fun _ _ _=>rfl) (xd4 _)).mono fun u' w' ⟨σ,hσ,hu,hI⟩=>?_;exact ⟨VR.fn (hv σ) hu,St.of_below hI.below⟩
 ·cases h
end
def cxQ:EqT:=[(89,[1,0,2,2]),(143,[1,0]),(68,[0,0])]
noncomputable def b7u:List Value->Option Value
 |[.string ⟨⟨s⟩⟩,.int .i64 off,.string ⟨⟨t⟩⟩]=>ifB (inB off t.length s.length && Nat.ble s.length 100000) (some (.tuple #[.string ⟨(splice s off.toNat t).toArray⟩,.int .i64 0])) none
 |_=>none
noncomputable def cxM:List (Nat×(List Value->Option Value)):=[(76,b7u)]
theorem b7E {ρ:Ren} {z:Value} {l:List Value} (h:celL z=some l) (hl:l.all cOk=true):VR ρ z z:=by
 cases z
 all_goals first
  |(cases h;exact VR.mkAgg (LR.cOks hl);done)
  |(cases h;exact VR.cOk (by simpa using hl);done)
  |(cases h;done)
def zOk (z:Value):Bool:=match celL z with
 |some l=>l.all cOk
 |none=>false
def ForA {α:Type} (p:α->Prop):List α->Prop
 |[]=>True
 |x::r=>p x/\ForA p r
theorem ForA.nil {α:Type} {p:α->Prop}:ForA p []:=trivial
theorem ForA.cons {α:Type} {p:α->Prop} {x:α} {l:List α} (h:p x) (h':ForA p l):ForA p (x::l):=⟨h,h'⟩
theorem ForA.mem {α:Type} {p:α->Prop}:∀ {l:List α},ForA p l->∀ x ∈ l,p x
 |[],_,x,h=>by cases h
 |y::r,⟨h1,h2⟩,x,h=>by
  rcases xc4.1 h with rfl|h
  ·exact h1
  ·exact ForA.mem h2 x h
theorem b5x {P:Program} {ez:List (Nat×Value)} (h:ForA (fun p=>∃ Kt Et,P.underlying p.1=some (.map Kt Et)/\(P.info? Et).bind (·.zero)=some p.2/\zOk p.2=true) ez):b5m P ez:=fun t z hg Kt Et hu=>by
 obtain ⟨K,E,h1,h2,h3⟩:=h.mem _ (a4Z hg);dsimp only at h1 h2 h3;rw [hu] at h1
 cases h1
 refine ⟨h2,fun ρ=>?_⟩;unfold zOk at h3
 split at h3
 ·rename_i l hl;exact b7E hl h3
 ·cases h3
theorem b6f:∀ g f,r5 cxM g=some f->∀ vs v,f vs=some v->vs.all cOk=true/\(∀ ρ,VR ρ v v)/\∀ w,Fn Tryz.prog g vs w (RBf v w):=by
 intro g f h vs v hv;have hm:=a4Z h;unfold cxM at hm;rw [xj0] at hm
 cases hm
 unfold b7u at hv
 split at hv
 ·rename_i s off t;obtain ⟨h1,h2⟩:=n5 hv
  cases h2
  rw [xb2] at h1;have h3:=xg3 h1.2;refine ⟨rfl,fun ρ=>VR.mkTup (LR.cOks rfl),fun w=>?_⟩;have:=b4w s t off w (by unfold maxLen;omega);rw [xf0 h1.1,xf0 h1.1] at this;exact this
 ·cases hv
theorem a6U {l l':List Value} {b:Bool} (h:sEqS [] l l'=some b):l=[]/\l'=[]/\b=true:=by
 cases l <;> cases l' <;> simp_all [sEqS]
theorem a8B {s:List Nat} {l l':List Value} {b:Bool} (h:sEqS (0::s) l l'=some b):∃ x y m m' c,l=.int .i64 x::m/\l'=.int .i64 y::m'/\sEqS s m m'=some c/\b=(decide (x=y) && c):=by
 unfold sEqS at h
 split at h
 all_goals first
  |(cases h;done)
  |(exfalso;simp_all;done)
  |(obtain ⟨c,hc,rfl⟩:=xi7.1 h;simp_all;done)
  |(obtain ⟨c,hc,rfl⟩:=xi7.1 h;rename_i e;cases e;exact ⟨_,_,_,_,c,rfl,rfl,hc,rfl⟩)
theorem b4a {s:List Nat} {l l':List Value} {b:Bool} (h:sEqS (1::s) l l'=some b):∃ x y m m' c,l=.string ⟨⟨x⟩⟩::m/\l'=.string ⟨⟨y⟩⟩::m'/\sEqS s m m'=some c/\b=(decide (x=y) && c):=by
 unfold sEqS at h
 split at h
 all_goals first
  |(cases h;done)
  |(exfalso;simp_all;done)
  |(obtain ⟨c,hc,rfl⟩:=xi7.1 h;simp_all;done)
  |(obtain ⟨c,hc,rfl⟩:=xi7.1 h;rename_i e;cases e;exact ⟨_,_,_,_,c,rfl,rfl,hc,rfl⟩)
theorem b31 {s:List Nat} {l l':List Value} {b:Bool} (h:sEqS (2::s) l l'=some b):∃ x y m m' c,l=.bool x::m/\l'=.bool y::m'/\sEqS s m m'=some c/\b=(decide (x=y) && c):=by
 unfold sEqS at h
 split at h
 all_goals first
  |(cases h;done)
  |(exfalso;simp_all;done)
  |(obtain ⟨c,hc,rfl⟩:=xi7.1 h;simp_all;done)
  |(obtain ⟨c,hc,rfl⟩:=xi7.1 h;rename_i e;cases e;exact ⟨_,_,_,_,c,rfl,rfl,hc,rfl⟩)
theorem b6F:QOk Tryz.prog cxQ:=fun t s h l l' b hb=>by
 have hm:=a4Z h;unfold cxQ at hm;simp only [xc4,List.not_mem_nil,or_false,Prod.mk.injEq] at hm;rcases hm with ⟨rfl,rfl⟩|⟨rfl,rfl⟩|⟨rfl,rfl⟩
 ·obtain ⟨x1,y1,m1,n1,c1,rfl,rfl,hb1,rfl⟩:=b4a hb;obtain ⟨x2,y2,m2,n2,c2,rfl,rfl,hb2,rfl⟩:=a8B hb1;obtain ⟨x3,y3,m3,n3,c3,rfl,rfl,hb3,rfl⟩:=b31 hb2;obtain ⟨x4,y4,m4,n4,c4,rfl,rfl,hb4,rfl⟩:=b31 hb3;obtain ⟨rfl,rfl,rfl⟩:=a6U hb4;refine ⟨fun w=>?_,by kernel_rfl⟩;simp [go_sem]
  repeat' split
  all_goals simp_all
 ·obtain ⟨x1,y1,m1,n1,c1,rfl,rfl,hb1,rfl⟩:=b4a hb;obtain ⟨x2,y2,m2,n2,c2,rfl,rfl,hb2,rfl⟩:=a8B hb1;obtain ⟨rfl,rfl,rfl⟩:=a6U hb2;refine ⟨fun w=>?_,by kernel_rfl⟩;simp [go_sem]
  repeat' split
  all_goals simp_all
 ·obtain ⟨x1,y1,m1,n1,c1,rfl,rfl,hb1,rfl⟩:=a8B hb;obtain ⟨x2,y2,m2,n2,c2,rfl,rfl,hb2,rfl⟩:=a8B hb1;obtain ⟨rfl,rfl,rfl⟩:=a6U hb2;refine ⟨fun w=>?_,by kernel_rfl⟩;simp [go_sem]
  repeat' split
  all_goals simp_all
set_option maxRecDepth 100000
set_option maxHeartbeats 4000000
noncomputable def b6l:BT (Func×List (Nat×Pl)):=.node 100 (Tryz.f100,[(6,.take 0 (.take 1 (.take 2 (.take 3 (.take 4 (.take 5 (.one 6 [1,3,5] (.take 7 (.take 8 (.take 9 (.take 10 (.take 11 (.take 12 (.take 13 (.take 14 (.take 15 (.take 16 (.take 17 (.take 18 (.one 19 [18] (.take 20 (.take 21 (.take 22 (.take 23 (.take 24 (.take 25 (.take 26 (.take 27 (.one 28 [26,27] (.take 29 (.take 30 (.take 31 .nil))))))))))))))))))))))))))))))))]) (.node 67 (Tryz.f67,[]) (.node 44 (Tryz.f44,[(4,.take 0 (.take 1 (.take 2 (.take 3 (.take 4 (.one 5 [4] (.take 6 .nil)))))))]) (.node 29 (Tryz.f29,[(9,.take 0 (.take 1 (.take 2 (.take 3 (.take 4 (.one 5 [3] (.take 6 (.take 7 (.take 8 (.take 9 (.take 10 .nil))))))))))),(12,.take 0 (.take 1 (.take 2 (.take 3 (.take 4 (.take 5 (.take 6 (.take 7 (.take 8 (.take 9 (.take 10 (.take 11 (.take 12 (.take 13 .nil)))))))))))))),(13,.take 0 (.take 1 (.take 2 (.take 3 (.take 4 (.take 5 (.take 6 (.take 7 (.take 8 (.take 9 (.take 10 (.take 11 (.take 12 (.take 13 .nil))))))))))))))]) (.node 21 (Tryz.f21,[]) (.node 18 (Tryz.f18,[(12,.take 0 (.take 1 (.take 2 (.take 4 (.take 6 (.take 7 (.take 8 (.grp 16777216 (.alt 3 [] (.alt 5 [] (.alt 9 [] (.take 10 (.alt 11 [] (.alt 12 [1,7] (.take 13 .nil) .stop) .stop)) .stop) (.alt 9 [] (.alt 5 [] (.take 10 (.alt 11 [] (.alt 12 [1,7] (.take 13 .nil) .stop) .stop)) .stop) .stop)) (.alt 5 [] (.alt 3 [] (.alt 9 [] (.take 10 (.alt 11 [] (.alt 12 [1,7] (.take 13 .nil) .stop) .stop)) .stop) (.alt 9 [] (.alt 3 [] (.take 10 (.alt 11 [] (.alt 12 [1,7] (.take 13 .nil) .stop) .stop)) .stop) .stop)) (.alt 9 [] (.alt 3 [] (.alt 5 [] (.take 10 (.alt 11 [] (.alt 12 [1,7] (.take 13 .nil) .stop) .stop)) .stop) (.alt 5 [] (.alt 3 [] (.take 10 (.alt 11 [] (.alt 12 [1,7] (.take 13 .nil) .stop) .stop)) .stop) .stop)) .stop)))))))))))]) (.node 9 (Tryz.f9,[(11,.take 0 (.take 1 (.take 2 (.take 3 (.take 4 (.take 5 (.take 6 (.one 7 [3,5,6] .nil)))))))),(18,.take 0 (.take 1 (.take 2 (.take 3 (.take 4 (.take 5 (.take 6 (.take 7 (.take 8 (.take 9 (.take 10 (.one 11 [] (.one 12 [3,6,8] .nil)))))))))))))]) .nil .nil) .nil) (.node 25 (Tryz.f25,[(3,.take 0 (.take 1 (.take 2 (.one 3 [] (.one 4 [1] (.take 5 .nil)))))),(5,.take 0 (.take 1 (.take 2 (.take 3 (.take 4 (.take 5 (.one 6 [3] (.one 7 [4] (.take 8 .nil)))))))))]) (.node 23 (Tryz.f23,[(3,.take 0 (.take 1 (.take 2 (.take 4 (.take 5 (.take 6 (.grp 4096 (.alt 3 [] (.alt 7 [] (.take 8 (.alt 9 [] (.alt 10 [] (.alt 11 [1,5] .nil .stop) .stop) (.alt 10 [] (.alt 9 [] (.alt 11 [1,5] .nil .stop) .stop) .stop))) (.alt 10 [] (.alt 7 [] (.take 8 (.alt 9 [] (.alt 11 [1,5] .nil .stop) .stop)) .stop) .stop)) (.alt 7 [] (.alt 3 [] (.take 8 (.alt 9 [] (.alt 10 [] (.alt 11 [1,5] .nil .stop) .stop) (.alt 10 [] (.alt 9 [] (.alt 11 [1,5] .nil .stop) .stop) .stop))) (.alt 10 [] (.alt 3 [] (.take 8 (.alt 9 [] (.alt 11 [1,5] .nil .stop) .stop)) .stop) .stop)) (.alt 10 [] (.alt 3 [] (.alt 7 [] (.take 8 (.alt 9 [] (.alt 11 [1,5] .nil .stop) .stop)) .stop) (.alt 7 [] (.alt 3 [] (.take 8 (.alt 9 [] (.alt 11 [1,5] .nil .stop) .stop)) .stop) .stop)) .stop)))))))))),(4,.take 0 (.take 1 (.one 2 [1] (.take 3 (.take 4 (.take 5 (.take 6 (.take 7 (.take 8 (.take 9 (.take 10 (.take 11 (.take 12 (.take 13 (.take 14 (.take 15 (.take 16 (.take 17 (.take 18 (.take 19 (.take 20 (.one 21 [19] (.take 22 (.take 23 (.take 24 (.take 25 (.take 26 (.take 27 (.take 28 (.take 29 (.take 30 (.take 31 (.take 32 .nil))))))))))))))))))))))))))))))))),(9,.take 0 (.take 1 (.take 2 (.take 3 (.take 4 (.take 5 (.take 6 (.take 7 (.take 8 (.one 9 [0,1,8] (.take 10 .nil)))))))))))]) .nil .nil) .nil)) (.node 38 (Tryz.f38,[]) (.node 37 (Tryz.f37,[]) (.node 35 (Tryz.f35,[(5,.take 0 (.take 1 (.take 2 (.one 3 [] (.take 4 (.one 5 [1] (.take 6 .nil))))))),(8,.take 0 (.take 1 (.take 2 (.take 3 (.take 4 (.take 6 (.take 7 (.grp 16777216 (.alt 5 [4] (.alt 8 [3] (.take 9 (.alt 10 [6] (.take 11 .nil) .stop)) .stop) (.alt 8 [3] (.alt 5 [4] (.take 9 (.alt 10 [6] (.take 11 .nil) .stop)) .stop) .stop))))))))))]) .nil .nil) .nil) (.node 40 (Tryz.f40,[(18,.take 0 (.take 1 (.take 2 (.take 3 (.grp 4096 (.alt 4 [3] (.take 5 (.alt 6 [] (.alt 7 [2] .nil .stop) .stop)) (.alt 6 [] (.alt 4 [3] (.take 5 (.alt 7 [2] .nil .stop)) .stop) .stop))))))),(20,.take 0 (.take 1 (.take 2 (.take 3 (.take 4 (.take 5 (.take 6 (.take 7 (.take 8 (.take 9 (.take 10 (.take 11 (.take 12 (.take 13 (.take 14 (.take 15 (.take 16 (.take 17 (.take 18 (.take 19 (.take 20 (.take 21 (.take 22 (.take 23 (.take 24 (.take 25 (.take 26 (.take 27 (.take 28 (.take 29 (.take 30 (.take 31 (.take 32 (.take 33 (.take 34 (.take 35 (.take 36 (.take 37 (.take 38 .nil))))))))))))))))))))))))))))))))))))))),(21,.take 0 (.take 1 (.take 2 (.take 3 (.take 4 (.take 5 (.take 6 (.take 7 (.take 8 (.take 9 (.take 10 (.take 11 (.take 12 (.take 13 (.one 14 [3,8,10] .nil))))))))))))))),(22,.take 0 (.take 1 (.take 2 (.take 3 (.take 4 (.take 5 (.one 6 [5] (.one 7 [4] (.take 8 (.take 9 (.one 10 [] .nil))))))))))),(26,.take 0 (.take 1 (.take 2 (.take 3 (.take 4 (.take 5 (.take 6 (.take 7 (.take 8 (.one 9 [] (.take 10 (.take 11 (.one 12 [11] (.one 13 [4] (.take 14 (.take 15 (.one 16 [] .nil)))))))))))))))))]) (.node 39 (Tryz.f39,[]) .nil .nil) .nil))) (.node 59 (Tryz.f59,[(6,.take 0 (.take 2 (.take 9 (.take 10 (.take 11 (.one 1 [] (.one 3 [] (.take 4 (.take 5 (.take 6 (.one 7 [6] (.take 8 (.take 12 (.take 13 .nil)))))))))))))),(12,.take 0 (.take 1 (.take 2 (.take 3 (.take 4 (.take 5 (.take 6 (.take 7 (.take 8 (.take 9 (.take 10 (.take 11 (.take 12 (.one 13 [4,6,9] .nil)))))))))))))),(13,.take 0 (.take 1 (.take 2 (.take 3 (.take 4 (.take 5 (.take 6 (.take 7 (.take 8 (.take 9 (.take 10 (.take 11 (.take 12 (.one 13 [4,6,9] .nil)))))))))))))),(15,.take 0 (.take 1 (.take 2 (.take 3 (.take 4 (.take 5 (.take 6 (.take 9 (.one 7 [6] (.take 8 (.take 10 (.take 11 (.one 12 [11] (.one 13 [5] (.take 14 (.take 15 (.take 16 (.one 17 [] .nil)))))))))))))))))),(16,.take 0 (.take 1 (.take 2 (.take 3 (.take 4 (.take 5 (.take 6 (.one 7 [3] (.take 8 (.take 9 .nil))))))))))]) (.node 53 (Tryz.f53,[]) (.node 46 (Tryz.f46,[]) (.node 45 (Tryz.f45,[]) .nil .nil) .nil) (.node 58 (Tryz.f58,[]) (.node 54 (Tryz.f54,[(1,.take 0 (.take 1 (.take 2 (.take 3 (.take 5 (.take 6 (.grp 4096 (.alt 4 [3] (.alt 7 [6] (.take 8 (.alt 9 [] (.alt 10 [1] .nil .stop) .stop)) (.alt 9 [] (.alt 7 [6] (.take 8 (.alt 10 [1] .nil .stop)) .stop) .stop)) (.alt 9 [] (.alt 4 [3] (.alt 7 [6] (.take 8 (.alt 10 [1] .nil .stop)) .stop) .stop) .stop))))))))),(11,.take 0 (.take 1 (.take 2 (.take 3 (.take 4 (.take 5 (.take 7 (.take 8 (.one 6 [5] (.one 9 [8] (.take 10 (.one 11 [] (.one 12 [1] (.take 13 (.one 14 [3] .nil)))))))))))))))]) .nil .nil) .nil)) (.node 64 (Tryz.f64,[]) (.node 63 (Tryz.f63,[]) (.node 62 (Tryz.f62,[(5,.take 0 (.take 1 (.take 2 (.take 3 (.take 4 (.take 5 (.take 6 (.take 7 (.take 8 (.take 9 (.take 10 (.take 11 (.take 12 (.take 13 (.take 14 (.take 15 (.take 16 .nil)))))))))))))))))]) .nil .nil) .nil) (.node 66 (Tryz.f66,[(5,.take 0 (.take 1 (.take 2 (.take 3 (.take 4 (.take 5 (.take 6 (.take 7 (.take 8 (.take 9 (.take 10 (.take 11 (.take 12 (.one 13 [3,7,12] (.take 14 (.take 15 (.take 16 (.take 17 (.take 18 .nil)))))))))))))))))))]) (.node 65 (Tryz.f65,[(5,.take 0 (.take 1 (.take 2 (.take 3 (.take 4 (.take 5 (.one 6 [5] (.take 7 (.take 8 (.take 9 (.one 10 [3] .nil))))))))))),(12,.take 0 (.take 1 (.take 2 (.take 3 (.take 4 (.take 5 (.one 6 [3,4] (.take 7 (.take 8 (.take 9 (.take 10 (.take 11 .nil)))))))))))),(27,.take 0 (.take 1 (.take 2 (.take 3 (.take 4 (.take 5 (.take 6 (.take 7 (.take 8 (.take 9 (.take 10 (.one 11 [] (.one 12 [7] (.take 13 (.one 14 [2,5,8,9] .nil)))))))))))))))]) .nil .nil) .nil)))) (.node 89 (Tryz.f89,[]) (.node 82 (Tryz.f82,[(1,.take 0 (.take 1 (.take 2 (.take 3 (.take 4 (.take 5 (.take 6 (.take 7 (.take 8 (.take 9 (.take 10 .nil)))))))))))]) (.node 75 (Tryz.f75,[(0,.take 0 (.take 1 (.take 2 (.take 3 (.take 4 (.take 5 (.take 6 (.take 7 (.take 8 (.take 9 (.take 10 (.one 11 [4] (.take 12 (.take 13 (.take 14 (.take 15 (.take 16 (.one 17 [6] .nil))))))))))))))))))]) (.node 74 (Tryz.f74,[(4,.take 0 (.take 1 (.take 2 (.take 3 (.take 4 (.take 5 (.take 6 (.take 7 (.take 8 (.take 9 (.take 10 (.take 11 (.take 12 (.take 13 (.take 14 (.take 15 (.one 16 [] .nil)))))))))))))))))]) (.node 73 (Tryz.f73,[(10,.take 0 (.take 1 (.one 2 [0] (.take 3 .nil))))]) .nil .nil) .nil) (.node 81 (Tryz.f81,[]) (.node 80 (Tryz.f80,[]) .nil .nil) .nil)) (.node 86 (Tryz.f86,[(0,.take 0 (.take 1 (.take 2 (.take 3 (.take 4 (.take 5 (.take 6 (.take 7 (.take 8 (.one 9 [0,5] .nil))))))))))]) (.node 84 (Tryz.f84,[]) (.node 83 (Tryz.f83,[]) .nil .nil) .nil) (.node 88 (Tryz.f88,[]) (.node 87 (Tryz.f87,[]) .nil .nil) .nil))) (.node 95 (Tryz.f95,[]) (.node 92 (Tryz.f92,[(11,.take 0 (.take 1 (.take 2 (.take 3 (.take 4 (.take 5 (.take 6 (.take 7 (.take 8 (.take 9 (.take 10 (.take 11 (.take 12 (.take 13 (.take 14 (.take 15 (.take 16 (.take 17 (.take 18 (.take 19 (.take 20 (.take 21 (.take 22 (.take 23 (.take 24 .nil)))))))))))))))))))))))))]) (.node 91 (Tryz.f91,[(4,.take 0 (.take 1 (.take 2 (.take 3 (.take 4 (.take 5 (.take 6 (.take 7 (.take 8 (.take 9 (.take 10 (.take 11 (.take 12 (.take 13 (.take 14 (.take 15 (.take 16 (.take 17 (.take 18 (.take 19 (.take 20 (.take 21 .nil))))))))))))))))))))))]) (.node 90 (Tryz.f90,[]) .nil .nil) .nil) (.node 94 (Tryz.f94,[]) (.node 93 (Tryz.f93,[(1,.take 0 (.take 1 (.take 2 (.take 3 (.take 4 (.take 5 (.one 6 [3,5] (.take 7 (.take 8 (.take 9 (.take 10 (.take 11 .nil)))))))))))),(5,.take 0 (.take 1 (.take 2 (.take 3 (.take 4 (.take 5 (.take 6 (.take 7 (.take 8 (.take 9 (.take 10 (.one 11 [3,5,9] .nil)))))))))))),(6,.take 0 (.take 1 (.take 2 (.take 3 (.take 4 (.take 5 (.take 6 (.take 7 (.take 8 (.take 9 (.take 10 (.take 11 (.one 12 [] (.one 13 [4] (.take 14 (.take 15 (.one 16 [5,9] .nil))))))))))))))))),(7,.take 0 (.take 1 (.take 2 (.take 3 (.take 4 (.take 5 (.take 6 (.take 7 (.take 8 (.take 9 (.take 10 (.take 11 (.one 12 [3,5,7] .nil)))))))))))))]) .nil .nil) .nil)) (.node 98 (Tryz.f98,[]) (.node 97 (Tryz.f97,[(4,.take 0 (.take 1 (.take 2 (.take 3 (.take 4 (.take 5 (.take 6 (.take 7 (.take 8 (.take 9 (.one 10 [] (.one 11 [4] (.take 12 (.take 13 (.one 14 [] .nil))))))))))))))),(5,.take 0 (.take 1 (.take 2 (.take 3 (.take 4 (.take 5 (.take 6 (.take 7 .nil))))))))]) (.node 96 (Tryz.f96,[]) .nil .nil) .nil) (.node 99 (Tryz.f99,[(1,.take 0 (.take 1 (.take 3 (.take 4 (.take 7 (.take 8 (.take 11 (.take 12 (.take 15 (.take 16 (.one 2 [1] (.one 5 [4] (.take 6 (.one 9 [8] (.take 10 (.one 13 [12] (.take 14 (.one 17 [16] (.take 18 (.take 19 .nil))))))))))))))))))))]) .nil .nil))))) (.node 140 (Tryz.f140,[(1,.take 0 (.take 2 (.take 3 (.one 1 [0] (.take 4 (.take 5 (.take 6 (.take 7 (.take 8 (.take 9 (.take 10 (.take 11 (.take 12 (.take 13 (.take 14 (.take 15 (.take 16 (.take 17 (.take 18 (.take 19 .nil))))))))))))))))))))]) (.node 125 (Tryz.f125,[]) (.node 115 (Tryz.f115,[]) (.node 111 (Tryz.f111,[]) (.node 110 (Tryz.f110,[]) (.node 101 (Tryz.f101,[]) .nil .nil) .nil) (.node 113 (Tryz.f113,[]) (.node 112 (Tryz.f112,[]) .nil .nil) .nil)) (.node 118 (Tryz.f118,[(1,.take 0 (.take 1 (.take 2 (.take 3 (.take 4 (.take 5 (.take 6 (.take 7 (.take 8 (.take 9 (.take 10 (.take 11 (.take 12 (.take 13 (.take 14 (.take 15 (.take 16 (.take 17 (.take 18 (.take 19 (.take 20 .nil)))))))))))))))))))))]) (.node 117 (Tryz.f117,[]) (.node 116 (Tryz.f116,[]) .nil .nil) .nil) (.node 123 (Tryz.f123,[(3,.take 0 (.take 1 (.take 2 (.take 3 (.take 4 (.one 5 [3] (.take 6 (.take 7 (.take 8 (.take 9 (.take 10 .nil))))))))))),(6,.take 0 (.take 1 (.take 2 (.take 3 (.take 4 (.take 5 (.take 6 (.take 7 (.take 8 (.take 9 (.take 10 (.take 11 (.take 12 .nil))))))))))))),(9,.take 0 (.take 1 (.take 2 (.take 3 (.take 4 (.take 5 (.take 6 (.take 7 (.take 8 (.one 9 [8] (.one 10 [4] (.take 11 (.take 12 (.one 13 [] .nil)))))))))))))),(10,.take 0 (.take 1 (.take 2 (.take 3 (.take 4 (.take 5 (.take 6 (.take 7 (.take 8 (.take 9 (.take 10 .nil))))))))))),(15,.take 0 (.take 1 (.take 2 (.take 3 (.take 4 (.take 5 (.take 6 (.take 7 (.take 8 (.take 9 (.take 10 (.take 11 (.one 12 [3,7] .nil))))))))))))),(16,.take 0 (.take 1 (.take 2 (.take 3 (.take 4 (.take 5 (.take 6 (.take 7 (.take 8 (.take 9 (.take 10 (.take 11 (.take 12 (.take 13 (.take 14 (.take 15 (.take 16 (.take 17 (.take 18 .nil)))))))))))))))))))]) (.node 122 (Tryz.f122,[]) .nil .nil) .nil))) (.node 131 (Tryz.f131,[]) (.node 128 (Tryz.f128,[]) (.node 127 (Tryz.f127,[]) (.node 126 (Tryz.f126,[]) .nil .nil) .nil) (.node 130 (Tryz.f130,[]) (.node 129 (Tryz.f129,[]) .nil .nil) .nil)) (.node 137 (Tryz.f137,[]) (.node 136 (Tryz.f136,[]) (.node 135 (Tryz.f135,[]) .nil .nil) .nil) (.node 139 (Tryz.f139,[]) (.node 138 (Tryz.f138,[]) .nil .nil) .nil)))) (.node 172 (Tryz.f172,[]) (.node 166 (Tryz.f166,[(2,.take 0 (.take 1 (.take 2 (.take 3 (.take 4 (.take 5 (.take 6 (.take 7 (.take 8 .nil))))))))),(6,.take 0 (.take 1 (.take 2 (.take 3 (.take 4 (.take 5 (.take 6 (.take 7 (.take 8 .nil)))))))))]) (.node 154 (Tryz.f154,[(6,.take 0 (.take 1 (.take 2 (.take 3 (.take 4 (.take 5 (.take 6 (.take 7 (.take 8 (.take 9 (.take 10 (.take 11 .nil))))))))))))]) (.node 153 (Tryz.f153,[(8,.take 0 (.take 1 (.take 2 (.take 3 (.take 4 (.take 5 (.take 6 (.one 7 [6] (.one 8 [4] (.take 9 (.take 10 (.one 11 [] .nil))))))))))))]) (.node 152 (Tryz.f152,[]) .nil .nil) .nil) (.node 157 (Tryz.f157,[]) (.node 156 (Tryz.f156,[]) .nil .nil) .nil)) (.node 169 (Tryz.f169,[]) (.node 168 (Tryz.f168,[]) (.node 167 (Tryz.f167,[(11,.take 0 (.take 1 (.take 2 (.take 3 (.take 4 (.take 5 (.take 6 (.take 7 (.one 8 [] .nil))))))))),(15,.take 0 (.take 1 (.take 2 (.take 3 (.take 4 (.take 5 (.take 6 (.take 7 (.one 8 [] .nil)))))))))]) .nil .nil) .nil) (.node 171 (Tryz.f171,[(3,.take 0 (.take 1 (.take 2 (.take 3 (.take 4 (.take 5 (.take 6 (.take 7 (.take 8 (.take 9 (.take 10 (.take 11 (.take 12 (.take 13 (.take 14 (.take 15 (.take 16 (.take 17 (.take 18 (.take 19 (.take 20 (.take 21 (.take 22 (.take 23 (.take 24 (.take 25 (.one 26 [4,10,14,19,23] .nil))))))))))))))))))))))))))),(13,.take 0 (.take 1 (.take 2 (.take 3 (.take 4 (.take 5 (.take 6 (.take 7 (.take 8 (.take 9 (.take 10 (.take 11 (.take 12 (.one 13 [6,8,10] .nil)))))))))))))),(15,.take 0 (.take 1 (.take 2 (.take 3 (.take 4 (.take 5 (.take 6 (.one 7 [] (.take 8 (.take 9 (.one 10 [4] .nil)))))))))))]) (.node 170 (Tryz.f170,[]) .nil .nil) .nil))) (.node 180 (Tryz.f180,[]) (.node 177 (Tryz.f177,[]) (.node 176 (Tryz.f176,[]) (.node 175 (Tryz.f175,[]) .nil .nil) .nil) (.node 179 (Tryz.f179,[]) (.node 178 (Tryz.f178,[]) .nil .nil) .nil)) (.node 183 (Tryz.f183,[]) (.node 182 (Tryz.f182,[]) (.node 181 (Tryz.f181,[]) .nil .nil) .nil) (.node 184 (Tryz.f184,[(3,.take 0 (.take 1 (.take 2 (.take 3 (.take 4 (.take 5 (.take 6 (.take 7 (.take 8 (.take 9 (.take 10 (.take 11 (.take 12 (.one 13 [7,11] (.take 14 (.one 15 [] .nil))))))))))))))))]) .nil .nil)))))
def b6y:TT:=.node 108 (.st 4 [(0,1,false),(1,1,false),(2,1,false),(3,1,false)] [.map none,.map none,.slice none 0 0,.int .i64 0]) (.node 38 (.sl 89 4 32 true [.string ⟨#[]⟩,.int .i64 0,.bool false,.bool false]) (.node 25 (.sl 191 3 32 true [.int .i64 0,.string ⟨#[]⟩,.int .i64 0]) (.node 21 (.sc (.int .i32) 1 (.int .i32 0)) (.node 5 (.sc (.int .u8) 1 (.int .u8 0)) (.node 4 (.sc .bool 1 (.bool false)) (.node 3 (.sc (.int .i64) 1 (.int .i64 0)) .nil .nil) .nil) (.node 9 (.sc .string 1 (.string ⟨#[]⟩)) .nil .nil)) (.node 23 (.sl 197 5 40 true [.int .i64 0,.int .i64 0,.string ⟨#[]⟩,.bool false,.bool false]) (.node 22 (.sl 9 1 16 false [.string ⟨#[]⟩]) .nil .nil) (.node 24 (.sl 252 2 24 true [.string ⟨#[]⟩,.int .i64 0]) .nil .nil))) (.node 30 (.sl 81 4 32 true [.int .i64 0,.int .i64 0,.int .i64 0,.bool false]) (.node 28 (.sl 27 6 120 true [.string ⟨#[]⟩,.slice none 0 0,.slice none 0 0,.slice none 0 0,.slice none 0 0,.int .i64 0]) (.node 27 (.st 6 [(0,1,false),(1,1,false),(2,1,false),(3,1,false),(4,1,false),(5,1,false)] [.string ⟨#[]⟩,.slice none 0 0,.slice none 0 0,.slice none 0 0,.slice none 0 0,.int .i64 0]) .nil .nil) (.node 29 (.sl 3 1 8 false [.int .i64 0]) .nil .nil)) (.node 33 (.st 3 [(0,1,false),(1,1,false),(2,1,false)] [.slice none 0 0,.slice none 0 0,.int .i64 0]) (.node 31 (.sl 94 3 48 true [.int .i64 0,.string ⟨#[]⟩,.slice none 0 0]) .nil .nil) (.node 34 (.sc (.int .i64) 1 (.int .i64 0)) .nil .nil)))) (.node 91 (.st 3 [(0,1,false),(1,1,false),(2,1,false)] [.int .i64 0,.int .i64 0,.int .i64 0]) (.node 73 (.sl 91 3 24 true [.int .i64 0,.int .i64 0,.int .i64 0]) (.node 42 (.st 5 [(0,1,false),(1,1,false),(2,1,false),(3,1,false),(4,1,false)] [.slice none 0 0,.slice none 0 0,.slice none 0 0,.slice none 0 0,.int .i64 0]) (.node 40 (.sl 75 3 56 true [.bool false,.slice none 0 0,.slice none 0 0]) (.node 39 (.sl 143 2 24 true [.string ⟨#[]⟩,.int .i64 0]) .nil .nil) .nil) (.node 68 (.st 2 [(0,1,false),(1,1,false)] [.int .i64 0,.int .i64 0]) .nil .nil)) (.node 81 (.st 4 [(0,1,false),(1,1,false),(2,1,false),(3,1,false)] [.int .i64 0,.int .i64 0,.int .i64 0,.bool false]) (.node 75 (.st 3 [(0,1,false),(1,1,false),(2,1,false)] [.bool false,.slice none 0 0,.slice none 0 0]) .nil .nil) (.node 89 (.st 4 [(0,1,false),(1,1,false),(2,1,false),(3,1,false)] [.string ⟨#[]⟩,.int .i64 0,.bool false,.bool false]) .nil .nil))) (.node 103 (.sc (.pointer 108) 1 (.pointer none)) (.node 94 (.st 3 [(0,1,false),(1,1,false),(2,1,false)] [.int .i64 0,.string ⟨#[]⟩,.slice none 0 0]) (.node 92 (.sl 96 2 24 true [.int .i64 0,.string ⟨#[]⟩]) .nil .nil) (.node 96 (.st 2 [(0,1,false),(1,1,false)] [.int .i64 0,.string ⟨#[]⟩]) .nil .nil)) (.node 105 (.sc (.map 9 3) 1 (.map none)) (.node 104 (.sc (.map 9 27) 1 (.map none)) .nil .nil) (.node 106 (.sl 112 7 128 true [.string ⟨#[]⟩,.slice none 0 0,.slice none 0 0,.slice none 0 0,.slice none 0 0,.int .i64 0,.int .i64 0]) .nil .nil))))) (.node 186 (.sl 110 1 8 false [.nilFunc]) (.node 152 (.sc (.func #[75] #[4] false) 1 (.nilFunc)) (.node 145 (.sc (.pointer 149) 1 (.pointer none)) (.node 114 (.sc (.pointer 33) 1 (.pointer none)) (.node 112 (.st 7 [(0,6,true),(6,1,false)] [.string ⟨#[]⟩,.slice none 0 0,.slice none 0 0,.slice none 0 0,.slice none 0 0,.int .i64 0,.int .i64 0]) (.node 110 (.sc (.func #[27] #[34] false) 1 (.nilFunc)) .nil .nil) .nil) (.node 143 (.st 2 [(0,1,false),(1,1,false)] [.string ⟨#[]⟩,.int .i64 0]) .nil .nil)) (.node 147 (.sl 154 1 24 false [.slice none 0 0]) (.node 146 (.sc (.pointer 42) 1 (.pointer none)) .nil .nil) (.node 149 (.st 4 [(0,1,false),(1,1,false),(2,1,false),(3,1,false)] [.pointer none,.slice none 0 0,.slice none 0 0,.int .i64 0]) .nil .nil))) (.node 167 (.sc (.func #[165,3,3] #[] false) 1 (.nilFunc)) (.node 161 (.sc (.pointer 169) 1 (.pointer none)) (.node 154 (.sl 233 7 56 true [.int .i64 0,.int .i64 0,.int .i64 0,.int .i64 0,.int .i64 0,.int .i64 0,.bool false]) .nil .nil) (.node 165 (.sc (.pointer 89) 1 (.pointer none)) .nil .nil)) (.node 183 (.sl 5 1 1 false [.int .u8 0]) (.node 169 (.st 7 [(0,5,true),(5,1,false),(6,1,false)] [.slice none 0 0,.slice none 0 0,.slice none 0 0,.slice none 0 0,.int .i64 0,.int .i64 0,.slice none 0 0]) .nil .nil) (.node 184 (.sl 28 1 24 false [.slice none 0 0]) .nil .nil)))) (.node 247 (.sc (.func #[94,3] #[3] false) 1 (.nilFunc)) (.node 233 (.st 7 [(0,3,true),(3,4,true)] [.int .i64 0,.int .i64 0,.int .i64 0,.int .i64 0,.int .i64 0,.int .i64 0,.bool false]) (.node 197 (.st 5 [(0,1,false),(1,1,false),(2,1,false),(3,1,false),(4,1,false)] [.int .i64 0,.int .i64 0,.string ⟨#[]⟩,.bool false,.bool false]) (.node 191 (.st 3 [(0,1,false),(1,1,false),(2,1,false)] [.int .i64 0,.string ⟨#[]⟩,.int .i64 0]) (.node 188 (.sc (.map 3 199) 1 (.map none)) .nil .nil) .nil) (.node 201 (.st 5 [(0,1,false),(1,1,false),(2,1,false),(3,1,false),(4,1,false)] [.int .i64 0,.int .i64 0,.int .i64 0,.int .i64 0,.int .i64 0]) .nil .nil)) (.node 243 (.sc (.func #[81,3] #[3] false) 1 (.nilFunc)) (.node 235 (.sc (.func #[233] #[4] false) 1 (.nilFunc)) .nil .nil) (.node 245 (.sc (.func #[91,3] #[3] false) 1 (.nilFunc)) .nil .nil))) (.node 287 (.sc (.func #[21] #[4] false) 1 (.nilFunc)) (.node 257 (.sc (.int .u64) 1 (.int .u64 0)) (.node 252 (.st 2 [(0,1,false),(1,1,false)] [.string ⟨#[]⟩,.int .i64 0]) .nil .nil) (.node 284 (.sc (.int .u64) 1 (.int .u64 0)) .nil .nil)) (.node 319 (.sc (.func #[143] #[4] false) 1 (.nilFunc)) (.node 303 (.sc (.func #[89] #[4] false) 1 (.nilFunc)) .nil .nil) (.node 321 (.sc (.func #[91] #[4] false) 1 (.nilFunc)) .nil .nil)))))
def b6C:List (Nat×Value):=[(104,.agg #[.string ⟨#[]⟩,.slice none 0 0,.slice none 0 0,.slice none 0 0,.slice none 0 0,.int .i64 0]),(105,.int .i64 0),(188,.pointer none),(309,.agg #[.bool false,.bool false,.bool false])]
noncomputable def cxK:Cx:=⟨b6y,cxQ,b6C,b6l,cxM⟩
theorem b7L:FOk Tryz.prog cxK:=by
 have hT:BT.All (fun t ti=>(a8y Tryz.prog t=some ti/\ti.okB=true)/\ti.zeros.all cOk=true) b6y:=by
  unfold b6y
  repeat' (first|exact BT.All.nil|refine BT.All.node ⟨⟨by kernel_rfl,by kernel_rfl⟩,by kernel_rfl⟩ ?_ ?_)
 have hZ:ForA (fun p:Nat×Value=>∃ Kt Et,Tryz.prog.underlying p.1=some (.map Kt Et)/\(Tryz.prog.info? Et).bind (·.zero)=some p.2/\zOk p.2=true) b6C:=by
  unfold b6C;exact ForA.cons ⟨9,27,by kernel_rfl,by kernel_rfl,by kernel_rfl⟩ (ForA.cons ⟨9,3,by kernel_rfl,by kernel_rfl,by kernel_rfl⟩ (ForA.cons ⟨3,199,by kernel_rfl,by kernel_rfl,by kernel_rfl⟩ (ForA.cons ⟨3,307,by kernel_rfl,by kernel_rfl,by kernel_rfl⟩ (ForA.nil))))
 have hF:BT.All (fun g (x:Func×List (Nat×Pl))=>a3x Tryz.prog g x.1/\∃ c,x.1.body=some c/\a48 x.1.ntmps x.2 c=true) b6l:=by
  unfold b6l
  repeat' (first|exact BT.All.nil|refine BT.All.node ⟨⟨by kernel_rfl,by kernel_rfl,by kernel_rfl⟩,_,rfl,by kernel_rfl⟩ ?_ ?_)
 exact ⟨⟨fun t ti h=>(hT.get h).1,fun t ti h=>(hT.get h).2,b6F,b5x hZ⟩,by kernel_rfl,hF,b6f⟩
theorem a54 (w:World):Fn Tryz.prog 21 [] w (RBf (.bool true) w):=b6M b7L 60 (by kernel_rfl) rfl (fun _=>VR.cOk (v:=.bool true) rfl) w
def ftC (p:Int×Int):List Value:=[.int .i64 p.1,.int .i64 p.2]
theorem b8e (a b:Int×Int):a52 Tryz.prog 68 (ftC a) (ftC b) (decide (a=b)):=by
 refine ⟨fun w=>?_,by kernel_rfl⟩;obtain ⟨a1,a2⟩:=a;obtain ⟨b1,b2⟩:=b;unfold ftC;simp [go_sem]
 repeat' split
 all_goals simp_all
theorem a63 (a b:Int):a52 Tryz.prog 68 [.int .i64 a,.int .i64 b] [.int .i64 a,.int .i64 b] true:=by
 have h:=b8e (a,b) (a,b);rw [xj4 rfl] at h;exact h
theorem b7c {K:Ker} {space addr size way:Int} (h:okR K space addr size way):∃ sp:Nat,space=(sp:Nat)/\ReOk K sp addr size/\a2q K space addr size way=a0H K sp addr size (decide (way=1))/\ReOk (a0H K sp addr size (decide (way=1))) sp addr size:=by
 obtain ⟨sp,hsp,hr,h1,h2,h3,h4,h5,h6⟩:=b6t h;obtain ⟨r1,r2,-⟩:=a70 hr (sp:=sp) (by omega) h1 h2 h6 (decide (way=1));exact ⟨sp,hsp,⟨hr,by omega,h1,h2,h6⟩,h5,⟨r1,by omega,h1,h2,fun i h0 h1=>(h6 i h0 h1).same r2.ar r2.live⟩⟩
theorem a9v {K:Ker} {space size way:Int} (h:x5 K space size way=0):a0Q K space=0/\1<=size/\size<=8/\0<=way/\way<=2:=by
 unfold x5 at h;by_cases h1:a0Q K space=0
 ·rw [xf0 h1] at h;by_cases h2:size < 1\/8 < size
  ·rw [xf0 h2] at h;cases h
  ·rw [xf1 h2] at h;by_cases h3:way < 0\/2 < way
   ·rw [xf0 h3] at h;cases h
   ·exact ⟨h1,by omega,by omega,by omega,by omega⟩
 ·rw [xf1 h1] at h;exact absurd h h1
theorem a5t {w:World} {k:KV} (hK:KerV w k) {space addr size way:Int} (hb0:-9223372036854775808<=addr) (hb1:addr<=9223372036854775807):Fn Tryz.prog 8 [.agg (kvC k).toArray,.int .i64 space,.int .i64 addr,.int .i64 size,.int .i64 way] w (RBf (.bool true) w):=by
 have hf:=fun w1 (h:KerV w1 k)=>b3l h (space:=space) (size:=size) (way:=way) hb0 hb1;have hl:=fun w1 (h:KerV w1 k)=>b5e h (space:=space) (size:=size) (way:=way) hb0 hb1;have hre:=fun w1 (h:KerV w1 k)=>b0d h space size way;have hbg:=a54;by_cases he:x5 k.K space size way=0;rotate_left
 ·have hR:a2q k.K space addr size way=b0R:=by unfold a2q;rw [xf1 (fun h=>he h.1)]
  have hF:a19 k.K space addr size way=(0,0):=by unfold a19;rw [xf1 he]
  obtain ⟨d1,d2,d3,d4⟩:=b1x (addr:=addr) he;rw [hR,hF] at hf;rw [d1,d2,d3,d4] at hl;clear d1 d2 d3 d4 hR hF;generalize x5 k.K space size way=e at he hf hl hre;have hde:decide (e=e)=true:=xj4 rfl;have hd0:decide (e=0)=false:=xj2 he;have hz:a2b (0,0)=.agg #[.int .i64 0,.int .i64 0]:=rfl;rw [hz] at hf hl;have hes:decide ((⟨([]:List UInt8).toArray⟩:ByteArray)=⟨#[]⟩)=true:=rfl;obtain ⟨sh,fr,sl,sps,hand,vsh,vfr,vsl,vsp⟩:=k;have hK0:=hK;obtain ⟨k1,k2,k3,k4,k5⟩:=hK;dsimp only at k1 k2 k3 k4 k5;obtain ⟨p1,c1,rfl⟩:=k1.sl.len;obtain ⟨p2,c2,rfl⟩:=k2.len;obtain ⟨p3,c3,rfl⟩:=k3.len;obtain ⟨p4,c4,rfl⟩:=k4.len;unfold kvC at hf hl hre |-;dsimp only at hf hl hre |-;refine yEn Tryz.func8 Tryz.ntmps8 (by kernel_rfl) (by kernel_rfl) rfl rfl ?_;have hS:=St.start w
  repeat' (first|(with_reducible apply a8 a7);rfl;rfl;rfl|(with_reducible apply a9);rfl;(apply Ld.st a7;rfl;exact hS.blkR 0 rfl;rfl);rfl|refine yDn (by with_reducible constructor) ?_|(with_reducible apply l6 hS);rfl;rfl;rfl;clear hS;intro g w' hS|(with_reducible apply m9);rfl;rfl;rfl;refine ⟨_,hf _ (hK0.now hS),?_⟩;rintro _ w2 ⟨k1,rfl,hk1,hc1⟩)
  have hV:=hc1.V;obtain ⟨Δ1,hD1,hV1⟩:=(hc1).keep;replace hS:=(hS.trans hD1).perm xm6;simp only [List.cons_append,List.nil_append,xg2] at hS;clear hD1;obtain ⟨k1sh,k1fr,k1sl,k1sp,k1hand,k1vsh,k1vfr,k1vsl,k1vsp⟩:=k1;obtain ⟨k1m1,k1m2,k1m3,k1m4,-⟩:=hV;dsimp only at k1m1 k1m2 k1m3 k1m4;obtain ⟨k1x1,k1y1,rfl⟩:=k1m1.sl.len;obtain ⟨k1x2,k1y2,rfl⟩:=k1m2.len;obtain ⟨k1x3,k1y3,rfl⟩:=k1m3.len;obtain ⟨k1x4,k1y4,rfl⟩:=k1m4.len;clear k1m1 k1m2 k1m3 k1m4
  repeat' (first|(with_reducible apply a8 a7);rfl;rfl;rfl|(with_reducible apply a9);rfl;(apply Ld.st a7;rfl;exact hS.blkR 2 rfl;rfl);rfl|refine yDn (by with_reducible constructor) ?_|(with_reducible apply d7 hS a7);rfl;rfl;rfl;clear hS;intro g w' hS|(with_reducible apply b8 hS a7 (i:=0));(iterate 8 rfl);exact (rfl:_=[_,_]);clear hS;intro w' hS;simp only [List.set] at hS|(with_reducible apply b8 hS a7 (i:=1));(iterate 8 rfl);exact (rfl:_=[_,_,_,_,_]);clear hS;intro w' hS;simp only [List.set] at hS|(with_reducible apply m9);rfl;rfl;rfl;refine ⟨_,hl _ (hK0.now hS),?_⟩;rintro _ w2 ⟨k2,rfl,hk2,hc2⟩)
  have hV:=hc2.V;obtain ⟨Δ2,hD2,hV2⟩:=(hc2).keep;replace hS:=(hS.trans hD2).perm xm6;simp only [List.cons_append,List.nil_append,xg2] at hS;clear hD2;obtain ⟨k2sh,k2fr,k2sl,k2sp,k2hand,k2vsh,k2vfr,k2vsl,k2vsp⟩:=k2;obtain ⟨k2m1,k2m2,k2m3,k2m4,-⟩:=hV;dsimp only at k2m1 k2m2 k2m3 k2m4;obtain ⟨k2x1,k2y1,rfl⟩:=k2m1.sl.len;obtain ⟨k2x2,k2y2,rfl⟩:=k2m2.len;obtain ⟨k2x3,k2y3,rfl⟩:=k2m3.len;obtain ⟨k2x4,k2y4,rfl⟩:=k2m4.len;clear k2m1 k2m2 k2m3 k2m4;have hs1:=fun w1 h1 h2=>w9 (w:=w1) (k':=kv0) h1 h2 hk1;have hs2:=fun w1 h1 h2=>w9 (w:=w1) (k':=kv0) h1 h2 hk2;unfold kvC kv0 at hs1 hs2;dsimp only at hs1 hs2
  repeat' (first|(with_reducible apply a8 a7);rfl;rfl;rfl|(with_reducible apply a9);rfl;(apply Ld.st a7;rfl;(first|exact hS.blkR 0 rfl|exact hS.blkR 1 rfl|exact hS.blkR 2 rfl|exact hS.blkR 3 rfl|exact hS.blkR 4 rfl|exact hS.blkR 5 rfl);rfl);rfl|refine yDn (by with_reducible constructor) ?_|((with_reducible apply j5);(iterate 4 rfl);first|rfl|assumption)|(with_reducible apply s9);(iterate 4 rfl);assumption;rfl|(with_reducible apply e9);rfl;(first|rfl|assumption);rfl;rfl|(with_reducible apply f5);rfl;assumption;rfl;rfl|((with_reducible apply f6);rfl;first|rfl|assumption)|(with_reducible apply d7 hS a7);rfl;rfl;rfl;clear hS;intro g w' hS|(with_reducible apply b8 hS a7 (i:=0));(iterate 8 rfl);exact (rfl:_=[_,_]);clear hS;intro w' hS;simp only [List.set] at hS|(with_reducible apply b8 hS a7 (i:=1));(iterate 8 rfl);exact (rfl:_=[_,_,_,_,_]);clear hS;intro w' hS;simp only [List.set] at hS|(with_reducible apply d6 hS);rfl;rfl;rfl;refine ⟨_,hre _ (hK0.now hS),?_⟩;clear hS;intro w' hS|(with_reducible apply d6 hS);rfl;rfl;rfl;refine ⟨_,hbg _,?_⟩;clear hS;intro w' hS|(with_reducible apply d6 hS);rfl;rfl;rfl;refine ⟨_,hs1 _ (hV1 hS (fun _ h=>by simp only [xc4,xe3,h,xp4,xp5])) (a4V _),?_⟩;clear hS;intro w' hS|(with_reducible apply d6 hS);rfl;rfl;rfl;refine ⟨_,hs2 _ (hV2 hS (fun _ h=>by simp only [xc4,xe3,h,xp4,xp5])) (a4V _),?_⟩;clear hS;intro w' hS|(with_reducible apply a5T);rfl;rfl;exact a63 0 0;rfl|(with_reducible apply a0w a7);rfl;rfl;rfl;refine ⟨_,hS.blkRk 6 0 2 rfl,rfl,?_⟩|(with_reducible apply a0w a7);rfl;rfl;rfl;refine ⟨_,hS.blkRk 7 0 5 rfl,rfl,?_⟩)
  (refine k6 rfl ?_)
  exact ⟨rfl,hS.sub (xj3 _)⟩
 obtain ⟨hli,hs1,hs8,hw0,hw2⟩:=a9v he;obtain ⟨hr,sp,rfl,hspl,hlv⟩:=a6z hli;obtain ⟨x,hx⟩:∃ x,k.sp[sp]?=some x:=by
  have:k.K.spaces.length=k.sp.length:=xj1 _;exact j3 (by omega)
 have hsc:=(z7 hr x.s (xd0 (a1F hx))).1;have hxv:=hK.spv x (xd0 hx);have har:=hxv.ar;have hao:k7 k.K ((sp:Nat):Int).toNat=x.s.areas:=by
  rw [xi1];unfold k7;rw [a01 (a1F hx)]
 obtain ⟨F,hF⟩:∃ F,F=q8 x.s.areas addr size way:=⟨_,rfl⟩;have hfa:=fun w1 (h:Sl nF w1 4 x.va (x.s.areas.map arC))=>b2w h hsc.ar (addr:=addr) (size:=size) (way:=way) hb0 hb1 hs1 hs8 (by omega);rw [<- hF] at hfa;have hrF:a19 k.K (sp:Nat) addr size way=F:=by unfold a19;rw [xf0 he,hao,hF]
 rw [hrF,he] at hf;rw [he] at hre;have hz:a2b F=.agg #[.int .i64 F.1,.int .i64 F.2]:=rfl;have hz0:a2b (0,0)=.agg #[.int .i64 0,.int .i64 0]:=rfl;have hrow:=c9 (f:=spC) hx;unfold spC at hrow;rw [hz] at hfa hf;by_cases hf0:F.1=0
 ·have hd0:decide (F.1=0)=true:=xj4 hf0;have hok:okR k.K (sp:Nat) addr size way:=⟨he,by rw [hao,<- hF];exact hf0⟩;obtain ⟨sp',hsp',ho1,hrR,ho2⟩:=b7c hok;obtain rfl:sp=sp':=by omega
  rw [hrR] at hf;have hF0:F=(0,0):=hrF.symm.trans (a5h hok);have hro:=fun w1 (h:KerV w1 k)=>a9B h ho1 (way:=way);by_cases hw:way=1
  ·have hdw:decide (way=1)=true:=xj4 hw;obtain ⟨d1,d2,d3,d4⟩:=a57 (addr:=addr) he hw;rw [d1,d2,d3,d4,hz0] at hl;clear d1 d2 d3 d4;generalize a0H k.K sp addr size (decide (way=1))=K3 at hf hro ho2;obtain ⟨sh,fr,sl,sps,hand,vsh,vfr,vsl,vsp⟩:=k;have hK0:=hK;obtain ⟨k1,k2,k3,k4,k5⟩:=hK;dsimp only at k1 k2 k3 k4 k5;obtain ⟨p1,c1,rfl⟩:=k1.sl.len;obtain ⟨p2,c2,rfl⟩:=k2.len;obtain ⟨p3,c3,rfl⟩:=k3.len;obtain ⟨p4,c4,rfl⟩:=k4.len;dsimp only at hx hrow;have hspl2:=b9 hx;obtain ⟨b,off,rfl,hro⟩:=k4.at_ (i:=sp) (b9 hx);unfold kvC at hf hl hre |-;dsimp only at hf hl hre |-;unfold kvC at hro;dsimp only at hro;refine yEn Tryz.func8 Tryz.ntmps8 (by kernel_rfl) (by kernel_rfl) rfl rfl ?_;have hS:=St.start w
   repeat' (first|(with_reducible apply a8 a7);rfl;rfl;rfl|(with_reducible apply a9);rfl;(apply Ld.st a7;rfl;exact hS.blkR 0 rfl;rfl);rfl|refine yDn (by with_reducible constructor) ?_|(with_reducible apply l6 hS);rfl;rfl;rfl;clear hS;intro g w' hS|(with_reducible apply m9);rfl;rfl;rfl;refine ⟨_,hf _ (hK0.now hS),?_⟩;rintro _ w2 ⟨k1,rfl,hk1,hc1⟩)
   have hV:=hc1.V;obtain ⟨Δ1,hD1,hV1⟩:=(hc1).keep;replace hS:=(hS.trans hD1).perm xm6;simp only [List.cons_append,List.nil_append,xg2] at hS;clear hD1;obtain ⟨k1sh,k1fr,k1sl,k1sp,k1hand,k1vsh,k1vfr,k1vsl,k1vsp⟩:=k1;obtain ⟨k1m1,k1m2,k1m3,k1m4,-⟩:=hV;dsimp only at k1m1 k1m2 k1m3 k1m4;obtain ⟨k1x1,k1y1,rfl⟩:=k1m1.sl.len;obtain ⟨k1x2,k1y2,rfl⟩:=k1m2.len;obtain ⟨k1x3,k1y3,rfl⟩:=k1m3.len;obtain ⟨k1x4,k1y4,rfl⟩:=k1m4.len;clear k1m1 k1m2 k1m3 k1m4
   repeat' (first|(with_reducible apply a8 a7);rfl;rfl;rfl|(with_reducible apply a9);rfl;(apply Ld.st a7;rfl;exact hS.blkR 2 rfl;rfl);rfl|refine yDn (by with_reducible constructor) ?_|(with_reducible apply d7 hS a7);rfl;rfl;rfl;clear hS;intro g w' hS|(with_reducible apply b8 hS a7 (i:=0));(iterate 8 rfl);exact (rfl:_=[_,_]);clear hS;intro w' hS;simp only [List.set] at hS|(with_reducible apply b8 hS a7 (i:=1));(iterate 8 rfl);exact (rfl:_=[_,_,_,_,_]);clear hS;intro w' hS;simp only [List.set] at hS|(with_reducible apply m9);rfl;rfl;rfl;refine ⟨_,hl _ (hK0.now hS),?_⟩;rintro _ w2 ⟨k2,rfl,hk2,hc2⟩)
   have hV:=hc2.V;obtain ⟨Δ2,hD2,hV2⟩:=(hc2).keep;replace hS:=(hS.trans hD2).perm xm6;simp only [List.cons_append,List.nil_append,xg2] at hS;clear hD2;obtain ⟨k2sh,k2fr,k2sl,k2sp,k2hand,k2vsh,k2vfr,k2vsl,k2vsp⟩:=k2;obtain ⟨k2m1,k2m2,k2m3,k2m4,-⟩:=hV;dsimp only at k2m1 k2m2 k2m3 k2m4;obtain ⟨k2x1,k2y1,rfl⟩:=k2m1.sl.len;obtain ⟨k2x2,k2y2,rfl⟩:=k2m2.len;obtain ⟨k2x3,k2y3,rfl⟩:=k2m3.len;obtain ⟨k2x4,k2y4,rfl⟩:=k2m4.len;clear k2m1 k2m2 k2m3 k2m4;have hs2:=fun w1 h1 h2=>w9 (w:=w1) (k':=kv0) h1 h2 hk2;unfold kvC kv0 at hs2;dsimp only at hs2
   repeat' (first|(with_reducible apply a8 a7);rfl;rfl;rfl|(with_reducible apply a9);rfl;(first|apply Ld.sc a7;rfl;exact hS.blkC 1 rfl rfl|apply Ld.sl a7;rfl;exact hS.roC (by assumption) (by assumption) rfl|apply Ld.st a7;rfl;exact hS.blkR 4 rfl;rfl);rfl|(with_reducible apply l9 a7);rfl;rfl;rfl;rfl;omega;rfl|refine yDn (by with_reducible constructor) ?_|(with_reducible apply j5);(iterate 4 rfl);rfl|(with_reducible apply e9);rfl;rfl;rfl;rfl|((with_reducible apply d9);rfl;first|rfl|assumption)|(with_reducible apply d7 hS a7);rfl;rfl;rfl;clear hS;intro g w' hS|(with_reducible apply b8 hS a7 (i:=0));(iterate 8 rfl);exact (rfl:_=[_,_]);clear hS;intro w' hS;simp only [List.set] at hS|(with_reducible apply b8 hS a7 (i:=1));(iterate 8 rfl);(first|exact (rfl:_=[_,_])|exact (rfl:_=[_,_,_,_,_]));clear hS;intro w' hS;simp only [List.set] at hS|(with_reducible apply d6 hS);rfl;rfl;rfl;refine ⟨_,hre _ (hK0.now hS),?_⟩;clear hS;intro w' hS|(with_reducible apply d6 hS);rfl;rfl;rfl;refine ⟨_,hfa _ (har.now hS),?_⟩;clear hS;intro w' hS|(with_reducible apply x6 a7);rfl;rfl;rfl;refine ⟨_,hS.blkC 8 rfl rfl,?_⟩|(with_reducible apply a0w a7);rfl;rfl;rfl;refine ⟨_,hS.blkRk 8 0 5 rfl,rfl,?_⟩)
   (with_reducible apply m9)
   rfl;rfl;rfl;refine ⟨_,hro _ (hK0.now hS),?_⟩;rintro _ w2 ⟨k3,rfl,hk3,hc3⟩;have hV:=KerV.own (Γ:=[]) (by rw [List.append_nil];exact hc3);have hcm:Came _ _ k3:=xd3 hc3;obtain ⟨Δ3,hD3,hV3⟩:=(hcm).keep;replace hS:=(hS.trans hD3).perm xm6;simp only [List.cons_append,List.nil_append,xg2] at hS;clear hD3;obtain ⟨k3sh,k3fr,k3sl,k3sp,k3hand,k3vsh,k3vfr,k3vsl,k3vsp⟩:=k3;obtain ⟨k3m1,k3m2,k3m3,k3m4,-⟩:=hV;dsimp only at k3m1 k3m2 k3m3 k3m4;obtain ⟨k3x1,k3y1,rfl⟩:=k3m1.sl.len;obtain ⟨k3x2,k3y2,rfl⟩:=k3m2.len;obtain ⟨k3x3,k3y3,rfl⟩:=k3m3.len;obtain ⟨k3x4,k3y4,rfl⟩:=k3m4.len;clear k3m1 k3m2 k3m3 k3m4;have hs1:=fun w1 h1 h2=>w9 (w:=w1) h1 h2 (hk1.trans hk3.symm);unfold kvC at hs1;dsimp only at hs1
   repeat' (first|(with_reducible apply a8 a7);rfl;rfl;rfl|(with_reducible apply a9);rfl;(apply Ld.st a7;rfl;(first|exact hS.blkR 0 rfl|exact hS.blkR 1 rfl|exact hS.blkR 2 rfl|exact hS.blkR 3 rfl|exact hS.blkR 4 rfl|exact hS.blkR 5 rfl);rfl);rfl|refine yDn (by with_reducible constructor) ?_|(with_reducible apply j5);(iterate 4 rfl);rfl|(with_reducible apply e9);rfl;rfl;rfl;rfl|(with_reducible apply f6);rfl;rfl|(with_reducible apply b8 hS a7 (i:=3));(iterate 8 rfl);exact (rfl:_=[_,_,_,_,_]);clear hS;intro w' hS;simp only [List.set] at hS|(with_reducible apply d6 hS);rfl;rfl;rfl;refine ⟨_,hbg _,?_⟩;clear hS;intro w' hS|(with_reducible apply d6 hS);rfl;rfl;rfl;refine ⟨_,hs1 _ (hV1 hS (fun _ h=>by simp only [xc4,xe3,h,xp4,xp5])) (hV3 hS (fun _ h=>by simp only [xc4,xe3,h,xp4,xp5])),?_⟩;clear hS;intro w' hS|(with_reducible apply d6 hS);rfl;rfl;rfl;refine ⟨_,hs2 _ (hV2 hS (fun _ h=>by simp only [xc4,xe3,h,xp4,xp5])) (a4V _),?_⟩;clear hS;intro w' hS|(with_reducible apply a5T);rfl;rfl;exact a63 F.1 F.2;rfl|(with_reducible apply a5T);rfl;rfl;exact a63 0 0;rfl|(with_reducible apply a0w a7);rfl;rfl;rfl;refine ⟨_,hS.blkRk 6 0 2 rfl,rfl,?_⟩|(with_reducible apply a0w a7);rfl;rfl;rfl;refine ⟨_,hS.blkRk 7 0 5 rfl,rfl,?_⟩)
   (refine k6 rfl ?_)
   exact ⟨rfl,hS.sub (xj3 _)⟩
  ·have hdw:decide (way=1)=false:=xj2 hw;obtain ⟨d1,d2,d3,d4⟩:=b1t (⟨hok,hw⟩:okL k.K (sp:Nat) addr size way);rw [<- hF0] at d2;rw [xi1] at d1 d4;rw [d1,d2,d3,d4,hz] at hl;clear d1 d2 d3 d4;rw [hdw] at hf hro ho2;obtain ⟨n,rfl⟩:∃ n:Nat,size=(n:Nat):=⟨size.toNat,by omega⟩;rw [xi1] at hl;generalize a0H k.K sp addr (n:Nat) false=K3 at hf hl hro ho2;have hes:decide (a1y K3 sp addr n=a1y K3 sp addr n)=true:=xj4 rfl;obtain ⟨sh,fr,sl,sps,hand,vsh,vfr,vsl,vsp⟩:=k;have hK0:=hK;obtain ⟨k1,k2,k3,k4,k5⟩:=hK;dsimp only at k1 k2 k3 k4 k5;obtain ⟨p1,c1,rfl⟩:=k1.sl.len;obtain ⟨p2,c2,rfl⟩:=k2.len;obtain ⟨p3,c3,rfl⟩:=k3.len;obtain ⟨p4,c4,rfl⟩:=k4.len;dsimp only at hx hrow;have hspl2:=b9 hx;obtain ⟨b,off,rfl,hro⟩:=k4.at_ (i:=sp) (b9 hx);unfold kvC at hf hl hre |-;dsimp only at hf hl hre |-;unfold kvC at hro;dsimp only at hro;refine yEn Tryz.func8 Tryz.ntmps8 (by kernel_rfl) (by kernel_rfl) rfl rfl ?_;have hS:=St.start w
   repeat' (first|(with_reducible apply a8 a7);rfl;rfl;rfl|(with_reducible apply a9);rfl;(apply Ld.st a7;rfl;exact hS.blkR 0 rfl;rfl);rfl|refine yDn (by with_reducible constructor) ?_|(with_reducible apply l6 hS);rfl;rfl;rfl;clear hS;intro g w' hS|(with_reducible apply m9);rfl;rfl;rfl;refine ⟨_,hf _ (hK0.now hS),?_⟩;rintro _ w2 ⟨k1,rfl,hk1,hc1⟩)
   have hV:=hc1.V;obtain ⟨Δ1,hD1,hV1⟩:=(hc1).keep;replace hS:=(hS.trans hD1).perm xm6;simp only [List.cons_append,List.nil_append,xg2] at hS;clear hD1;obtain ⟨k1sh,k1fr,k1sl,k1sp,k1hand,k1vsh,k1vfr,k1vsl,k1vsp⟩:=k1;obtain ⟨k1m1,k1m2,k1m3,k1m4,-⟩:=hV;dsimp only at k1m1 k1m2 k1m3 k1m4;obtain ⟨k1x1,k1y1,rfl⟩:=k1m1.sl.len;obtain ⟨k1x2,k1y2,rfl⟩:=k1m2.len;obtain ⟨k1x3,k1y3,rfl⟩:=k1m3.len;obtain ⟨k1x4,k1y4,rfl⟩:=k1m4.len;clear k1m1 k1m2 k1m3 k1m4
   repeat' (first|(with_reducible apply a8 a7);rfl;rfl;rfl|(with_reducible apply a9);rfl;(apply Ld.st a7;rfl;exact hS.blkR 2 rfl;rfl);rfl|refine yDn (by with_reducible constructor) ?_|(with_reducible apply d7 hS a7);rfl;rfl;rfl;clear hS;intro g w' hS|(with_reducible apply b8 hS a7 (i:=0));(iterate 8 rfl);exact (rfl:_=[_,_]);clear hS;intro w' hS;simp only [List.set] at hS|(with_reducible apply b8 hS a7 (i:=1));(iterate 8 rfl);exact (rfl:_=[_,_,_,_,_]);clear hS;intro w' hS;simp only [List.set] at hS|(with_reducible apply m9);rfl;rfl;rfl;refine ⟨_,hl _ (hK0.now hS),?_⟩;rintro _ w2 ⟨k2,rfl,hk2,hc2⟩)
   have hV:=hc2.V;obtain ⟨Δ2,hD2,hV2⟩:=(hc2).keep;replace hS:=(hS.trans hD2).perm xm6;simp only [List.cons_append,List.nil_append,xg2] at hS;clear hD2;obtain ⟨k2sh,k2fr,k2sl,k2sp,k2hand,k2vsh,k2vfr,k2vsl,k2vsp⟩:=k2;obtain ⟨k2m1,k2m2,k2m3,k2m4,-⟩:=hV;dsimp only at k2m1 k2m2 k2m3 k2m4;obtain ⟨k2x1,k2y1,rfl⟩:=k2m1.sl.len;obtain ⟨k2x2,k2y2,rfl⟩:=k2m2.len;obtain ⟨k2x3,k2y3,rfl⟩:=k2m3.len;obtain ⟨k2x4,k2y4,rfl⟩:=k2m4.len;clear k2m1 k2m2 k2m3 k2m4
   repeat' (first|(with_reducible apply a8 a7);rfl;rfl;rfl|(with_reducible apply a9);rfl;(first|apply Ld.sc a7;rfl;exact hS.blkC 1 rfl rfl|apply Ld.sl a7;rfl;exact hS.roC (by assumption) (by assumption) rfl|apply Ld.st a7;rfl;exact hS.blkR 4 rfl;rfl);rfl|(with_reducible apply l9 a7);rfl;rfl;rfl;rfl;omega;rfl|refine yDn (by with_reducible constructor) ?_|(with_reducible apply j5);(iterate 4 rfl);rfl|(with_reducible apply e9);rfl;rfl;rfl;rfl|((with_reducible apply d9);rfl;first|rfl|assumption)|(with_reducible apply f6);rfl;assumption|(with_reducible apply d7 hS a7);rfl;rfl;rfl;clear hS;intro g w' hS|(with_reducible apply b8 hS a7 (i:=0));(iterate 8 rfl);exact (rfl:_=[_,_]);clear hS;intro w' hS;simp only [List.set] at hS|(with_reducible apply b8 hS a7 (i:=1));(iterate 8 rfl);(first|exact (rfl:_=[_,_])|exact (rfl:_=[_,_,_,_,_]));clear hS;intro w' hS;simp only [List.set] at hS|(with_reducible apply d6 hS);rfl;rfl;rfl;refine ⟨_,hre _ (hK0.now hS),?_⟩;clear hS;intro w' hS|(with_reducible apply d6 hS);rfl;rfl;rfl;refine ⟨_,hfa _ (har.now hS),?_⟩;clear hS;intro w' hS|(with_reducible apply x6 a7);rfl;rfl;rfl;refine ⟨_,hS.blkC 8 rfl rfl,?_⟩|(with_reducible apply a0w a7);rfl;rfl;rfl;refine ⟨_,hS.blkRk 8 0 5 rfl,rfl,?_⟩)
   (with_reducible apply m9)
   rfl;rfl;rfl;refine ⟨_,hro _ (hK0.now hS),?_⟩;rintro _ w2 ⟨k3,rfl,hk3,hc3⟩;have hV:=KerV.own (Γ:=[]) (by rw [List.append_nil];exact hc3);have hcm:Came _ _ k3:=xd3 hc3;obtain ⟨Δ3,hD3,hV3⟩:=(hcm).keep;replace hS:=(hS.trans hD3).perm xm6;simp only [List.cons_append,List.nil_append,xg2] at hS;clear hD3;obtain ⟨k3sh,k3fr,k3sl,k3sp,k3hand,k3vsh,k3vfr,k3vsl,k3vsp⟩:=k3;obtain ⟨k3m1,k3m2,k3m3,k3m4,-⟩:=hV;dsimp only at k3m1 k3m2 k3m3 k3m4;obtain ⟨k3x1,k3y1,rfl⟩:=k3m1.sl.len;obtain ⟨k3x2,k3y2,rfl⟩:=k3m2.len;obtain ⟨k3x3,k3y3,rfl⟩:=k3m3.len;obtain ⟨k3x4,k3y4,rfl⟩:=k3m4.len;clear k3m1 k3m2 k3m3 k3m4;have hs1:=fun w1 h1 h2=>w9 (w:=w1) h1 h2 (hk1.trans hk3.symm);have hs2:=fun w1 h1 h2=>w9 (w:=w1) h1 h2 (hk2.trans hk3.symm);have hby:=fun w1 h1=>b1D (w:=w1) (k:=⟨k3sh,k3fr,k3sl,k3sp,k3hand,.slice k3x1 k3sh.length k3y1,.slice k3x2 k3fr.length k3y2,.slice k3x3 k3sl.length k3y3,.slice k3x4 k3sp.length k3y4⟩) h1 (sp:=sp) (addr:=addr) (n:=n) (by rw [hk3];exact ho2);rw [hk3] at hby;unfold kvC at hs1 hs2 hby;dsimp only at hs1 hs2 hby
   repeat' (first|(with_reducible apply a8 a7);rfl;rfl;rfl|refine yDn (by with_reducible constructor) ?_|(with_reducible apply d9);rfl;rfl|(with_reducible apply b8 hS a7 (i:=3));(iterate 8 rfl);exact (rfl:_=[_,_,_,_,_]);clear hS;intro w' hS;simp only [List.set] at hS)
   replace hS:=hS.reorderT 4 [1,3,0,2] (by decide) rfl;simp only [v7,xl8,xl9] at hS;refine a6i 2 4 rfl hS (by kernel_rfl) ?_;intro w10 hS';clear hS;have hS:=hS';clear hS';simp only [xl4,xl5];have hH:=hS.sub (xm5 [_,_] _)
   ((with_reducible apply r8 (nn 0));rfl;kernel_rfl;exact (fun _ _ _ h=>h);exact hH;rfl;(intro wd hd;replace hd:St _ _ wd _:=hd;(apply Ld.st a7;rfl;exact hd.blkR 0 rfl;rfl));rfl)
   ((with_reducible apply r8 (nn 1));rfl;kernel_rfl;exact (fun _ _ _ h=>h);exact hH;rfl;(intro wd hd;replace hd:St _ _ wd _:=hd;(apply Ld.st a7;rfl;exact hd.blkR 1 rfl;rfl));rfl)
   refine o5 (i:=2) (by kernel_rfl) ?_;refine n9 (Φ:=fun _ w'=>St _ _ w' _) rfl (l8 hS a7 (i:=2) rfl rfl rfl rfl rfl (xg3 rfl) (xc7.1 rfl)) ?_;intro _ w' hS';simp only [List.set] at hS';clear hS;have hS:=hS';clear hS';refine ⟨(hS.sub (xm5 [_,_] _)),?_⟩;refine o5 (i:=3) (by kernel_rfl) ?_;refine n9 (Φ:=fun _ w'=>St _ _ w' _) rfl (l8 hS a7 (i:=3) rfl rfl rfl rfl rfl (xg3 rfl) (xc7.1 rfl)) ?_;intro _ w' hS';simp only [List.set] at hS';clear hS;have hS:=hS';clear hS';refine ⟨(hS.sub (xm5 [_,_] _)),?_⟩;refine z8 (by kernel_rfl) ?_
   repeat' (first|(with_reducible apply a8 a7);rfl;rfl;rfl|(with_reducible apply a9);rfl;(first|apply Ld.sc a7;rfl;exact hS.blkC 0 rfl rfl|apply Ld.st a7;rfl;(first|exact hS.blkR 0 rfl|exact hS.blkR 1 rfl|exact hS.blkR 2 rfl|exact hS.blkR 3 rfl|exact hS.blkR 4 rfl|exact hS.blkR 5 rfl);rfl);rfl|refine yDn (by with_reducible constructor) ?_|((with_reducible apply j5);(iterate 4 rfl);first|rfl|assumption)|(with_reducible apply e9);rfl;(first|rfl|assumption);rfl;rfl|(with_reducible apply d9);rfl;assumption|(with_reducible apply d6 hS);rfl;rfl;rfl;refine ⟨_,hbg _,?_⟩;clear hS;intro w' hS|(with_reducible apply d6 hS);rfl;rfl;rfl;refine ⟨_,hby _ (hV3 hS (fun _ h=>by simp only [xc4,xe3,h,xp4,xp5])),?_⟩;clear hS;intro w' hS|(with_reducible apply d6 hS);rfl;rfl;rfl;refine ⟨_,hs1 _ (hV1 hS (fun _ h=>by simp only [xc4,xe3,h,xp4,xp5])) (hV3 hS (fun _ h=>by simp only [xc4,xe3,h,xp4,xp5])),?_⟩;clear hS;intro w' hS|(with_reducible apply d6 hS);rfl;rfl;rfl;refine ⟨_,hs2 _ (hV2 hS (fun _ h=>by simp only [xc4,xe3,h,xp4,xp5])) (hV3 hS (fun _ h=>by simp only [xc4,xe3,h,xp4,xp5])),?_⟩;clear hS;intro w' hS|(with_reducible apply a5T);rfl;rfl;exact a63 F.1 F.2;rfl|(with_reducible apply a0w a7);rfl;rfl;rfl;refine ⟨_,hS.blkRk 6 0 2 rfl,rfl,?_⟩|(with_reducible apply a0w a7);rfl;rfl;rfl;refine ⟨_,hS.blkRk 7 0 5 rfl,rfl,?_⟩)
   (refine k6 rfl ?_)
   exact ⟨rfl,hS.sub (xj3 _)⟩
 ·have hd0:decide (F.1=0)=false:=xj2 hf0;have hR:a2q k.K (sp:Nat) addr size way=b0R:=by unfold a2q;rw [xf1 (fun h=>hf0 (by have:=h.2;rw [hao,<- hF] at this;exact this))]
  rw [hR] at hf;by_cases hw:way=1
  ·have hdw:decide (way=1)=true:=xj4 hw;obtain ⟨d1,d2,d3,d4⟩:=a57 (addr:=addr) he hw;rw [d1,d2,d3,d4,hz0] at hl;clear d1 d2 d3 d4;obtain ⟨sh,fr,sl,sps,hand,vsh,vfr,vsl,vsp⟩:=k;have hK0:=hK;obtain ⟨k1,k2,k3,k4,k5⟩:=hK;dsimp only at k1 k2 k3 k4 k5;obtain ⟨p1,c1,rfl⟩:=k1.sl.len;obtain ⟨p2,c2,rfl⟩:=k2.len;obtain ⟨p3,c3,rfl⟩:=k3.len;obtain ⟨p4,c4,rfl⟩:=k4.len;dsimp only at hx hrow;have hspl2:=b9 hx;obtain ⟨b,off,rfl,hro⟩:=k4.at_ (i:=sp) (b9 hx);unfold kvC at hf hl hre |-;dsimp only at hf hl hre |-;refine yEn Tryz.func8 Tryz.ntmps8 (by kernel_rfl) (by kernel_rfl) rfl rfl ?_;have hS:=St.start w
   repeat' (first|(with_reducible apply a8 a7);rfl;rfl;rfl|(with_reducible apply a9);rfl;(apply Ld.st a7;rfl;exact hS.blkR 0 rfl;rfl);rfl|refine yDn (by with_reducible constructor) ?_|(with_reducible apply l6 hS);rfl;rfl;rfl;clear hS;intro g w' hS|(with_reducible apply m9);rfl;rfl;rfl;refine ⟨_,hf _ (hK0.now hS),?_⟩;rintro _ w2 ⟨k1,rfl,hk1,hc1⟩)
   have hV:=hc1.V;obtain ⟨Δ1,hD1,hV1⟩:=(hc1).keep;replace hS:=(hS.trans hD1).perm xm6;simp only [List.cons_append,List.nil_append,xg2] at hS;clear hD1;obtain ⟨k1sh,k1fr,k1sl,k1sp,k1hand,k1vsh,k1vfr,k1vsl,k1vsp⟩:=k1;obtain ⟨k1m1,k1m2,k1m3,k1m4,-⟩:=hV;dsimp only at k1m1 k1m2 k1m3 k1m4;obtain ⟨k1x1,k1y1,rfl⟩:=k1m1.sl.len;obtain ⟨k1x2,k1y2,rfl⟩:=k1m2.len;obtain ⟨k1x3,k1y3,rfl⟩:=k1m3.len;obtain ⟨k1x4,k1y4,rfl⟩:=k1m4.len;clear k1m1 k1m2 k1m3 k1m4
   repeat' (first|(with_reducible apply a8 a7);rfl;rfl;rfl|(with_reducible apply a9);rfl;(apply Ld.st a7;rfl;exact hS.blkR 2 rfl;rfl);rfl|refine yDn (by with_reducible constructor) ?_|(with_reducible apply d7 hS a7);rfl;rfl;rfl;clear hS;intro g w' hS|(with_reducible apply b8 hS a7 (i:=0));(iterate 8 rfl);exact (rfl:_=[_,_]);clear hS;intro w' hS;simp only [List.set] at hS|(with_reducible apply b8 hS a7 (i:=1));(iterate 8 rfl);exact (rfl:_=[_,_,_,_,_]);clear hS;intro w' hS;simp only [List.set] at hS|(with_reducible apply m9);rfl;rfl;rfl;refine ⟨_,hl _ (hK0.now hS),?_⟩;rintro _ w2 ⟨k2,rfl,hk2,hc2⟩)
   have hV:=hc2.V;obtain ⟨Δ2,hD2,hV2⟩:=(hc2).keep;replace hS:=(hS.trans hD2).perm xm6;simp only [List.cons_append,List.nil_append,xg2] at hS;clear hD2;obtain ⟨k2sh,k2fr,k2sl,k2sp,k2hand,k2vsh,k2vfr,k2vsl,k2vsp⟩:=k2;obtain ⟨k2m1,k2m2,k2m3,k2m4,-⟩:=hV;dsimp only at k2m1 k2m2 k2m3 k2m4;obtain ⟨k2x1,k2y1,rfl⟩:=k2m1.sl.len;obtain ⟨k2x2,k2y2,rfl⟩:=k2m2.len;obtain ⟨k2x3,k2y3,rfl⟩:=k2m3.len;obtain ⟨k2x4,k2y4,rfl⟩:=k2m4.len;clear k2m1 k2m2 k2m3 k2m4;have hs1:=fun w1 h1 h2=>w9 (w:=w1) (k':=kv0) h1 h2 hk1;have hs2:=fun w1 h1 h2=>w9 (w:=w1) (k':=kv0) h1 h2 hk2;unfold kvC kv0 at hs1 hs2;dsimp only at hs1 hs2
   repeat' (first|(with_reducible apply a8 a7);rfl;rfl;rfl|(with_reducible apply a9);rfl;(first|apply Ld.sc a7;rfl;exact hS.blkC 1 rfl rfl|apply Ld.sl a7;rfl;exact hS.roC (by assumption) (by assumption) rfl|apply Ld.st a7;rfl;(first|exact hS.blkR 0 rfl|exact hS.blkR 1 rfl|exact hS.blkR 2 rfl|exact hS.blkR 3 rfl|exact hS.blkR 4 rfl|exact hS.blkR 5 rfl);rfl);rfl|(with_reducible apply l9 a7);rfl;rfl;rfl;rfl;omega;rfl|refine yDn (by with_reducible constructor) ?_|(with_reducible apply j5);(iterate 4 rfl);rfl|(with_reducible apply e9);rfl;rfl;rfl;rfl|((with_reducible apply d9);rfl;first|rfl|assumption)|((with_reducible apply f6);rfl;first|rfl|assumption)|(with_reducible apply d7 hS a7);rfl;rfl;rfl;clear hS;intro g w' hS|(with_reducible apply b8 hS a7 (i:=0));(iterate 8 rfl);exact (rfl:_=[_,_]);clear hS;intro w' hS;simp only [List.set] at hS|(with_reducible apply b8 hS a7 (i:=1));(iterate 8 rfl);(first|exact (rfl:_=[_,_])|exact (rfl:_=[_,_,_,_,_]));clear hS;intro w' hS;simp only [List.set] at hS|(with_reducible apply d6 hS);rfl;rfl;rfl;refine ⟨_,hre _ (hK0.now hS),?_⟩;clear hS;intro w' hS|(with_reducible apply d6 hS);rfl;rfl;rfl;refine ⟨_,hbg _,?_⟩;clear hS;intro w' hS|(with_reducible apply d6 hS);rfl;rfl;rfl;refine ⟨_,hfa _ (har.now hS),?_⟩;clear hS;intro w' hS|(with_reducible apply d6 hS);rfl;rfl;rfl;refine ⟨_,hs1 _ (hV1 hS (fun _ h=>by simp only [xc4,xe3,h,xp4,xp5])) (a4V _),?_⟩;clear hS;intro w' hS|(with_reducible apply d6 hS);rfl;rfl;rfl;refine ⟨_,hs2 _ (hV2 hS (fun _ h=>by simp only [xc4,xe3,h,xp4,xp5])) (a4V _),?_⟩;clear hS;intro w' hS|(with_reducible apply a5T);rfl;rfl;exact a63 0 0;rfl|(with_reducible apply a5T);rfl;rfl;exact a63 F.1 F.2;rfl|(with_reducible apply a0w a7);rfl;rfl;rfl;refine ⟨_,hS.blkRk 6 0 2 rfl,rfl,?_⟩|(with_reducible apply a0w a7);rfl;rfl;rfl;refine ⟨_,hS.blkRk 7 0 5 rfl,rfl,?_⟩|(with_reducible apply x6 a7);rfl;rfl;rfl;refine ⟨_,hS.blkC 8 rfl rfl,?_⟩)
   (refine k6 rfl ?_)
   exact ⟨rfl,hS.sub (xj3 _)⟩
  ·have hdw:decide (way=1)=false:=xj2 hw;obtain ⟨d1,d2,d3,d4⟩:=b0W (addr:=addr) he (by rw [hao,<- hF];exact hf0) hw;rw [hao,<- hF] at d2;rw [d1,d2,d3,d4,hz] at hl;clear d1 d2 d3 d4;obtain ⟨sh,fr,sl,sps,hand,vsh,vfr,vsl,vsp⟩:=k;have hK0:=hK;obtain ⟨k1,k2,k3,k4,k5⟩:=hK;dsimp only at k1 k2 k3 k4 k5;obtain ⟨p1,c1,rfl⟩:=k1.sl.len;obtain ⟨p2,c2,rfl⟩:=k2.len;obtain ⟨p3,c3,rfl⟩:=k3.len;obtain ⟨p4,c4,rfl⟩:=k4.len;dsimp only at hx hrow;have hspl2:=b9 hx;obtain ⟨b,off,rfl,hro⟩:=k4.at_ (i:=sp) (b9 hx);unfold kvC at hf hl hre |-;dsimp only at hf hl hre |-;refine yEn Tryz.func8 Tryz.ntmps8 (by kernel_rfl) (by kernel_rfl) rfl rfl ?_;have hS:=St.start w
   repeat' (first|(with_reducible apply a8 a7);rfl;rfl;rfl|(with_reducible apply a9);rfl;(apply Ld.st a7;rfl;exact hS.blkR 0 rfl;rfl);rfl|refine yDn (by with_reducible constructor) ?_|(with_reducible apply l6 hS);rfl;rfl;rfl;clear hS;intro g w' hS|(with_reducible apply m9);rfl;rfl;rfl;refine ⟨_,hf _ (hK0.now hS),?_⟩;rintro _ w2 ⟨k1,rfl,hk1,hc1⟩)
   have hV:=hc1.V;obtain ⟨Δ1,hD1,hV1⟩:=(hc1).keep;replace hS:=(hS.trans hD1).perm xm6;simp only [List.cons_append,List.nil_append,xg2] at hS;clear hD1;obtain ⟨k1sh,k1fr,k1sl,k1sp,k1hand,k1vsh,k1vfr,k1vsl,k1vsp⟩:=k1;obtain ⟨k1m1,k1m2,k1m3,k1m4,-⟩:=hV;dsimp only at k1m1 k1m2 k1m3 k1m4;obtain ⟨k1x1,k1y1,rfl⟩:=k1m1.sl.len;obtain ⟨k1x2,k1y2,rfl⟩:=k1m2.len;obtain ⟨k1x3,k1y3,rfl⟩:=k1m3.len;obtain ⟨k1x4,k1y4,rfl⟩:=k1m4.len;clear k1m1 k1m2 k1m3 k1m4
   repeat' (first|(with_reducible apply a8 a7);rfl;rfl;rfl|(with_reducible apply a9);rfl;(apply Ld.st a7;rfl;exact hS.blkR 2 rfl;rfl);rfl|refine yDn (by with_reducible constructor) ?_|(with_reducible apply d7 hS a7);rfl;rfl;rfl;clear hS;intro g w' hS|(with_reducible apply b8 hS a7 (i:=0));(iterate 8 rfl);exact (rfl:_=[_,_]);clear hS;intro w' hS;simp only [List.set] at hS|(with_reducible apply b8 hS a7 (i:=1));(iterate 8 rfl);exact (rfl:_=[_,_,_,_,_]);clear hS;intro w' hS;simp only [List.set] at hS|(with_reducible apply m9);rfl;rfl;rfl;refine ⟨_,hl _ (hK0.now hS),?_⟩;rintro _ w2 ⟨k2,rfl,hk2,hc2⟩)
   have hV:=hc2.V;obtain ⟨Δ2,hD2,hV2⟩:=(hc2).keep;replace hS:=(hS.trans hD2).perm xm6;simp only [List.cons_append,List.nil_append,xg2] at hS;clear hD2;obtain ⟨k2sh,k2fr,k2sl,k2sp,k2hand,k2vsh,k2vfr,k2vsl,k2vsp⟩:=k2;obtain ⟨k2m1,k2m2,k2m3,k2m4,-⟩:=hV;dsimp only at k2m1 k2m2 k2m3 k2m4;obtain ⟨k2x1,k2y1,rfl⟩:=k2m1.sl.len;obtain ⟨k2x2,k2y2,rfl⟩:=k2m2.len;obtain ⟨k2x3,k2y3,rfl⟩:=k2m3.len;obtain ⟨k2x4,k2y4,rfl⟩:=k2m4.len;clear k2m1 k2m2 k2m3 k2m4;have hs1:=fun w1 h1 h2=>w9 (w:=w1) (k':=kv0) h1 h2 hk1;have hs2:=fun w1 h1 h2=>w9 (w:=w1) (k':=kv0) h1 h2 hk2;unfold kvC kv0 at hs1 hs2;dsimp only at hs1 hs2
   repeat' (first|(with_reducible apply a8 a7);rfl;rfl;rfl|(with_reducible apply a9);rfl;(first|apply Ld.sc a7;rfl;exact hS.blkC 1 rfl rfl|apply Ld.sl a7;rfl;exact hS.roC (by assumption) (by assumption) rfl|apply Ld.st a7;rfl;exact hS.blkR 4 rfl;rfl);rfl|(with_reducible apply l9 a7);rfl;rfl;rfl;rfl;omega;rfl|refine yDn (by with_reducible constructor) ?_|(with_reducible apply j5);(iterate 4 rfl);rfl|(with_reducible apply e9);rfl;rfl;rfl;rfl|(with_reducible apply d9);rfl;rfl|(with_reducible apply f6);rfl;assumption|(with_reducible apply d7 hS a7);rfl;rfl;rfl;clear hS;intro g w' hS|(with_reducible apply b8 hS a7 (i:=0));(iterate 8 rfl);exact (rfl:_=[_,_]);clear hS;intro w' hS;simp only [List.set] at hS|(with_reducible apply b8 hS a7 (i:=1));(iterate 8 rfl);(first|exact (rfl:_=[_,_])|exact (rfl:_=[_,_,_,_,_]));clear hS;intro w' hS;simp only [List.set] at hS|(with_reducible apply d6 hS);rfl;rfl;rfl;refine ⟨_,hre _ (hK0.now hS),?_⟩;clear hS;intro w' hS|(with_reducible apply d6 hS);rfl;rfl;rfl;refine ⟨_,hfa _ (har.now hS),?_⟩;clear hS;intro w' hS|(with_reducible apply x6 a7);rfl;rfl;rfl;refine ⟨_,hS.blkC 8 rfl rfl,?_⟩)
   replace hS:=hS.reorderT 4 [1,3,0,2] (by decide) rfl;simp only [v7,xl8,xl9] at hS;refine a6i 2 4 rfl hS (by kernel_rfl) ?_;intro w10 hS';clear hS;have hS:=hS';clear hS';simp only [xl4,xl5];have hH:=hS.sub (xm5 [_,_] _)
   ((with_reducible apply r8 (nn 0));rfl;kernel_rfl;exact (fun _ _ _ h=>h);exact hH;rfl;(intro wd hd;replace hd:St _ _ wd _:=hd;(apply Ld.st a7;rfl;exact hd.blkR 0 rfl;rfl));rfl)
   ((with_reducible apply r8 (nn 1));rfl;kernel_rfl;exact (fun _ _ _ h=>h);exact hH;rfl;(intro wd hd;replace hd:St _ _ wd _:=hd;(apply Ld.st a7;rfl;exact hd.blkR 1 rfl;rfl));rfl)
   refine o5 (i:=2) (by kernel_rfl) ?_;refine n9 (Φ:=fun _ w'=>St _ _ w' _) rfl (l8 hS a7 (i:=2) rfl rfl rfl rfl rfl (xg3 rfl) (xc7.1 rfl)) ?_;intro _ w' hS';simp only [List.set] at hS';clear hS;have hS:=hS';clear hS';refine ⟨(hS.sub (xm5 [_,_] _)),?_⟩;refine o5 (i:=3) (by kernel_rfl) ?_;refine n9 (Φ:=fun _ w'=>St _ _ w' _) rfl (l8 hS a7 (i:=3) rfl rfl rfl rfl rfl (xg3 rfl) (xc7.1 rfl)) ?_;intro _ w' hS';simp only [List.set] at hS';clear hS;have hS:=hS';clear hS';refine ⟨(hS.sub (xm5 [_,_] _)),?_⟩;refine z8 (by kernel_rfl) ?_
   repeat' (first|(with_reducible apply a8 a7);rfl;rfl;rfl|(with_reducible apply a9);rfl;(first|apply Ld.sc a7;rfl;exact hS.blkC 0 rfl rfl|apply Ld.st a7;rfl;(first|exact hS.blkR 0 rfl|exact hS.blkR 1 rfl|exact hS.blkR 2 rfl|exact hS.blkR 3 rfl|exact hS.blkR 4 rfl|exact hS.blkR 5 rfl);rfl);rfl|refine yDn (by with_reducible constructor) ?_|(with_reducible apply j5);(iterate 4 rfl);rfl|(with_reducible apply e9);rfl;rfl;rfl;rfl|(with_reducible apply f6);rfl;assumption|(with_reducible apply d6 hS);rfl;rfl;rfl;refine ⟨_,hbg _,?_⟩;clear hS;intro w' hS|(with_reducible apply d6 hS);rfl;rfl;rfl;refine ⟨_,hs1 _ (hV1 hS (fun _ h=>by simp only [xc4,xe3,h,xp4,xp5])) (a4V _),?_⟩;clear hS;intro w' hS|(with_reducible apply d6 hS);rfl;rfl;rfl;refine ⟨_,hs2 _ (hV2 hS (fun _ h=>by simp only [xc4,xe3,h,xp4,xp5])) (a4V _),?_⟩;clear hS;intro w' hS|(with_reducible apply a5T);rfl;rfl;exact a63 F.1 F.2;rfl|(with_reducible apply a0w a7);rfl;rfl;rfl;refine ⟨_,hS.blkRk 6 0 2 rfl,rfl,?_⟩|(with_reducible apply a0w a7);rfl;rfl;rfl;refine ⟨_,hS.blkRk 7 0 5 rfl,rfl,?_⟩)
   (refine k6 rfl ?_)
   exact ⟨rfl,hS.sub (xj3 _)⟩
end Go.Proofs.YtejnpppejalhfabGreat
namespace Go.Proofs.YtejnpppejalhfabGreat
set_option maxRecDepth 100000
set_option maxHeartbeats 8000000
open Go.ChangeShapes Go.WideShapes Go.ChangeAt Go.RowKit Go.Deep
def b00 {α:Type} (R:α->List Value->Prop) (xs:List α) (rows:List (List Value)):Prop:=rows.length=xs.length/\∀ (i:Nat) (x:α) (r:List Value),xs[i]?=some x->rows[i]?=some r->R x r
section
variable {H:Type} {enc:TypeId×Value->H} {P:Program} {w:World} {base:Nat} {spare:Nat->Bool} {held:Bool}
theorem b4X {α:Type} [Inhabited α] {t e:TypeId} {fuel sz:Nat} {cs:List Value} {y:DataW H×List MemPlace} (ht:P.underlying t=some (.slice e)) (hsz:P.cellsOf e=sz) (hpos:0 < sz) (R:α->List Value->Prop) (hR1:∀ x r,R x r->r.all (·.oneCell')=true)
  (hR:∀ (n:Nat) (cs':List Value) (z:DataW H×List MemPlace),cs'.length=sz->DataW.trod enc P w base spare held n e cs'=some z->∃ x:α,R x cs') (h:DataW.trod enc P w base spare held fuel t cs=some y) :
  ∃ v xs rows,cs=[v]/\Sl nF w sz v rows/\b00 R xs rows/\v.oneCell'=true:=by
 rcases open_slice ht h with ⟨rfl,_⟩|⟨a,len,cap,m,n,D,Pl,rfl,hb,hl,hm,hmm,_,hx⟩
 ·exact ⟨_,[],[],rfl,xd6 ⟨_,_,rfl,rfl⟩,⟨rfl,fun i x r h=>by simp at h⟩,rfl⟩
 ·have hlm:len<=m:=by rw [hmm];split <;> omega
  rw [hsz] at hx;have key:∀ i,∃ r x,i < len->w.cells? base (a.add (i * sz)) sz=some r/\R x r/\r.length=sz:=fun i=>by
   by_cases hi:i < len
   ·obtain ⟨cs',h1,h2⟩:=hx i (by omega);have hl:=(World.cells?_some h1).2.1;obtain ⟨x,hr⟩:=hR n cs' _ hl h2;exact ⟨cs',x,fun _=>⟨h1,hr,hl⟩⟩
   ·exact ⟨[],default,fun h=>(hi h).elim⟩
  obtain ⟨r,hr⟩:=Classical.axiomOfChoice key;obtain ⟨x,hr⟩:=Classical.axiomOfChoice hr;refine ⟨_,(List.range len).map x,(List.range len).map r,rfl,?_,⟨by simp,fun i y r' h1 h2=>?_⟩,rfl⟩
  ·by_cases h0:len=0
   ·subst h0;exact xd6 ⟨_,_,rfl,rfl⟩
   ·obtain ⟨b,off,spot⟩:=a;have hcell:∀ i,i < len->∀ j,j < sz->w.cell? (((⟨b,off,spot⟩:Addr).add (i * sz)).add j)=(r i)[j]?:=fun i hi j hj=>(World.cells?_some (hr i hi).1).2.2 j hj;have h00:=hcell 0 (by omega) 0 hpos;obtain ⟨u0,hu0⟩:∃ u,(r 0)[0]?=some u:=⟨(r 0)[0]'(by rw [(hr 0 (by omega)).2.2];exact hpos),by simp⟩;rw [hu0] at h00;simp only [Nat.zero_mul,Addr.add,if_true] at h00;have hspot:spot=none:=by
     cases spot with
     |none=>rfl
     |some s=>simp [World.cell?] at h00;split at h00 <;> simp at h00
    subst hspot;have hbl:=World.block_lt_of_cell? w _ h00;refine xd3 ⟨b,off,cap,by simp,by simpa using hl,hm,⟨hbl,id,fun r' hr'=>?_,fun r' hr'=>?_,fun k r' hk j u hj=>?_⟩⟩
    ·obtain ⟨i,hi,rfl⟩:=xm7.1 hr';exact (hr i (by simpa using hi)).2.2
    ·obtain ⟨i,hi,rfl⟩:=xm7.1 hr';exact hR1 _ _ (hr i (by simpa using hi)).2.1
    ·have hk':k < len:=by have:=b9 hk;simpa using this
     simp [hk'] at hk;subst hk;have hjl:j < sz:=by have:=b9 hj;rwa [(hr k hk').2.2] at this
     have:=hcell k hk' j hjl;rw [hj] at this
     rwa [Addr.add_mid,Addr.add_mid] at this
  ·have hi:i < len:=by have:=b9 h1;simpa using this
   simp [hi] at h1 h2;subst h1 h2;exact (hr i hi).2.1
end
end Go.Proofs.YtejnpppejalhfabGreat
namespace Go.Proofs.YtejnpppejalhfabGreat
set_option maxRecDepth 100000
set_option maxHeartbeats 8000000
open Go.ChangeShapes Go.WideShapes Go.ChangeAt Go.RowKit
section
variable {H:Type} {enc:TypeId×Value->H} {W:World} {base b0:Nat} {sp:Nat->Bool} {held:Bool}
theorem cI {n:Nat} {t:TypeId} {c:Value} {o:Option (DataW H×List MemPlace)} (ht:(Tryz.prog).underlying t=some (.int .i64)) (h:DataW.trod enc Tryz.prog W base sp held n t [c]=o) (ho:o.isSome=true):∃ k:Int,c=.int .i64 k/\(Lit.int .i64 k).wf=true:=by
 obtain ⟨x,hx⟩:=xi4.1 ho;obtain ⟨k,hk,_,hw⟩:=DataW.trod_int ht (h.trans hx);simp only [List.cons.injEq,and_true] at hk;exact ⟨k,hk,hw⟩
theorem cB {n:Nat} {t:TypeId} {c:Value} {o:Option (DataW H×List MemPlace)} (ht:(Tryz.prog).underlying t=some .bool) (h:DataW.trod enc Tryz.prog W base sp held n t [c]=o) (ho:o.isSome=true):∃ b:Bool,c=.bool b:=by
 obtain ⟨x,hx⟩:=xi4.1 ho;obtain ⟨b,hb,_⟩:=DataW.trod_bool ht (h.trans hx);simp only [List.cons.injEq,and_true] at hb;exact ⟨b,hb⟩
theorem cS {n:Nat} {t:TypeId} {c:Value} {o:Option (DataW H×List MemPlace)} (ht:(Tryz.prog).underlying t=some .string) (h:DataW.trod enc Tryz.prog W base sp held n t [c]=o) (ho:o.isSome=true):∃ l:List UInt8,c=.string ⟨l.toArray⟩/\l.length<=maxLen:=by
 obtain ⟨x,hx⟩:=xi4.1 ho;obtain ⟨s,hs,_,hl⟩:=DataW.trod_string ht (h.trans hx);simp only [List.cons.injEq,and_true] at hs;obtain ⟨⟨l⟩⟩:=s;exact ⟨l,hs,by simpa [ByteArray.size] using hl⟩
theorem gS {α:Type} {l:List α} {i:Nat} (h:i < l.length):(l[i]?).isSome=true:=by simp [h]
theorem a4z:(Tryz.prog).cellsOf 3=1:=by kernel_rfl
theorem a8r:(Tryz.prog).cellsOf 4=1:=by kernel_rfl
theorem a30:(Tryz.prog).cellsOf 9=1:=by kernel_rfl
theorem b5u:(Tryz.prog).cellsOf 81=4:=by kernel_rfl
instance:Inhabited Ar:=⟨⟨0,0,0,false⟩⟩
theorem b2n {n:Nat} {cs:List Value} {z:DataW H×List MemPlace} (hl:cs.length=4) (h:DataW.trod enc Tryz.prog W base sp held n 81 cs=some z):∃ a:Ar,cs=arC a:=by
 match cs,hl with
 |[c0,c1,c2,c3],_=>
  obtain ⟨xs,n,_,_,_,hl,hf⟩:=DataW.trod_struct Tryz.underlying81 h;have f0:=hf 0 _ rfl;have f1:=hf 1 _ rfl;have f2:=hf 2 _ rfl;have f3:=hf 3 _ rfl;simp only [xp6,xp7,xp8,a4z,a8r,xl8,xl9,xl4,xl5] at f0 f1 f2 f3;have hl:xs.length=4:=hl;obtain ⟨k0,rfl,_⟩:=cI Tryz.underlying3 f0 (gS (by omega));obtain ⟨k1,rfl,_⟩:=cI Tryz.underlying3 f1 (gS (by omega));obtain ⟨k2,rfl,_⟩:=cI Tryz.underlying3 f2 (gS (by omega));obtain ⟨k3,rfl⟩:=cB Tryz.underlying4 f3 (gS (by omega));exact ⟨⟨k0,k1,k2,k3⟩,rfl⟩
end
section
variable {H:Type} {enc:TypeId×Value->H} {W:World} {base b0:Nat} {sp:Nat->Bool} {held:Bool}
instance:Inhabited Fx:=⟨⟨0,[]⟩⟩
instance:Inhabited Sh:=⟨⟨0,[],[]⟩⟩
theorem b6a:(Tryz.prog).cellsOf 96=2:=by kernel_rfl
theorem b20:(Tryz.prog).cellsOf 94=3:=by kernel_rfl
theorem b30:(Tryz.prog).cellsOf 92=1:=by kernel_rfl
theorem b3u:(Tryz.prog).cellsOf 30=1:=by kernel_rfl
theorem b2c:(Tryz.prog).cellsOf 31=1:=by kernel_rfl
theorem a83 {α:Type} {f:α->List Value} {G:α->Prop} {xs:List α} {rows:List (List Value)} (h:b00 (fun a r=>r=f a/\G a) xs rows):rows=xs.map f/\∀ x ∈ xs,G x:=by
 obtain ⟨h1,h2⟩:=h;refine ⟨?_,fun x hx=>?_⟩
 ·apply xh3;intro i;rw [xh8];by_cases hi:i < xs.length
  ·rw [xe1 hi,xe1 (by omega)];simp only [xh9,Option.some.injEq];exact (h2 i _ _ (xe1 hi) (xe1 (by omega))).1
  ·rw [xi0 (by omega),xi0 (by omega)];rfl
 ·obtain ⟨i,hi⟩:=xd9.1 hx;have hl:=b9 hi;exact (h2 i x _ hi (xe1 (by rw [h1];exact hl))).2
theorem cc1 {c v:Value} (h:[c]=[v]):c=v:=by simpa using h
theorem b22 {n:Nat} {cs:List Value} {z:DataW H×List MemPlace} (hl:cs.length=2) (h:DataW.trod enc Tryz.prog W base sp held n 96 cs=some z):∃ f:Fx,cs=fxC f:=by
 match cs,hl with
 |[c0,c1],_=>
  obtain ⟨xs,n,_,_,_,hl,hf⟩:=DataW.trod_struct Tryz.underlying96 h;have f0:=hf 0 _ rfl;have f1:=hf 1 _ rfl;simp only [xp6,xp7,xp8,a4z,a30,xl8,xl9,xl4,xl5] at f0 f1;have hl:xs.length=2:=hl;obtain ⟨k0,rfl,_⟩:=cI Tryz.underlying3 f0 (gS (by omega));obtain ⟨l1,rfl,_⟩:=cS Tryz.underlying9 f1 (gS (by omega));exact ⟨⟨k0,l1⟩,rfl⟩
theorem a2r {α:Type} [Inhabited α] {n:Nat} {t e sz:Nat} {c:Value} {o:Option (DataW H×List MemPlace)} (ht:(Tryz.prog).underlying t=some (.slice e)) (hsz:(Tryz.prog).cellsOf e=sz) (hpos:0 < sz) (f:α->List Value) (G:α->Prop) (h1:∀ x,(f x).all (·.oneCell')=true\/¬ G x)
  (hR:∀ (n:Nat) (cs':List Value) (z:DataW H×List MemPlace),cs'.length=sz->DataW.trod enc Tryz.prog W base sp held n e cs'=some z->∃ x:α,cs'=f x/\G x) (h:DataW.trod enc Tryz.prog W base sp held n t [c]=o) (ho:o.isSome=true):∃ xs:List α,Sl nF W sz c (xs.map f)/\(∀ x ∈ xs,G x)/\c.oneCell'=true:=by
 obtain ⟨x,hx⟩:=xi4.1 ho;obtain ⟨v,xs,rows,hv,hsl,hra,hone⟩:=b4X ht hsz hpos (fun (a:α) r=>r=f a/\G a) (fun x r h=>by
  obtain ⟨rfl,hg⟩:=h;rcases h1 x with h|h
  ·exact h
  ·exact absurd hg h) (fun n cs' z hl hz=>hR n cs' z hl hz) (h.trans hx)
 obtain rfl:=cc1 hv;obtain ⟨rfl,hg⟩:=a83 hra;exact ⟨xs,hsl,hg,hone⟩
theorem a8X {n:Nat} {cs:List Value} {z:DataW H×List MemPlace} (hl:cs.length=3) (h:DataW.trod enc Tryz.prog W base sp held n 94 cs=some z):∃ x:Sh×Value,cs=shC x.1 x.2/\ShV W x.1 x.2/\x.2.oneCell'=true:=by
 match cs,hl with
 |[c0,c1,c2],_=>
  obtain ⟨xs,n,_,_,_,hl,hf⟩:=DataW.trod_struct Tryz.underlying94 h;have f0:=hf 0 _ rfl;have f1:=hf 1 _ rfl;have f2:=hf 2 _ rfl;simp only [xp6,xp7,xp8,a4z,a30,b30,xl8,xl9,xl4,xl5] at f0 f1 f2;have hl:xs.length=3:=hl;obtain ⟨k0,rfl,_⟩:=cI Tryz.underlying3 f0 (gS (by omega));obtain ⟨l1,rfl,_⟩:=cS Tryz.underlying9 f1 (gS (by omega));obtain ⟨fs,h2,_,h3⟩:=a2r Tryz.underlying92 b6a (by decide) fxC (fun _=>True) (fun x=>xd6 rfl) (fun _ _ _ hl hz=>by obtain ⟨f,hf⟩:=b22 hl hz;exact ⟨f,hf,trivial⟩) f2 (gS (by omega));exact ⟨(⟨k0,l1,fs⟩,c2),rfl,h2,h3⟩
end
section
variable {H:Type} {enc:TypeId×Value->H} {W:World} {base b0:Nat} {sp:Nat->Bool} {held:Bool}
instance:Inhabited Fm:=⟨fm0⟩
instance:Inhabited Sw:=⟨sw0⟩
instance:Inhabited En:=⟨⟨0,0,0⟩⟩
instance:Inhabited Sp:=⟨⟨⟨false,[],[]⟩,.bool false,.bool false⟩⟩
theorem b4n:(Tryz.prog).cellsOf 89=4:=by kernel_rfl
theorem b5B:(Tryz.prog).cellsOf 143=2:=by kernel_rfl
theorem b3K:(Tryz.prog).cellsOf 75=3:=by kernel_rfl
theorem b4l:(Tryz.prog).cellsOf 91=3:=by kernel_rfl
theorem b1M:(Tryz.prog).cellsOf 42=5:=by kernel_rfl
theorem b1E:(Tryz.prog).cellsOf 38=1:=by kernel_rfl
theorem b4h:(Tryz.prog).cellsOf 39=1:=by kernel_rfl
theorem b1Z:(Tryz.prog).cellsOf 40=1:=by kernel_rfl
theorem b0l:(Tryz.prog).cellsOf 73=1:=by kernel_rfl
theorem b0o {n:Nat} {cs:List Value} {z:DataW H×List MemPlace} (hl:cs.length=3) (h:DataW.trod enc Tryz.prog W base sp held n 91 cs=some z):∃ e:En,cs=enC e:=by
 match cs,hl with
 |[c0,c1,c2],_=>
  obtain ⟨xs,n,_,_,_,hl,hf⟩:=DataW.trod_struct Tryz.underlying91 h;have f0:=hf 0 _ rfl;have f1:=hf 1 _ rfl;have f2:=hf 2 _ rfl;simp only [xp6,xp7,xp8,a4z,xl8,xl9,xl4,xl5] at f0 f1 f2;have hl:xs.length=3:=hl;obtain ⟨k0,rfl,_⟩:=cI Tryz.underlying3 f0 (gS (by omega));obtain ⟨k1,rfl,_⟩:=cI Tryz.underlying3 f1 (gS (by omega));obtain ⟨k2,rfl,_⟩:=cI Tryz.underlying3 f2 (gS (by omega));exact ⟨⟨k0,k1,k2⟩,rfl⟩
theorem b0K {n:Nat} {cs:List Value} {z:DataW H×List MemPlace} (hl:cs.length=4) (h:DataW.trod enc Tryz.prog W base sp held n 89 cs=some z):∃ f:Fm,cs=fmC f:=by
 match cs,hl with
 |[c0,c1,c2,c3],_=>
  obtain ⟨xs,n,_,_,_,hl,hf⟩:=DataW.trod_struct Tryz.underlying89 h;have f0:=hf 0 _ rfl;have f1:=hf 1 _ rfl;have f2:=hf 2 _ rfl;have f3:=hf 3 _ rfl;simp only [xp6,xp7,xp8,a4z,a30,a8r,xl8,xl9,xl4,xl5] at f0 f1 f2 f3;have hl:xs.length=4:=hl;obtain ⟨l0,rfl,_⟩:=cS Tryz.underlying9 f0 (gS (by omega));obtain ⟨k1,rfl,_⟩:=cI Tryz.underlying3 f1 (gS (by omega));obtain ⟨b2,rfl⟩:=cB Tryz.underlying4 f2 (gS (by omega));obtain ⟨b3,rfl⟩:=cB Tryz.underlying4 f3 (gS (by omega));exact ⟨⟨l0,k1,b2,b3⟩,rfl⟩
theorem b2j {n:Nat} {cs:List Value} {z:DataW H×List MemPlace} (hl:cs.length=2) (h:DataW.trod enc Tryz.prog W base sp held n 143 cs=some z):∃ s:Sw,cs=swC s:=by
 match cs,hl with
 |[c0,c1],_=>
  obtain ⟨xs,n,_,_,_,hl,hf⟩:=DataW.trod_struct Tryz.underlying143 h;have f0:=hf 0 _ rfl;have f1:=hf 1 _ rfl;simp only [xp6,xp7,xp8,a4z,a30,xl8,xl9,xl4,xl5] at f0 f1;have hl:xs.length=2:=hl;obtain ⟨l0,rfl,_⟩:=cS Tryz.underlying9 f0 (gS (by omega));obtain ⟨k1,rfl,_⟩:=cI Tryz.underlying3 f1 (gS (by omega));exact ⟨⟨l0,k1⟩,rfl⟩
theorem b0h {n:Nat} {cs:List Value} {z:DataW H×List MemPlace} (hl:cs.length=3) (h:DataW.trod enc Tryz.prog W base sp held n 75 cs=some z):∃ x:Sp,cs=spC x/\SpV W x/\x.va.oneCell'=true/\x.ve.oneCell'=true:=by
 match cs,hl with
 |[c0,c1,c2],_=>
  obtain ⟨xs,n,_,_,_,hl,hf⟩:=DataW.trod_struct Tryz.underlying75 h;have f0:=hf 0 _ rfl;have f1:=hf 1 _ rfl;have f2:=hf 2 _ rfl;simp only [xp6,xp7,xp8,a8r,b3u,b0l,xl8,xl9,xl4,xl5] at f0 f1 f2;have hl:xs.length=3:=hl;obtain ⟨b0,rfl⟩:=cB Tryz.underlying4 f0 (gS (by omega));obtain ⟨A,h1,_,o1⟩:=a2r Tryz.underlying30 b5u (by decide) arC (fun _=>True) (fun x=>xd6 rfl) (fun _ _ _ hl hz=>by obtain ⟨f,hf⟩:=b2n hl hz;exact ⟨f,hf,trivial⟩) f1 (gS (by omega));obtain ⟨E,h2,_,o2⟩:=a2r Tryz.underlying73 b4l (by decide) enC (fun _=>True) (fun x=>xd6 rfl) (fun _ _ _ hl hz=>by obtain ⟨f,hf⟩:=b0o hl hz;exact ⟨f,hf,trivial⟩) f2 (gS (by omega));exact ⟨⟨⟨b0,A,E⟩,c1,c2⟩,rfl,⟨h1,h2⟩,o1,o2⟩
theorem a8D {n:Nat} {cs:List Value} {z:DataW H×List MemPlace} (hl:cs.length=5) (h:DataW.trod enc Tryz.prog W base sp held n 42 cs=some z):∃ k:KV,cs=kvC k/\KerV W k:=by
 match cs,hl with
 |[c0,c1,c2,c3,c4],_=>
  obtain ⟨xs,n,_,_,_,hl,hf⟩:=DataW.trod_struct Tryz.underlying42 h;have f0:=hf 0 _ rfl;have f1:=hf 1 _ rfl;have f2:=hf 2 _ rfl;have f3:=hf 3 _ rfl;have f4:=hf 4 _ rfl;simp only [xp6,xp7,xp8,a4z,b2c,b1E,b4h,b1Z,xl8,xl9,xl4,xl5] at f0 f1 f2 f3 f4;have hl:xs.length=5:=hl;obtain ⟨Lp,h3,h4,_⟩:=a2r (α:=Sh×Value) Tryz.underlying31 b20 (by decide) (fun x=>shC x.1 x.2) (fun x=>ShV W x.1 x.2/\x.2.oneCell'=true) (fun x=>by
   by_cases hx:x.2.oneCell'=true
   ·left;unfold shC;simp only [xo9,List.all_nil,Bool.and_true,hx];rfl
   ·exact xd3 fun h=>hx h.2) (fun _ _ _ hl hz=>by obtain ⟨x,hx,h2,h3⟩:=a8X hl hz;exact ⟨x,hx,h2,h3⟩) f0 (gS (by omega))
  obtain ⟨F,h5,_,_⟩:=a2r Tryz.underlying38 b4n (by decide) fmC (fun _=>True) (fun x=>xd6 rfl) (fun _ _ _ hl hz=>by obtain ⟨f,hf⟩:=b0K hl hz;exact ⟨f,hf,trivial⟩) f1 (gS (by omega));obtain ⟨S,h6,_,_⟩:=a2r Tryz.underlying39 b5B (by decide) swC (fun _=>True) (fun x=>xd6 rfl) (fun _ _ _ hl hz=>by obtain ⟨f,hf⟩:=b2j hl hz;exact ⟨f,hf,trivial⟩) f2 (gS (by omega));obtain ⟨X,h7,h8,_⟩:=a2r (α:=Sp) Tryz.underlying40 b3K (by decide) spC (fun x=>SpV W x/\x.va.oneCell'=true/\x.ve.oneCell'=true) (fun x=>by
   by_cases hx:x.va.oneCell'=true/\x.ve.oneCell'=true
   ·left;unfold spC;simp only [xo9,List.all_nil,Bool.and_true,hx.1,hx.2];rfl
   ·exact xd3 fun h=>hx h.2) (fun _ _ _ hl hz=>by obtain ⟨x,hx,h2,h3⟩:=b0h hl hz;exact ⟨x,hx,h2,h3⟩) f3 (gS (by omega))
  obtain ⟨k4,rfl,_⟩:=cI Tryz.underlying3 f4 (gS (by omega));exact ⟨⟨Lp,F,S,X,k4,c0,c1,c2,c3⟩,rfl,⟨⟨h3,fun p hp=>(h4 p hp).1⟩,h5,h6,h7,fun p hp=>(h8 p hp).1⟩⟩
theorem a9b {v:Value} {d:DataW H} {ps:List MemPlace} (hval:Value.okWide Tryz.prog W .any b0 42 v) (h:DataW.Trod enc Tryz.prog W base sp held 42 v d ps):∃ k:KV,v=.agg (kvC k).toArray/\KerV W k:=by
 obtain ⟨cs,rfl,hsz⟩:=okWide_struct Tryz.underlying42 hval;obtain ⟨fuel,hf⟩:=h;have hc:(Value.agg cs).cells=cs:=rfl;rw [hc] at hf;have hlen:cs.toList.length=5:=by rw [xh2,hsz,b1M]
 obtain ⟨k,h1,h2⟩:=a8D hlen hf;exact ⟨k,by rw [<- h1,xd2],h2⟩
end
end Go.Proofs.YtejnpppejalhfabGreat
