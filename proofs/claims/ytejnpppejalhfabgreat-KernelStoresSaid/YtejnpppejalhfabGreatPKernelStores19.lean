/- Texts that the proof stands on, one behind the other: Cx14, Cx3, CyK, LawStores, Op1, OpA, OpK, OpR. -/
import Derived.Deep.Slices
import Derived.OpenShut
import Derived.WideShapes
import Derived.ProofKit
import Derived.Test.YtejnpppejalhfabGreatPKernelStores18
set_option linter.unusedVariables false
set_option linter.unusedSimpArgs false
namespace Go.Proofs.YtejnpppejalhfabGreat
set_option maxRecDepth 100000
set_option maxHeartbeats 8000000
open Go.RowKit Go.Sort
noncomputable def a4P (N:Nat) (pl:List (Nat×Pl)) (c:Code):Bool:=@Code.rec (fun _=>Bool) true
 (fun id ops draw=>ops.toList.all (a9p N) && (bif draw then (match p9 pl id with
   |some p=>Region.noSelect ops && (plB ops p).1 ops.size (Array.replicate ops.size false)
   |none=>true) else true))
 (fun _ _ x y=>x && y) (fun _ _ _ x y=>x && y) (fun _ _ x=>x) (fun _ x=>x) (fun _ _ _ _ _ _=>true) (fun _=>true) (fun _ _=>true) (fun _=>true) (fun _=>true) true (fun _=>true) c
inductive BT.All {α:Type} (p:Nat->α->Prop):BT α->Prop where
 |nil:BT.All p .nil
 |node {k:Nat} {v:α} {l r:BT α} (h:p k v) (hl:BT.All p l) (hr:BT.All p r):BT.All p (.node k v l r)
theorem BT.All.get {α:Type} {p:Nat->α->Prop} {t:BT α} (h:BT.All p t) {i:Nat} {v:α} (hg:t.get i=some v):p i v:=by
 induction h with
 |nil=>cases hg
 |@node k u l r hp hl hr ihl ihr=>
  replace hg:@Bool.rec (fun _=>Option α) (@Bool.rec (fun _=>Option α) (r.get i) (l.get i) (Nat.blt i k)) (some u) (Nat.beq i k)=some v:=hg
  cases e:Nat.beq i k with
  |true=>
   rw [e] at hg
   cases hg
   rw [xb9 e];exact hp
  |false=>
   rw [e] at hg
   cases e2:Nat.blt i k with
   |true=>rw [e2] at hg;exact ihl hg
   |false=>rw [e2] at hg;exact ihr hg
structure FOk (P:Program) (C:Cx):Prop where
 ok:COk P C
 mixed:P.follows .mixedOrders=true
 F:BT.All (fun g (x:Func×List (Nat×Pl))=>a3G P g x.1/\∃ c,x.1.body=some c/\a4P x.1.ntmps x.2 c=true) C.F
 M:∀ g f,p9 C.M g=some f->∀ vs v,f vs=some v->vs.all cOk=true/\(∀ ρ,VR ρ v v)/\∀ w,Fn P g vs w (RBf v w)
def toX:SX->Exit
 |.normal=>.normal
 |.exit i=>.exit i
 |.ret=>.ret
section
variable {P:Program} {C:Cx} {call:a6x} {w0 w w':World} {ρ σ:Ren} {N:Nat} {ds:List Deferred} {a:Act} {E E':Fr} {H H':SH} {n n':Nat} {Q:Exit->Act->World->Prop}
theorem PQ.then {x:Act->World->Prop} (h:PQ Q):PQ (Exit.then x Q):=fun c a w d v hq=>h c a w d v hq
theorem PQ.block {i:Nat} (h:PQ Q):PQ (Exit.inBlock i Q):=fun c a w d v hq=>h c a w d v hq
theorem a5r:∀ (E:Fr) (s:List Nat) {t:Nat} {v:Value},p9 (a7B E s) t=some v->p9 E t=some v/\t ∉ s
 |[],s,t,v,h=>by cases h
 |(k,u)::r,s,t,v,h=>by
  have hany:∀ s:List Nat,@List.rec Nat (fun _=>Bool) false (fun x _ h=>bif Nat.beq k x then true else h) s=s.any (Nat.beq k):=fun s=>by
   induction s with
   |nil=>rfl
   |cons x s ih=>simp only [List.any_cons];rw [<- ih];cases Nat.beq k x <;> rfl
  have e:a7B ((k,u)::r) s=bif s.any (Nat.beq k) then a7B r s else (k,u)::a7B r (k::s):=by rw [<- hany];rfl
  rw [e] at h
  cases hs:s.any (Nat.beq k) with
  |true=>
   rw [hs] at h;obtain ⟨h1,h2⟩:=a5r r s h;obtain ⟨x,hx,hkx⟩:=xn6.1 hs;have hkx:=xb9 hkx;refine ⟨?_,h2⟩;rw [t2,xf1 (fun e=>h2 (by rw [<- e,hkx];exact hx))];exact h1
  |false=>
   rw [hs] at h;replace h:p9 ((k,u)::a7B r (k::s)) t=some v:=h;rw [t2] at h |-;by_cases ek:k=t
   ·rw [xf0 ek] at h |-;refine ⟨h,fun hm=>?_⟩;have:s.any (Nat.beq k)=true:=xn6.2 ⟨t,hm,by rw [ek];exact xo9 _⟩;rw [hs] at this
    cases this
   ·rw [xf1 ek] at h |-;obtain ⟨h1,h2⟩:=a5r r (k::s) h;exact ⟨h1,fun hm=>h2 (xc6 _ hm)⟩
theorem HasR.shrink (h:HasR ρ N ds a E):HasR ρ N ds a (a53 E):=⟨h.size,h.defers,fun t v ht=>by
 unfold a53 at ht
 cases e:Nat.blt 400 (@List.rec (Nat×Value) (fun _=>Nat) 0 (fun _ _ n=>n + 1) E) with
 |true=>rw [e] at ht;exact h.at_ t v (a5r E [] ht).1
 |false=>rw [e] at ht;exact h.at_ t v ht⟩
def b0U (P:Program) (c:Code) (N:Nat) (f:a6G):Prop:=∀ E H n e E' H' n',f E H n=.ok (e,E',H',n')->n<=n'/\∀ {w0 w:World} {ρ:Ren} {ds:List Deferred} {a:Act} {hi:Nat} {Q:Exit->Act->World->Prop},PQ Q->HasR ρ N ds a E->Inv P w0 ρ H w->Fsh ρ n hi->n'<=hi->(∀ a' w' σ,Stp ρ σ n n'->HasR σ N ds a' E'->Inv P w0 σ H' w'->Q (toX e) a' w')->c.wp P Q a w
theorem b33 {c:Code} {f:a6G} (hf:b0U P c N f):∀ k E H n e E' H' n',b03 f k E H n=.ok (e,E',H',n')->n<=n'/\∀ {w0 w:World} {ρ:Ren} {ds:List Deferred} {a:Act} {hi:Nat} {Q:Exit->Act->World->Prop},PQ Q->HasR ρ N ds a E->Inv P w0 ρ H w->Fsh ρ n hi->n'<=hi->(∀ a' w' σ,Stp ρ σ n n'->HasR σ N ds a' E'->Inv P w0 σ H' w'->Q (toX e) a' w')->Code.rounds P c Q k a w:=by
 intro k
 induction k with
 |zero=>intro E H n e E' H' n' h;cases h
 |succ k ih=>
  intro E H n e E' H' n' h;replace h:(match f E H n with
   |.ok (.normal,E',H',n')=>b03 f k (a53 E') H' n'
   |r=>r)=.ok (e,E',H',n'):=h
  split at h
  ·rename_i E1 H1 n1 hr;obtain ⟨h1,h2⟩:=hf _ _ _ _ _ _ _ hr;obtain ⟨h3,h4⟩:=ih _ _ _ _ _ _ _ h;refine ⟨xd5 h1 h3,fun {w0 w ρ ds a hi Q} hQ ha hI hF hn kk=>?_⟩;rw [rounds_succ];exact h2 hQ.then ha hI hF (xd5 h3 hn) fun a' w' σ hσ ha' hI'=>h4 hQ ha'.shrink hI' (hF.step hσ h1) hn fun a2 w2 τ hτ ha2 hI2=>kk a2 w2 τ (hσ.trans hτ h1 h3) ha2 hI2
  ·rename_i hne;obtain ⟨h1,h2⟩:=hf _ _ _ _ _ _ _ h;refine ⟨h1,fun {w0 w ρ ds a hi Q} hQ ha hI hF hn kk=>?_⟩;rw [rounds_succ];refine h2 hQ.then ha hI hF hn fun a' w' σ hσ ha' hI'=>?_;have:=kk a' w' σ hσ ha' hI'
   cases e with
   |normal=>exact (hne _ _ _ h).elim
   |exit i=>exact this
   |ret=>exact this
theorem b3b (hC:FOk P C) (hc:a2x P call) (pl:List (Nat×Pl)) (c:Code) (hB:a4P N pl c=true):b0U P c N (a5z C call pl c):=by
 induction c with
 |skip=>
  intro E H n e E' H' n' h
  cases h
  exact ⟨xd4 _,fun hQ ha hI hF hn k=>wp_skip (k _ _ _ (Stp.refl _ _ _) ha hI)⟩
 |region id ops draw=>
  intro E H n e E' H' n' h;replace hB:(ops.toList.all (a9p N) && (bif draw then (match p9 pl id with
   |some p=>Region.noSelect ops && (plB ops p).1 ops.size (Array.replicate ops.size false)
   |none=>true) else true))=true:=hB
  rw [xb2] at hB;obtain ⟨hd,hB⟩:=hB
  cases draw with
  |false=>
   replace h:(match a7I C call ops.toList ops.toList E H n with
    |.ok (E',H',n')=>Rs.ok (SX.normal,E',H',n')
    |.no p=>.no p)=.ok (e,E',H',n'):=h
   split at h
   ·rename_i E1 H1 n1 hr
    cases h
    obtain ⟨h1,_⟩:=a4L (Q:=fun _ _ _=>True) hC.ok hc hd hr;refine ⟨h1,fun {w0 w ρ ds a hi Q} hQ ha hI hF hn k=>?_⟩;obtain ⟨_,h2⟩:=a4L (Q:=Q) hC.ok hc hd hr;have:=wp_region_lit (id:=id) (l:=ops.toList) (h2 ha hI hF hn k)
    simpa using this
   ·cases h
  |true=>
   replace h:(match p9 pl id with
    |some p=>match xPl C call ops.toList p n 0 [] E H n with
     |.ok (E',H',n')=>Rs.ok (SX.normal,E',H',n')
     |.no p=>.no p
    | none => .no "plan") = .ok (e, E', H', n') := h
   split at h
   ·rename_i p hp;rw [hp] at hB;dsimp only [cond_true] at hB;rw [xb2] at hB
    split at h
    ·rename_i E1 H1 n1 hr
     cases h
     have hpl:=fun (Q:Exit->Act->World->Prop) (hQ:PQ Q)=>(b6F hC.ok hc hQ hB.1 hd p).1 _ _ _ _ _ _ _ _ _ _ _ hB.2 hr;refine ⟨(hpl (fun _ _ _=>True) (fun _ _ _ _ _ _=>trivial)).1,fun {w0 w ρ ds a hi Q} hQ ha hI hF hn k=>?_⟩;refine wp_region_any hC.mixed (b1k _ [] _ _ _ ((hpl Q hQ).2 (hi:=hi) (m0:=n) ⟨ha,hI.grow ⟨rfl,rfl,rfl,xd4 _,fun _ _ _=>rfl⟩,hF,fun j _ _ q h1 h2=>by simp at h1 h2;omega,xd4 _,by simp,EL.nil⟩ hn k))
    ·cases h
   ·cases h
 |seq x y ihx ihy=>
  intro E H n e E' H' n' h;replace hB:(a4P N pl x && a4P N pl y)=true:=hB;rw [xb2] at hB;replace h:(match a5z C call pl x E H n with
   |.ok (.normal,E',H',n')=>a5z C call pl y E' H' n'
   |r=>r)=.ok (e,E',H',n'):=h
  split at h
  ·rename_i E1 H1 n1 hr;obtain ⟨h1,h2⟩:=ihx hB.1 _ _ _ _ _ _ _ hr;obtain ⟨h3,h4⟩:=ihy hB.2 _ _ _ _ _ _ _ h;refine ⟨xd5 h1 h3,fun {w0 w ρ ds a hi Q} hQ ha hI hF hn k=>wp_seq ?_⟩;exact h2 hQ.then ha hI hF (xd5 h3 hn) fun a' w' σ hσ ha' hI'=>h4 hQ ha' hI' (hF.step hσ h1) hn fun a2 w2 τ hτ ha2 hI2=>k a2 w2 τ (hσ.trans hτ h1 h3) ha2 hI2
  ·rename_i hne;obtain ⟨h1,h2⟩:=ihx hB.1 _ _ _ _ _ _ _ h;refine ⟨h1,fun {w0 w ρ ds a hi Q} hQ ha hI hF hn k=>wp_seq ?_⟩;refine h2 hQ.then ha hI hF hn fun a' w' σ hσ ha' hI'=>?_;have:=k a' w' σ hσ ha' hI'
   cases e with
   |normal=>exact (hne _ _ _ h).elim
   |exit i=>exact this
   |ret=>exact this
 |cond o x y ihx ihy=>
  intro E H n e E' H' n' h;replace hB:(a4P N pl x && a4P N pl y)=true:=hB;rw [xb2] at hB;replace h:(match sEv E o with
   |some (.bool true)=>a5z C call pl x E H n
   |some (.bool false)=>a5z C call pl y E H n
   | _ => Rs.no "cond") = .ok (e, E', H', n') := h
  split at h
  ·rename_i ho;obtain ⟨h1,h2⟩:=ihx hB.1 _ _ _ _ _ _ _ h;refine ⟨h1,fun {w0 w ρ ds a hi Q} hQ ha hI hF hn k=>?_⟩;obtain ⟨u,hu,go⟩:=ha.ev ho;rw [VR.bool hu] at go;exact wp_cond_split (ha.full.ev go) (fun _=>h2 hQ ha hI hF hn k) (fun e=>by cases e)
  ·rename_i ho;obtain ⟨h1,h2⟩:=ihy hB.2 _ _ _ _ _ _ _ h;refine ⟨h1,fun {w0 w ρ ds a hi Q} hQ ha hI hF hn k=>?_⟩;obtain ⟨u,hu,go⟩:=ha.ev ho;rw [VR.bool hu] at go;exact wp_cond_split (ha.full.ev go) (fun e=>by cases e) (fun _=>h2 hQ ha hI hF hn k)
  ·cases h
 |block i x ih=>
  intro E H n e E' H' n' h;replace hB:a4P N pl x=true:=hB;replace h:(match a5z C call pl x E H n with
   |.ok (.exit j,E',H',n')=>bif Nat.beq j i then Rs.ok (SX.normal,E',H',n') else Rs.ok (SX.exit j,E',H',n')
   |r=>r)=.ok (e,E',H',n'):=h
  split at h
  ·rename_i j E1 H1 n1 hr;obtain ⟨h1,h2⟩:=ih hB _ _ _ _ _ _ _ hr
   cases hj:Nat.beq j i with
   |true=>
    rw [hj] at h
    cases h
    obtain rfl:=xb9 hj;refine ⟨h1,fun {w0 w ρ ds a hi Q} hQ ha hI hF hn k=>wp_block (h2 hQ.block ha hI hF hn fun a' w' σ hσ ha' hI'=>?_)⟩;show if j=j then _ else _;rw [xf0 rfl];exact k a' w' σ hσ ha' hI'
   |false=>
    rw [hj] at h
    cases h
    have hne:j≠i:=fun e=>by subst e;rw [xo9] at hj;cases hj
    refine ⟨h1,fun {w0 w ρ ds a hi Q} hQ ha hI hF hn k=>wp_block (h2 hQ.block ha hI hF hn fun a' w' σ hσ ha' hI'=>?_)⟩;show if j=i then _ else _;rw [xf1 hne];exact k a' w' σ hσ ha' hI'
  ·rename_i hne;obtain ⟨h1,h2⟩:=ih hB _ _ _ _ _ _ _ h;refine ⟨h1,fun {w0 w ρ ds a hi Q} hQ ha hI hF hn k=>wp_block (h2 hQ.block ha hI hF hn fun a' w' σ hσ ha' hI'=>?_)⟩;have:=k a' w' σ hσ ha' hI'
   cases e with
   |normal=>exact this
   |exit j=>exact (hne _ _ _ _ h).elim
   |ret=>exact this
 |loop x ih=>
  intro E H n e E' H' n' h;replace hB:a4P N pl x=true:=hB;replace h:b03 (a5z C call pl x) b3h E H n=.ok (e,E',H',n'):=h;generalize b3h=kk at h;obtain ⟨h1,h2⟩:=b33 (ih hB) kk _ _ _ _ _ _ _ h;exact ⟨h1,fun hQ ha hI hF hn k=>wp_loop_rounds kk (h2 hQ ha hI hF hn k)⟩
 |rangeFunc f ps x y _ _=>intro E H n e E' H' n' h;cases h
 |exit i=>
  intro E H n e E' H' n' h
  cases h
  exact ⟨xd4 _,fun hQ ha hI hF hn k=>wp_exit (k _ _ _ (Stp.refl _ _ _) ha hI)⟩
 |scope x _=>intro E H n e E' H' n' h;cases h
 |label l=>intro E H n e E' H' n' h;cases h
 |goto l=>intro E H n e E' H' n' h;cases h
 |ret=>
  intro E H n e E' H' n' h
  cases h
  exact ⟨xd4 _,fun hQ ha hI hF hn k=>wp_ret (k _ _ _ (Stp.refl _ _ _) ha hI)⟩
 |refuse s=>intro E H n e E' H' n' h;cases h
theorem a8c (hT:TOk P C.T) (ha:HasR ρ N ds a E) (hI:Inv P w0 ρ H w):∀ {rs:List ResultVar} {vs:List Value},b1V C.T E H rs=some vs->∃ us,LR ρ vs us/\ResL P (a2d a) w rs us
 |[],vs,h=>by cases h;exact ⟨[],LR.nil,ResL.nil⟩
 |.tmp t::r,vs,h=>by
  unfold b1V at h
  split at h
  ·rename_i v vs' h1 h2
   cases h
   obtain ⟨u,hu,hat⟩:=ha.at_ t v h1;obtain ⟨us,h3,h4⟩:=a8c hT ha hI h2;exact ⟨u::us,LR.cons hu h3,ResL.tmp (a5g hat) h4⟩
  ·cases h
 |.cell p t::r,vs,h=>by
  unfold b1V at h
  split at h
  ·rename_i pv hp
   split at h
   ·rename_i v vs' h1 h2
    cases h
    obtain ⟨p',hp',hat⟩:=ha.at_ p pv hp;obtain ⟨b,o,u,rfl,hu,hl⟩:=a8i hT hI h1 hp';obtain ⟨us,h3,h4⟩:=a8c hT ha hI h2;exact ⟨u::us,LR.cons hu h3,ResL.cell (a5g hat) hl h4⟩
   ·cases h
  ·cases h
theorem VR.pack {vs us:List Value} (h:LR ρ vs us):VR ρ (a39 vs) (a39 us):=by
 match vs,us,h with
 |[],us,h=>rw [LR.nil_inv h];exact VR.mkTup LR.nil
 |[v],us,h=>
  obtain ⟨u,r,rfl,h1,h2⟩:=LR.inv h;rw [LR.nil_inv h2];exact h1
 |v::v2::r,us,h=>
  obtain ⟨u,r',rfl,h1,h2⟩:=LR.inv h;obtain ⟨u2,r2,rfl,h3,h4⟩:=LR.inv h2;exact VR.mkTup h
theorem a6M (m:Nat):∀ (H:SH) {i:Nat} {s:SA},p9 (b1G m H) i=some s->p9 H i=some s/\i < m
 |[],i,s,h=>by cases h
 |(k,t)::r,i,s,h=>by
  replace h:p9 (@Bool.rec (fun _=>SH) (b1G m r) ((k,t)::b1G m r) (Nat.blt k m)) i=some s:=h
  cases e:Nat.blt k m with
  |true=>
   rw [e] at h;have e:k < m:=by simpa [xc1] using e
   rw [t2] at h |-;by_cases hk:k=i
   ·rw [xf0 hk] at h |-;exact ⟨h,by omega⟩
   ·rw [xf1 hk] at h |-;exact a6M m r h
  |false=>
   rw [e] at h;obtain ⟨h1,h2⟩:=a6M m r h;have hk:k≠i:=fun e2=>by
    subst e2;have:Nat.blt k m=true:=by simpa [xc1] using h2
    rw [e] at this
    cases this
   rw [t2,xf1 hk];exact ⟨h1,h2⟩
theorem b6o {m:Nat} {v:Value} {i:Nat} {s:SA} (h:p9 (gc m v H) i=some s):p9 H i=some s:=by
 unfold gc at h
 cases e:(Nat.blt 20 (b5I m H) && (b21 1000 m v && (b1G m H).all fun p=>b5G m p.2)) with
 |true=>rw [e] at h;exact (a6M m H h).1
 |false=>rw [e] at h;exact h
theorem a68:∀ {vs us:List Value} {k t:Nat} {v:Value},LR ρ vs us->p9 (a5C k vs) t=some v->k<=t/\∃ u,us[t - k]?=some u/\VR ρ v u
 |[],us,k,t,v,_,h=>by cases h
 |x::vs,us,k,t,v,hr,h=>by
  obtain ⟨u,r,rfl,h1,h2⟩:=LR.inv hr;replace h:p9 ((k,x)::a5C (k + 1) vs) t=some v:=h;rw [t2] at h;by_cases e:k=t
  ·rw [xf0 e] at h
   cases h
   subst e;exact ⟨xd4 _,u,by simp,h1⟩
  ·rw [xf1 e] at h;obtain ⟨h3,u',h4,h5⟩:=a68 h2 h;exact ⟨by omega,u',by rw [show t - k=(t - (k + 1)) + 1 from by omega];simpa using h4,h5⟩
theorem b3V (hC:FOk P C) (hc:a2x P call):a2x P (b3O C call):=by
 intro g vs H n v H' n' h;unfold b3O at h
 split at h
 ·rename_i f hf
  split at h
  ·rename_i u hu
   cases h
   refine ⟨xd4 _,fun {w0 w ρ hi us} hr hI hF hn=>?_⟩;obtain ⟨h1,h2,h3⟩:=hC.M g f hf vs _ hu;have e:us=vs:=by
    have:=LR.cOks (ρ:=ρ) h1;unfold LR at hr this;rw [hr] at this
    cases this
    rfl
   rw [e];exact (h3 w).mono fun v' w' ⟨e1,hS⟩=>⟨ρ,Stp.refl _ _ _,by rw [e1];exact h2 ρ,hI.grow (St.grown0 hS)⟩
  ·cases h
 ·split at h
  ·rename_i fn pl hf;obtain ⟨hok,c',hb',hB⟩:=hC.F.get hf
   split at h
   ·rename_i c hb;obtain rfl:c=c':=by rw [hb] at hb';exact Option.some.inj hb'
    cases hl:Nat.ble vs.length fn.ntmps with
    |false=>rw [hl] at h;cases h
    |true=>
    rw [hl] at h;dsimp only [cond_true] at h
    split at h
    ·cases h
    ·rename_i e E1 H1 n1 hne hr
     split at h
     ·rename_i rs hrs
      cases h
      obtain ⟨h1,h2⟩:=b3b hC hc pl c hB _ _ _ _ _ _ _ hr;refine ⟨h1,fun {w0 w ρ hi us} hus hI hF hn=>⟨⟨fn,hok⟩,?_⟩⟩;refine calls_of_wp hok.at_ hb (h2 (fun c a w d v hq=>by cases d <;> exact hq) ⟨?_,rfl,fun t v ht=>?_⟩ hI hF hn fun a' w' σ hσ ha' hI'=>?_)
      ·have:=xg2 hl;have:=hus.len;simp;omega
      ·obtain ⟨_,u,hu,hv⟩:=a68 hus ht;rw [Nat.sub_zero] at hu;have hlt:=c9 hu;exact ⟨u,hv,by rw [Array.getElem?_append_left (by simpa using hlt)];simpa using hu⟩
      ·obtain ⟨us',h3,h4⟩:=a8c hC.ok.T ha' hI' hrs;have q:=b2P (P:=P) (fn:=fn) (Φ:=fun u w'=>∃ σ,Stp ρ σ n n'/\VR σ (a39 rs) u/\Inv P w0 σ (gc n (a39 rs) H1) w') rfl h4 rfl ⟨σ,hσ,VR.pack h3,hI'.sub fun i s hs=>b6o hs⟩ ha'.full
       cases e with
       |normal=>exact q
       |exit i=>exact (hne _ rfl).elim
       |ret=>exact q
     ·cases h
    ·cases h
   ·cases h
  ·cases h
theorem b5u (hC:FOk P C) (k:Nat):a2x P (b54 C k):=by
 induction k with
 |zero=>intro g vs H n v H' n' h;cases h
 |succ k ih=>exact b3V hC ih
noncomputable def xIs (r:Rs (Value×SH×Nat)) (v:Value):Bool:=match r with
 |.ok (u,_,_)=>vEq 1000 u v
 |.no _=>false
theorem b6S (hC:FOk P C) {g:Nat} {vs:List Value} {v:Value} (k:Nat) (h:xIs (b54 C k g vs [] 0) v=true) (hvs:vs.all cOk=true) (hv:∀ ρ,VR ρ v v) (w:World):Fn P g vs w (RBf v w):=by
 unfold xIs at h
 split at h
 ·rename_i u H n hr;obtain rfl:=a5e _ h;obtain ⟨h1,h2⟩:=b5u hC k _ _ _ _ _ _ _ hr;refine (h2 (w0:=w) (w:=w) (ρ:=fun _=>none) (hi:=n) (LR.cOks hvs) ⟨⟨rfl,rfl,rfl,xd4 _,fun _ _=>rfl⟩,(fun i s h=>by cases h),(fun i j s t x y h=>by cases h)⟩ (fun _ _ _=>rfl) (xd4 _)).mono fun u' w' ⟨σ,hσ,hu,hI⟩=>?_;exact ⟨VR.fn (hv σ) hu,St.of_below hI.below⟩
 ·cases h
end
def cxQ:EqT:=[(89,[1,0,2,2]),(143,[1,0]),(68,[0,0])]
noncomputable def b7x:List Value->Option Value
 |[.string ⟨⟨s⟩⟩,.int .i64 off,.string ⟨⟨t⟩⟩]=>ifB (inB off t.length s.length && Nat.ble s.length 100000) (some (.tuple #[.string ⟨(splice s off.toNat t).toArray⟩,.int .i64 0])) none
 |_=>none
noncomputable def cxM:List (Nat×(List Value->Option Value)):=[(76,b7x)]
theorem b7n {ρ:Ren} {z:Value} {l:List Value} (h:celL z=some l) (hl:l.all cOk=true):VR ρ z z:=by
 cases z
 all_goals first
  |(cases h;exact VR.mkAgg (LR.cOks hl);done)
  |(cases h;exact VR.cOk (by simpa using hl);done)
  |(cases h;done)
def zOk (z:Value):Bool:=match celL z with
 |some l=>l.all cOk
 |none=>false
def ForA {α:Type} (p:α->Prop):List α->Prop
 |[]=>True
 |x::r=>p x/\ForA p r
theorem ForA.nil {α:Type} {p:α->Prop}:ForA p []:=trivial
theorem ForA.cons {α:Type} {p:α->Prop} {x:α} {l:List α} (h:p x) (h':ForA p l):ForA p (x::l):=⟨h,h'⟩
theorem ForA.mem {α:Type} {p:α->Prop}:∀ {l:List α},ForA p l->∀ x ∈ l,p x
 |[],_,x,h=>by cases h
 |y::r,⟨h1,h2⟩,x,h=>by
  rcases xc4.1 h with rfl|h
  ·exact h1
  ·exact ForA.mem h2 x h
theorem b5h {P:Program} {ez:List (Nat×Value)} (h:ForA (fun p=>∃ Kt Et,P.underlying p.1=some (.map Kt Et)/\(P.info? Et).bind (·.zero)=some p.2/\zOk p.2=true) ez):b5j P ez:=fun t z hg Kt Et hu=>by
 obtain ⟨K,E,h1,h2,h3⟩:=h.mem _ (a4F hg);dsimp only at h1 h2 h3;rw [hu] at h1
 cases h1
 refine ⟨h2,fun ρ=>?_⟩;unfold zOk at h3
 split at h3
 ·rename_i l hl;exact b7n hl h3
 ·cases h3
theorem b6c:∀ g f,p9 cxM g=some f->∀ vs v,f vs=some v->vs.all cOk=true/\(∀ ρ,VR ρ v v)/\∀ w,Fn Tryz.prog g vs w (RBf v w):=by
 intro g f h vs v hv;have hm:=a4F h;unfold cxM at hm;rw [xi9] at hm
 cases hm
 unfold b7x at hv
 split at hv
 ·rename_i s off t;obtain ⟨h1,h2⟩:=m9 hv
  cases h2
  rw [xb2] at h1;have h3:=xg2 h1.2;refine ⟨rfl,fun ρ=>VR.mkTup (LR.cOks rfl),fun w=>?_⟩;have:=b0A s t off w (by unfold maxLen;omega);rw [xf0 h1.1,xf0 h1.1] at this;exact this
 ·cases hv
theorem a6C {l l':List Value} {b:Bool} (h:sEqS [] l l'=some b):l=[]/\l'=[]/\b=true:=by
 cases l <;> cases l' <;> simp_all [sEqS]
theorem a8n {s:List Nat} {l l':List Value} {b:Bool} (h:sEqS (0::s) l l'=some b):∃ x y m m' c,l=.int .i64 x::m/\l'=.int .i64 y::m'/\sEqS s m m'=some c/\b=(decide (x=y) && c):=by
 unfold sEqS at h
 split at h
 all_goals first
  |(cases h;done)
  |(exfalso;simp_all;done)
  |(obtain ⟨c,hc,rfl⟩:=xi6.1 h;simp_all;done)
  |(obtain ⟨c,hc,rfl⟩:=xi6.1 h;rename_i e;cases e;exact ⟨_,_,_,_,c,rfl,rfl,hc,rfl⟩)
theorem b4q {s:List Nat} {l l':List Value} {b:Bool} (h:sEqS (1::s) l l'=some b):∃ x y m m' c,l=.string ⟨⟨x⟩⟩::m/\l'=.string ⟨⟨y⟩⟩::m'/\sEqS s m m'=some c/\b=(decide (x=y) && c):=by
 unfold sEqS at h
 split at h
 all_goals first
  |(cases h;done)
  |(exfalso;simp_all;done)
  |(obtain ⟨c,hc,rfl⟩:=xi6.1 h;simp_all;done)
  |(obtain ⟨c,hc,rfl⟩:=xi6.1 h;rename_i e;cases e;exact ⟨_,_,_,_,c,rfl,rfl,hc,rfl⟩)
theorem b4n {s:List Nat} {l l':List Value} {b:Bool} (h:sEqS (2::s) l l'=some b):∃ x y m m' c,l=.bool x::m/\l'=.bool y::m'/\sEqS s m m'=some c/\b=(decide (x=y) && c):=by
 unfold sEqS at h
 split at h
 all_goals first
  |(cases h;done)
  |(exfalso;simp_all;done)
  |(obtain ⟨c,hc,rfl⟩:=xi6.1 h;simp_all;done)
  |(obtain ⟨c,hc,rfl⟩:=xi6.1 h;rename_i e;cases e;exact ⟨_,_,_,_,c,rfl,rfl,hc,rfl⟩)
theorem b6O:QOk Tryz.prog cxQ:=fun t s h l l' b hb=>by
 have hm:=a4F h;unfold cxQ at hm;simp only [xc4,List.not_mem_nil,or_false,Prod.mk.injEq] at hm;rcases hm with ⟨rfl,rfl⟩|⟨rfl,rfl⟩|⟨rfl,rfl⟩
 ·obtain ⟨x1,y1,m1,n1,c1,rfl,rfl,hb1,rfl⟩:=b4q hb;obtain ⟨x2,y2,m2,n2,c2,rfl,rfl,hb2,rfl⟩:=a8n hb1;obtain ⟨x3,y3,m3,n3,c3,rfl,rfl,hb3,rfl⟩:=b4n hb2;obtain ⟨x4,y4,m4,n4,c4,rfl,rfl,hb4,rfl⟩:=b4n hb3;obtain ⟨rfl,rfl,rfl⟩:=a6C hb4;refine ⟨fun w=>?_,by kernel_rfl⟩;simp [go_sem]
  repeat' split
  all_goals simp_all
 ·obtain ⟨x1,y1,m1,n1,c1,rfl,rfl,hb1,rfl⟩:=b4q hb;obtain ⟨x2,y2,m2,n2,c2,rfl,rfl,hb2,rfl⟩:=a8n hb1;obtain ⟨rfl,rfl,rfl⟩:=a6C hb2;refine ⟨fun w=>?_,by kernel_rfl⟩;simp [go_sem]
  repeat' split
  all_goals simp_all
 ·obtain ⟨x1,y1,m1,n1,c1,rfl,rfl,hb1,rfl⟩:=a8n hb;obtain ⟨x2,y2,m2,n2,c2,rfl,rfl,hb2,rfl⟩:=a8n hb1;obtain ⟨rfl,rfl,rfl⟩:=a6C hb2;refine ⟨fun w=>?_,by kernel_rfl⟩;simp [go_sem]
  repeat' split
  all_goals simp_all
set_option maxRecDepth 100000
set_option maxHeartbeats 4000000
noncomputable def b6i:BT (Func×List (Nat×Pl)):=.node 100 (Tryz.f100,[(6,.take 0 (.take 1 (.take 2 (.take 3 (.take 4 (.take 5 (.one 6 [1,3,5] (.take 7 (.take 8 (.take 9 (.take 10 (.take 11 (.take 12 (.take 13 (.take 14 (.take 15 (.take 16 (.take 17 (.take 18 (.one 19 [18] (.take 20 (.take 21 (.take 22 (.take 23 (.take 24 (.take 25 (.take 26 (.take 27 (.one 28 [26,27] (.take 29 (.take 30 (.take 31 .nil))))))))))))))))))))))))))))))))]) (.node 67 (Tryz.f67,[]) (.node 44 (Tryz.f44,[(4,.take 0 (.take 1 (.take 2 (.take 3 (.take 4 (.one 5 [4] (.take 6 .nil)))))))]) (.node 29 (Tryz.f29,[(9,.take 0 (.take 1 (.take 2 (.take 3 (.take 4 (.one 5 [3] (.take 6 (.take 7 (.take 8 (.take 9 (.take 10 .nil))))))))))),(12,.take 0 (.take 1 (.take 2 (.take 3 (.take 4 (.take 5 (.take 6 (.take 7 (.take 8 (.take 9 (.take 10 (.take 11 (.take 12 (.take 13 .nil)))))))))))))),(13,.take 0 (.take 1 (.take 2 (.take 3 (.take 4 (.take 5 (.take 6 (.take 7 (.take 8 (.take 9 (.take 10 (.take 11 (.take 12 (.take 13 .nil))))))))))))))]) (.node 21 (Tryz.f21,[]) (.node 18 (Tryz.f18,[(12,.take 0 (.take 1 (.take 2 (.take 4 (.take 6 (.take 7 (.take 8 (.grp 16777216 (.alt 3 [] (.alt 5 [] (.alt 9 [] (.take 10 (.alt 11 [] (.alt 12 [1,7] (.take 13 .nil) .stop) .stop)) .stop) (.alt 9 [] (.alt 5 [] (.take 10 (.alt 11 [] (.alt 12 [1,7] (.take 13 .nil) .stop) .stop)) .stop) .stop)) (.alt 5 [] (.alt 3 [] (.alt 9 [] (.take 10 (.alt 11 [] (.alt 12 [1,7] (.take 13 .nil) .stop) .stop)) .stop) (.alt 9 [] (.alt 3 [] (.take 10 (.alt 11 [] (.alt 12 [1,7] (.take 13 .nil) .stop) .stop)) .stop) .stop)) (.alt 9 [] (.alt 3 [] (.alt 5 [] (.take 10 (.alt 11 [] (.alt 12 [1,7] (.take 13 .nil) .stop) .stop)) .stop) (.alt 5 [] (.alt 3 [] (.take 10 (.alt 11 [] (.alt 12 [1,7] (.take 13 .nil) .stop) .stop)) .stop) .stop)) .stop)))))))))))]) (.node 9 (Tryz.f9,[(11,.take 0 (.take 1 (.take 2 (.take 3 (.take 4 (.take 5 (.take 6 (.one 7 [3,5,6] .nil)))))))),(18,.take 0 (.take 1 (.take 2 (.take 3 (.take 4 (.take 5 (.take 6 (.take 7 (.take 8 (.take 9 (.take 10 (.one 11 [] (.one 12 [3,6,8] .nil)))))))))))))]) .nil .nil) .nil) (.node 25 (Tryz.f25,[(3,.take 0 (.take 1 (.take 2 (.one 3 [] (.one 4 [1] (.take 5 .nil)))))),(5,.take 0 (.take 1 (.take 2 (.take 3 (.take 4 (.take 5 (.one 6 [3] (.one 7 [4] (.take 8 .nil)))))))))]) (.node 23 (Tryz.f23,[(3,.take 0 (.take 1 (.take 2 (.take 4 (.take 5 (.take 6 (.grp 4096 (.alt 3 [] (.alt 7 [] (.take 8 (.alt 9 [] (.alt 10 [] (.alt 11 [1,5] .nil .stop) .stop) (.alt 10 [] (.alt 9 [] (.alt 11 [1,5] .nil .stop) .stop) .stop))) (.alt 10 [] (.alt 7 [] (.take 8 (.alt 9 [] (.alt 11 [1,5] .nil .stop) .stop)) .stop) .stop)) (.alt 7 [] (.alt 3 [] (.take 8 (.alt 9 [] (.alt 10 [] (.alt 11 [1,5] .nil .stop) .stop) (.alt 10 [] (.alt 9 [] (.alt 11 [1,5] .nil .stop) .stop) .stop))) (.alt 10 [] (.alt 3 [] (.take 8 (.alt 9 [] (.alt 11 [1,5] .nil .stop) .stop)) .stop) .stop)) (.alt 10 [] (.alt 3 [] (.alt 7 [] (.take 8 (.alt 9 [] (.alt 11 [1,5] .nil .stop) .stop)) .stop) (.alt 7 [] (.alt 3 [] (.take 8 (.alt 9 [] (.alt 11 [1,5] .nil .stop) .stop)) .stop) .stop)) .stop)))))))))),(4,.take 0 (.take 1 (.one 2 [1] (.take 3 (.take 4 (.take 5 (.take 6 (.take 7 (.take 8 (.take 9 (.take 10 (.take 11 (.take 12 (.take 13 (.take 14 (.take 15 (.take 16 (.take 17 (.take 18 (.take 19 (.take 20 (.one 21 [19] (.take 22 (.take 23 (.take 24 (.take 25 (.take 26 (.take 27 (.take 28 (.take 29 (.take 30 (.take 31 (.take 32 .nil))))))))))))))))))))))))))))))))),(9,.take 0 (.take 1 (.take 2 (.take 3 (.take 4 (.take 5 (.take 6 (.take 7 (.take 8 (.one 9 [0,1,8] (.take 10 .nil)))))))))))]) .nil .nil) .nil)) (.node 38 (Tryz.f38,[]) (.node 37 (Tryz.f37,[]) (.node 35 (Tryz.f35,[(5,.take 0 (.take 1 (.take 2 (.one 3 [] (.take 4 (.one 5 [1] (.take 6 .nil))))))),(8,.take 0 (.take 1 (.take 2 (.take 3 (.take 4 (.take 6 (.take 7 (.grp 16777216 (.alt 5 [4] (.alt 8 [3] (.take 9 (.alt 10 [6] (.take 11 .nil) .stop)) .stop) (.alt 8 [3] (.alt 5 [4] (.take 9 (.alt 10 [6] (.take 11 .nil) .stop)) .stop) .stop))))))))))]) .nil .nil) .nil) (.node 40 (Tryz.f40,[(18,.take 0 (.take 1 (.take 2 (.take 3 (.grp 4096 (.alt 4 [3] (.take 5 (.alt 6 [] (.alt 7 [2] .nil .stop) .stop)) (.alt 6 [] (.alt 4 [3] (.take 5 (.alt 7 [2] .nil .stop)) .stop) .stop))))))),(20,.take 0 (.take 1 (.take 2 (.take 3 (.take 4 (.take 5 (.take 6 (.take 7 (.take 8 (.take 9 (.take 10 (.take 11 (.take 12 (.take 13 (.take 14 (.take 15 (.take 16 (.take 17 (.take 18 (.take 19 (.take 20 (.take 21 (.take 22 (.take 23 (.take 24 (.take 25 (.take 26 (.take 27 (.take 28 (.take 29 (.take 30 (.take 31 (.take 32 (.take 33 (.take 34 (.take 35 (.take 36 (.take 37 (.take 38 .nil))))))))))))))))))))))))))))))))))))))),(21,.take 0 (.take 1 (.take 2 (.take 3 (.take 4 (.take 5 (.take 6 (.take 7 (.take 8 (.take 9 (.take 10 (.take 11 (.take 12 (.take 13 (.one 14 [3,8,10] .nil))))))))))))))),(22,.take 0 (.take 1 (.take 2 (.take 3 (.take 4 (.take 5 (.one 6 [5] (.one 7 [4] (.take 8 (.take 9 (.one 10 [] .nil))))))))))),(26,.take 0 (.take 1 (.take 2 (.take 3 (.take 4 (.take 5 (.take 6 (.take 7 (.take 8 (.one 9 [] (.take 10 (.take 11 (.one 12 [11] (.one 13 [4] (.take 14 (.take 15 (.one 16 [] .nil)))))))))))))))))]) (.node 39 (Tryz.f39,[]) .nil .nil) .nil))) (.node 59 (Tryz.f59,[(6,.take 0 (.take 2 (.take 9 (.take 10 (.take 11 (.one 1 [] (.one 3 [] (.take 4 (.take 5 (.take 6 (.one 7 [6] (.take 8 (.take 12 (.take 13 .nil)))))))))))))),(12,.take 0 (.take 1 (.take 2 (.take 3 (.take 4 (.take 5 (.take 6 (.take 7 (.take 8 (.take 9 (.take 10 (.take 11 (.take 12 (.one 13 [4,6,9] .nil)))))))))))))),(13,.take 0 (.take 1 (.take 2 (.take 3 (.take 4 (.take 5 (.take 6 (.take 7 (.take 8 (.take 9 (.take 10 (.take 11 (.take 12 (.one 13 [4,6,9] .nil)))))))))))))),(15,.take 0 (.take 1 (.take 2 (.take 3 (.take 4 (.take 5 (.take 6 (.take 9 (.one 7 [6] (.take 8 (.take 10 (.take 11 (.one 12 [11] (.one 13 [5] (.take 14 (.take 15 (.take 16 (.one 17 [] .nil)))))))))))))))))),(16,.take 0 (.take 1 (.take 2 (.take 3 (.take 4 (.take 5 (.take 6 (.one 7 [3] (.take 8 (.take 9 .nil))))))))))]) (.node 53 (Tryz.f53,[]) (.node 46 (Tryz.f46,[]) (.node 45 (Tryz.f45,[]) .nil .nil) .nil) (.node 58 (Tryz.f58,[]) (.node 54 (Tryz.f54,[(1,.take 0 (.take 1 (.take 2 (.take 3 (.take 5 (.take 6 (.grp 4096 (.alt 4 [3] (.alt 7 [6] (.take 8 (.alt 9 [] (.alt 10 [1] .nil .stop) .stop)) (.alt 9 [] (.alt 7 [6] (.take 8 (.alt 10 [1] .nil .stop)) .stop) .stop)) (.alt 9 [] (.alt 4 [3] (.alt 7 [6] (.take 8 (.alt 10 [1] .nil .stop)) .stop) .stop) .stop))))))))),(11,.take 0 (.take 1 (.take 2 (.take 3 (.take 4 (.take 5 (.take 7 (.take 8 (.one 6 [5] (.one 9 [8] (.take 10 (.one 11 [] (.one 12 [1] (.take 13 (.one 14 [3] .nil)))))))))))))))]) .nil .nil) .nil)) (.node 64 (Tryz.f64,[]) (.node 63 (Tryz.f63,[]) (.node 62 (Tryz.f62,[(5,.take 0 (.take 1 (.take 2 (.take 3 (.take 4 (.take 5 (.take 6 (.take 7 (.take 8 (.take 9 (.take 10 (.take 11 (.take 12 (.take 13 (.take 14 (.take 15 (.take 16 .nil)))))))))))))))))]) .nil .nil) .nil) (.node 66 (Tryz.f66,[(5,.take 0 (.take 1 (.take 2 (.take 3 (.take 4 (.take 5 (.take 6 (.take 7 (.take 8 (.take 9 (.take 10 (.take 11 (.take 12 (.one 13 [3,7,12] (.take 14 (.take 15 (.take 16 (.take 17 (.take 18 .nil)))))))))))))))))))]) (.node 65 (Tryz.f65,[(5,.take 0 (.take 1 (.take 2 (.take 3 (.take 4 (.take 5 (.one 6 [5] (.take 7 (.take 8 (.take 9 (.one 10 [3] .nil))))))))))),(12,.take 0 (.take 1 (.take 2 (.take 3 (.take 4 (.take 5 (.one 6 [3,4] (.take 7 (.take 8 (.take 9 (.take 10 (.take 11 .nil)))))))))))),(27,.take 0 (.take 1 (.take 2 (.take 3 (.take 4 (.take 5 (.take 6 (.take 7 (.take 8 (.take 9 (.take 10 (.one 11 [] (.one 12 [7] (.take 13 (.one 14 [2,5,8,9] .nil)))))))))))))))]) .nil .nil) .nil)))) (.node 89 (Tryz.f89,[]) (.node 82 (Tryz.f82,[(1,.take 0 (.take 1 (.take 2 (.take 3 (.take 4 (.take 5 (.take 6 (.take 7 (.take 8 (.take 9 (.take 10 .nil)))))))))))]) (.node 75 (Tryz.f75,[(0,.take 0 (.take 1 (.take 2 (.take 3 (.take 4 (.take 5 (.take 6 (.take 7 (.take 8 (.take 9 (.take 10 (.one 11 [4] (.take 12 (.take 13 (.take 14 (.take 15 (.take 16 (.one 17 [6] .nil))))))))))))))))))]) (.node 74 (Tryz.f74,[(4,.take 0 (.take 1 (.take 2 (.take 3 (.take 4 (.take 5 (.take 6 (.take 7 (.take 8 (.take 9 (.take 10 (.take 11 (.take 12 (.take 13 (.take 14 (.take 15 (.one 16 [] .nil)))))))))))))))))]) (.node 73 (Tryz.f73,[(10,.take 0 (.take 1 (.one 2 [0] (.take 3 .nil))))]) .nil .nil) .nil) (.node 81 (Tryz.f81,[]) (.node 80 (Tryz.f80,[]) .nil .nil) .nil)) (.node 86 (Tryz.f86,[(0,.take 0 (.take 1 (.take 2 (.take 3 (.take 4 (.take 5 (.take 6 (.take 7 (.take 8 (.one 9 [0,5] .nil))))))))))]) (.node 84 (Tryz.f84,[]) (.node 83 (Tryz.f83,[]) .nil .nil) .nil) (.node 88 (Tryz.f88,[]) (.node 87 (Tryz.f87,[]) .nil .nil) .nil))) (.node 95 (Tryz.f95,[]) (.node 92 (Tryz.f92,[(11,.take 0 (.take 1 (.take 2 (.take 3 (.take 4 (.take 5 (.take 6 (.take 7 (.take 8 (.take 9 (.take 10 (.take 11 (.take 12 (.take 13 (.take 14 (.take 15 (.take 16 (.take 17 (.take 18 (.take 19 (.take 20 (.take 21 (.take 22 (.take 23 (.take 24 .nil)))))))))))))))))))))))))]) (.node 91 (Tryz.f91,[(4,.take 0 (.take 1 (.take 2 (.take 3 (.take 4 (.take 5 (.take 6 (.take 7 (.take 8 (.take 9 (.take 10 (.take 11 (.take 12 (.take 13 (.take 14 (.take 15 (.take 16 (.take 17 (.take 18 (.take 19 (.take 20 (.take 21 .nil))))))))))))))))))))))]) (.node 90 (Tryz.f90,[]) .nil .nil) .nil) (.node 94 (Tryz.f94,[]) (.node 93 (Tryz.f93,[(1,.take 0 (.take 1 (.take 2 (.take 3 (.take 4 (.take 5 (.one 6 [3,5] (.take 7 (.take 8 (.take 9 (.take 10 (.take 11 .nil)))))))))))),(5,.take 0 (.take 1 (.take 2 (.take 3 (.take 4 (.take 5 (.take 6 (.take 7 (.take 8 (.take 9 (.take 10 (.one 11 [3,5,9] .nil)))))))))))),(6,.take 0 (.take 1 (.take 2 (.take 3 (.take 4 (.take 5 (.take 6 (.take 7 (.take 8 (.take 9 (.take 10 (.take 11 (.one 12 [] (.one 13 [4] (.take 14 (.take 15 (.one 16 [5,9] .nil))))))))))))))))),(7,.take 0 (.take 1 (.take 2 (.take 3 (.take 4 (.take 5 (.take 6 (.take 7 (.take 8 (.take 9 (.take 10 (.take 11 (.one 12 [3,5,7] .nil)))))))))))))]) .nil .nil) .nil)) (.node 98 (Tryz.f98,[]) (.node 97 (Tryz.f97,[(4,.take 0 (.take 1 (.take 2 (.take 3 (.take 4 (.take 5 (.take 6 (.take 7 (.take 8 (.take 9 (.one 10 [] (.one 11 [4] (.take 12 (.take 13 (.one 14 [] .nil))))))))))))))),(5,.take 0 (.take 1 (.take 2 (.take 3 (.take 4 (.take 5 (.take 6 (.take 7 .nil))))))))]) (.node 96 (Tryz.f96,[]) .nil .nil) .nil) (.node 99 (Tryz.f99,[(1,.take 0 (.take 1 (.take 3 (.take 4 (.take 7 (.take 8 (.take 11 (.take 12 (.take 15 (.take 16 (.one 2 [1] (.one 5 [4] (.take 6 (.one 9 [8] (.take 10 (.one 13 [12] (.take 14 (.one 17 [16] (.take 18 (.take 19 .nil))))))))))))))))))))]) .nil .nil))))) (.node 140 (Tryz.f140,[(1,.take 0 (.take 2 (.take 3 (.one 1 [0] (.take 4 (.take 5 (.take 6 (.take 7 (.take 8 (.take 9 (.take 10 (.take 11 (.take 12 (.take 13 (.take 14 (.take 15 (.take 16 (.take 17 (.take 18 (.take 19 .nil))))))))))))))))))))]) (.node 125 (Tryz.f125,[]) (.node 115 (Tryz.f115,[]) (.node 111 (Tryz.f111,[]) (.node 110 (Tryz.f110,[]) (.node 101 (Tryz.f101,[]) .nil .nil) .nil) (.node 113 (Tryz.f113,[]) (.node 112 (Tryz.f112,[]) .nil .nil) .nil)) (.node 118 (Tryz.f118,[(1,.take 0 (.take 1 (.take 2 (.take 3 (.take 4 (.take 5 (.take 6 (.take 7 (.take 8 (.take 9 (.take 10 (.take 11 (.take 12 (.take 13 (.take 14 (.take 15 (.take 16 (.take 17 (.take 18 (.take 19 (.take 20 .nil)))))))))))))))))))))]) (.node 117 (Tryz.f117,[]) (.node 116 (Tryz.f116,[]) .nil .nil) .nil) (.node 123 (Tryz.f123,[(3,.take 0 (.take 1 (.take 2 (.take 3 (.take 4 (.one 5 [3] (.take 6 (.take 7 (.take 8 (.take 9 (.take 10 .nil))))))))))),(6,.take 0 (.take 1 (.take 2 (.take 3 (.take 4 (.take 5 (.take 6 (.take 7 (.take 8 (.take 9 (.take 10 (.take 11 (.take 12 .nil))))))))))))),(9,.take 0 (.take 1 (.take 2 (.take 3 (.take 4 (.take 5 (.take 6 (.take 7 (.take 8 (.one 9 [8] (.one 10 [4] (.take 11 (.take 12 (.one 13 [] .nil)))))))))))))),(10,.take 0 (.take 1 (.take 2 (.take 3 (.take 4 (.take 5 (.take 6 (.take 7 (.take 8 (.take 9 (.take 10 .nil))))))))))),(15,.take 0 (.take 1 (.take 2 (.take 3 (.take 4 (.take 5 (.take 6 (.take 7 (.take 8 (.take 9 (.take 10 (.take 11 (.one 12 [3,7] .nil))))))))))))),(16,.take 0 (.take 1 (.take 2 (.take 3 (.take 4 (.take 5 (.take 6 (.take 7 (.take 8 (.take 9 (.take 10 (.take 11 (.take 12 (.take 13 (.take 14 (.take 15 (.take 16 (.take 17 (.take 18 .nil)))))))))))))))))))]) (.node 122 (Tryz.f122,[]) .nil .nil) .nil))) (.node 131 (Tryz.f131,[]) (.node 128 (Tryz.f128,[]) (.node 127 (Tryz.f127,[]) (.node 126 (Tryz.f126,[]) .nil .nil) .nil) (.node 130 (Tryz.f130,[]) (.node 129 (Tryz.f129,[]) .nil .nil) .nil)) (.node 137 (Tryz.f137,[]) (.node 136 (Tryz.f136,[]) (.node 135 (Tryz.f135,[]) .nil .nil) .nil) (.node 139 (Tryz.f139,[]) (.node 138 (Tryz.f138,[]) .nil .nil) .nil)))) (.node 172 (Tryz.f172,[]) (.node 166 (Tryz.f166,[(2,.take 0 (.take 1 (.take 2 (.take 3 (.take 4 (.take 5 (.take 6 (.take 7 (.take 8 .nil))))))))),(6,.take 0 (.take 1 (.take 2 (.take 3 (.take 4 (.take 5 (.take 6 (.take 7 (.take 8 .nil)))))))))]) (.node 154 (Tryz.f154,[(6,.take 0 (.take 1 (.take 2 (.take 3 (.take 4 (.take 5 (.take 6 (.take 7 (.take 8 (.take 9 (.take 10 (.take 11 .nil))))))))))))]) (.node 153 (Tryz.f153,[(8,.take 0 (.take 1 (.take 2 (.take 3 (.take 4 (.take 5 (.take 6 (.one 7 [6] (.one 8 [4] (.take 9 (.take 10 (.one 11 [] .nil))))))))))))]) (.node 152 (Tryz.f152,[]) .nil .nil) .nil) (.node 157 (Tryz.f157,[]) (.node 156 (Tryz.f156,[]) .nil .nil) .nil)) (.node 169 (Tryz.f169,[]) (.node 168 (Tryz.f168,[]) (.node 167 (Tryz.f167,[(11,.take 0 (.take 1 (.take 2 (.take 3 (.take 4 (.take 5 (.take 6 (.take 7 (.one 8 [] .nil))))))))),(15,.take 0 (.take 1 (.take 2 (.take 3 (.take 4 (.take 5 (.take 6 (.take 7 (.one 8 [] .nil)))))))))]) .nil .nil) .nil) (.node 171 (Tryz.f171,[(3,.take 0 (.take 1 (.take 2 (.take 3 (.take 4 (.take 5 (.take 6 (.take 7 (.take 8 (.take 9 (.take 10 (.take 11 (.take 12 (.take 13 (.take 14 (.take 15 (.take 16 (.take 17 (.take 18 (.take 19 (.take 20 (.take 21 (.take 22 (.take 23 (.take 24 (.take 25 (.one 26 [4,10,14,19,23] .nil))))))))))))))))))))))))))),(13,.take 0 (.take 1 (.take 2 (.take 3 (.take 4 (.take 5 (.take 6 (.take 7 (.take 8 (.take 9 (.take 10 (.take 11 (.take 12 (.one 13 [6,8,10] .nil)))))))))))))),(15,.take 0 (.take 1 (.take 2 (.take 3 (.take 4 (.take 5 (.take 6 (.one 7 [] (.take 8 (.take 9 (.one 10 [4] .nil)))))))))))]) (.node 170 (Tryz.f170,[]) .nil .nil) .nil))) (.node 180 (Tryz.f180,[]) (.node 177 (Tryz.f177,[]) (.node 176 (Tryz.f176,[]) (.node 175 (Tryz.f175,[]) .nil .nil) .nil) (.node 179 (Tryz.f179,[]) (.node 178 (Tryz.f178,[]) .nil .nil) .nil)) (.node 183 (Tryz.f183,[]) (.node 182 (Tryz.f182,[]) (.node 181 (Tryz.f181,[]) .nil .nil) .nil) (.node 184 (Tryz.f184,[(3,.take 0 (.take 1 (.take 2 (.take 3 (.take 4 (.take 5 (.take 6 (.take 7 (.take 8 (.take 9 (.take 10 (.take 11 (.take 12 (.one 13 [7,11] (.take 14 (.one 15 [] .nil))))))))))))))))]) .nil .nil)))))
def b55:TT:=.node 108 (.st 4 [(0,1,false),(1,1,false),(2,1,false),(3,1,false)] [.map none,.map none,.slice none 0 0,.int .i64 0]) (.node 38 (.sl 89 4 32 true [.string ⟨#[]⟩,.int .i64 0,.bool false,.bool false]) (.node 25 (.sl 191 3 32 true [.int .i64 0,.string ⟨#[]⟩,.int .i64 0]) (.node 21 (.sc (.int .i32) 1 (.int .i32 0)) (.node 5 (.sc (.int .u8) 1 (.int .u8 0)) (.node 4 (.sc .bool 1 (.bool false)) (.node 3 (.sc (.int .i64) 1 (.int .i64 0)) .nil .nil) .nil) (.node 9 (.sc .string 1 (.string ⟨#[]⟩)) .nil .nil)) (.node 23 (.sl 197 5 40 true [.int .i64 0,.int .i64 0,.string ⟨#[]⟩,.bool false,.bool false]) (.node 22 (.sl 9 1 16 false [.string ⟨#[]⟩]) .nil .nil) (.node 24 (.sl 252 2 24 true [.string ⟨#[]⟩,.int .i64 0]) .nil .nil))) (.node 30 (.sl 81 4 32 true [.int .i64 0,.int .i64 0,.int .i64 0,.bool false]) (.node 28 (.sl 27 6 120 true [.string ⟨#[]⟩,.slice none 0 0,.slice none 0 0,.slice none 0 0,.slice none 0 0,.int .i64 0]) (.node 27 (.st 6 [(0,1,false),(1,1,false),(2,1,false),(3,1,false),(4,1,false),(5,1,false)] [.string ⟨#[]⟩,.slice none 0 0,.slice none 0 0,.slice none 0 0,.slice none 0 0,.int .i64 0]) .nil .nil) (.node 29 (.sl 3 1 8 false [.int .i64 0]) .nil .nil)) (.node 33 (.st 3 [(0,1,false),(1,1,false),(2,1,false)] [.slice none 0 0,.slice none 0 0,.int .i64 0]) (.node 31 (.sl 94 3 48 true [.int .i64 0,.string ⟨#[]⟩,.slice none 0 0]) .nil .nil) (.node 34 (.sc (.int .i64) 1 (.int .i64 0)) .nil .nil)))) (.node 91 (.st 3 [(0,1,false),(1,1,false),(2,1,false)] [.int .i64 0,.int .i64 0,.int .i64 0]) (.node 73 (.sl 91 3 24 true [.int .i64 0,.int .i64 0,.int .i64 0]) (.node 42 (.st 5 [(0,1,false),(1,1,false),(2,1,false),(3,1,false),(4,1,false)] [.slice none 0 0,.slice none 0 0,.slice none 0 0,.slice none 0 0,.int .i64 0]) (.node 40 (.sl 75 3 56 true [.bool false,.slice none 0 0,.slice none 0 0]) (.node 39 (.sl 143 2 24 true [.string ⟨#[]⟩,.int .i64 0]) .nil .nil) .nil) (.node 68 (.st 2 [(0,1,false),(1,1,false)] [.int .i64 0,.int .i64 0]) .nil .nil)) (.node 81 (.st 4 [(0,1,false),(1,1,false),(2,1,false),(3,1,false)] [.int .i64 0,.int .i64 0,.int .i64 0,.bool false]) (.node 75 (.st 3 [(0,1,false),(1,1,false),(2,1,false)] [.bool false,.slice none 0 0,.slice none 0 0]) .nil .nil) (.node 89 (.st 4 [(0,1,false),(1,1,false),(2,1,false),(3,1,false)] [.string ⟨#[]⟩,.int .i64 0,.bool false,.bool false]) .nil .nil))) (.node 103 (.sc (.pointer 108) 1 (.pointer none)) (.node 94 (.st 3 [(0,1,false),(1,1,false),(2,1,false)] [.int .i64 0,.string ⟨#[]⟩,.slice none 0 0]) (.node 92 (.sl 96 2 24 true [.int .i64 0,.string ⟨#[]⟩]) .nil .nil) (.node 96 (.st 2 [(0,1,false),(1,1,false)] [.int .i64 0,.string ⟨#[]⟩]) .nil .nil)) (.node 105 (.sc (.map 9 3) 1 (.map none)) (.node 104 (.sc (.map 9 27) 1 (.map none)) .nil .nil) (.node 106 (.sl 112 7 128 true [.string ⟨#[]⟩,.slice none 0 0,.slice none 0 0,.slice none 0 0,.slice none 0 0,.int .i64 0,.int .i64 0]) .nil .nil))))) (.node 186 (.sl 110 1 8 false [.nilFunc]) (.node 152 (.sc (.func #[75] #[4] false) 1 (.nilFunc)) (.node 145 (.sc (.pointer 149) 1 (.pointer none)) (.node 114 (.sc (.pointer 33) 1 (.pointer none)) (.node 112 (.st 7 [(0,6,true),(6,1,false)] [.string ⟨#[]⟩,.slice none 0 0,.slice none 0 0,.slice none 0 0,.slice none 0 0,.int .i64 0,.int .i64 0]) (.node 110 (.sc (.func #[27] #[34] false) 1 (.nilFunc)) .nil .nil) .nil) (.node 143 (.st 2 [(0,1,false),(1,1,false)] [.string ⟨#[]⟩,.int .i64 0]) .nil .nil)) (.node 147 (.sl 154 1 24 false [.slice none 0 0]) (.node 146 (.sc (.pointer 42) 1 (.pointer none)) .nil .nil) (.node 149 (.st 4 [(0,1,false),(1,1,false),(2,1,false),(3,1,false)] [.pointer none,.slice none 0 0,.slice none 0 0,.int .i64 0]) .nil .nil))) (.node 167 (.sc (.func #[165,3,3] #[] false) 1 (.nilFunc)) (.node 161 (.sc (.pointer 169) 1 (.pointer none)) (.node 154 (.sl 233 7 56 true [.int .i64 0,.int .i64 0,.int .i64 0,.int .i64 0,.int .i64 0,.int .i64 0,.bool false]) .nil .nil) (.node 165 (.sc (.pointer 89) 1 (.pointer none)) .nil .nil)) (.node 183 (.sl 5 1 1 false [.int .u8 0]) (.node 169 (.st 7 [(0,5,true),(5,1,false),(6,1,false)] [.slice none 0 0,.slice none 0 0,.slice none 0 0,.slice none 0 0,.int .i64 0,.int .i64 0,.slice none 0 0]) .nil .nil) (.node 184 (.sl 28 1 24 false [.slice none 0 0]) .nil .nil)))) (.node 247 (.sc (.func #[94,3] #[3] false) 1 (.nilFunc)) (.node 233 (.st 7 [(0,3,true),(3,4,true)] [.int .i64 0,.int .i64 0,.int .i64 0,.int .i64 0,.int .i64 0,.int .i64 0,.bool false]) (.node 197 (.st 5 [(0,1,false),(1,1,false),(2,1,false),(3,1,false),(4,1,false)] [.int .i64 0,.int .i64 0,.string ⟨#[]⟩,.bool false,.bool false]) (.node 191 (.st 3 [(0,1,false),(1,1,false),(2,1,false)] [.int .i64 0,.string ⟨#[]⟩,.int .i64 0]) (.node 188 (.sc (.map 3 199) 1 (.map none)) .nil .nil) .nil) (.node 201 (.st 5 [(0,1,false),(1,1,false),(2,1,false),(3,1,false),(4,1,false)] [.int .i64 0,.int .i64 0,.int .i64 0,.int .i64 0,.int .i64 0]) .nil .nil)) (.node 243 (.sc (.func #[81,3] #[3] false) 1 (.nilFunc)) (.node 235 (.sc (.func #[233] #[4] false) 1 (.nilFunc)) .nil .nil) (.node 245 (.sc (.func #[91,3] #[3] false) 1 (.nilFunc)) .nil .nil))) (.node 287 (.sc (.func #[21] #[4] false) 1 (.nilFunc)) (.node 257 (.sc (.int .u64) 1 (.int .u64 0)) (.node 252 (.st 2 [(0,1,false),(1,1,false)] [.string ⟨#[]⟩,.int .i64 0]) .nil .nil) (.node 284 (.sc (.int .u64) 1 (.int .u64 0)) .nil .nil)) (.node 319 (.sc (.func #[143] #[4] false) 1 (.nilFunc)) (.node 303 (.sc (.func #[89] #[4] false) 1 (.nilFunc)) .nil .nil) (.node 321 (.sc (.func #[91] #[4] false) 1 (.nilFunc)) .nil .nil)))))
def b6E:List (Nat×Value):=[(104,.agg #[.string ⟨#[]⟩,.slice none 0 0,.slice none 0 0,.slice none 0 0,.slice none 0 0,.int .i64 0]),(105,.int .i64 0),(188,.pointer none),(309,.agg #[.bool false,.bool false,.bool false])]
noncomputable def cxK:Cx:=⟨b55,cxQ,b6E,b6i,cxM⟩
theorem b7L:FOk Tryz.prog cxK:=by
 have hT:BT.All (fun t ti=>(a8E Tryz.prog t=some ti/\ti.okB=true)/\ti.zeros.all cOk=true) b55:=by
  unfold b55
  repeat' (first|exact BT.All.nil|refine BT.All.node ⟨⟨by kernel_rfl,by kernel_rfl⟩,by kernel_rfl⟩ ?_ ?_)
 have hZ:ForA (fun p:Nat×Value=>∃ Kt Et,Tryz.prog.underlying p.1=some (.map Kt Et)/\(Tryz.prog.info? Et).bind (·.zero)=some p.2/\zOk p.2=true) b6E:=by
  unfold b6E;exact ForA.cons ⟨9,27,by kernel_rfl,by kernel_rfl,by kernel_rfl⟩ (ForA.cons ⟨9,3,by kernel_rfl,by kernel_rfl,by kernel_rfl⟩ (ForA.cons ⟨3,199,by kernel_rfl,by kernel_rfl,by kernel_rfl⟩ (ForA.cons ⟨3,307,by kernel_rfl,by kernel_rfl,by kernel_rfl⟩ (ForA.nil))))
 have hF:BT.All (fun g (x:Func×List (Nat×Pl))=>a3G Tryz.prog g x.1/\∃ c,x.1.body=some c/\a4P x.1.ntmps x.2 c=true) b6i:=by
  unfold b6i
  repeat' (first|exact BT.All.nil|refine BT.All.node ⟨⟨by kernel_rfl,by kernel_rfl,by kernel_rfl⟩,_,rfl,by kernel_rfl⟩ ?_ ?_)
 exact ⟨⟨fun t ti h=>(hT.get h).1,fun t ti h=>(hT.get h).2,b6O,b5h hZ⟩,by kernel_rfl,hF,b6c⟩
theorem a5X (w:World):Fn Tryz.prog 21 [] w (RBf (.bool true) w):=b6S b7L 60 (by kernel_rfl) rfl (fun _=>VR.cOk (v:=.bool true) rfl) w
def ftC (p:Int×Int):List Value:=[.int .i64 p.1,.int .i64 p.2]
theorem b7R (a b:Int×Int):a5Q Tryz.prog 68 (ftC a) (ftC b) (decide (a=b)):=by
 refine ⟨fun w=>?_,by kernel_rfl⟩;obtain ⟨a1,a2⟩:=a;obtain ⟨b1,b2⟩:=b;unfold ftC;simp [go_sem]
 repeat' split
 all_goals simp_all
theorem b3R (a b:Int):a5Q Tryz.prog 68 [.int .i64 a,.int .i64 b] [.int .i64 a,.int .i64 b] true:=by
 have h:=b7R (a,b) (a,b);rw [xj7 rfl] at h;exact h
theorem b7F {K:Ker} {space addr size way:Int} (h:okR K space addr size way):∃ sp:Nat,space=(sp:Nat)/\ReOk K sp addr size/\b0J K space addr size way=a0F K sp addr size (decide (way=1))/\ReOk (a0F K sp addr size (decide (way=1))) sp addr size:=by
 obtain ⟨sp,hsp,hr,h1,h2,h3,h4,h5,h6⟩:=b6a h;obtain ⟨r1,r2,-⟩:=a3R hr (sp:=sp) (by omega) h1 h2 h6 (decide (way=1));exact ⟨sp,hsp,⟨hr,by omega,h1,h2,h6⟩,h5,⟨r1,by omega,h1,h2,fun i h0 h1=>(h6 i h0 h1).same r2.ar r2.live⟩⟩
theorem a8Z {K:Ker} {space size way:Int} (h:a0x K space size way=0):a0S K space=0/\1<=size/\size<=8/\0<=way/\way<=2:=by
 unfold a0x at h;by_cases h1:a0S K space=0
 ·rw [xf0 h1] at h;by_cases h2:size < 1\/8 < size
  ·rw [xf0 h2] at h;cases h
  ·rw [xf1 h2] at h;by_cases h3:way < 0\/2 < way
   ·rw [xf0 h3] at h;cases h
   ·exact ⟨h1,by omega,by omega,by omega,by omega⟩
 ·rw [xf1 h1] at h;exact absurd h h1
theorem a5U {w:World} {k:KV} (hK:KerV w k) {space addr:Int} {s:List UInt8} (hb0:-9223372036854775808<=addr) (hb1:addr<=9223372036854775807):Fn Tryz.prog 5 [.agg (kvC k).toArray,.int .i64 space,.int .i64 addr,.string ⟨s.toArray⟩] w (RBf (.bool true) w):=by
 have hf:=fun w1 (h:KerV w1 k)=>b3y h (space:=space) (s:=s) hb0 hb1;have hre:=fun w1 (h:KerV w1 k)=>b0m h space (s.length:Nat) 1;have hbg:=a5X;by_cases he:a0x k.K space (s.length:Nat) 1=0;rotate_left
 ·have hR:a2J k.K space addr s=b5c:=by unfold a2J;rw [xf1 (fun h=>he h.1)]
  have hF:a27 k.K space addr (s.length:Nat) 1=(0,0):=by unfold a27;rw [xf1 he]
  rw [hR,hF] at hf;clear hR hF;generalize a0x k.K space (s.length:Nat) 1=e at he hf hre;have hde:decide (e=e)=true:=xj7 rfl;have hd0:decide (e=0)=false:=xj5 he;have hz:a26 (0,0)=.agg #[.int .i64 0,.int .i64 0]:=rfl;rw [hz] at hf;obtain ⟨sh,fr,sl,sps,hand,vsh,vfr,vsl,vsp⟩:=k;have hK0:=hK;obtain ⟨k1,k2,k3,k4,k5⟩:=hK;dsimp only at k1 k2 k3 k4 k5;obtain ⟨p1,c1,rfl⟩:=k1.sl.len;obtain ⟨p2,c2,rfl⟩:=k2.len;obtain ⟨p3,c3,rfl⟩:=k3.len;obtain ⟨p4,c4,rfl⟩:=k4.len;unfold kvC at hf hre |-;dsimp only at hf hre |-;refine yEn Tryz.func5 Tryz.ntmps5 (by kernel_rfl) (by kernel_rfl) rfl rfl ?_;have hS:=St.start w
  repeat' (first|(with_reducible apply a8 a7);rfl;rfl;rfl|(with_reducible apply a9);rfl;(apply Ld.st a7;rfl;exact hS.blkR 0 rfl;rfl);rfl|refine yDn (by with_reducible constructor) ?_|(with_reducible apply l9 hS);rfl;rfl;rfl;clear hS;intro g w' hS|(with_reducible apply o8);rfl;rfl;rfl;refine ⟨_,hf _ (hK0.now hS),?_⟩;rintro _ w2 ⟨k1,rfl,hk1,hc1⟩)
  have hV:=hc1.V;obtain ⟨Δ1,hD1,hV1⟩:=(hc1).keep;replace hS:=(hS.trans hD1).perm xm9;simp only [List.cons_append,List.nil_append,xg1] at hS;clear hD1;obtain ⟨k1sh,k1fr,k1sl,k1sp,k1hand,k1vsh,k1vfr,k1vsl,k1vsp⟩:=k1;obtain ⟨k1m1,k1m2,k1m3,k1m4,-⟩:=hV;dsimp only at k1m1 k1m2 k1m3 k1m4;obtain ⟨k1x1,k1y1,rfl⟩:=k1m1.sl.len;obtain ⟨k1x2,k1y2,rfl⟩:=k1m2.len;obtain ⟨k1x3,k1y3,rfl⟩:=k1m3.len;obtain ⟨k1x4,k1y4,rfl⟩:=k1m4.len;clear k1m1 k1m2 k1m3 k1m4;have hs1:=fun w1 h1 h2=>a2v (w:=w1) (k':=kv0) h1 h2 hk1;unfold kvC kv0 at hs1;dsimp only at hs1
  repeat' (first|(with_reducible apply a8 a7);rfl;rfl;rfl|(with_reducible apply a9);rfl;(apply Ld.st a7;rfl;(first|exact hS.blkR 0 rfl|exact hS.blkR 1 rfl|exact hS.blkR 2 rfl|exact hS.blkR 3 rfl);rfl);rfl|refine yDn (by with_reducible constructor) ?_|((with_reducible apply k6);(iterate 4 rfl);first|rfl|assumption)|(with_reducible apply r9);(iterate 4 rfl);assumption;rfl|(with_reducible apply f7);rfl;(first|rfl|assumption);rfl;rfl|(with_reducible apply d9);rfl;assumption;rfl;rfl|((with_reducible apply f8);rfl;first|rfl|assumption)|(with_reducible apply d7 hS a7);rfl;rfl;rfl;clear hS;intro g w' hS|(with_reducible apply b8 hS a7 (i:=0));(iterate 8 rfl);exact (rfl:_=[_,_]);clear hS;intro w' hS;simp only [List.set] at hS|(with_reducible apply b8 hS a7 (i:=1));(iterate 8 rfl);exact (rfl:_=[_,_,_,_,_]);clear hS;intro w' hS;simp only [List.set] at hS|(with_reducible apply d6 hS);rfl;rfl;rfl;refine ⟨_,hre _ (hK0.now hS),?_⟩;clear hS;intro w' hS|(with_reducible apply d6 hS);rfl;rfl;rfl;refine ⟨_,hbg _,?_⟩;clear hS;intro w' hS|(with_reducible apply d6 hS);rfl;rfl;rfl;refine ⟨_,hs1 _ (hV1 hS (fun _ h=>by simp only [xc4,xe3,h,or_true,true_or])) (b1q _),?_⟩;clear hS;intro w' hS|(with_reducible apply b01);rfl;rfl;exact b3R 0 0;rfl)
  (refine k8 rfl ?_)
  exact ⟨rfl,hS.sub (xj6 _)⟩
 obtain ⟨hli,hs1,hs8,hw0,hw2⟩:=a8Z he;obtain ⟨hr,sp,rfl,hspl,hlv⟩:=a7b hli;obtain ⟨x,hx⟩:∃ x,k.sp[sp]?=some x:=by
  have:k.K.spaces.length=k.sp.length:=xj4 _;exact j5 (by omega)
 have hsc:=(y8 hr x.s (xd0 (a1J hx))).1;have hxv:=hK.spv x (xd0 hx);have har:=hxv.ar;have hao:m6 k.K ((sp:Nat):Int).toNat=x.s.areas:=by
  rw [xi0];unfold m6;rw [a00 (a1J hx)]
 obtain ⟨F,hF⟩:∃ F,F=w8 x.s.areas addr (s.length:Nat) 1:=⟨_,rfl⟩;have hfa:=fun w1 (h:Sl nF w1 4 x.va (x.s.areas.map arC))=>b2m h hsc.ar (addr:=addr) (size:=(s.length:Nat)) (way:=1) hb0 hb1 hs1 hs8 (by omega);rw [<- hF] at hfa;have hrF:a27 k.K (sp:Nat) addr (s.length:Nat) 1=F:=by unfold a27;rw [xf0 he,hao,hF]
 rw [hrF,he] at hf;rw [he] at hre;have hz:a26 F=.agg #[.int .i64 F.1,.int .i64 F.2]:=rfl;have hrow:=d5 (f:=spC) hx;unfold spC at hrow;rw [hz] at hfa hf;by_cases hf0:F.1=0
 ·have hd0:decide (F.1=0)=true:=xj7 hf0;have hok:okR k.K (sp:Nat) addr (s.length:Nat) 1:=⟨he,by rw [hao,<- hF];exact hf0⟩;obtain ⟨sp',hsp',ho1,-,-⟩:=b7F hok;obtain rfl:sp=sp':=by omega
  have hlo:=ho1.lo;obtain ⟨a,rfl⟩:∃ a:Nat,addr=(a:Nat):=⟨addr.toNat,by omega⟩;have hst:a2J k.K (sp:Nat) (a:Nat) s=a0j (a0F k.K sp (a:Nat) (s.length:Nat) true) sp (a:Nat) s s.length:=by unfold a2J;rw [xf0 hok];rfl
  rw [hst] at hf;have hro:=fun w1 (h:KerV w1 k)=>a9e h ho1;generalize a0j (a0F k.K sp (a:Nat) (s.length:Nat) true) sp (a:Nat) s s.length=K3 at hf hro;obtain ⟨sh,fr,sl,sps,hand,vsh,vfr,vsl,vsp⟩:=k;have hK0:=hK;obtain ⟨k1,k2,k3,k4,k5⟩:=hK;dsimp only at k1 k2 k3 k4 k5;obtain ⟨p1,c1,rfl⟩:=k1.sl.len;obtain ⟨p2,c2,rfl⟩:=k2.len;obtain ⟨p3,c3,rfl⟩:=k3.len;obtain ⟨p4,c4,rfl⟩:=k4.len;dsimp only at hx hrow;have hspl2:=c9 hx;obtain ⟨b,off,rfl,hro⟩:=k4.at_ (i:=sp) (c9 hx);unfold kvC at hf hre |-;dsimp only at hf hre |-;unfold kvC at hro;dsimp only at hro;refine yEn Tryz.func5 Tryz.ntmps5 (by kernel_rfl) (by kernel_rfl) rfl rfl ?_;have hS:=St.start w
  repeat' (first|(with_reducible apply a8 a7);rfl;rfl;rfl|(with_reducible apply a9);rfl;(apply Ld.st a7;rfl;exact hS.blkR 0 rfl;rfl);rfl|refine yDn (by with_reducible constructor) ?_|(with_reducible apply l9 hS);rfl;rfl;rfl;clear hS;intro g w' hS|(with_reducible apply o8);rfl;rfl;rfl;refine ⟨_,hf _ (hK0.now hS),?_⟩;rintro _ w2 ⟨k1,rfl,hk1,hc1⟩)
  have hV:=hc1.V;obtain ⟨Δ1,hD1,hV1⟩:=(hc1).keep;replace hS:=(hS.trans hD1).perm xm9;simp only [List.cons_append,List.nil_append,xg1] at hS;clear hD1;obtain ⟨k1sh,k1fr,k1sl,k1sp,k1hand,k1vsh,k1vfr,k1vsl,k1vsp⟩:=k1;obtain ⟨k1m1,k1m2,k1m3,k1m4,-⟩:=hV;dsimp only at k1m1 k1m2 k1m3 k1m4;obtain ⟨k1x1,k1y1,rfl⟩:=k1m1.sl.len;obtain ⟨k1x2,k1y2,rfl⟩:=k1m2.len;obtain ⟨k1x3,k1y3,rfl⟩:=k1m3.len;obtain ⟨k1x4,k1y4,rfl⟩:=k1m4.len;clear k1m1 k1m2 k1m3 k1m4
  repeat' (first|(with_reducible apply a8 a7);rfl;rfl;rfl|(with_reducible apply a9);rfl;(first|apply Ld.sc a7;rfl;exact hS.blkC 0 rfl rfl|apply Ld.sl a7;rfl;(first|exact hS.blkC 4 rfl rfl|exact hS.roC (by assumption) (by assumption) rfl)|apply Ld.st a7;rfl;(first|exact hS.blkR 2 rfl|exact hS.blkR 4 rfl);rfl);rfl|(with_reducible apply l8 a7);rfl;rfl;rfl;rfl;omega;rfl|refine yDn (by with_reducible constructor) ?_|(with_reducible apply k6);(iterate 4 rfl);rfl|(with_reducible apply f7);rfl;rfl;rfl;rfl|((with_reducible apply f6);rfl;first|rfl|assumption)|(with_reducible apply d7 hS a7);rfl;rfl;rfl;clear hS;intro g w' hS|(with_reducible apply b8 hS a7 (i:=0));(iterate 8 rfl);exact (rfl:_=[_,_]);clear hS;intro w' hS;simp only [List.set] at hS|(with_reducible apply b8 hS a7 (i:=1));(iterate 8 rfl);exact (rfl:_=[_,_,_,_,_]);clear hS;intro w' hS;simp only [List.set] at hS|(with_reducible apply d6 hS);rfl;rfl;rfl;refine ⟨_,hre _ (hK0.now hS),?_⟩;clear hS;intro w' hS|(with_reducible apply d6 hS);rfl;rfl;rfl;refine ⟨_,hfa _ (har.now hS),?_⟩;clear hS;intro w' hS)
  (with_reducible apply o8)
  rfl;rfl;rfl;refine ⟨_,hro _ (hK0.now hS),?_⟩;rintro _ w2 ⟨k3,rfl,hk3,hc3⟩;have hV:=KerV.own (Γ:=[]) (by rw [List.append_nil];exact hc3);have hcm:Came _ _ k3:=xd3 hc3;obtain ⟨Δ3,hD3,hV3⟩:=(hcm).keep;replace hS:=(hS.trans hD3).perm xm9;simp only [List.cons_append,List.nil_append,xg1] at hS;clear hD3;obtain ⟨k3sh,k3fr,k3sl,k3sp,k3hand,k3vsh,k3vfr,k3vsl,k3vsp⟩:=k3;obtain ⟨k3m1,k3m2,k3m3,k3m4,-⟩:=hV;dsimp only at k3m1 k3m2 k3m3 k3m4;obtain ⟨k3x1,k3y1,rfl⟩:=k3m1.sl.len;obtain ⟨k3x2,k3y2,rfl⟩:=k3m2.len;obtain ⟨k3x3,k3y3,rfl⟩:=k3m3.len;obtain ⟨k3x4,k3y4,rfl⟩:=k3m4.len;clear k3m1 k3m2 k3m3 k3m4;have hs1:=fun w1 h1 h2=>a2v (w:=w1) h1 h2 (hk1.trans hk3.symm);unfold kvC at hs1;dsimp only at hs1
  repeat' (first|(with_reducible apply a8 a7);rfl;rfl;rfl|(with_reducible apply a9);rfl;(apply Ld.st a7;rfl;(first|exact hS.blkR 0 rfl|exact hS.blkR 1 rfl|exact hS.blkR 2 rfl|exact hS.blkR 3 rfl);rfl);rfl|refine yDn (by with_reducible constructor) ?_|(with_reducible apply k6);(iterate 4 rfl);rfl|(with_reducible apply f7);rfl;rfl;rfl;rfl|(with_reducible apply b8 hS a7 (i:=1));(iterate 8 rfl);exact (rfl:_=[_,_,_,_,_]);clear hS;intro w' hS;simp only [List.set] at hS|(with_reducible apply d6 hS);rfl;rfl;rfl;refine ⟨_,hbg _,?_⟩;clear hS;intro w' hS|(with_reducible apply d6 hS);rfl;rfl;rfl;refine ⟨_,hs1 _ (hV1 hS (fun _ h=>by simp only [xc4,xe3,h,or_true,true_or])) (hV3 hS (fun _ h=>by simp only [xc4,xe3,h,or_true,true_or])),?_⟩;clear hS;intro w' hS|(with_reducible apply b01);rfl;rfl;exact b3R F.1 F.2;rfl)
  (refine k8 rfl ?_)
  exact ⟨rfl,hS.sub (xj6 _)⟩
 ·have hd0:decide (F.1=0)=false:=xj5 hf0;have hR:a2J k.K (sp:Nat) addr s=b5c:=by unfold a2J;rw [xf1 (fun h=>hf0 (by have:=h.2;rw [hao,<- hF] at this;exact this))]
  rw [hR] at hf;obtain ⟨sh,fr,sl,sps,hand,vsh,vfr,vsl,vsp⟩:=k;have hK0:=hK;obtain ⟨k1,k2,k3,k4,k5⟩:=hK;dsimp only at k1 k2 k3 k4 k5;obtain ⟨p1,c1,rfl⟩:=k1.sl.len;obtain ⟨p2,c2,rfl⟩:=k2.len;obtain ⟨p3,c3,rfl⟩:=k3.len;obtain ⟨p4,c4,rfl⟩:=k4.len;dsimp only at hx hrow;have hspl2:=c9 hx;obtain ⟨b,off,rfl,hro⟩:=k4.at_ (i:=sp) (c9 hx);unfold kvC at hf hre |-;dsimp only at hf hre |-;refine yEn Tryz.func5 Tryz.ntmps5 (by kernel_rfl) (by kernel_rfl) rfl rfl ?_;have hS:=St.start w
  repeat' (first|(with_reducible apply a8 a7);rfl;rfl;rfl|(with_reducible apply a9);rfl;(apply Ld.st a7;rfl;exact hS.blkR 0 rfl;rfl);rfl|refine yDn (by with_reducible constructor) ?_|(with_reducible apply l9 hS);rfl;rfl;rfl;clear hS;intro g w' hS|(with_reducible apply o8);rfl;rfl;rfl;refine ⟨_,hf _ (hK0.now hS),?_⟩;rintro _ w2 ⟨k1,rfl,hk1,hc1⟩)
  have hV:=hc1.V;obtain ⟨Δ1,hD1,hV1⟩:=(hc1).keep;replace hS:=(hS.trans hD1).perm xm9;simp only [List.cons_append,List.nil_append,xg1] at hS;clear hD1;obtain ⟨k1sh,k1fr,k1sl,k1sp,k1hand,k1vsh,k1vfr,k1vsl,k1vsp⟩:=k1;obtain ⟨k1m1,k1m2,k1m3,k1m4,-⟩:=hV;dsimp only at k1m1 k1m2 k1m3 k1m4;obtain ⟨k1x1,k1y1,rfl⟩:=k1m1.sl.len;obtain ⟨k1x2,k1y2,rfl⟩:=k1m2.len;obtain ⟨k1x3,k1y3,rfl⟩:=k1m3.len;obtain ⟨k1x4,k1y4,rfl⟩:=k1m4.len;clear k1m1 k1m2 k1m3 k1m4;have hs1:=fun w1 h1 h2=>a2v (w:=w1) (k':=kv0) h1 h2 hk1;unfold kvC kv0 at hs1;dsimp only at hs1
  repeat' (first|(with_reducible apply a8 a7);rfl;rfl;rfl|(with_reducible apply a9);rfl;(first|apply Ld.sc a7;rfl;exact hS.blkC 0 rfl rfl|apply Ld.sl a7;rfl;(first|exact hS.blkC 4 rfl rfl|exact hS.roC (by assumption) (by assumption) rfl)|apply Ld.st a7;rfl;(first|exact hS.blkR 0 rfl|exact hS.blkR 1 rfl|exact hS.blkR 2 rfl|exact hS.blkR 3 rfl);rfl);rfl|(with_reducible apply l8 a7);rfl;rfl;rfl;rfl;omega;rfl|refine yDn (by with_reducible constructor) ?_|(with_reducible apply k6);(iterate 4 rfl);rfl|(with_reducible apply f7);rfl;rfl;rfl;rfl|(with_reducible apply f6);rfl;rfl|(with_reducible apply f8);rfl;assumption|(with_reducible apply d7 hS a7);rfl;rfl;rfl;clear hS;intro g w' hS|(with_reducible apply b8 hS a7 (i:=0));(iterate 8 rfl);exact (rfl:_=[_,_]);clear hS;intro w' hS;simp only [List.set] at hS|(with_reducible apply b8 hS a7 (i:=1));(iterate 8 rfl);exact (rfl:_=[_,_,_,_,_]);clear hS;intro w' hS;simp only [List.set] at hS|(with_reducible apply d6 hS);rfl;rfl;rfl;refine ⟨_,hre _ (hK0.now hS),?_⟩;clear hS;intro w' hS|(with_reducible apply d6 hS);rfl;rfl;rfl;refine ⟨_,hfa _ (har.now hS),?_⟩;clear hS;intro w' hS|(with_reducible apply d6 hS);rfl;rfl;rfl;refine ⟨_,hbg _,?_⟩;clear hS;intro w' hS|(with_reducible apply d6 hS);rfl;rfl;rfl;refine ⟨_,hs1 _ (hV1 hS (fun _ h=>by simp only [xc4,xe3,h,or_true,true_or])) (b1q _),?_⟩;clear hS;intro w' hS|(with_reducible apply b01);rfl;rfl;exact b3R F.1 F.2;rfl)
  (refine k8 rfl ?_)
  exact ⟨rfl,hS.sub (xj6 _)⟩
end Go.Proofs.YtejnpppejalhfabGreat
namespace Go.Proofs.YtejnpppejalhfabGreat
set_option maxRecDepth 100000
set_option maxHeartbeats 8000000
open Go.ChangeShapes Go.WideShapes Go.ChangeAt Go.RowKit Go.Deep
def b0R {α:Type} (R:α->List Value->Prop) (xs:List α) (rows:List (List Value)):Prop:=rows.length=xs.length/\∀ (i:Nat) (x:α) (r:List Value),xs[i]?=some x->rows[i]?=some r->R x r
section
variable {H:Type} {enc:TypeId×Value->H} {P:Program} {w:World} {base:Nat} {spare:Nat->Bool} {held:Bool}
theorem b45 {α:Type} [Inhabited α] {t e:TypeId} {fuel sz:Nat} {cs:List Value} {y:DataW H×List MemPlace} (ht:P.underlying t=some (.slice e)) (hsz:P.cellsOf e=sz) (hpos:0 < sz) (R:α->List Value->Prop) (hR1:∀ x r,R x r->r.all (·.oneCell')=true)
  (hR:∀ (n:Nat) (cs':List Value) (z:DataW H×List MemPlace),cs'.length=sz->DataW.trod enc P w base spare held n e cs'=some z->∃ x:α,R x cs') (h:DataW.trod enc P w base spare held fuel t cs=some y) :
  ∃ v xs rows,cs=[v]/\Sl nF w sz v rows/\b0R R xs rows/\v.oneCell'=true:=by
 rcases open_slice ht h with ⟨rfl,_⟩|⟨a,len,cap,m,n,D,Pl,rfl,hb,hl,hm,hmm,_,hx⟩
 ·exact ⟨_,[],[],rfl,xd6 ⟨_,_,rfl,rfl⟩,⟨rfl,fun i x r h=>by simp at h⟩,rfl⟩
 ·have hlm:len<=m:=by rw [hmm];split <;> omega
  rw [hsz] at hx;have key:∀ i,∃ r x,i < len->w.cells? base (a.add (i * sz)) sz=some r/\R x r/\r.length=sz:=fun i=>by
   by_cases hi:i < len
   ·obtain ⟨cs',h1,h2⟩:=hx i (by omega);have hl:=(World.cells?_some h1).2.1;obtain ⟨x,hr⟩:=hR n cs' _ hl h2;exact ⟨cs',x,fun _=>⟨h1,hr,hl⟩⟩
   ·exact ⟨[],default,fun h=>(hi h).elim⟩
  obtain ⟨r,hr⟩:=Classical.axiomOfChoice key;obtain ⟨x,hr⟩:=Classical.axiomOfChoice hr;refine ⟨_,(List.range len).map x,(List.range len).map r,rfl,?_,⟨by simp,fun i y r' h1 h2=>?_⟩,rfl⟩
  ·by_cases h0:len=0
   ·subst h0;exact xd6 ⟨_,_,rfl,rfl⟩
   ·obtain ⟨b,off,spot⟩:=a;have hcell:∀ i,i < len->∀ j,j < sz->w.cell? (((⟨b,off,spot⟩:Addr).add (i * sz)).add j)=(r i)[j]?:=fun i hi j hj=>(World.cells?_some (hr i hi).1).2.2 j hj;have h00:=hcell 0 (by omega) 0 hpos;obtain ⟨u0,hu0⟩:∃ u,(r 0)[0]?=some u:=⟨(r 0)[0]'(by rw [(hr 0 (by omega)).2.2];exact hpos),by simp⟩;rw [hu0] at h00;simp only [Nat.zero_mul,Addr.add,if_true] at h00;have hspot:spot=none:=by
     cases spot with
     |none=>rfl
     |some s=>simp [World.cell?] at h00;split at h00 <;> simp at h00
    subst hspot;have hbl:=World.block_lt_of_cell? w _ h00;refine xd3 ⟨b,off,cap,by simp,by simpa using hl,hm,⟨hbl,id,fun r' hr'=>?_,fun r' hr'=>?_,fun k r' hk j u hj=>?_⟩⟩
    ·obtain ⟨i,hi,rfl⟩:=xj0.1 hr';exact (hr i (by simpa using hi)).2.2
    ·obtain ⟨i,hi,rfl⟩:=xj0.1 hr';exact hR1 _ _ (hr i (by simpa using hi)).2.1
    ·have hk':k < len:=by have:=c9 hk;simpa using this
     simp [hk'] at hk;subst hk;have hjl:j < sz:=by have:=c9 hj;rwa [(hr k hk').2.2] at this
     have:=hcell k hk' j hjl;rw [hj] at this
     rwa [Addr.add_mid,Addr.add_mid] at this
  ·have hi:i < len:=by have:=c9 h1;simpa using this
   simp [hi] at h1 h2;subst h1 h2;exact (hr i hi).2.1
end
end Go.Proofs.YtejnpppejalhfabGreat
namespace Go.Proofs.YtejnpppejalhfabGreat
set_option maxRecDepth 100000
set_option maxHeartbeats 8000000
open Go.ChangeShapes Go.WideShapes Go.ChangeAt Go.RowKit
section
variable {H:Type} {enc:TypeId×Value->H} {W:World} {base b0:Nat} {sp:Nat->Bool} {held:Bool}
theorem cI {n:Nat} {t:TypeId} {c:Value} {o:Option (DataW H×List MemPlace)} (ht:(Tryz.prog).underlying t=some (.int .i64)) (h:DataW.trod enc Tryz.prog W base sp held n t [c]=o) (ho:o.isSome=true):∃ k:Int,c=.int .i64 k/\(Lit.int .i64 k).wf=true:=by
 obtain ⟨x,hx⟩:=xi3.1 ho;obtain ⟨k,hk,_,hw⟩:=DataW.trod_int ht (h.trans hx);simp only [List.cons.injEq,and_true] at hk;exact ⟨k,hk,hw⟩
theorem cB {n:Nat} {t:TypeId} {c:Value} {o:Option (DataW H×List MemPlace)} (ht:(Tryz.prog).underlying t=some .bool) (h:DataW.trod enc Tryz.prog W base sp held n t [c]=o) (ho:o.isSome=true):∃ b:Bool,c=.bool b:=by
 obtain ⟨x,hx⟩:=xi3.1 ho;obtain ⟨b,hb,_⟩:=DataW.trod_bool ht (h.trans hx);simp only [List.cons.injEq,and_true] at hb;exact ⟨b,hb⟩
theorem cS {n:Nat} {t:TypeId} {c:Value} {o:Option (DataW H×List MemPlace)} (ht:(Tryz.prog).underlying t=some .string) (h:DataW.trod enc Tryz.prog W base sp held n t [c]=o) (ho:o.isSome=true):∃ l:List UInt8,c=.string ⟨l.toArray⟩/\l.length<=maxLen:=by
 obtain ⟨x,hx⟩:=xi3.1 ho;obtain ⟨s,hs,_,hl⟩:=DataW.trod_string ht (h.trans hx);simp only [List.cons.injEq,and_true] at hs;obtain ⟨⟨l⟩⟩:=s;exact ⟨l,hs,by simpa [ByteArray.size] using hl⟩
theorem gS {α:Type} {l:List α} {i:Nat} (h:i < l.length):(l[i]?).isSome=true:=by simp [h]
theorem a4k:(Tryz.prog).cellsOf 3=1:=by kernel_rfl
theorem a8B:(Tryz.prog).cellsOf 4=1:=by kernel_rfl
theorem a3W:(Tryz.prog).cellsOf 9=1:=by kernel_rfl
theorem b5g:(Tryz.prog).cellsOf 81=4:=by kernel_rfl
instance:Inhabited Ar:=⟨⟨0,0,0,false⟩⟩
theorem b17 {n:Nat} {cs:List Value} {z:DataW H×List MemPlace} (hl:cs.length=4) (h:DataW.trod enc Tryz.prog W base sp held n 81 cs=some z):∃ a:Ar,cs=arC a:=by
 match cs,hl with
 |[c0,c1,c2,c3],_=>
  obtain ⟨xs,n,_,_,_,hl,hf⟩:=DataW.trod_struct Tryz.underlying81 h;have f0:=hf 0 _ rfl;have f1:=hf 1 _ rfl;have f2:=hf 2 _ rfl;have f3:=hf 3 _ rfl;simp only [xp4,xp5,xp6,a4k,a8B,xm1,xm2,xl7,xl8] at f0 f1 f2 f3;have hl:xs.length=4:=hl;obtain ⟨k0,rfl,_⟩:=cI Tryz.underlying3 f0 (gS (by omega));obtain ⟨k1,rfl,_⟩:=cI Tryz.underlying3 f1 (gS (by omega));obtain ⟨k2,rfl,_⟩:=cI Tryz.underlying3 f2 (gS (by omega));obtain ⟨k3,rfl⟩:=cB Tryz.underlying4 f3 (gS (by omega));exact ⟨⟨k0,k1,k2,k3⟩,rfl⟩
end
section
variable {H:Type} {enc:TypeId×Value->H} {W:World} {base b0:Nat} {sp:Nat->Bool} {held:Bool}
instance:Inhabited Fx:=⟨⟨0,[]⟩⟩
instance:Inhabited Sh:=⟨⟨0,[],[]⟩⟩
theorem b64:(Tryz.prog).cellsOf 96=2:=by kernel_rfl
theorem b3g:(Tryz.prog).cellsOf 94=3:=by kernel_rfl
theorem b3P:(Tryz.prog).cellsOf 92=1:=by kernel_rfl
theorem b4m:(Tryz.prog).cellsOf 30=1:=by kernel_rfl
theorem b2i:(Tryz.prog).cellsOf 31=1:=by kernel_rfl
theorem a9r {α:Type} {f:α->List Value} {G:α->Prop} {xs:List α} {rows:List (List Value)} (h:b0R (fun a r=>r=f a/\G a) xs rows):rows=xs.map f/\∀ x ∈ xs,G x:=by
 obtain ⟨h1,h2⟩:=h;refine ⟨?_,fun x hx=>?_⟩
 ·apply xh2;intro i;rw [xh7];by_cases hi:i < xs.length
  ·rw [xe1 hi,xe1 (by omega)];simp only [xh8,Option.some.injEq];exact (h2 i _ _ (xe1 hi) (xe1 (by omega))).1
  ·rw [xh9 (by omega),xh9 (by omega)];rfl
 ·obtain ⟨i,hi⟩:=xd9.1 hx;have hl:=c9 hi;exact (h2 i x _ hi (xe1 (by rw [h1];exact hl))).2
theorem cc1 {c v:Value} (h:[c]=[v]):c=v:=by simpa using h
theorem b4f {n:Nat} {cs:List Value} {z:DataW H×List MemPlace} (hl:cs.length=2) (h:DataW.trod enc Tryz.prog W base sp held n 96 cs=some z):∃ f:Fx,cs=fxC f:=by
 match cs,hl with
 |[c0,c1],_=>
  obtain ⟨xs,n,_,_,_,hl,hf⟩:=DataW.trod_struct Tryz.underlying96 h;have f0:=hf 0 _ rfl;have f1:=hf 1 _ rfl;simp only [xp4,xp5,xp6,a4k,a3W,xm1,xm2,xl7,xl8] at f0 f1;have hl:xs.length=2:=hl;obtain ⟨k0,rfl,_⟩:=cI Tryz.underlying3 f0 (gS (by omega));obtain ⟨l1,rfl,_⟩:=cS Tryz.underlying9 f1 (gS (by omega));exact ⟨⟨k0,l1⟩,rfl⟩
theorem a2u {α:Type} [Inhabited α] {n:Nat} {t e sz:Nat} {c:Value} {o:Option (DataW H×List MemPlace)} (ht:(Tryz.prog).underlying t=some (.slice e)) (hsz:(Tryz.prog).cellsOf e=sz) (hpos:0 < sz) (f:α->List Value) (G:α->Prop) (h1:∀ x,(f x).all (·.oneCell')=true\/¬ G x)
  (hR:∀ (n:Nat) (cs':List Value) (z:DataW H×List MemPlace),cs'.length=sz->DataW.trod enc Tryz.prog W base sp held n e cs'=some z->∃ x:α,cs'=f x/\G x) (h:DataW.trod enc Tryz.prog W base sp held n t [c]=o) (ho:o.isSome=true):∃ xs:List α,Sl nF W sz c (xs.map f)/\(∀ x ∈ xs,G x)/\c.oneCell'=true:=by
 obtain ⟨x,hx⟩:=xi3.1 ho;obtain ⟨v,xs,rows,hv,hsl,hra,hone⟩:=b45 ht hsz hpos (fun (a:α) r=>r=f a/\G a) (fun x r h=>by
  obtain ⟨rfl,hg⟩:=h;rcases h1 x with h|h
  ·exact h
  ·exact absurd hg h) (fun n cs' z hl hz=>hR n cs' z hl hz) (h.trans hx)
 obtain rfl:=cc1 hv;obtain ⟨rfl,hg⟩:=a9r hra;exact ⟨xs,hsl,hg,hone⟩
theorem a8X {n:Nat} {cs:List Value} {z:DataW H×List MemPlace} (hl:cs.length=3) (h:DataW.trod enc Tryz.prog W base sp held n 94 cs=some z):∃ x:Sh×Value,cs=shC x.1 x.2/\ShV W x.1 x.2/\x.2.oneCell'=true:=by
 match cs,hl with
 |[c0,c1,c2],_=>
  obtain ⟨xs,n,_,_,_,hl,hf⟩:=DataW.trod_struct Tryz.underlying94 h;have f0:=hf 0 _ rfl;have f1:=hf 1 _ rfl;have f2:=hf 2 _ rfl;simp only [xp4,xp5,xp6,a4k,a3W,b3P,xm1,xm2,xl7,xl8] at f0 f1 f2;have hl:xs.length=3:=hl;obtain ⟨k0,rfl,_⟩:=cI Tryz.underlying3 f0 (gS (by omega));obtain ⟨l1,rfl,_⟩:=cS Tryz.underlying9 f1 (gS (by omega));obtain ⟨fs,h2,_,h3⟩:=a2u Tryz.underlying92 b64 (by decide) fxC (fun _=>True) (fun x=>xd6 rfl) (fun _ _ _ hl hz=>by obtain ⟨f,hf⟩:=b4f hl hz;exact ⟨f,hf,trivial⟩) f2 (gS (by omega));exact ⟨(⟨k0,l1,fs⟩,c2),rfl,h2,h3⟩
end
section
variable {H:Type} {enc:TypeId×Value->H} {W:World} {base b0:Nat} {sp:Nat->Bool} {held:Bool}
instance:Inhabited Fm:=⟨fm0⟩
instance:Inhabited Sw:=⟨sw0⟩
instance:Inhabited En:=⟨⟨0,0,0⟩⟩
instance:Inhabited Sp:=⟨⟨⟨false,[],[]⟩,.bool false,.bool false⟩⟩
theorem b4p:(Tryz.prog).cellsOf 89=4:=by kernel_rfl
theorem b44:(Tryz.prog).cellsOf 143=2:=by kernel_rfl
theorem b3n:(Tryz.prog).cellsOf 75=3:=by kernel_rfl
theorem b37:(Tryz.prog).cellsOf 91=3:=by kernel_rfl
theorem b19:(Tryz.prog).cellsOf 42=5:=by kernel_rfl
theorem b1K:(Tryz.prog).cellsOf 38=1:=by kernel_rfl
theorem b3B:(Tryz.prog).cellsOf 39=1:=by kernel_rfl
theorem b2E:(Tryz.prog).cellsOf 40=1:=by kernel_rfl
theorem b0L:(Tryz.prog).cellsOf 73=1:=by kernel_rfl
theorem a9Q {n:Nat} {cs:List Value} {z:DataW H×List MemPlace} (hl:cs.length=3) (h:DataW.trod enc Tryz.prog W base sp held n 91 cs=some z):∃ e:En,cs=enC e:=by
 match cs,hl with
 |[c0,c1,c2],_=>
  obtain ⟨xs,n,_,_,_,hl,hf⟩:=DataW.trod_struct Tryz.underlying91 h;have f0:=hf 0 _ rfl;have f1:=hf 1 _ rfl;have f2:=hf 2 _ rfl;simp only [xp4,xp5,xp6,a4k,xm1,xm2,xl7,xl8] at f0 f1 f2;have hl:xs.length=3:=hl;obtain ⟨k0,rfl,_⟩:=cI Tryz.underlying3 f0 (gS (by omega));obtain ⟨k1,rfl,_⟩:=cI Tryz.underlying3 f1 (gS (by omega));obtain ⟨k2,rfl,_⟩:=cI Tryz.underlying3 f2 (gS (by omega));exact ⟨⟨k0,k1,k2⟩,rfl⟩
theorem b0b {n:Nat} {cs:List Value} {z:DataW H×List MemPlace} (hl:cs.length=4) (h:DataW.trod enc Tryz.prog W base sp held n 89 cs=some z):∃ f:Fm,cs=fmC f:=by
 match cs,hl with
 |[c0,c1,c2,c3],_=>
  obtain ⟨xs,n,_,_,_,hl,hf⟩:=DataW.trod_struct Tryz.underlying89 h;have f0:=hf 0 _ rfl;have f1:=hf 1 _ rfl;have f2:=hf 2 _ rfl;have f3:=hf 3 _ rfl;simp only [xp4,xp5,xp6,a4k,a3W,a8B,xm1,xm2,xl7,xl8] at f0 f1 f2 f3;have hl:xs.length=4:=hl;obtain ⟨l0,rfl,_⟩:=cS Tryz.underlying9 f0 (gS (by omega));obtain ⟨k1,rfl,_⟩:=cI Tryz.underlying3 f1 (gS (by omega));obtain ⟨b2,rfl⟩:=cB Tryz.underlying4 f2 (gS (by omega));obtain ⟨b3,rfl⟩:=cB Tryz.underlying4 f3 (gS (by omega));exact ⟨⟨l0,k1,b2,b3⟩,rfl⟩
theorem b2x {n:Nat} {cs:List Value} {z:DataW H×List MemPlace} (hl:cs.length=2) (h:DataW.trod enc Tryz.prog W base sp held n 143 cs=some z):∃ s:Sw,cs=swC s:=by
 match cs,hl with
 |[c0,c1],_=>
  obtain ⟨xs,n,_,_,_,hl,hf⟩:=DataW.trod_struct Tryz.underlying143 h;have f0:=hf 0 _ rfl;have f1:=hf 1 _ rfl;simp only [xp4,xp5,xp6,a4k,a3W,xm1,xm2,xl7,xl8] at f0 f1;have hl:xs.length=2:=hl;obtain ⟨l0,rfl,_⟩:=cS Tryz.underlying9 f0 (gS (by omega));obtain ⟨k1,rfl,_⟩:=cI Tryz.underlying3 f1 (gS (by omega));exact ⟨⟨l0,k1⟩,rfl⟩
theorem b0O {n:Nat} {cs:List Value} {z:DataW H×List MemPlace} (hl:cs.length=3) (h:DataW.trod enc Tryz.prog W base sp held n 75 cs=some z):∃ x:Sp,cs=spC x/\SpV W x/\x.va.oneCell'=true/\x.ve.oneCell'=true:=by
 match cs,hl with
 |[c0,c1,c2],_=>
  obtain ⟨xs,n,_,_,_,hl,hf⟩:=DataW.trod_struct Tryz.underlying75 h;have f0:=hf 0 _ rfl;have f1:=hf 1 _ rfl;have f2:=hf 2 _ rfl;simp only [xp4,xp5,xp6,a8B,b4m,b0L,xm1,xm2,xl7,xl8] at f0 f1 f2;have hl:xs.length=3:=hl;obtain ⟨b0,rfl⟩:=cB Tryz.underlying4 f0 (gS (by omega));obtain ⟨A,h1,_,o1⟩:=a2u Tryz.underlying30 b5g (by decide) arC (fun _=>True) (fun x=>xd6 rfl) (fun _ _ _ hl hz=>by obtain ⟨f,hf⟩:=b17 hl hz;exact ⟨f,hf,trivial⟩) f1 (gS (by omega));obtain ⟨E,h2,_,o2⟩:=a2u Tryz.underlying73 b37 (by decide) enC (fun _=>True) (fun x=>xd6 rfl) (fun _ _ _ hl hz=>by obtain ⟨f,hf⟩:=a9Q hl hz;exact ⟨f,hf,trivial⟩) f2 (gS (by omega));exact ⟨⟨⟨b0,A,E⟩,c1,c2⟩,rfl,⟨h1,h2⟩,o1,o2⟩
theorem a8G {n:Nat} {cs:List Value} {z:DataW H×List MemPlace} (hl:cs.length=5) (h:DataW.trod enc Tryz.prog W base sp held n 42 cs=some z):∃ k:KV,cs=kvC k/\KerV W k:=by
 match cs,hl with
 |[c0,c1,c2,c3,c4],_=>
  obtain ⟨xs,n,_,_,_,hl,hf⟩:=DataW.trod_struct Tryz.underlying42 h;have f0:=hf 0 _ rfl;have f1:=hf 1 _ rfl;have f2:=hf 2 _ rfl;have f3:=hf 3 _ rfl;have f4:=hf 4 _ rfl;simp only [xp4,xp5,xp6,a4k,b2i,b1K,b3B,b2E,xm1,xm2,xl7,xl8] at f0 f1 f2 f3 f4;have hl:xs.length=5:=hl;obtain ⟨Lp,h3,h4,_⟩:=a2u (α:=Sh×Value) Tryz.underlying31 b3g (by decide) (fun x=>shC x.1 x.2) (fun x=>ShV W x.1 x.2/\x.2.oneCell'=true) (fun x=>by
   by_cases hx:x.2.oneCell'=true
   ·left;unfold shC;simp only [xp0,List.all_nil,Bool.and_true,hx];rfl
   ·exact xd3 fun h=>hx h.2) (fun _ _ _ hl hz=>by obtain ⟨x,hx,h2,h3⟩:=a8X hl hz;exact ⟨x,hx,h2,h3⟩) f0 (gS (by omega))
  obtain ⟨F,h5,_,_⟩:=a2u Tryz.underlying38 b4p (by decide) fmC (fun _=>True) (fun x=>xd6 rfl) (fun _ _ _ hl hz=>by obtain ⟨f,hf⟩:=b0b hl hz;exact ⟨f,hf,trivial⟩) f1 (gS (by omega));obtain ⟨S,h6,_,_⟩:=a2u Tryz.underlying39 b44 (by decide) swC (fun _=>True) (fun x=>xd6 rfl) (fun _ _ _ hl hz=>by obtain ⟨f,hf⟩:=b2x hl hz;exact ⟨f,hf,trivial⟩) f2 (gS (by omega));obtain ⟨X,h7,h8,_⟩:=a2u (α:=Sp) Tryz.underlying40 b3n (by decide) spC (fun x=>SpV W x/\x.va.oneCell'=true/\x.ve.oneCell'=true) (fun x=>by
   by_cases hx:x.va.oneCell'=true/\x.ve.oneCell'=true
   ·left;unfold spC;simp only [xp0,List.all_nil,Bool.and_true,hx.1,hx.2];rfl
   ·exact xd3 fun h=>hx h.2) (fun _ _ _ hl hz=>by obtain ⟨x,hx,h2,h3⟩:=b0O hl hz;exact ⟨x,hx,h2,h3⟩) f3 (gS (by omega))
  obtain ⟨k4,rfl,_⟩:=cI Tryz.underlying3 f4 (gS (by omega));exact ⟨⟨Lp,F,S,X,k4,c0,c1,c2,c3⟩,rfl,⟨⟨h3,fun p hp=>(h4 p hp).1⟩,h5,h6,h7,fun p hp=>(h8 p hp).1⟩⟩
theorem a9G {v:Value} {d:DataW H} {ps:List MemPlace} (hval:Value.okWide Tryz.prog W .any b0 42 v) (h:DataW.Trod enc Tryz.prog W base sp held 42 v d ps):∃ k:KV,v=.agg (kvC k).toArray/\KerV W k:=by
 obtain ⟨cs,rfl,hsz⟩:=okWide_struct Tryz.underlying42 hval;obtain ⟨fuel,hf⟩:=h;have hc:(Value.agg cs).cells=cs:=rfl;rw [hc] at hf;have hlen:cs.toList.length=5:=by rw [xh1,hsz,b19]
 obtain ⟨k,h1,h2⟩:=a8G hlen hf;exact ⟨k,by rw [<- h1,xd2],h2⟩
end
end Go.Proofs.YtejnpppejalhfabGreat
