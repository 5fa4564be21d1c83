/- Texts that the proof stands on, one behind the other: Cx14, Cx3, CyK, LawRest, Op1, OpA, OpK. -/
import Derived.Deep.Slices
import Derived.OpenShut
import Derived.WideShapes
import Derived.ProofKit
import Derived.Test.YtejnpppejalhfabGreatPRestKernels17
set_option linter.unusedVariables false
set_option linter.unusedSimpArgs false
namespace Go.Proofs.YtejnpppejalhfabGreat
set_option maxRecDepth 100000
set_option maxHeartbeats 8000000
open Go.RowKit Go.Sort
noncomputable def a4N (N:Nat) (pl:List (Nat×Pl)) (c:Code):Bool:=@Code.rec (fun _=>Bool) true
 (fun id ops draw=>ops.toList.all (a9I N) && (bif draw then (match r9 pl id with
   |some p=>Region.noSelect ops && (plB ops p).1 ops.size (Array.replicate ops.size false)
   |none=>true) else true))
 (fun _ _ x y=>x && y) (fun _ _ _ x y=>x && y) (fun _ _ x=>x) (fun _ x=>x) (fun _ _ _ _ _ _=>true) (fun _=>true) (fun _ _=>true) (fun _=>true) (fun _=>true) true (fun _=>true) c
inductive BT.All {α:Type} (p:Nat->α->Prop):BT α->Prop where
 |nil:BT.All p .nil
 |node {k:Nat} {v:α} {l r:BT α} (h:p k v) (hl:BT.All p l) (hr:BT.All p r):BT.All p (.node k v l r)
theorem BT.All.get {α:Type} {p:Nat->α->Prop} {t:BT α} (h:BT.All p t) {i:Nat} {v:α} (hg:t.get i=some v):p i v:=by
 induction h with
 |nil=>cases hg
 |@node k u l r hp hl hr ihl ihr=>
  replace hg:@Bool.rec (fun _=>Option α) (@Bool.rec (fun _=>Option α) (r.get i) (l.get i) (Nat.blt i k)) (some u) (Nat.beq i k)=some v:=hg
  cases e:Nat.beq i k with
  |true=>
   rw [e] at hg
   cases hg
   rw [xb9 e];exact hp
  |false=>
   rw [e] at hg
   cases e2:Nat.blt i k with
   |true=>rw [e2] at hg;exact ihl hg
   |false=>rw [e2] at hg;exact ihr hg
structure FOk (P:Program) (C:Cx):Prop where
 ok:COk P C
 mixed:P.follows .mixedOrders=true
 F:BT.All (fun g (x:Func×List (Nat×Pl))=>a3D P g x.1/\∃ c,x.1.body=some c/\a4N x.1.ntmps x.2 c=true) C.F
 M:∀ g f,r9 C.M g=some f->∀ vs v,f vs=some v->vs.all cOk=true/\(∀ ρ,VR ρ v v)/\∀ w,Fn P g vs w (RBf v w)
def toX:SX->Exit
 |.normal=>.normal
 |.exit i=>.exit i
 |.ret=>.ret
section
variable {P:Program} {C:Cx} {call:a6C} {w0 w w':World} {ρ σ:Ren} {N:Nat} {ds:List Deferred} {a:Act} {E E':Fr} {H H':SH} {n n':Nat} {Q:Exit->Act->World->Prop}
theorem PQ.then {x:Act->World->Prop} (h:PQ Q):PQ (Exit.then x Q):=fun c a w d v hq=>h c a w d v hq
theorem PQ.block {i:Nat} (h:PQ Q):PQ (Exit.inBlock i Q):=fun c a w d v hq=>h c a w d v hq
theorem a47:∀ (E:Fr) (s:List Nat) {t:Nat} {v:Value},r9 (a72 E s) t=some v->r9 E t=some v/\t ∉ s
 |[],s,t,v,h=>by cases h
 |(k,u)::r,s,t,v,h=>by
  have hany:∀ s:List Nat,@List.rec Nat (fun _=>Bool) false (fun x _ h=>bif Nat.beq k x then true else h) s=s.any (Nat.beq k):=fun s=>by
   induction s with
   |nil=>rfl
   |cons x s ih=>simp only [List.any_cons];rw [<- ih];cases Nat.beq k x <;> rfl
  have e:a72 ((k,u)::r) s=bif s.any (Nat.beq k) then a72 r s else (k,u)::a72 r (k::s):=by rw [<- hany];rfl
  rw [e] at h
  cases hs:s.any (Nat.beq k) with
  |true=>
   rw [hs] at h;obtain ⟨h1,h2⟩:=a47 r s h;obtain ⟨x,hx,hkx⟩:=xn2.1 hs;have hkx:=xb9 hkx;refine ⟨?_,h2⟩;rw [t6,xf1 (fun e=>h2 (by rw [<- e,hkx];exact hx))];exact h1
  |false=>
   rw [hs] at h;replace h:r9 ((k,u)::a72 r (k::s)) t=some v:=h;rw [t6] at h |-;by_cases ek:k=t
   ·rw [xf0 ek] at h |-;refine ⟨h,fun hm=>?_⟩;have:s.any (Nat.beq k)=true:=xn2.2 ⟨t,hm,by rw [ek];exact xo5 _⟩;rw [hs] at this
    cases this
   ·rw [xf1 ek] at h |-;obtain ⟨h1,h2⟩:=a47 r (k::s) h;exact ⟨h1,fun hm=>h2 (xc6 _ hm)⟩
theorem HasR.shrink (h:HasR ρ N ds a E):HasR ρ N ds a (a58 E):=⟨h.size,h.defers,fun t v ht=>by
 unfold a58 at ht
 cases e:Nat.blt 400 (@List.rec (Nat×Value) (fun _=>Nat) 0 (fun _ _ n=>n + 1) E) with
 |true=>rw [e] at ht;exact h.at_ t v (a47 E [] ht).1
 |false=>rw [e] at ht;exact h.at_ t v ht⟩
def b1s (P:Program) (c:Code) (N:Nat) (f:a6g):Prop:=∀ E H n e E' H' n',f E H n=.ok (e,E',H',n')->n<=n'/\∀ {w0 w:World} {ρ:Ren} {ds:List Deferred} {a:Act} {hi:Nat} {Q:Exit->Act->World->Prop},PQ Q->HasR ρ N ds a E->Inv P w0 ρ H w->Fsh ρ n hi->n'<=hi->(∀ a' w' σ,Stp ρ σ n n'->HasR σ N ds a' E'->Inv P w0 σ H' w'->Q (toX e) a' w')->c.wp P Q a w
theorem b33 {c:Code} {f:a6g} (hf:b1s P c N f):∀ k E H n e E' H' n',b1m f k E H n=.ok (e,E',H',n')->n<=n'/\∀ {w0 w:World} {ρ:Ren} {ds:List Deferred} {a:Act} {hi:Nat} {Q:Exit->Act->World->Prop},PQ Q->HasR ρ N ds a E->Inv P w0 ρ H w->Fsh ρ n hi->n'<=hi->(∀ a' w' σ,Stp ρ σ n n'->HasR σ N ds a' E'->Inv P w0 σ H' w'->Q (toX e) a' w')->Code.rounds P c Q k a w:=by
 intro k
 induction k with
 |zero=>intro E H n e E' H' n' h;cases h
 |succ k ih=>
  intro E H n e E' H' n' h;replace h:(match f E H n with
   |.ok (.normal,E',H',n')=>b1m f k (a58 E') H' n'
   |r=>r)=.ok (e,E',H',n'):=h
  split at h
  ·rename_i E1 H1 n1 hr;obtain ⟨h1,h2⟩:=hf _ _ _ _ _ _ _ hr;obtain ⟨h3,h4⟩:=ih _ _ _ _ _ _ _ h;refine ⟨xd5 h1 h3,fun {w0 w ρ ds a hi Q} hQ ha hI hF hn kk=>?_⟩;rw [rounds_succ];exact h2 hQ.then ha hI hF (xd5 h3 hn) fun a' w' σ hσ ha' hI'=>h4 hQ ha'.shrink hI' (hF.step hσ h1) hn fun a2 w2 τ hτ ha2 hI2=>kk a2 w2 τ (hσ.trans hτ h1 h3) ha2 hI2
  ·rename_i hne;obtain ⟨h1,h2⟩:=hf _ _ _ _ _ _ _ h;refine ⟨h1,fun {w0 w ρ ds a hi Q} hQ ha hI hF hn kk=>?_⟩;rw [rounds_succ];refine h2 hQ.then ha hI hF hn fun a' w' σ hσ ha' hI'=>?_;have:=kk a' w' σ hσ ha' hI'
   cases e with
   |normal=>exact (hne _ _ _ h).elim
   |exit i=>exact this
   |ret=>exact this
theorem b3K (hC:FOk P C) (hc:a2z P call) (pl:List (Nat×Pl)) (c:Code) (hB:a4N N pl c=true):b1s P c N (a5B C call pl c):=by
 induction c with
 |skip=>
  intro E H n e E' H' n' h
  cases h
  exact ⟨xd4 _,fun hQ ha hI hF hn k=>wp_skip (k _ _ _ (Stp.refl _ _ _) ha hI)⟩
 |region id ops draw=>
  intro E H n e E' H' n' h;replace hB:(ops.toList.all (a9I N) && (bif draw then (match r9 pl id with
   |some p=>Region.noSelect ops && (plB ops p).1 ops.size (Array.replicate ops.size false)
   |none=>true) else true))=true:=hB
  rw [xb2] at hB;obtain ⟨hd,hB⟩:=hB
  cases draw with
  |false=>
   replace h:(match a7P C call ops.toList ops.toList E H n with
    |.ok (E',H',n')=>Rs.ok (SX.normal,E',H',n')
    |.no p=>.no p)=.ok (e,E',H',n'):=h
   split at h
   ·rename_i E1 H1 n1 hr
    cases h
    obtain ⟨h1,_⟩:=a4I (Q:=fun _ _ _=>True) hC.ok hc hd hr;refine ⟨h1,fun {w0 w ρ ds a hi Q} hQ ha hI hF hn k=>?_⟩;obtain ⟨_,h2⟩:=a4I (Q:=Q) hC.ok hc hd hr;have:=wp_region_lit (id:=id) (l:=ops.toList) (h2 ha hI hF hn k)
    simpa using this
   ·cases h
  |true=>
   replace h:(match r9 pl id with
    |some p=>match xPl C call ops.toList p n 0 [] E H n with
     |.ok (E',H',n')=>Rs.ok (SX.normal,E',H',n')
     |.no p=>.no p
    | none => .no "plan") = .ok (e, E', H', n') := h
   split at h
   ·rename_i p hp;rw [hp] at hB;dsimp only [cond_true] at hB;rw [xb2] at hB
    split at h
    ·rename_i E1 H1 n1 hr
     cases h
     have hpl:=fun (Q:Exit->Act->World->Prop) (hQ:PQ Q)=>(b6M hC.ok hc hQ hB.1 hd p).1 _ _ _ _ _ _ _ _ _ _ _ hB.2 hr;refine ⟨(hpl (fun _ _ _=>True) (fun _ _ _ _ _ _=>trivial)).1,fun {w0 w ρ ds a hi Q} hQ ha hI hF hn k=>?_⟩;refine wp_region_any hC.mixed (b1q _ [] _ _ _ ((hpl Q hQ).2 (hi:=hi) (m0:=n) ⟨ha,hI.grow ⟨rfl,rfl,rfl,xd4 _,fun _ _ _=>rfl⟩,hF,fun j _ _ q h1 h2=>by simp at h1 h2;omega,xd4 _,by simp,EL.nil⟩ hn k))
    ·cases h
   ·cases h
 |seq x y ihx ihy=>
  intro E H n e E' H' n' h;replace hB:(a4N N pl x && a4N N pl y)=true:=hB;rw [xb2] at hB;replace h:(match a5B C call pl x E H n with
   |.ok (.normal,E',H',n')=>a5B C call pl y E' H' n'
   |r=>r)=.ok (e,E',H',n'):=h
  split at h
  ·rename_i E1 H1 n1 hr;obtain ⟨h1,h2⟩:=ihx hB.1 _ _ _ _ _ _ _ hr;obtain ⟨h3,h4⟩:=ihy hB.2 _ _ _ _ _ _ _ h;refine ⟨xd5 h1 h3,fun {w0 w ρ ds a hi Q} hQ ha hI hF hn k=>wp_seq ?_⟩;exact h2 hQ.then ha hI hF (xd5 h3 hn) fun a' w' σ hσ ha' hI'=>h4 hQ ha' hI' (hF.step hσ h1) hn fun a2 w2 τ hτ ha2 hI2=>k a2 w2 τ (hσ.trans hτ h1 h3) ha2 hI2
  ·rename_i hne;obtain ⟨h1,h2⟩:=ihx hB.1 _ _ _ _ _ _ _ h;refine ⟨h1,fun {w0 w ρ ds a hi Q} hQ ha hI hF hn k=>wp_seq ?_⟩;refine h2 hQ.then ha hI hF hn fun a' w' σ hσ ha' hI'=>?_;have:=k a' w' σ hσ ha' hI'
   cases e with
   |normal=>exact (hne _ _ _ h).elim
   |exit i=>exact this
   |ret=>exact this
 |cond o x y ihx ihy=>
  intro E H n e E' H' n' h;replace hB:(a4N N pl x && a4N N pl y)=true:=hB;rw [xb2] at hB;replace h:(match sEv E o with
   |some (.bool true)=>a5B C call pl x E H n
   |some (.bool false)=>a5B C call pl y E H n
   | _ => Rs.no "cond") = .ok (e, E', H', n') := h
  split at h
  ·rename_i ho;obtain ⟨h1,h2⟩:=ihx hB.1 _ _ _ _ _ _ _ h;refine ⟨h1,fun {w0 w ρ ds a hi Q} hQ ha hI hF hn k=>?_⟩;obtain ⟨u,hu,go⟩:=ha.ev ho;rw [VR.bool hu] at go;exact wp_cond_split (ha.full.ev go) (fun _=>h2 hQ ha hI hF hn k) (fun e=>by cases e)
  ·rename_i ho;obtain ⟨h1,h2⟩:=ihy hB.2 _ _ _ _ _ _ _ h;refine ⟨h1,fun {w0 w ρ ds a hi Q} hQ ha hI hF hn k=>?_⟩;obtain ⟨u,hu,go⟩:=ha.ev ho;rw [VR.bool hu] at go;exact wp_cond_split (ha.full.ev go) (fun e=>by cases e) (fun _=>h2 hQ ha hI hF hn k)
  ·cases h
 |block i x ih=>
  intro E H n e E' H' n' h;replace hB:a4N N pl x=true:=hB;replace h:(match a5B C call pl x E H n with
   |.ok (.exit j,E',H',n')=>bif Nat.beq j i then Rs.ok (SX.normal,E',H',n') else Rs.ok (SX.exit j,E',H',n')
   |r=>r)=.ok (e,E',H',n'):=h
  split at h
  ·rename_i j E1 H1 n1 hr;obtain ⟨h1,h2⟩:=ih hB _ _ _ _ _ _ _ hr
   cases hj:Nat.beq j i with
   |true=>
    rw [hj] at h
    cases h
    obtain rfl:=xb9 hj;refine ⟨h1,fun {w0 w ρ ds a hi Q} hQ ha hI hF hn k=>wp_block (h2 hQ.block ha hI hF hn fun a' w' σ hσ ha' hI'=>?_)⟩;show if j=j then _ else _;rw [xf0 rfl];exact k a' w' σ hσ ha' hI'
   |false=>
    rw [hj] at h
    cases h
    have hne:j≠i:=fun e=>by subst e;rw [xo5] at hj;cases hj
    refine ⟨h1,fun {w0 w ρ ds a hi Q} hQ ha hI hF hn k=>wp_block (h2 hQ.block ha hI hF hn fun a' w' σ hσ ha' hI'=>?_)⟩;show if j=i then _ else _;rw [xf1 hne];exact k a' w' σ hσ ha' hI'
  ·rename_i hne;obtain ⟨h1,h2⟩:=ih hB _ _ _ _ _ _ _ h;refine ⟨h1,fun {w0 w ρ ds a hi Q} hQ ha hI hF hn k=>wp_block (h2 hQ.block ha hI hF hn fun a' w' σ hσ ha' hI'=>?_)⟩;have:=k a' w' σ hσ ha' hI'
   cases e with
   |normal=>exact this
   |exit j=>exact (hne _ _ _ _ h).elim
   |ret=>exact this
 |loop x ih=>
  intro E H n e E' H' n' h;replace hB:a4N N pl x=true:=hB;replace h:b1m (a5B C call pl x) b3U E H n=.ok (e,E',H',n'):=h;generalize b3U=kk at h;obtain ⟨h1,h2⟩:=b33 (ih hB) kk _ _ _ _ _ _ _ h;exact ⟨h1,fun hQ ha hI hF hn k=>wp_loop_rounds kk (h2 hQ ha hI hF hn k)⟩
 |rangeFunc f ps x y _ _=>intro E H n e E' H' n' h;cases h
 |exit i=>
  intro E H n e E' H' n' h
  cases h
  exact ⟨xd4 _,fun hQ ha hI hF hn k=>wp_exit (k _ _ _ (Stp.refl _ _ _) ha hI)⟩
 |scope x _=>intro E H n e E' H' n' h;cases h
 |label l=>intro E H n e E' H' n' h;cases h
 |goto l=>intro E H n e E' H' n' h;cases h
 |ret=>
  intro E H n e E' H' n' h
  cases h
  exact ⟨xd4 _,fun hQ ha hI hF hn k=>wp_ret (k _ _ _ (Stp.refl _ _ _) ha hI)⟩
 |refuse s=>intro E H n e E' H' n' h;cases h
theorem a8D (hT:TOk P C.T) (ha:HasR ρ N ds a E) (hI:Inv P w0 ρ H w):∀ {rs:List ResultVar} {vs:List Value},b1J C.T E H rs=some vs->∃ us,LR ρ vs us/\ResL P (a2h a) w rs us
 |[],vs,h=>by cases h;exact ⟨[],LR.nil,ResL.nil⟩
 |.tmp t::r,vs,h=>by
  unfold b1J at h
  split at h
  ·rename_i v vs' h1 h2
   cases h
   obtain ⟨u,hu,hat⟩:=ha.at_ t v h1;obtain ⟨us,h3,h4⟩:=a8D hT ha hI h2;exact ⟨u::us,LR.cons hu h3,ResL.tmp (a5g hat) h4⟩
  ·cases h
 |.cell p t::r,vs,h=>by
  unfold b1J at h
  split at h
  ·rename_i pv hp
   split at h
   ·rename_i v vs' h1 h2
    cases h
    obtain ⟨p',hp',hat⟩:=ha.at_ p pv hp;obtain ⟨b,o,u,rfl,hu,hl⟩:=a8i hT hI h1 hp';obtain ⟨us,h3,h4⟩:=a8D hT ha hI h2;exact ⟨u::us,LR.cons hu h3,ResL.cell (a5g hat) hl h4⟩
   ·cases h
  ·cases h
theorem VR.pack {vs us:List Value} (h:LR ρ vs us):VR ρ (a4c vs) (a4c us):=by
 match vs,us,h with
 |[],us,h=>rw [LR.nil_inv h];exact VR.mkTup LR.nil
 |[v],us,h=>
  obtain ⟨u,r,rfl,h1,h2⟩:=LR.inv h;rw [LR.nil_inv h2];exact h1
 |v::v2::r,us,h=>
  obtain ⟨u,r',rfl,h1,h2⟩:=LR.inv h;obtain ⟨u2,r2,rfl,h3,h4⟩:=LR.inv h2;exact VR.mkTup h
theorem a7d (m:Nat):∀ (H:SH) {i:Nat} {s:SA},r9 (b1N m H) i=some s->r9 H i=some s/\i < m
 |[],i,s,h=>by cases h
 |(k,t)::r,i,s,h=>by
  replace h:r9 (@Bool.rec (fun _=>SH) (b1N m r) ((k,t)::b1N m r) (Nat.blt k m)) i=some s:=h
  cases e:Nat.blt k m with
  |true=>
   rw [e] at h;have e:k < m:=by simpa [xc1] using e
   rw [t6] at h |-;by_cases hk:k=i
   ·rw [xf0 hk] at h |-;exact ⟨h,by omega⟩
   ·rw [xf1 hk] at h |-;exact a7d m r h
  |false=>
   rw [e] at h;obtain ⟨h1,h2⟩:=a7d m r h;have hk:k≠i:=fun e2=>by
    subst e2;have:Nat.blt k m=true:=by simpa [xc1] using h2
    rw [e] at this
    cases this
   rw [t6,xf1 hk];exact ⟨h1,h2⟩
theorem b6W {m:Nat} {v:Value} {i:Nat} {s:SA} (h:r9 (gc m v H) i=some s):r9 H i=some s:=by
 unfold gc at h
 cases e:(Nat.blt 20 (b5K m H) && (b3r 1000 m v && (b1N m H).all fun p=>b5I m p.2)) with
 |true=>rw [e] at h;exact (a7d m H h).1
 |false=>rw [e] at h;exact h
theorem a6H:∀ {vs us:List Value} {k t:Nat} {v:Value},LR ρ vs us->r9 (a5t k vs) t=some v->k<=t/\∃ u,us[t - k]?=some u/\VR ρ v u
 |[],us,k,t,v,_,h=>by cases h
 |x::vs,us,k,t,v,hr,h=>by
  obtain ⟨u,r,rfl,h1,h2⟩:=LR.inv hr;replace h:r9 ((k,x)::a5t (k + 1) vs) t=some v:=h;rw [t6] at h;by_cases e:k=t
  ·rw [xf0 e] at h
   cases h
   subst e;exact ⟨xd4 _,u,by simp,h1⟩
  ·rw [xf1 e] at h;obtain ⟨h3,u',h4,h5⟩:=a6H h2 h;exact ⟨by omega,u',by rw [show t - k=(t - (k + 1)) + 1 from by omega];simpa using h4,h5⟩
theorem b4j (hC:FOk P C) (hc:a2z P call):a2z P (b4i C call):=by
 intro g vs H n v H' n' h;unfold b4i at h
 split at h
 ·rename_i f hf
  split at h
  ·rename_i u hu
   cases h
   refine ⟨xd4 _,fun {w0 w ρ hi us} hr hI hF hn=>?_⟩;obtain ⟨h1,h2,h3⟩:=hC.M g f hf vs _ hu;have e:us=vs:=by
    have:=LR.cOks (ρ:=ρ) h1;unfold LR at hr this;rw [hr] at this
    cases this
    rfl
   rw [e];exact (h3 w).mono fun v' w' ⟨e1,hS⟩=>⟨ρ,Stp.refl _ _ _,by rw [e1];exact h2 ρ,hI.grow (St.grown0 hS)⟩
  ·cases h
 ·split at h
  ·rename_i fn pl hf;obtain ⟨hok,c',hb',hB⟩:=hC.F.get hf
   split at h
   ·rename_i c hb;obtain rfl:c=c':=by rw [hb] at hb';exact Option.some.inj hb'
    cases hl:Nat.ble vs.length fn.ntmps with
    |false=>rw [hl] at h;cases h
    |true=>
    rw [hl] at h;dsimp only [cond_true] at h
    split at h
    ·cases h
    ·rename_i e E1 H1 n1 hne hr
     split at h
     ·rename_i rs hrs
      cases h
      obtain ⟨h1,h2⟩:=b3K hC hc pl c hB _ _ _ _ _ _ _ hr;refine ⟨h1,fun {w0 w ρ hi us} hus hI hF hn=>⟨⟨fn,hok⟩,?_⟩⟩;refine calls_of_wp hok.at_ hb (h2 (fun c a w d v hq=>by cases d <;> exact hq) ⟨?_,rfl,fun t v ht=>?_⟩ hI hF hn fun a' w' σ hσ ha' hI'=>?_)
      ·have:=xg1 hl;have:=hus.len;simp;omega
      ·obtain ⟨_,u,hu,hv⟩:=a6H hus ht;rw [Nat.sub_zero] at hu;have hlt:=d6 hu;exact ⟨u,hv,by rw [Array.getElem?_append_left (by simpa using hlt)];simpa using hu⟩
      ·obtain ⟨us',h3,h4⟩:=a8D hC.ok.T ha' hI' hrs;have q:=b37 (P:=P) (fn:=fn) (Φ:=fun u w'=>∃ σ,Stp ρ σ n n'/\VR σ (a4c rs) u/\Inv P w0 σ (gc n (a4c rs) H1) w') rfl h4 rfl ⟨σ,hσ,VR.pack h3,hI'.sub fun i s hs=>b6W hs⟩ ha'.full
       cases e with
       |normal=>exact q
       |exit i=>exact (hne _ rfl).elim
       |ret=>exact q
     ·cases h
    ·cases h
   ·cases h
  ·cases h
theorem b5F (hC:FOk P C) (k:Nat):a2z P (b53 C k):=by
 induction k with
 |zero=>intro g vs H n v H' n' h;cases h
 |succ k ih=>exact b4j hC ih
noncomputable def xIs (r:Rs (Value×SH×Nat)) (v:Value):Bool:=match r with
 |.ok (u,_,_)=>vEq 1000 u v
 |.no _=>false
theorem b6G (hC:FOk P C) {g:Nat} {vs:List Value} {v:Value} (k:Nat) (h:xIs (b53 C k g vs [] 0) v=true) (hvs:vs.all cOk=true) (hv:∀ ρ,VR ρ v v) (w:World):Fn P g vs w (RBf v w):=by
 unfold xIs at h
 split at h
 ·rename_i u H n hr;obtain rfl:=a5c _ h;obtain ⟨h1,h2⟩:=b5F hC k _ _ _ _ _ _ _ hr;refine (h2 (w0:=w) (w:=w) (ρ:=fun _=>none) (hi:=n) (LR.cOks hvs) ⟨⟨rfl,rfl,rfl,xd4 _,fun _ _=>rfl⟩,(fun i s h=>by cases h),(fun i j s t x y h=>by cases h)⟩ (fun _ _ _=>rfl) (xd4 _)).mono fun u' w' ⟨σ,hσ,hu,hI⟩=>?_;exact ⟨VR.fn (hv σ) hu,St.of_below hI.below⟩
 ·cases h
end
def cxQ:EqT:=[(89,[1,0,2,2]),(143,[1,0]),(68,[0,0])]
noncomputable def b7n:List Value->Option Value
 |[.string ⟨⟨s⟩⟩,.int .i64 off,.string ⟨⟨t⟩⟩]=>ifB (inB off t.length s.length && Nat.ble s.length 100000) (some (.tuple #[.string ⟨(splice s off.toNat t).toArray⟩,.int .i64 0])) none
 |_=>none
noncomputable def cxM:List (Nat×(List Value->Option Value)):=[(76,b7n)]
theorem b7B {ρ:Ren} {z:Value} {l:List Value} (h:celL z=some l) (hl:l.all cOk=true):VR ρ z z:=by
 cases z
 all_goals first
  |(cases h;exact VR.mkAgg (LR.cOks hl);done)
  |(cases h;exact VR.cOk (by simpa using hl);done)
  |(cases h;done)
def zOk (z:Value):Bool:=match celL z with
 |some l=>l.all cOk
 |none=>false
def ForA {α:Type} (p:α->Prop):List α->Prop
 |[]=>True
 |x::r=>p x/\ForA p r
theorem ForA.nil {α:Type} {p:α->Prop}:ForA p []:=trivial
theorem ForA.cons {α:Type} {p:α->Prop} {x:α} {l:List α} (h:p x) (h':ForA p l):ForA p (x::l):=⟨h,h'⟩
theorem ForA.mem {α:Type} {p:α->Prop}:∀ {l:List α},ForA p l->∀ x ∈ l,p x
 |[],_,x,h=>by cases h
 |y::r,⟨h1,h2⟩,x,h=>by
  rcases xc4.1 h with rfl|h
  ·exact h1
  ·exact ForA.mem h2 x h
theorem b5s {P:Program} {ez:List (Nat×Value)} (h:ForA (fun p=>∃ Kt Et,P.underlying p.1=some (.map Kt Et)/\(P.info? Et).bind (·.zero)=some p.2/\zOk p.2=true) ez):b4M P ez:=fun t z hg Kt Et hu=>by
 obtain ⟨K,E,h1,h2,h3⟩:=h.mem _ (a4F hg);dsimp only at h1 h2 h3;rw [hu] at h1
 cases h1
 refine ⟨h2,fun ρ=>?_⟩;unfold zOk at h3
 split at h3
 ·rename_i l hl;exact b7B hl h3
 ·cases h3
theorem b64:∀ g f,r9 cxM g=some f->∀ vs v,f vs=some v->vs.all cOk=true/\(∀ ρ,VR ρ v v)/\∀ w,Fn Tryz.prog g vs w (RBf v w):=by
 intro g f h vs v hv;have hm:=a4F h;unfold cxM at hm;rw [xi8] at hm
 cases hm
 unfold b7n at hv
 split at hv
 ·rename_i s off t;obtain ⟨h1,h2⟩:=n9 hv
  cases h2
  rw [xb2] at h1;have h3:=xg1 h1.2;refine ⟨rfl,fun ρ=>VR.mkTup (LR.cOks rfl),fun w=>?_⟩;have:=b4n s t off w (by unfold maxLen;omega);rw [xf0 h1.1,xf0 h1.1] at this;exact this
 ·cases hv
theorem a6X {l l':List Value} {b:Bool} (h:sEqS [] l l'=some b):l=[]/\l'=[]/\b=true:=by
 cases l <;> cases l' <;> simp_all [sEqS]
theorem a8N {s:List Nat} {l l':List Value} {b:Bool} (h:sEqS (0::s) l l'=some b):∃ x y m m' c,l=.int .i64 x::m/\l'=.int .i64 y::m'/\sEqS s m m'=some c/\b=(decide (x=y) && c):=by
 unfold sEqS at h
 split at h
 all_goals first
  |(cases h;done)
  |(exfalso;simp_all;done)
  |(obtain ⟨c,hc,rfl⟩:=xi5.1 h;simp_all;done)
  |(obtain ⟨c,hc,rfl⟩:=xi5.1 h;rename_i e;cases e;exact ⟨_,_,_,_,c,rfl,rfl,hc,rfl⟩)
theorem b3T {s:List Nat} {l l':List Value} {b:Bool} (h:sEqS (1::s) l l'=some b):∃ x y m m' c,l=.string ⟨⟨x⟩⟩::m/\l'=.string ⟨⟨y⟩⟩::m'/\sEqS s m m'=some c/\b=(decide (x=y) && c):=by
 unfold sEqS at h
 split at h
 all_goals first
  |(cases h;done)
  |(exfalso;simp_all;done)
  |(obtain ⟨c,hc,rfl⟩:=xi5.1 h;simp_all;done)
  |(obtain ⟨c,hc,rfl⟩:=xi5.1 h;rename_i e;cases e;exact ⟨_,_,_,_,c,rfl,rfl,hc,rfl⟩)
theorem b4x {s:List Nat} {l l':List Value} {b:Bool} (h:sEqS (2::s) l l'=some b):∃ x y m m' c,l=.bool x::m/\l'=.bool y::m'/\sEqS s m m'=some c/\b=(decide (x=y) && c):=by
 unfold sEqS at h
 split at h
 all_goals first
  |(cases h;done)
  |(exfalso;simp_all;done)
  |(obtain ⟨c,hc,rfl⟩:=xi5.1 h;simp_all;done)
  |(obtain ⟨c,hc,rfl⟩:=xi5.1 h;rename_i e;cases e;exact ⟨_,_,_,_,c,rfl,rfl,hc,rfl⟩)
theorem b6P:QOk Tryz.prog cxQ:=fun t s h l l' b hb=>by
 have hm:=a4F h;unfold cxQ at hm;simp only [xc4,List.not_mem_nil,or_false,Prod.mk.injEq] at hm;rcases hm with ⟨rfl,rfl⟩|⟨rfl,rfl⟩|⟨rfl,rfl⟩
 ·obtain ⟨x1,y1,m1,n1,c1,rfl,rfl,hb1,rfl⟩:=b3T hb;obtain ⟨x2,y2,m2,n2,c2,rfl,rfl,hb2,rfl⟩:=a8N hb1;obtain ⟨x3,y3,m3,n3,c3,rfl,rfl,hb3,rfl⟩:=b4x hb2;obtain ⟨x4,y4,m4,n4,c4,rfl,rfl,hb4,rfl⟩:=b4x hb3;obtain ⟨rfl,rfl,rfl⟩:=a6X hb4;refine ⟨fun w=>?_,by kernel_rfl⟩;simp [go_sem]
  repeat' split
  all_goals simp_all
 ·obtain ⟨x1,y1,m1,n1,c1,rfl,rfl,hb1,rfl⟩:=b3T hb;obtain ⟨x2,y2,m2,n2,c2,rfl,rfl,hb2,rfl⟩:=a8N hb1;obtain ⟨rfl,rfl,rfl⟩:=a6X hb2;refine ⟨fun w=>?_,by kernel_rfl⟩;simp [go_sem]
  repeat' split
  all_goals simp_all
 ·obtain ⟨x1,y1,m1,n1,c1,rfl,rfl,hb1,rfl⟩:=a8N hb;obtain ⟨x2,y2,m2,n2,c2,rfl,rfl,hb2,rfl⟩:=a8N hb1;obtain ⟨rfl,rfl,rfl⟩:=a6X hb2;refine ⟨fun w=>?_,by kernel_rfl⟩;simp [go_sem]
  repeat' split
  all_goals simp_all
set_option maxRecDepth 100000
set_option maxHeartbeats 4000000
noncomputable def b6e:BT (Func×List (Nat×Pl)):=.node 100 (Tryz.f100,[(6,.take 0 (.take 1 (.take 2 (.take 3 (.take 4 (.take 5 (.one 6 [1,3,5] (.take 7 (.take 8 (.take 9 (.take 10 (.take 11 (.take 12 (.take 13 (.take 14 (.take 15 (.take 16 (.take 17 (.take 18 (.one 19 [18] (.take 20 (.take 21 (.take 22 (.take 23 (.take 24 (.take 25 (.take 26 (.take 27 (.one 28 [26,27] (.take 29 (.take 30 (.take 31 .nil))))))))))))))))))))))))))))))))]) (.node 67 (Tryz.f67,[]) (.node 44 (Tryz.f44,[(4,.take 0 (.take 1 (.take 2 (.take 3 (.take 4 (.one 5 [4] (.take 6 .nil)))))))]) (.node 29 (Tryz.f29,[(9,.take 0 (.take 1 (.take 2 (.take 3 (.take 4 (.one 5 [3] (.take 6 (.take 7 (.take 8 (.take 9 (.take 10 .nil))))))))))),(12,.take 0 (.take 1 (.take 2 (.take 3 (.take 4 (.take 5 (.take 6 (.take 7 (.take 8 (.take 9 (.take 10 (.take 11 (.take 12 (.take 13 .nil)))))))))))))),(13,.take 0 (.take 1 (.take 2 (.take 3 (.take 4 (.take 5 (.take 6 (.take 7 (.take 8 (.take 9 (.take 10 (.take 11 (.take 12 (.take 13 .nil))))))))))))))]) (.node 21 (Tryz.f21,[]) (.node 18 (Tryz.f18,[(12,.take 0 (.take 1 (.take 2 (.take 4 (.take 6 (.take 7 (.take 8 (.grp 16777216 (.alt 3 [] (.alt 5 [] (.alt 9 [] (.take 10 (.alt 11 [] (.alt 12 [1,7] (.take 13 .nil) .stop) .stop)) .stop) (.alt 9 [] (.alt 5 [] (.take 10 (.alt 11 [] (.alt 12 [1,7] (.take 13 .nil) .stop) .stop)) .stop) .stop)) (.alt 5 [] (.alt 3 [] (.alt 9 [] (.take 10 (.alt 11 [] (.alt 12 [1,7] (.take 13 .nil) .stop) .stop)) .stop) (.alt 9 [] (.alt 3 [] (.take 10 (.alt 11 [] (.alt 12 [1,7] (.take 13 .nil) .stop) .stop)) .stop) .stop)) (.alt 9 [] (.alt 3 [] (.alt 5 [] (.take 10 (.alt 11 [] (.alt 12 [1,7] (.take 13 .nil) .stop) .stop)) .stop) (.alt 5 [] (.alt 3 [] (.take 10 (.alt 11 [] (.alt 12 [1,7] (.take 13 .nil) .stop) .stop)) .stop) .stop)) .stop)))))))))))]) (.node 9 (Tryz.f9,[(11,.take 0 (.take 1 (.take 2 (.take 3 (.take 4 (.take 5 (.take 6 (.one 7 [3,5,6] .nil)))))))),(18,.take 0 (.take 1 (.take 2 (.take 3 (.take 4 (.take 5 (.take 6 (.take 7 (.take 8 (.take 9 (.take 10 (.one 11 [] (.one 12 [3,6,8] .nil)))))))))))))]) .nil .nil) .nil) (.node 25 (Tryz.f25,[(3,.take 0 (.take 1 (.take 2 (.one 3 [] (.one 4 [1] (.take 5 .nil)))))),(5,.take 0 (.take 1 (.take 2 (.take 3 (.take 4 (.take 5 (.one 6 [3] (.one 7 [4] (.take 8 .nil)))))))))]) (.node 23 (Tryz.f23,[(3,.take 0 (.take 1 (.take 2 (.take 4 (.take 5 (.take 6 (.grp 4096 (.alt 3 [] (.alt 7 [] (.take 8 (.alt 9 [] (.alt 10 [] (.alt 11 [1,5] .nil .stop) .stop) (.alt 10 [] (.alt 9 [] (.alt 11 [1,5] .nil .stop) .stop) .stop))) (.alt 10 [] (.alt 7 [] (.take 8 (.alt 9 [] (.alt 11 [1,5] .nil .stop) .stop)) .stop) .stop)) (.alt 7 [] (.alt 3 [] (.take 8 (.alt 9 [] (.alt 10 [] (.alt 11 [1,5] .nil .stop) .stop) (.alt 10 [] (.alt 9 [] (.alt 11 [1,5] .nil .stop) .stop) .stop))) (.alt 10 [] (.alt 3 [] (.take 8 (.alt 9 [] (.alt 11 [1,5] .nil .stop) .stop)) .stop) .stop)) (.alt 10 [] (.alt 3 [] (.alt 7 [] (.take 8 (.alt 9 [] (.alt 11 [1,5] .nil .stop) .stop)) .stop) (.alt 7 [] (.alt 3 [] (.take 8 (.alt 9 [] (.alt 11 [1,5] .nil .stop) .stop)) .stop) .stop)) .stop)))))))))),(4,.take 0 (.take 1 (.one 2 [1] (.take 3 (.take 4 (.take 5 (.take 6 (.take 7 (.take 8 (.take 9 (.take 10 (.take 11 (.take 12 (.take 13 (.take 14 (.take 15 (.take 16 (.take 17 (.take 18 (.take 19 (.take 20 (.one 21 [19] (.take 22 (.take 23 (.take 24 (.take 25 (.take 26 (.take 27 (.take 28 (.take 29 (.take 30 (.take 31 (.take 32 .nil))))))))))))))))))))))))))))))))),(9,.take 0 (.take 1 (.take 2 (.take 3 (.take 4 (.take 5 (.take 6 (.take 7 (.take 8 (.one 9 [0,1,8] (.take 10 .nil)))))))))))]) .nil .nil) .nil)) (.node 38 (Tryz.f38,[]) (.node 37 (Tryz.f37,[]) (.node 35 (Tryz.f35,[(5,.take 0 (.take 1 (.take 2 (.one 3 [] (.take 4 (.one 5 [1] (.take 6 .nil))))))),(8,.take 0 (.take 1 (.take 2 (.take 3 (.take 4 (.take 6 (.take 7 (.grp 16777216 (.alt 5 [4] (.alt 8 [3] (.take 9 (.alt 10 [6] (.take 11 .nil) .stop)) .stop) (.alt 8 [3] (.alt 5 [4] (.take 9 (.alt 10 [6] (.take 11 .nil) .stop)) .stop) .stop))))))))))]) .nil .nil) .nil) (.node 40 (Tryz.f40,[(18,.take 0 (.take 1 (.take 2 (.take 3 (.grp 4096 (.alt 4 [3] (.take 5 (.alt 6 [] (.alt 7 [2] .nil .stop) .stop)) (.alt 6 [] (.alt 4 [3] (.take 5 (.alt 7 [2] .nil .stop)) .stop) .stop))))))),(20,.take 0 (.take 1 (.take 2 (.take 3 (.take 4 (.take 5 (.take 6 (.take 7 (.take 8 (.take 9 (.take 10 (.take 11 (.take 12 (.take 13 (.take 14 (.take 15 (.take 16 (.take 17 (.take 18 (.take 19 (.take 20 (.take 21 (.take 22 (.take 23 (.take 24 (.take 25 (.take 26 (.take 27 (.take 28 (.take 29 (.take 30 (.take 31 (.take 32 (.take 33 (.take 34 (.take 35 (.take 36 (.take 37 (.take 38 .nil))))))))))))))))))))))))))))))))))))))),(21,.take 0 (.take 1 (.take 2 (.take 3 (.take 4 (.take 5 (.take 6 (.take 7 (.take 8 (.take 9 (.take 10 (.take 11 (.take 12 (.take 13 (.one 14 [3,8,10] .nil))))))))))))))),(22,.take 0 (.take 1 (.take 2 (.take 3 (.take 4 (.take 5 (.one 6 [5] (.one 7 [4] (.take 8 (.take 9 (.one 10 [] .nil))))))))))),(26,.take 0 (.take 1 (.take 2 (.take 3 (.take 4 (.take 5 (.take 6 (.take 7 (.take 8 (.one 9 [] (.take 10 (.take 11 (.one 12 [11] (.one 13 [4] (.take 14 (.take 15 (.one 16 [] .nil)))))))))))))))))]) (.node 39 (Tryz.f39,[]) .nil .nil) .nil))) (.node 59 (Tryz.f59,[(6,.take 0 (.take 2 (.take 9 (.take 10 (.take 11 (.one 1 [] (.one 3 [] (.take 4 (.take 5 (.take 6 (.one 7 [6] (.take 8 (.take 12 (.take 13 .nil)))))))))))))),(12,.take 0 (.take 1 (.take 2 (.take 3 (.take 4 (.take 5 (.take 6 (.take 7 (.take 8 (.take 9 (.take 10 (.take 11 (.take 12 (.one 13 [4,6,9] .nil)))))))))))))),(13,.take 0 (.take 1 (.take 2 (.take 3 (.take 4 (.take 5 (.take 6 (.take 7 (.take 8 (.take 9 (.take 10 (.take 11 (.take 12 (.one 13 [4,6,9] .nil)))))))))))))),(15,.take 0 (.take 1 (.take 2 (.take 3 (.take 4 (.take 5 (.take 6 (.take 9 (.one 7 [6] (.take 8 (.take 10 (.take 11 (.one 12 [11] (.one 13 [5] (.take 14 (.take 15 (.take 16 (.one 17 [] .nil)))))))))))))))))),(16,.take 0 (.take 1 (.take 2 (.take 3 (.take 4 (.take 5 (.take 6 (.one 7 [3] (.take 8 (.take 9 .nil))))))))))]) (.node 53 (Tryz.f53,[]) (.node 46 (Tryz.f46,[]) (.node 45 (Tryz.f45,[]) .nil .nil) .nil) (.node 58 (Tryz.f58,[]) (.node 54 (Tryz.f54,[(1,.take 0 (.take 1 (.take 2 (.take 3 (.take 5 (.take 6 (.grp 4096 (.alt 4 [3] (.alt 7 [6] (.take 8 (.alt 9 [] (.alt 10 [1] .nil .stop) .stop)) (.alt 9 [] (.alt 7 [6] (.take 8 (.alt 10 [1] .nil .stop)) .stop) .stop)) (.alt 9 [] (.alt 4 [3] (.alt 7 [6] (.take 8 (.alt 10 [1] .nil .stop)) .stop) .stop) .stop))))))))),(11,.take 0 (.take 1 (.take 2 (.take 3 (.take 4 (.take 5 (.take 7 (.take 8 (.one 6 [5] (.one 9 [8] (.take 10 (.one 11 [] (.one 12 [1] (.take 13 (.one 14 [3] .nil)))))))))))))))]) .nil .nil) .nil)) (.node 64 (Tryz.f64,[]) (.node 63 (Tryz.f63,[]) (.node 62 (Tryz.f62,[(5,.take 0 (.take 1 (.take 2 (.take 3 (.take 4 (.take 5 (.take 6 (.take 7 (.take 8 (.take 9 (.take 10 (.take 11 (.take 12 (.take 13 (.take 14 (.take 15 (.take 16 .nil)))))))))))))))))]) .nil .nil) .nil) (.node 66 (Tryz.f66,[(5,.take 0 (.take 1 (.take 2 (.take 3 (.take 4 (.take 5 (.take 6 (.take 7 (.take 8 (.take 9 (.take 10 (.take 11 (.take 12 (.one 13 [3,7,12] (.take 14 (.take 15 (.take 16 (.take 17 (.take 18 .nil)))))))))))))))))))]) (.node 65 (Tryz.f65,[(5,.take 0 (.take 1 (.take 2 (.take 3 (.take 4 (.take 5 (.one 6 [5] (.take 7 (.take 8 (.take 9 (.one 10 [3] .nil))))))))))),(12,.take 0 (.take 1 (.take 2 (.take 3 (.take 4 (.take 5 (.one 6 [3,4] (.take 7 (.take 8 (.take 9 (.take 10 (.take 11 .nil)))))))))))),(27,.take 0 (.take 1 (.take 2 (.take 3 (.take 4 (.take 5 (.take 6 (.take 7 (.take 8 (.take 9 (.take 10 (.one 11 [] (.one 12 [7] (.take 13 (.one 14 [2,5,8,9] .nil)))))))))))))))]) .nil .nil) .nil)))) (.node 89 (Tryz.f89,[]) (.node 82 (Tryz.f82,[(1,.take 0 (.take 1 (.take 2 (.take 3 (.take 4 (.take 5 (.take 6 (.take 7 (.take 8 (.take 9 (.take 10 .nil)))))))))))]) (.node 75 (Tryz.f75,[(0,.take 0 (.take 1 (.take 2 (.take 3 (.take 4 (.take 5 (.take 6 (.take 7 (.take 8 (.take 9 (.take 10 (.one 11 [4] (.take 12 (.take 13 (.take 14 (.take 15 (.take 16 (.one 17 [6] .nil))))))))))))))))))]) (.node 74 (Tryz.f74,[(4,.take 0 (.take 1 (.take 2 (.take 3 (.take 4 (.take 5 (.take 6 (.take 7 (.take 8 (.take 9 (.take 10 (.take 11 (.take 12 (.take 13 (.take 14 (.take 15 (.one 16 [] .nil)))))))))))))))))]) (.node 73 (Tryz.f73,[(10,.take 0 (.take 1 (.one 2 [0] (.take 3 .nil))))]) .nil .nil) .nil) (.node 81 (Tryz.f81,[]) (.node 80 (Tryz.f80,[]) .nil .nil) .nil)) (.node 86 (Tryz.f86,[(0,.take 0 (.take 1 (.take 2 (.take 3 (.take 4 (.take 5 (.take 6 (.take 7 (.take 8 (.one 9 [0,5] .nil))))))))))]) (.node 84 (Tryz.f84,[]) (.node 83 (Tryz.f83,[]) .nil .nil) .nil) (.node 88 (Tryz.f88,[]) (.node 87 (Tryz.f87,[]) .nil .nil) .nil))) (.node 95 (Tryz.f95,[]) (.node 92 (Tryz.f92,[(11,.take 0 (.take 1 (.take 2 (.take 3 (.take 4 (.take 5 (.take 6 (.take 7 (.take 8 (.take 9 (.take 10 (.take 11 (.take 12 (.take 13 (.take 14 (.take 15 (.take 16 (.take 17 (.take 18 (.take 19 (.take 20 (.take 21 (.take 22 (.take 23 (.take 24 .nil)))))))))))))))))))))))))]) (.node 91 (Tryz.f91,[(4,.take 0 (.take 1 (.take 2 (.take 3 (.take 4 (.take 5 (.take 6 (.take 7 (.take 8 (.take 9 (.take 10 (.take 11 (.take 12 (.take 13 (.take 14 (.take 15 (.take 16 (.take 17 (.take 18 (.take 19 (.take 20 (.take 21 .nil))))))))))))))))))))))]) (.node 90 (Tryz.f90,[]) .nil .nil) .nil) (.node 94 (Tryz.f94,[]) (.node 93 (Tryz.f93,[(1,.take 0 (.take 1 (.take 2 (.take 3 (.take 4 (.take 5 (.one 6 [3,5] (.take 7 (.take 8 (.take 9 (.take 10 (.take 11 .nil)))))))))))),(5,.take 0 (.take 1 (.take 2 (.take 3 (.take 4 (.take 5 (.take 6 (.take 7 (.take 8 (.take 9 (.take 10 (.one 11 [3,5,9] .nil)))))))))))),(6,.take 0 (.take 1 (.take 2 (.take 3 (.take 4 (.take 5 (.take 6 (.take 7 (.take 8 (.take 9 (.take 10 (.take 11 (.one 12 [] (.one 13 [4] (.take 14 (.take 15 (.one 16 [5,9] .nil))))))))))))))))),(7,.take 0 (.take 1 (.take 2 (.take 3 (.take 4 (.take 5 (.take 6 (.take 7 (.take 8 (.take 9 (.take 10 (.take 11 (.one 12 [3,5,7] .nil)))))))))))))]) .nil .nil) .nil)) (.node 98 (Tryz.f98,[]) (.node 97 (Tryz.f97,[(4,.take 0 (.take 1 (.take 2 (.take 3 (.take 4 (.take 5 (.take 6 (.take 7 (.take 8 (.take 9 (.one 10 [] (.one 11 [4] (.take 12 (.take 13 (.one 14 [] .nil))))))))))))))),(5,.take 0 (.take 1 (.take 2 (.take 3 (.take 4 (.take 5 (.take 6 (.take 7 .nil))))))))]) (.node 96 (Tryz.f96,[]) .nil .nil) .nil) (.node 99 (Tryz.f99,[(1,.take 0 (.take 1 (.take 3 (.take 4 (.take 7 (.take 8 (.take 11 (.take 12 (.take 15 (.take 16 (.one 2 [1] (.one 5 [4] (.take 6 (.one 9 [8] (.take 10 (.one 13 [12] (.take 14 (.one 17 [16] (.take 18 (.take 19 .nil))))))))))))))))))))]) .nil .nil))))) (.node 140 (Tryz.f140,[(1,.take 0 (.take 2 (.take 3 (.one 1 [0] (.take 4 (.take 5 (.take 6 (.take 7 (.take 8 (.take 9 (.take 10 (.take 11 (.take 12 (.take 13 (.take 14 (.take 15 (.take 16 (.take 17 (.take 18 (.take 19 .nil))))))))))))))))))))]) (.node 125 (Tryz.f125,[]) (.node 115 (Tryz.f115,[]) (.node 111 (Tryz.f111,[]) (.node 110 (Tryz.f110,[]) (.node 101 (Tryz.f101,[]) .nil .nil) .nil) (.node 113 (Tryz.f113,[]) (.node 112 (Tryz.f112,[]) .nil .nil) .nil)) (.node 118 (Tryz.f118,[(1,.take 0 (.take 1 (.take 2 (.take 3 (.take 4 (.take 5 (.take 6 (.take 7 (.take 8 (.take 9 (.take 10 (.take 11 (.take 12 (.take 13 (.take 14 (.take 15 (.take 16 (.take 17 (.take 18 (.take 19 (.take 20 .nil)))))))))))))))))))))]) (.node 117 (Tryz.f117,[]) (.node 116 (Tryz.f116,[]) .nil .nil) .nil) (.node 123 (Tryz.f123,[(3,.take 0 (.take 1 (.take 2 (.take 3 (.take 4 (.one 5 [3] (.take 6 (.take 7 (.take 8 (.take 9 (.take 10 .nil))))))))))),(6,.take 0 (.take 1 (.take 2 (.take 3 (.take 4 (.take 5 (.take 6 (.take 7 (.take 8 (.take 9 (.take 10 (.take 11 (.take 12 .nil))))))))))))),(9,.take 0 (.take 1 (.take 2 (.take 3 (.take 4 (.take 5 (.take 6 (.take 7 (.take 8 (.one 9 [8] (.one 10 [4] (.take 11 (.take 12 (.one 13 [] .nil)))))))))))))),(10,.take 0 (.take 1 (.take 2 (.take 3 (.take 4 (.take 5 (.take 6 (.take 7 (.take 8 (.take 9 (.take 10 .nil))))))))))),(15,.take 0 (.take 1 (.take 2 (.take 3 (.take 4 (.take 5 (.take 6 (.take 7 (.take 8 (.take 9 (.take 10 (.take 11 (.one 12 [3,7] .nil))))))))))))),(16,.take 0 (.take 1 (.take 2 (.take 3 (.take 4 (.take 5 (.take 6 (.take 7 (.take 8 (.take 9 (.take 10 (.take 11 (.take 12 (.take 13 (.take 14 (.take 15 (.take 16 (.take 17 (.take 18 .nil)))))))))))))))))))]) (.node 122 (Tryz.f122,[]) .nil .nil) .nil))) (.node 131 (Tryz.f131,[]) (.node 128 (Tryz.f128,[]) (.node 127 (Tryz.f127,[]) (.node 126 (Tryz.f126,[]) .nil .nil) .nil) (.node 130 (Tryz.f130,[]) (.node 129 (Tryz.f129,[]) .nil .nil) .nil)) (.node 137 (Tryz.f137,[]) (.node 136 (Tryz.f136,[]) (.node 135 (Tryz.f135,[]) .nil .nil) .nil) (.node 139 (Tryz.f139,[]) (.node 138 (Tryz.f138,[]) .nil .nil) .nil)))) (.node 172 (Tryz.f172,[]) (.node 166 (Tryz.f166,[(2,.take 0 (.take 1 (.take 2 (.take 3 (.take 4 (.take 5 (.take 6 (.take 7 (.take 8 .nil))))))))),(6,.take 0 (.take 1 (.take 2 (.take 3 (.take 4 (.take 5 (.take 6 (.take 7 (.take 8 .nil)))))))))]) (.node 154 (Tryz.f154,[(6,.take 0 (.take 1 (.take 2 (.take 3 (.take 4 (.take 5 (.take 6 (.take 7 (.take 8 (.take 9 (.take 10 (.take 11 .nil))))))))))))]) (.node 153 (Tryz.f153,[(8,.take 0 (.take 1 (.take 2 (.take 3 (.take 4 (.take 5 (.take 6 (.one 7 [6] (.one 8 [4] (.take 9 (.take 10 (.one 11 [] .nil))))))))))))]) (.node 152 (Tryz.f152,[]) .nil .nil) .nil) (.node 157 (Tryz.f157,[]) (.node 156 (Tryz.f156,[]) .nil .nil) .nil)) (.node 169 (Tryz.f169,[]) (.node 168 (Tryz.f168,[]) (.node 167 (Tryz.f167,[(11,.take 0 (.take 1 (.take 2 (.take 3 (.take 4 (.take 5 (.take 6 (.take 7 (.one 8 [] .nil))))))))),(15,.take 0 (.take 1 (.take 2 (.take 3 (.take 4 (.take 5 (.take 6 (.take 7 (.one 8 [] .nil)))))))))]) .nil .nil) .nil) (.node 171 (Tryz.f171,[(3,.take 0 (.take 1 (.take 2 (.take 3 (.take 4 (.take 5 (.take 6 (.take 7 (.take 8 (.take 9 (.take 10 (.take 11 (.take 12 (.take 13 (.take 14 (.take 15 (.take 16 (.take 17 (.take 18 (.take 19 (.take 20 (.take 21 (.take 22 (.take 23 (.take 24 (.take 25 (.one 26 [4,10,14,19,23] .nil))))))))))))))))))))))))))),(13,.take 0 (.take 1 (.take 2 (.take 3 (.take 4 (.take 5 (.take 6 (.take 7 (.take 8 (.take 9 (.take 10 (.take 11 (.take 12 (.one 13 [6,8,10] .nil)))))))))))))),(15,.take 0 (.take 1 (.take 2 (.take 3 (.take 4 (.take 5 (.take 6 (.one 7 [] (.take 8 (.take 9 (.one 10 [4] .nil)))))))))))]) (.node 170 (Tryz.f170,[]) .nil .nil) .nil))) (.node 180 (Tryz.f180,[]) (.node 177 (Tryz.f177,[]) (.node 176 (Tryz.f176,[]) (.node 175 (Tryz.f175,[]) .nil .nil) .nil) (.node 179 (Tryz.f179,[]) (.node 178 (Tryz.f178,[]) .nil .nil) .nil)) (.node 183 (Tryz.f183,[]) (.node 182 (Tryz.f182,[]) (.node 181 (Tryz.f181,[]) .nil .nil) .nil) (.node 184 (Tryz.f184,[(3,.take 0 (.take 1 (.take 2 (.take 3 (.take 4 (.take 5 (.take 6 (.take 7 (.take 8 (.take 9 (.take 10 (.take 11 (.take 12 (.one 13 [7,11] (.take 14 (.one 15 [] .nil))))))))))))))))]) .nil .nil)))))
def b6v:TT:=.node 108 (.st 4 [(0,1,false),(1,1,false),(2,1,false),(3,1,false)] [.map none,.map none,.slice none 0 0,.int .i64 0]) (.node 38 (.sl 89 4 32 true [.string ⟨#[]⟩,.int .i64 0,.bool false,.bool false]) (.node 25 (.sl 191 3 32 true [.int .i64 0,.string ⟨#[]⟩,.int .i64 0]) (.node 21 (.sc (.int .i32) 1 (.int .i32 0)) (.node 5 (.sc (.int .u8) 1 (.int .u8 0)) (.node 4 (.sc .bool 1 (.bool false)) (.node 3 (.sc (.int .i64) 1 (.int .i64 0)) .nil .nil) .nil) (.node 9 (.sc .string 1 (.string ⟨#[]⟩)) .nil .nil)) (.node 23 (.sl 197 5 40 true [.int .i64 0,.int .i64 0,.string ⟨#[]⟩,.bool false,.bool false]) (.node 22 (.sl 9 1 16 false [.string ⟨#[]⟩]) .nil .nil) (.node 24 (.sl 252 2 24 true [.string ⟨#[]⟩,.int .i64 0]) .nil .nil))) (.node 30 (.sl 81 4 32 true [.int .i64 0,.int .i64 0,.int .i64 0,.bool false]) (.node 28 (.sl 27 6 120 true [.string ⟨#[]⟩,.slice none 0 0,.slice none 0 0,.slice none 0 0,.slice none 0 0,.int .i64 0]) (.node 27 (.st 6 [(0,1,false),(1,1,false),(2,1,false),(3,1,false),(4,1,false),(5,1,false)] [.string ⟨#[]⟩,.slice none 0 0,.slice none 0 0,.slice none 0 0,.slice none 0 0,.int .i64 0]) .nil .nil) (.node 29 (.sl 3 1 8 false [.int .i64 0]) .nil .nil)) (.node 33 (.st 3 [(0,1,false),(1,1,false),(2,1,false)] [.slice none 0 0,.slice none 0 0,.int .i64 0]) (.node 31 (.sl 94 3 48 true [.int .i64 0,.string ⟨#[]⟩,.slice none 0 0]) .nil .nil) (.node 34 (.sc (.int .i64) 1 (.int .i64 0)) .nil .nil)))) (.node 91 (.st 3 [(0,1,false),(1,1,false),(2,1,false)] [.int .i64 0,.int .i64 0,.int .i64 0]) (.node 73 (.sl 91 3 24 true [.int .i64 0,.int .i64 0,.int .i64 0]) (.node 42 (.st 5 [(0,1,false),(1,1,false),(2,1,false),(3,1,false),(4,1,false)] [.slice none 0 0,.slice none 0 0,.slice none 0 0,.slice none 0 0,.int .i64 0]) (.node 40 (.sl 75 3 56 true [.bool false,.slice none 0 0,.slice none 0 0]) (.node 39 (.sl 143 2 24 true [.string ⟨#[]⟩,.int .i64 0]) .nil .nil) .nil) (.node 68 (.st 2 [(0,1,false),(1,1,false)] [.int .i64 0,.int .i64 0]) .nil .nil)) (.node 81 (.st 4 [(0,1,false),(1,1,false),(2,1,false),(3,1,false)] [.int .i64 0,.int .i64 0,.int .i64 0,.bool false]) (.node 75 (.st 3 [(0,1,false),(1,1,false),(2,1,false)] [.bool false,.slice none 0 0,.slice none 0 0]) .nil .nil) (.node 89 (.st 4 [(0,1,false),(1,1,false),(2,1,false),(3,1,false)] [.string ⟨#[]⟩,.int .i64 0,.bool false,.bool false]) .nil .nil))) (.node 103 (.sc (.pointer 108) 1 (.pointer none)) (.node 94 (.st 3 [(0,1,false),(1,1,false),(2,1,false)] [.int .i64 0,.string ⟨#[]⟩,.slice none 0 0]) (.node 92 (.sl 96 2 24 true [.int .i64 0,.string ⟨#[]⟩]) .nil .nil) (.node 96 (.st 2 [(0,1,false),(1,1,false)] [.int .i64 0,.string ⟨#[]⟩]) .nil .nil)) (.node 105 (.sc (.map 9 3) 1 (.map none)) (.node 104 (.sc (.map 9 27) 1 (.map none)) .nil .nil) (.node 106 (.sl 112 7 128 true [.string ⟨#[]⟩,.slice none 0 0,.slice none 0 0,.slice none 0 0,.slice none 0 0,.int .i64 0,.int .i64 0]) .nil .nil))))) (.node 186 (.sl 110 1 8 false [.nilFunc]) (.node 152 (.sc (.func #[75] #[4] false) 1 (.nilFunc)) (.node 145 (.sc (.pointer 149) 1 (.pointer none)) (.node 114 (.sc (.pointer 33) 1 (.pointer none)) (.node 112 (.st 7 [(0,6,true),(6,1,false)] [.string ⟨#[]⟩,.slice none 0 0,.slice none 0 0,.slice none 0 0,.slice none 0 0,.int .i64 0,.int .i64 0]) (.node 110 (.sc (.func #[27] #[34] false) 1 (.nilFunc)) .nil .nil) .nil) (.node 143 (.st 2 [(0,1,false),(1,1,false)] [.string ⟨#[]⟩,.int .i64 0]) .nil .nil)) (.node 147 (.sl 154 1 24 false [.slice none 0 0]) (.node 146 (.sc (.pointer 42) 1 (.pointer none)) .nil .nil) (.node 149 (.st 4 [(0,1,false),(1,1,false),(2,1,false),(3,1,false)] [.pointer none,.slice none 0 0,.slice none 0 0,.int .i64 0]) .nil .nil))) (.node 167 (.sc (.func #[165,3,3] #[] false) 1 (.nilFunc)) (.node 161 (.sc (.pointer 169) 1 (.pointer none)) (.node 154 (.sl 233 7 56 true [.int .i64 0,.int .i64 0,.int .i64 0,.int .i64 0,.int .i64 0,.int .i64 0,.bool false]) .nil .nil) (.node 165 (.sc (.pointer 89) 1 (.pointer none)) .nil .nil)) (.node 183 (.sl 5 1 1 false [.int .u8 0]) (.node 169 (.st 7 [(0,5,true),(5,1,false),(6,1,false)] [.slice none 0 0,.slice none 0 0,.slice none 0 0,.slice none 0 0,.int .i64 0,.int .i64 0,.slice none 0 0]) .nil .nil) (.node 184 (.sl 28 1 24 false [.slice none 0 0]) .nil .nil)))) (.node 247 (.sc (.func #[94,3] #[3] false) 1 (.nilFunc)) (.node 233 (.st 7 [(0,3,true),(3,4,true)] [.int .i64 0,.int .i64 0,.int .i64 0,.int .i64 0,.int .i64 0,.int .i64 0,.bool false]) (.node 197 (.st 5 [(0,1,false),(1,1,false),(2,1,false),(3,1,false),(4,1,false)] [.int .i64 0,.int .i64 0,.string ⟨#[]⟩,.bool false,.bool false]) (.node 191 (.st 3 [(0,1,false),(1,1,false),(2,1,false)] [.int .i64 0,.string ⟨#[]⟩,.int .i64 0]) (.node 188 (.sc (.map 3 199) 1 (.map none)) .nil .nil) .nil) (.node 201 (.st 5 [(0,1,false),(1,1,false),(2,1,false),(3,1,false),(4,1,false)] [.int .i64 0,.int .i64 0,.int .i64 0,.int .i64 0,.int .i64 0]) .nil .nil)) (.node 243 (.sc (.func #[81,3] #[3] false) 1 (.nilFunc)) (.node 235 (.sc (.func #[233] #[4] false) 1 (.nilFunc)) .nil .nil) (.node 245 (.sc (.func #[91,3] #[3] false) 1 (.nilFunc)) .nil .nil))) (.node 287 (.sc (.func #[21] #[4] false) 1 (.nilFunc)) (.node 257 (.sc (.int .u64) 1 (.int .u64 0)) (.node 252 (.st 2 [(0,1,false),(1,1,false)] [.string ⟨#[]⟩,.int .i64 0]) .nil .nil) (.node 284 (.sc (.int .u64) 1 (.int .u64 0)) .nil .nil)) (.node 319 (.sc (.func #[143] #[4] false) 1 (.nilFunc)) (.node 303 (.sc (.func #[89] #[4] false) 1 (.nilFunc)) .nil .nil) (.node 321 (.sc (.func #[91] #[4] false) 1 (.nilFunc)) .nil .nil)))))
def b6L:List (Nat×Value):=[(104,.agg #[.string ⟨#[]⟩,.slice none 0 0,.slice none 0 0,.slice none 0 0,.slice none 0 0,.int .i64 0]),(105,.int .i64 0),(188,.pointer none),(309,.agg #[.bool false,.bool false,.bool false])]
noncomputable def cxK:Cx:=⟨b6v,cxQ,b6L,b6e,cxM⟩
theorem b7H:FOk Tryz.prog cxK:=by
 have hT:BT.All (fun t ti=>(a8J Tryz.prog t=some ti/\ti.okB=true)/\ti.zeros.all cOk=true) b6v:=by
  unfold b6v
  repeat' (first|exact BT.All.nil|refine BT.All.node ⟨⟨by kernel_rfl,by kernel_rfl⟩,by kernel_rfl⟩ ?_ ?_)
 have hZ:ForA (fun p:Nat×Value=>∃ Kt Et,Tryz.prog.underlying p.1=some (.map Kt Et)/\(Tryz.prog.info? Et).bind (·.zero)=some p.2/\zOk p.2=true) b6L:=by
  unfold b6L;exact ForA.cons ⟨9,27,by kernel_rfl,by kernel_rfl,by kernel_rfl⟩ (ForA.cons ⟨9,3,by kernel_rfl,by kernel_rfl,by kernel_rfl⟩ (ForA.cons ⟨3,199,by kernel_rfl,by kernel_rfl,by kernel_rfl⟩ (ForA.cons ⟨3,307,by kernel_rfl,by kernel_rfl,by kernel_rfl⟩ (ForA.nil))))
 have hF:BT.All (fun g (x:Func×List (Nat×Pl))=>a3D Tryz.prog g x.1/\∃ c,x.1.body=some c/\a4N x.1.ntmps x.2 c=true) b6e:=by
  unfold b6e
  repeat' (first|exact BT.All.nil|refine BT.All.node ⟨⟨by kernel_rfl,by kernel_rfl,by kernel_rfl⟩,_,rfl,by kernel_rfl⟩ ?_ ?_)
 exact ⟨⟨fun t ti h=>(hT.get h).1,fun t ti h=>(hT.get h).2,b6P,b5s hZ⟩,by kernel_rfl,hF,b64⟩
theorem a51 (w:World):Fn Tryz.prog 21 [] w (RBf (.bool true) w):=b6G b7H 60 (by kernel_rfl) rfl (fun _=>VR.cOk (v:=.bool true) rfl) w
theorem a3U {α:Type} {e:α} {X E E' R:List α} (hE:E.Perm (e::E')):(X++(E++R)).Perm (e::(X++(E'++R))):=((hE.append_right R).append_left X).trans xm7
theorem Came.owns {w w':World} {k:KV} (h:Came w w' k):St nF w w' (a37 k):=by
 rcases h with ⟨rfl,h⟩|h
 ·exact (((h.addNil 94 3).addNil 75 3).addNil 143 2).addNil 89 4
 ·exact h
theorem b2u (a b c h:Asr) (E FX AR P:List Asr):(a::b::c::((E++h::(FX++AR))++P)).Perm (b::c::((E++AR)++(a::h::(FX++P)))):=by
 haveI:DecidableEq Asr:=fun _ _=>Classical.propDecidable _
 rw [List.perm_iff_count];intro x;simp only [List.count_cons,List.count_append];omega
theorem b0U (a b c d h:Asr) (E Q P:List Asr):(a::b::c::d::((E++h::Q)++P)).Perm (h::a::(P++(b::c::d::(E++Q)))):=by
 haveI:DecidableEq Asr:=fun _ _=>Classical.propDecidable _
 rw [List.perm_iff_count];intro x;simp only [List.count_cons,List.count_append];omega
def spoil:List UInt8:=[115,112,111,105,108,116]
structure b6E (x y:Sp):Prop where
 live:y.s.live=x.s.live
 va:y.va=x.va
 ve:y.ve=x.ve
 ne:y.s.entries.length=x.s.entries.length
 na:y.s.areas.length=x.s.areas.length
theorem b7P {K:Ker} {space addr size way:Int} (h:okR K space addr size way):∃ sp:Nat,space=(sp:Nat)/\ReOk K sp addr size/\a4u K space addr size way=a1I K sp addr size (decide (way=1))/\ReOk (a1I K sp addr size (decide (way=1))) sp addr size:=by
 obtain ⟨sp,hsp,hr,h1,h2,h3,h4,h5,h6⟩:=b6d h;obtain ⟨r1,r2,-⟩:=b2o hr (sp:=sp) (by omega) h1 h2 h6 (decide (way=1));exact ⟨sp,hsp,⟨hr,by omega,h1,h2,h6⟩,h5,⟨r1,by omega,h1,h2,fun i h0 h1=>(h6 i h0 h1).same r2.ar r2.live⟩⟩
theorem a6O {w:World} {k:KV} (hK:KerV w k) {space addr size way:Int} (hb0:-9223372036854775808<=addr) (hb1:addr<=9223372036854775807) {A:List Ar} {Lp:List (Sh×Value)} {va vs:Value} {en:Int} (hA:Sl nF w 4 va (A.map arC)) (hL:ShsV w Lp vs) (hen:-9223372036854775808<=en) (hen2:en<=9223372036854775807):Fn Tryz.prog 7 [.agg (kvC k).toArray,.int .i64 space,.int .i64 addr,.int .i64 size,.int .i64 way,lkA va vs en] w (RBf (.bool true) w):=by
 have hcr:=fun w1 (h:KerV w1 k)=>a5M h;have hbg:=a51;obtain ⟨pa,ca,rfl⟩:=hA.len;obtain ⟨ph,ch,rfl⟩:=hL.sl.len;by_cases hc:a0N k.K=0;rotate_left
 ·generalize a0N k.K=c at hc hcr;have hd:(!decide (c=0))=true:=by rw [xj0 hc];rfl
  obtain ⟨sh,fr,sl,sps,hand,vsh,vfr,vsl,vsp⟩:=k;have hK0:=hK;obtain ⟨k1,k2,k3,k4,k5⟩:=hK;dsimp only at k1 k2 k3 k4 k5;obtain ⟨p1,c1,rfl⟩:=k1.sl.len;obtain ⟨p2,c2,rfl⟩:=k2.len;obtain ⟨p3,c3,rfl⟩:=k3.len;obtain ⟨p4,c4,rfl⟩:=k4.len;unfold kvC at hcr |-;unfold lkA;dsimp only at hcr |-;refine yEn Tryz.func7 Tryz.ntmps7 (by kernel_rfl) (by kernel_rfl) rfl rfl ?_;have hS:=St.start w
  repeat' (first|(with_reducible apply a8 a7);rfl;rfl;rfl|(with_reducible apply a9);rfl;(apply Ld.st a7;rfl;exact hS.blkR 1 rfl;rfl);rfl|refine yDn (by with_reducible constructor) ?_|(with_reducible apply f6);rfl;assumption|(with_reducible apply l8 hS);rfl;rfl;rfl;clear hS;intro g w' hS|(with_reducible apply d7 hS);rfl;rfl;rfl;refine ⟨_,hcr _ (hK0.now hS),?_⟩;clear hS;intro w' hS|(with_reducible apply d7 hS);rfl;rfl;rfl;refine ⟨_,hbg _,?_⟩;clear hS;intro w' hS)
  (refine k7 rfl ?_)
  exact ⟨rfl,hS.sub (xj1 _)⟩
 have hr:=a2Z.1 hc;have hf:=fun w1 (h:KerV w1 k)=>b3C h (space:=space) (size:=size) (way:=way) hb0 hb1;have hnew:=fun w1 Γ1 (h:St nF w w1 Γ1)=>b6U (hA.now h) (hL.now h) hen hen2 (frames:=3) (slots:=512);have hre:=fun w1 (h:KerV w1 k)=>b0j h space size way;have hro:=fun w1 (h:KerV w1 k) sp (ho:ReOk k.K sp addr size)=>a9u h ho (way:=way);have hown:=fun w1 (h:KerV w1 k)=>a8S h (b26 hr);rw [hc] at hcr;obtain ⟨e,he⟩:∃ e,e=a0T k.K space size way:=⟨_,rfl⟩;obtain ⟨e2,he2⟩:∃ e2,e2=b2N A (shs Lp) en 3 512:=⟨_,rfl⟩;obtain ⟨F,hF⟩:∃ F,F=a4B k.K space addr size way:=⟨_,rfl⟩;obtain ⟨K,hKe⟩:∃ K,K=k.K:=⟨_,rfl⟩;rw [<- he,<- hF] at hf;rw [<- he] at hre;rw [<- he2] at hnew;have hz:a4D F=.agg #[.int .i64 F.1,.int .i64 F.2]:=rfl;rw [hz] at hf;rw [<- hKe] at hown hf hr he hF hro;obtain ⟨sh,fr,sl,sps,hand,vsh,vfr,vsl,vsp⟩:=k;have hK0:=hK;obtain ⟨k1,k2,k3,k4,k5⟩:=hK;dsimp only at k1 k2 k3 k4 k5;obtain ⟨p1,c1,rfl⟩:=k1.sl.len;obtain ⟨p2,c2,rfl⟩:=k2.len;obtain ⟨p3,c3,rfl⟩:=k3.len;obtain ⟨p4,c4,rfl⟩:=k4.len;unfold kvC at hcr hf hre hown hro |-;unfold lkA at hnew |-;dsimp only at hcr hf hre hown hro |-;refine yEn Tryz.func7 Tryz.ntmps7 (by kernel_rfl) (by kernel_rfl) rfl rfl ?_;have hS:=St.start w
 (repeat ((refine yDn (by with_reducible constructor) ?_)))
 (((with_reducible apply l8 hS);rfl;rfl;rfl);clear hS;intro g6 w' hS)
 (((with_reducible apply l8 hS);rfl;rfl;rfl);clear hS;intro g11 w' hS)
 repeat' (first|(with_reducible apply a8 a7);rfl;rfl;rfl|(with_reducible apply a9);rfl;(apply Ld.st a7;rfl;exact hS.blkR 1 rfl;rfl);rfl|refine yDn (by with_reducible constructor) ?_|(with_reducible apply d7 hS);rfl;rfl;rfl;refine ⟨_,hcr _ (hK0.now hS),?_⟩;clear hS;intro w' hS|first|(with_reducible apply f8);rfl;rfl|(with_reducible apply r6);rfl;rfl;rfl;refine ⟨_,hown _ (hK0.now hS),?_⟩;rintro _ w2 ⟨k0,rfl,hk0,h2⟩)
 have hc0:=a8k h2;have hV:=hc0.V;obtain ⟨Δ0,hD0,hV0⟩:=(hc0).keep;replace hS:=(hS.trans hD0).perm xm4;simp only [List.cons_append,List.nil_append,xg0] at hS;clear hD0;obtain ⟨k0sh,k0fr,k0sl,k0sp,k0hand,k0vsh,k0vfr,k0vsl,k0vsp⟩:=k0;obtain ⟨k0m1,k0m2,k0m3,k0m4,-⟩:=hV;dsimp only at k0m1 k0m2 k0m3 k0m4;obtain ⟨k0x1,k0y1,rfl⟩:=k0m1.sl.len;obtain ⟨k0x2,k0y2,rfl⟩:=k0m2.len;obtain ⟨k0x3,k0y3,rfl⟩:=k0m3.len;obtain ⟨k0x4,k0y4,rfl⟩:=k0m4.len;clear k0m1 k0m2 k0m3 k0m4
 repeat' (first|(with_reducible apply a8 a7);rfl;rfl;rfl|(with_reducible apply a9);rfl;(apply Ld.st a7;rfl;exact hS.blkR 2 rfl;rfl);rfl|refine yDn (by with_reducible constructor) ?_|(with_reducible apply d8 hS a7);rfl;rfl;rfl;clear hS;intro g w' hS|(with_reducible apply b8 hS a7 (i:=0));(iterate 8 rfl);exact (rfl:_=[_,_,_,_,_]);clear hS;intro w' hS;simp only [List.set] at hS|(with_reducible apply r6);rfl;rfl;rfl;refine ⟨_,hf _ (hK0.now hS),?_⟩;rintro _ w2 ⟨k1,rfl,hk1,hc1⟩)
 rename Nat=>g13
 have hV:=hc1.V;replace hS:=hS.trans hc1.owns;obtain ⟨P0,hP⟩:∃ P0:List Asr,P0=.blk g13 [.slice k0x1 k0sh.length k0y1,.slice k0x2 k0fr.length k0y2,.slice k0x3 k0sl.length k0y3,.slice k0x4 k0sp.length k0y4,.int .i64 k0hand]::.blk g11 [.slice pa A.length ca,.slice ph Lp.length ch,.int .i64 en]::.blk g6 [.slice p1 sh.length c1,.slice p2 fr.length c2,.slice p3 sl.length c3,.slice p4 sps.length c4,.int .i64 hand]::Δ0:=⟨_,rfl⟩;rw [<- hP] at hS;obtain ⟨sh1,fr1,sl1,sp1,hand1,vsh1,vfr1,vsl1,vsp1⟩:=k1;obtain ⟨q1,d1,rfl⟩:∃ p c,vsh1=.slice p sh1.length c:=hV.sh.sl.len;obtain ⟨q2,d2,rfl⟩:∃ p c,vfr1=.slice p fr1.length c:=hV.fr.len;obtain ⟨q3,d3,rfl⟩:∃ p c,vsl1=.slice p sl1.length c:=hV.sl.len;obtain ⟨q4,d4,rfl⟩:∃ p c,vsp1=.slice p sp1.length c:=hV.sp.len;have hbf:=hV.fr.bound;have hbs:=hV.sp.bound;have hbh:=hV.sh.sl.bound;dsimp only at hbf hbs hbh;clear hV hc1 hown
 (repeat (fail))
 (((with_reducible apply d8 hS a7);rfl;rfl;rfl);clear hS;intro g14 w' hS)
 (((with_reducible apply d8 hS a7);rfl;rfl;rfl);clear hS;intro g15 w' hS)
 repeat' (first|(with_reducible apply a8 a7);rfl;rfl;rfl|refine yDn (by with_reducible constructor) ?_|(with_reducible apply b8 hS a7 (i:=0));(iterate 8 rfl);exact (rfl:_=[_,_]);clear hS;intro w' hS;simp only [List.set] at hS|(with_reducible apply b8 hS a7 (i:=1));(iterate 8 rfl);exact (rfl:_=[_,_,_,_,_]);clear hS;intro w' hS;simp only [List.set] at hS)
 unfold a37 frA slA a04 a0H at hS;dsimp only [List.cons_append,List.nil_append] at hS;replace hS:=hS.reorderT 3 [2,0,1] (by decide) rfl;simp only [v6,xl6,xl7] at hS;refine k9 (F:=nF) (w0:=w) (X:=Nat×List Fm) (fun x=>[(17,.int .i64 (x.1:Nat))]) [1,2,3,4,6,11,13,14,16] rfl (fun x=>[.row 89 4 (.slice q2 fr1.length d2) (x.2.map fmC)]) (fun x=>x.1<=fr1.length/\x.2.length=fr1.length) (fun x=>fr1.length - x.1) (0,fr1) (by exact Fr.sub_of rfl) ⟨xg4 _,rfl⟩ hS ?_;clear hS;rintro ⟨i,M⟩ w3 ⟨hi,hM⟩ hS;dsimp only [List.cons_append,List.nil_append] at hi hM hS |-;by_cases hlt:i < fr1.length
 ·obtain ⟨fm,hfm⟩:=j0 (l:=M) (i:=i) (by omega);have hrow:=c9 (f:=fmC) hfm;unfold fmC at hrow;obtain ⟨gf,rfl⟩:=hS.rowSome 0 rfl (by omega);have est:(M.map fmC).set i (o6 [.string ⟨fm.data.toArray⟩,.int .i64 fm.refs,.bool fm.dirty,.bool fm.seen] 0 [.string ⟨spoil.toArray⟩,.int .i64 0,.bool false,.bool false])=(M.set i ⟨spoil,0,false,false⟩).map fmC:=by rw [xl1];rfl
  repeat' (first|(with_reducible apply a8 a7);rfl;rfl;rfl|(with_reducible apply a9);rfl;(apply Ld.sl a7;rfl;exact hS.blkC 2 rfl rfl);rfl|(with_reducible apply l7 a7);rfl;rfl;rfl;rfl;omega;rfl|(with_reducible apply j4);rfl;rfl;omega;omega;rfl|(with_reducible apply n7 a7);rfl;rfl;exact (rfl:_=some [_,_,_,_]);rfl|refine yDn (by with_reducible constructor) ?_|(with_reducible apply b9);rfl;all_goals (intro hb hp;try (exfalso;omega))|(with_reducible apply o5 hS a7 (i:=0));(iterate 4 rfl);assumption;(iterate 5 rfl);intro w' hS';simp only [List.set] at hS';clear hS;have hS:=hS';clear hS')
  replace hS:=est ▸ hS;exact e9 (i + 1,M.set i ⟨spoil,0,false,false⟩) (by exact Fr.sub_of rfl) ⟨by show i + 1<=fr1.length;omega,by show (M.set i _).length=_;rw [xa8];exact hM⟩ hS (by show fr1.length - (i + 1) < fr1.length - i;omega)
 obtain rfl:i=fr1.length:=by omega
 repeat' (first|(with_reducible apply a8 a7);rfl;rfl;rfl|(with_reducible apply a9);rfl;(apply Ld.sl a7;rfl;exact hS.blkC 2 rfl rfl);rfl|refine yDn (by with_reducible constructor) ?_|(with_reducible apply b9);rfl;all_goals (intro hb hp;try (exfalso;omega)))
 replace hS:=hS.reorderT 5 [1,2,4] (by decide) rfl;simp only [v6,xl6,xl7] at hS;replace hS:=hS.perm (b2u _ _ _ _ _ _ _ _);obtain ⟨R2,hR2⟩:∃ R2:List Asr,R2=.blk g15 [.int .i64 F.1,.int .i64 F.2]::.row 94 3 (.slice q1 sh1.length d1) (a1E sh1)::(sh1.map fxA++P0):=⟨_,rfl⟩;rw [<- hR2] at hS;refine k9 (F:=nF) (w0:=w) (X:=Nat×List Sp) (fun x=>[(18,.int .i64 (x.1:Nat))]) [1,2,3,4,6,11,13,14,16] rfl (fun x=>.blk g14 [.slice q1 sh1.length d1,.slice q2 fr1.length d2,.slice q3 sl1.length d3,.slice q4 sp1.length d4,.int .i64 hand1]::.row 75 3 (.slice q4 sp1.length d4) (sp1.map spC)::(x.2.map a0c++x.2.map a35)) (fun x=>x.1<=sp1.length/\x.2.length=sp1.length/\∀ (j:Nat) a b,sp1[j]?=some a->x.2[j]?=some b->b6E a b) (fun x=>sp1.length - x.1) (0,sp1) (by exact Fr.sub_of rfl) ⟨xg4 _,rfl,fun j a b h1 h2=>by rw [h1] at h2;cases h2;exact ⟨rfl,rfl,rfl,rfl,rfl⟩⟩ hS ?_;clear hS;rintro ⟨i,S⟩ w4 ⟨hi,hSl,hlk⟩ hS;dsimp only [List.cons_append,List.nil_append] at hi hSl hlk hS |-;by_cases hlt2:i < sp1.length
 ·obtain ⟨x0,hx0⟩:=j0 (l:=sp1) (i:=i) (by omega);obtain ⟨x,hx⟩:=j0 (l:=S) (i:=i) (by omega);obtain ⟨k1,k2,k3,k4,k5⟩:=hlk i x0 x hx0 hx;have hrowS:=c9 (f:=spC) hx0;unfold spC at hrowS;rw [<- k1,<- k2,<- k3] at hrowS;obtain ⟨gs,rfl⟩:=hS.rowSome 1 rfl (by omega);rw [xg0] at hS;replace hS:=hS.perm (a3U (X:=[_,_]) (a1T a0c hx));dsimp only [List.cons_append,List.nil_append] at hS;obtain ⟨⟨lv,ars,ens⟩,va',ve'⟩:=x;dsimp only at k1 k2 k3 k4 k5 hrowS;rw [show a0c ⟨⟨lv,ars,ens⟩,va',ve'⟩=.row 91 3 ve' (ens.map enC) from rfl] at hS;obtain ⟨pe,ce,rfl⟩:=hS.rowSlice 0 rfl;rw [xi9] at hS hrowS hx;have hbe:=(hS.rowSl 0 rfl).bound
  try rw [xi9] at hbe
  repeat' (first|(with_reducible apply a8 a7);rfl;rfl;rfl|(with_reducible apply a9);rfl;(apply Ld.sl a7;rfl;exact hS.blkC 1 rfl rfl);rfl|refine yDn (by with_reducible constructor) ?_|(with_reducible apply b9);rfl;all_goals (intro hb hp;try (exfalso;omega)))
  refine k9 (F:=nF) (w0:=w) (X:=Nat×List En) (fun x=>[(19,.int .i64 (x.1:Nat))]) [1,2,3,4,6,11,13,14,16,18] rfl (fun x=>[.row 91 3 (.slice pe ens.length ce) (x.2.map enC)]) (fun x=>x.1<=ens.length/\x.2.length=ens.length) (fun x=>ens.length - x.1) (0,ens) (by exact Fr.sub_of rfl) ⟨xg4 _,rfl⟩ hS ?_;clear hS;rintro ⟨j,L⟩ w5 ⟨hj,hLl⟩ hS;dsimp only [List.cons_append,List.nil_append] at hj hLl hS |-;by_cases hjl:j < ens.length
  ·obtain ⟨en0,hen0⟩:=j0 (l:=L) (i:=j) (by omega);have hrow:=c9 (f:=enC) hen0;unfold enC at hrow;obtain ⟨ge,hge⟩:=hS.rowSome (p:=pe) (n:=ens.length) (cap:=ce) (sz:=3) 0 rfl (by omega);subst hge;have est:(L.map enC).set j (o6 [.int .i64 en0.page,.int .i64 en0.kind,.int .i64 en0.at_] 0 [.int .i64 0,.int .i64 0,.int .i64 0])=(L.set j ⟨0,0,0⟩).map enC:=by rw [xl1];rfl
   repeat' (first|(with_reducible apply a8 a7);rfl;rfl;rfl|(with_reducible apply a9);rfl;(apply Ld.sl a7;rfl;(first|exact hS.blkC 1 rfl rfl|exact hS.rowCj 2 rfl (by assumption) rfl));rfl|(with_reducible apply l7 a7);rfl;rfl;rfl;rfl;omega;rfl|(with_reducible apply j4);rfl;rfl;omega;omega;rfl|(with_reducible apply n7 a7);rfl;rfl;exact (rfl:_=some [_,_,_]);rfl|refine yDn (by with_reducible constructor) ?_|(with_reducible apply b9);rfl;all_goals (intro hb hp;try (exfalso;omega))|(with_reducible apply o5 hS a7 (i:=0));(iterate 4 rfl);assumption;(iterate 5 rfl);intro w' hS';simp only [List.set] at hS';clear hS;have hS:=hS';clear hS')
   replace hS:=est ▸ hS;exact e9 (j + 1,L.set j ⟨0,0,0⟩) (by exact Fr.sub_of rfl) ⟨by show j + 1<=ens.length;omega,by show (L.set j _).length=_;rw [xa8];exact hLl⟩ hS (by show ens.length - (j + 1) < ens.length - j;omega)
  obtain rfl:j=ens.length:=by omega
  have a02:∀ y:Sp,(S.set i y)[i]?=some y:=fun y=>a2f (by omega);have hAr:(S.set i ⟨⟨lv,ars,L⟩,va',.slice pe ens.length ce⟩).map a35=S.map a35:=by
   rw [xl1];exact a15 (by rw [xh6,hx];rfl)
  have hE1:=a1T a0c (a02 ⟨⟨lv,ars,L⟩,va',.slice pe ens.length ce⟩);rw [a1z] at hE1;replace hS:=hS.perm (a3U (X:=[_,_]) hE1).symm;dsimp only [List.cons_append,List.nil_append] at hS;rw [<- hAr] at hS;replace hS:=hS.perm (a3U (X:=_::_::_) (a1T a35 (a02 ⟨⟨lv,ars,L⟩,va',.slice pe ens.length ce⟩)));rw [a1z] at hS;dsimp only [List.cons_append,List.nil_append] at hS;rw [show a35 ⟨⟨lv,ars,L⟩,va',.slice pe ens.length ce⟩=.row 81 4 va' (ars.map arC) from rfl] at hS;obtain ⟨pu,cu,rfl⟩:=hS.rowSlice 0 rfl;rw [xi9] at hS hrowS hx;have hbu:=(hS.rowSl 0 rfl).bound
  try rw [xi9] at hbu
  repeat' (first|(with_reducible apply a8 a7);rfl;rfl;rfl|(with_reducible apply a9);rfl;(apply Ld.sl a7;rfl;(first|exact hS.blkC 1 rfl rfl|exact hS.rowCj 2 rfl (by assumption) rfl));rfl|(with_reducible apply l7 a7);rfl;rfl;rfl;rfl;omega;rfl|refine yDn (by with_reducible constructor) ?_|(with_reducible apply b9);rfl;all_goals (intro hb hp;try (exfalso;omega)))
  refine k9 (F:=nF) (w0:=w) (X:=Nat×List Ar) (fun x=>[(20,.int .i64 (x.1:Nat))]) [1,2,3,4,6,11,13,14,16,18] rfl (fun x=>[.row 81 4 (.slice pu ars.length cu) (x.2.map arC)]) (fun x=>x.1<=ars.length/\x.2.length=ars.length) (fun x=>ars.length - x.1) (0,ars) (by exact Fr.sub_of rfl) ⟨xg4 _,rfl⟩ hS ?_;clear hS;rintro ⟨j,M2⟩ w6 ⟨hj2,hMl⟩ hS;dsimp only [List.cons_append,List.nil_append] at hj2 hMl hS |-;by_cases hjl2:j < ars.length
  ·obtain ⟨a0,ha0⟩:=j0 (l:=M2) (i:=j) (by omega);have hrow:=c9 (f:=arC) ha0;unfold arC at hrow;obtain ⟨ge,hge⟩:=hS.rowSome (p:=pu) (n:=ars.length) (cap:=cu) (sz:=4) 0 rfl (by omega);subst hge;have est:(M2.map arC).set j (o6 [.int .i64 a0.pg,.int .i64 a0.n,.int .i64 a0.prot,.bool a0.z] 0 [.int .i64 0,.int .i64 0,.int .i64 0,.bool false])=(M2.set j ⟨0,0,0,false⟩).map arC:=by rw [xl1];rfl
   repeat' (first|(with_reducible apply a8 a7);rfl;rfl;rfl|(with_reducible apply a9);rfl;(apply Ld.sl a7;rfl;(first|exact hS.blkC 1 rfl rfl|exact hS.rowCj 2 rfl (by assumption) rfl));rfl|(with_reducible apply l7 a7);rfl;rfl;rfl;rfl;omega;rfl|(with_reducible apply j4);rfl;rfl;omega;omega;rfl|(with_reducible apply n7 a7);rfl;rfl;exact (rfl:_=some [_,_,_,_]);rfl|refine yDn (by with_reducible constructor) ?_|(with_reducible apply b9);rfl;all_goals (intro hb hp;try (exfalso;omega))|(with_reducible apply o5 hS a7 (i:=0));(iterate 4 rfl);assumption;(iterate 5 rfl);intro w' hS';simp only [List.set] at hS';clear hS;have hS:=hS';clear hS')
   replace hS:=est ▸ hS;exact e9 (j + 1,M2.set j ⟨0,0,0,false⟩) (by exact Fr.sub_of rfl) ⟨by show j + 1<=ars.length;omega,by show (M2.set j _).length=_;rw [xa8];exact hMl⟩ hS (by show ars.length - (j + 1) < ars.length - j;omega)
  obtain rfl:j=ars.length:=by omega
  repeat' (first|(with_reducible apply a8 a7);rfl;rfl;rfl|(with_reducible apply a9);rfl;(apply Ld.sl a7;rfl;(first|exact hS.blkC 1 rfl rfl|exact hS.rowCj 2 rfl (by assumption) rfl));rfl|(with_reducible apply l7 a7);rfl;rfl;rfl;rfl;omega;rfl|(with_reducible apply j4);rfl;rfl;omega;omega;rfl|refine yDn (by with_reducible constructor) ?_|(with_reducible apply b9);rfl;all_goals (intro hb hp;try (exfalso;omega)))
  have hEn:(S.set i ⟨⟨lv,M2,L⟩,.slice pu ars.length cu,.slice pe ens.length ce⟩).map a0c=(S.set i ⟨⟨lv,ars,L⟩,.slice pu ars.length cu,.slice pe ens.length ce⟩).map a0c:=by
   rw [xl1,xl1];rfl
  rw [<- hEn] at hS;have hA1:=a1T a35 (a02 ⟨⟨lv,M2,L⟩,.slice pu ars.length cu,.slice pe ens.length ce⟩);rw [a1z] at hA1;replace hS:=hS.perm (a3U (X:=_::_::_) hA1).symm;dsimp only [List.cons_append,List.nil_append] at hS;refine e9 (i + 1,S.set i ⟨⟨lv,M2,L⟩,.slice pu ars.length cu,.slice pe ens.length ce⟩) (by exact Fr.sub_of rfl) ⟨by show i + 1<=sp1.length;omega,by show (S.set i _).length=_;rw [xa8];exact hSl,fun j a b h1 h2=>?_⟩ (by dsimp only [List.cons_append,List.nil_append];rw [xg0];exact hS) (by show sp1.length - (i + 1) < sp1.length - i;omega);by_cases hij:i=j
  ·subst hij;rw [hx0] at h1
   cases h1
   replace h2:(S.set i _)[i]?=some b:=h2;rw [a02] at h2
   cases h2
   rw [xi9] at k2 k3;exact ⟨k1,k2,k3,hLl.trans k4,hMl.trans k5⟩
  ·replace h2:(S.set i _)[j]?=some b:=h2;rw [xn1 hij] at h2;exact hlk j a b h1 h2
 obtain rfl:i=sp1.length:=by omega
 repeat' (first|(with_reducible apply a8 a7);rfl;rfl;rfl|(with_reducible apply a9);rfl;(apply Ld.sl a7;rfl;exact hS.blkC 0 rfl rfl);rfl|refine yDn (by with_reducible constructor) ?_|(with_reducible apply b9);rfl;all_goals (intro hb hp;try (exfalso;omega)))
 rw [hR2] at hS;replace hS:=(hS.sub (.cons_cons _ (.cons _ (xp1 _ _)))).reorderT 3 [0,2,1] (by decide) rfl;simp only [v6,xl6,xl7] at hS;refine k9 (F:=nF) (w0:=w) (X:=Nat×List (Sh×Value)) (fun x=>[(21,.int .i64 (x.1:Nat))]) [1,2,3,4,6,11,13,14,16] rfl (fun x=>.blk g14 [.slice q1 sh1.length d1,.slice q2 fr1.length d2,.slice q3 sl1.length d3,.slice q4 sp1.length d4,.int .i64 hand1]::.row 94 3 (.slice q1 sh1.length d1) (a1E sh1)::.blk g15 [.int .i64 F.1,.int .i64 F.2]::x.2.map fxA) (fun x=>x.1<=sh1.length/\x.2.length=sh1.length/\∀ (j:Nat) a b,sh1[j]?=some a->x.2[j]?=some b->b.2=a.2/\b.1.fixes.length=a.1.fixes.length) (fun x=>sh1.length - x.1) (0,sh1) (by exact Fr.sub_of rfl) ⟨xg4 _,rfl,fun j a b h1 h2=>by rw [h1] at h2;cases h2;exact ⟨rfl,rfl⟩⟩ hS ?_;clear hS;rintro ⟨i,S2⟩ w7 ⟨hi2,hSl2,hlk2⟩ hS;dsimp only [List.cons_append,List.nil_append] at hi2 hSl2 hlk2 hS |-;by_cases hlt3:i < sh1.length
 ·obtain ⟨x0,hx0⟩:=j0 (l:=sh1) (i:=i) (by omega);obtain ⟨x,hx⟩:=j0 (l:=S2) (i:=i) (by omega);obtain ⟨k1,k2⟩:=hlk2 i x0 x hx0 hx;have hrowH:=c9 (f:=fun p:Sh×Value=>shC p.1 p.2) hx0;unfold shC at hrowH;rw [<- k1] at hrowH;obtain ⟨gh,rfl⟩:=hS.rowSome 1 rfl (by omega);replace hS:=hS.perm (a3U (X:=[_,_,_]) (a1T fxA hx));dsimp only [List.cons_append,List.nil_append] at hS;obtain ⟨⟨xp,xd,xf⟩,u⟩:=x;dsimp only at k1 k2 hrowH;rw [show fxA (⟨xp,xd,xf⟩,u)=.row 96 2 u (xf.map fxC) from rfl] at hS;obtain ⟨pu,cu,rfl⟩:=hS.rowSlice 0 rfl;rw [xi9] at hS hrowH hx;have hbu:=(hS.rowSl 0 rfl).bound
  try rw [xi9] at hbu
  unfold a1E at hS
  repeat' (first|(with_reducible apply a8 a7);rfl;rfl;rfl|(with_reducible apply a9);rfl;(apply Ld.sl a7;rfl;exact hS.blkC 1 rfl rfl);rfl|refine yDn (by with_reducible constructor) ?_|(with_reducible apply b9);rfl;all_goals (intro hb hp;try (exfalso;omega)))
  refine k9 (F:=nF) (w0:=w) (X:=Nat×List Fx) (fun x=>[(22,.int .i64 (x.1:Nat))]) [1,2,3,4,6,11,13,14,16,21] rfl (fun x=>[.row 96 2 (.slice pu xf.length cu) (x.2.map fxC)]) (fun x=>x.1<=xf.length/\x.2.length=xf.length) (fun x=>xf.length - x.1) (0,xf) (by exact Fr.sub_of rfl) ⟨xg4 _,rfl⟩ hS ?_;clear hS;rintro ⟨j,L⟩ w8 ⟨hj,hLl⟩ hS;dsimp only [List.cons_append,List.nil_append] at hj hLl hS |-;by_cases hjl:j < xf.length
  ·obtain ⟨f0,hf0⟩:=j0 (l:=L) (i:=j) (by omega);have hrow:=c9 (f:=fxC) hf0;unfold fxC at hrow;obtain ⟨ge,hge⟩:=hS.rowSome (p:=pu) (n:=xf.length) (cap:=cu) (sz:=2) 0 rfl (by omega);subst hge;have est:(L.map fxC).set j (o6 [.int .i64 f0.off,.string ⟨f0.bytes.toArray⟩] 0 [.int .i64 0,.string ⟨#[]⟩])=(L.set j ⟨0,[]⟩).map fxC:=by rw [xl1];rfl
   repeat' (first|(with_reducible apply a8 a7);rfl;rfl;rfl|(with_reducible apply a9);rfl;(apply Ld.sl a7;rfl;(first|exact hS.blkC 1 rfl rfl|exact hS.rowCj 2 rfl (by assumption) rfl));rfl|(with_reducible apply l7 a7);rfl;rfl;rfl;rfl;omega;rfl|(with_reducible apply j4);rfl;rfl;omega;omega;rfl|(with_reducible apply n7 a7);rfl;rfl;exact (rfl:_=some [_,_]);rfl|refine yDn (by with_reducible constructor) ?_|(with_reducible apply b9);rfl;all_goals (intro hb hp;try (exfalso;omega))|(with_reducible apply o5 hS a7 (i:=0));(iterate 4 rfl);assumption;(iterate 5 rfl);intro w' hS';simp only [List.set] at hS';clear hS;have hS:=hS';clear hS')
   replace hS:=est ▸ hS;exact e9 (j + 1,L.set j ⟨0,[]⟩) (by exact Fr.sub_of rfl) ⟨by show j + 1<=xf.length;omega,by show (L.set j _).length=_;rw [xa8];exact hLl⟩ hS (by show xf.length - (j + 1) < xf.length - j;omega)
  obtain rfl:j=xf.length:=by omega
  repeat' (first|(with_reducible apply a8 a7);rfl;rfl;rfl|(with_reducible apply a9);rfl;(apply Ld.sl a7;rfl;(first|exact hS.blkC 1 rfl rfl|exact hS.rowCj 2 rfl (by assumption) rfl));rfl|(with_reducible apply l7 a7);rfl;rfl;rfl;rfl;omega;rfl|(with_reducible apply j4);rfl;rfl;omega;omega;rfl|refine yDn (by with_reducible constructor) ?_|(with_reducible apply b9);rfl;all_goals (intro hb hp;try (exfalso;omega)))
  have a02:∀ y:Sh×Value,(S2.set i y)[i]?=some y:=fun y=>a2f (by omega);have hF1:=a1T fxA (a02 (⟨xp,xd,L⟩,.slice pu xf.length cu));rw [a1z] at hF1;replace hS:=hS.perm (a3U (X:=[_,_,_]) hF1).symm;dsimp only [List.cons_append,List.nil_append] at hS;refine e9 (i + 1,S2.set i (⟨xp,xd,L⟩,.slice pu xf.length cu)) (by exact Fr.sub_of rfl) ⟨by show i + 1<=sh1.length;omega,by show (S2.set i _).length=_;rw [xa8];exact hSl2,fun j a b h1 h2=>?_⟩ hS (by show sh1.length - (i + 1) < sh1.length - i;omega);by_cases hij:i=j
  ·subst hij;rw [hx0] at h1
   cases h1
   replace h2:(S2.set i _)[i]?=some b:=h2;rw [a02] at h2
   cases h2
   rw [xi9] at k1;exact ⟨k1,hLl.trans k2⟩
  ·replace h2:(S2.set i _)[j]?=some b:=h2;rw [xn1 hij] at h2;exact hlk2 j a b h1 h2
 obtain rfl:i=sh1.length:=by omega
 repeat' (first|(with_reducible apply a8 a7);rfl;rfl;rfl|(with_reducible apply a9);rfl;(apply Ld.sl a7;rfl;exact hS.blkC 0 rfl rfl);rfl|refine yDn (by with_reducible constructor) ?_|(with_reducible apply b9);rfl;all_goals (intro hb hp;try (exfalso;omega)))
 replace hS:=hS.sub (.cons _ (.cons _ (.cons _ (xp1 _ _))));rw [hP] at hS
 repeat' (first|(with_reducible apply a8 a7);rfl;rfl;rfl|(with_reducible apply a9);rfl;(apply Ld.st a7;rfl;exact hS.blkR 1 rfl;rfl);rfl|(with_reducible apply r6);rfl;rfl;rfl;refine ⟨_,hnew _ _ hS,?_⟩;rintro _ w2 ⟨k2,rfl,hk2,hc2⟩)
 rw [<- hP] at hS;have hV:=hc2.V;replace hS:=hS.trans hc2.owns;clear hc2 hk2;obtain ⟨sh2,fr2,sl2,sp2,hand2,vsh2,vfr2,vsl2,vsp2⟩:=k2;obtain ⟨r1,b1,rfl⟩:∃ p c,vsh2=.slice p sh2.length c:=hV.sh.sl.len;obtain ⟨r2,b2,rfl⟩:∃ p c,vfr2=.slice p fr2.length c:=hV.fr.len;obtain ⟨r3,b3,rfl⟩:∃ p c,vsl2=.slice p sl2.length c:=hV.sl.len;obtain ⟨r4,b4,rfl⟩:∃ p c,vsp2=.slice p sp2.length c:=hV.sp.len;have hbh2:=hV.sh.sl.bound;dsimp only at hbh2;clear hV
 (repeat (fail))
 (((with_reducible apply d8 hS a7);rfl;rfl;rfl);clear hS;intro g23 w' hS)
 repeat' (first|(with_reducible apply a8 a7);rfl;rfl;rfl|refine yDn (by with_reducible constructor) ?_|(with_reducible apply b8 hS a7 (i:=0));(iterate 8 rfl);exact (rfl:_=[_,_,_,_,_]);clear hS;intro w' hS;simp only [List.set] at hS)
 unfold a37 frA slA a04 a0H at hS;dsimp only [List.cons_append,List.nil_append] at hS;replace hS:=(hS.perm (b0U _ _ _ _ _ _ _ _)).sub (.cons_cons _ (.cons_cons _ (xm3 _ _)));refine k9 (F:=nF) (w0:=w) (X:=Nat×List (Sh×Value)) (fun x=>[(25,.int .i64 (x.1:Nat))]) [1,2,3,4,6,11,13,16,23,24] rfl (fun x=>[.row 94 3 (.slice r1 sh2.length b1) (a1E x.2)]) (fun x=>x.1<=sh2.length/\x.2.length=sh2.length) (fun x=>sh2.length - x.1) (0,sh2) (by exact Fr.sub_of rfl) ⟨xg4 _,rfl⟩ hS ?_;clear hS;rintro ⟨i,S3⟩ w9 ⟨hi3,hSl3⟩ hS;dsimp only [List.cons_append,List.nil_append] at hi3 hSl3 hS |-;by_cases hlt4:i < sh2.length
 ·obtain ⟨x,hx⟩:=j0 (l:=S3) (i:=i) (by omega);have hrow:=c9 (f:=fun p:Sh×Value=>shC p.1 p.2) hx;obtain ⟨⟨xp,xd,xf⟩,u⟩:=x;dsimp only [shC] at hrow;obtain ⟨gh,rfl⟩:=hS.rowSome 0 rfl (by omega);unfold a1E at hS;have est:(S3.map fun p:Sh×Value=>shC p.1 p.2).set i (o6 [.int .i64 xp,.string ⟨xd.toArray⟩,u] 1 [.string ⟨spoil.toArray⟩])=a1E (S3.set i (⟨xp,spoil,xf⟩,u)):=by unfold a1E;rw [xl1];rfl
  repeat' (first|(with_reducible apply a8 a7);rfl;rfl;rfl|(with_reducible apply a9);rfl;(apply Ld.sl a7;rfl;exact hS.blkC 1 rfl rfl);rfl|(with_reducible apply l7 a7);rfl;rfl;rfl;rfl;omega;rfl|(with_reducible apply j4);rfl;rfl;omega;omega;rfl|refine yDn (by with_reducible constructor) ?_|(with_reducible apply b9);rfl;all_goals (intro hb hp;try (exfalso;omega))|(with_reducible apply t5 hS a7 (i:=0));(iterate 4 rfl);assumption;(iterate 5 rfl);intro w' hS';simp only [List.set] at hS';clear hS;have hS:=hS';clear hS')
  replace hS:=est ▸ hS;exact e9 (i + 1,S3.set i (⟨xp,spoil,xf⟩,u)) (by exact Fr.sub_of rfl) ⟨by show i + 1<=sh2.length;omega,by show (S3.set i _).length=_;rw [xa8];exact hSl3⟩ hS (by show sh2.length - (i + 1) < sh2.length - i;omega)
 obtain rfl:i=sh2.length:=by omega
 repeat' (first|(with_reducible apply a8 a7);rfl;rfl;rfl|(with_reducible apply a9);rfl;(apply Ld.sl a7;rfl;exact hS.blkC 1 rfl rfl);rfl|refine yDn (by with_reducible constructor) ?_|(with_reducible apply b9);rfl;all_goals (intro hb hp;try (exfalso;omega)))
 replace hS:=hS.drop.drop;rw [hP] at hS
 repeat' (first|(with_reducible apply a8 a7);rfl;rfl;rfl|(with_reducible apply a9);rfl;(apply Ld.st a7;rfl;exact hS.blkR 2 rfl;rfl);rfl|(with_reducible apply r6);rfl;rfl;rfl;refine ⟨_,hf _ (hK0.now hS),?_⟩;rintro _ w2 ⟨k3,rfl,hk3,hc3⟩)
 have hV:=hc3.V;obtain ⟨Δ3,hD3,hV3⟩:=(hc3).keep;replace hS:=(hS.trans hD3).perm xm4;simp only [List.cons_append,List.nil_append,xg0] at hS;clear hD3;obtain ⟨k3sh,k3fr,k3sl,k3sp,k3hand,k3vsh,k3vfr,k3vsl,k3vsp⟩:=k3;obtain ⟨k3m1,k3m2,k3m3,k3m4,-⟩:=hV;dsimp only at k3m1 k3m2 k3m3 k3m4;obtain ⟨k3x1,k3y1,rfl⟩:=k3m1.sl.len;obtain ⟨k3x2,k3y2,rfl⟩:=k3m2.len;obtain ⟨k3x3,k3y3,rfl⟩:=k3m3.len;obtain ⟨k3x4,k3y4,rfl⟩:=k3m4.len;clear k3m1 k3m2 k3m3 k3m4
 repeat' (first|(with_reducible apply a8 a7);rfl;rfl;rfl|(with_reducible apply a9);rfl;(apply Ld.st a7;rfl;exact hS.blkR 3 rfl;rfl);rfl|refine yDn (by with_reducible constructor) ?_|(with_reducible apply d8 hS a7);rfl;rfl;rfl;clear hS;intro g w' hS|(with_reducible apply b8 hS a7 (i:=0));(iterate 8 rfl);exact (rfl:_=[_,_]);clear hS;intro w' hS;simp only [List.set] at hS|(with_reducible apply b8 hS a7 (i:=1));(iterate 8 rfl);exact (rfl:_=[_,_,_,_,_]);clear hS;intro w' hS;simp only [List.set] at hS|(with_reducible apply r6);rfl;rfl;rfl;refine ⟨_,hnew _ _ hS,?_⟩;rintro _ w2 ⟨k4,rfl,hk4,hc4⟩)
 have hV:=hc4.V;obtain ⟨Δ4,hD4,hV4⟩:=(hc4).keep;replace hS:=(hS.trans hD4).perm xm4;simp only [List.cons_append,List.nil_append,xg0] at hS;clear hD4;obtain ⟨k4sh,k4fr,k4sl,k4sp,k4hand,k4vsh,k4vfr,k4vsl,k4vsp⟩:=k4;obtain ⟨k4m1,k4m2,k4m3,k4m4,-⟩:=hV;dsimp only at k4m1 k4m2 k4m3 k4m4;obtain ⟨k4x1,k4y1,rfl⟩:=k4m1.sl.len;obtain ⟨k4x2,k4y2,rfl⟩:=k4m2.len;obtain ⟨k4x3,k4y3,rfl⟩:=k4m3.len;obtain ⟨k4x4,k4y4,rfl⟩:=k4m4.len;clear k4m1 k4m2 k4m3 k4m4;unfold kvC;dsimp only
 (repeat (fail))
 (((with_reducible apply d8 hS a7);rfl;rfl;rfl);clear hS;intro g29 w' hS)
 have hne1:(!decide (e=e))=false:=by rw [xj2 rfl];rfl
 have hne2:(!decide (e2=e2))=false:=by rw [xj2 rfl];rfl
 repeat' (first|(with_reducible apply a8 a7);rfl;rfl;rfl|(with_reducible apply a9);rfl;(apply Ld.st a7;rfl;exact hS.blkR 5 rfl;rfl);rfl|refine yDn (by with_reducible constructor) ?_|(with_reducible apply k8);(iterate 4 rfl);assumption|(with_reducible apply f5);rfl;assumption;rfl;rfl|(with_reducible apply f8);rfl;assumption|(with_reducible apply b8 hS a7 (i:=0));(iterate 8 rfl);exact (rfl:_=[_,_,_,_,_]);clear hS;intro w' hS;simp only [List.set] at hS|(with_reducible apply d7 hS);rfl;rfl;rfl;refine ⟨_,hre _ (hK0.now hS),?_⟩;clear hS;intro w' hS)
 refine a07 (F:=nF) (w0:=w) (X:=Unit) (fun _=>[(6,.pointer (some ⟨g6,0,none⟩)),(11,.pointer (some ⟨g11,0,none⟩)),(13,.pointer (some ⟨g13,0,none⟩)),(29,.pointer (some ⟨g29,0,none⟩)),(30,.int .i64 e2),(199,.bool false)]) (fun _=>.blk g29 [.slice k4x1 k4sh.length k4y1,.slice k4x2 k4fr.length k4y2,.slice k4x3 k4sl.length k4y3,.slice k4x4 k4sp.length k4y4,.int .i64 k4hand]::.blk g13 [.slice k0x1 k0sh.length k0y1,.slice k0x2 k0fr.length k0y2,.slice k0x3 k0sl.length k0y3,.slice k0x4 k0sp.length k0y4,.int .i64 k0hand]::.blk g11 [.slice pa A.length ca,.slice ph Lp.length ch,.int .i64 en]::.blk g6 [.slice p1 sh.length c1,.slice p2 fr.length c2,.slice p3 sl.length c3,.slice p4 sps.length c4,.int .i64 hand]::(Δ0++(Δ3++Δ4))) (fun _=>True) ?_ ?_
 ·by_cases he0:e=0;rotate_left
  ·have hd0:decide (e=0)=false:=xj0 he0
   (focus ((with_reducible apply d9 _ _ _ (by kernel_rfl) (by kernel_rfl) hS);(repeat' ((first|(with_reducible apply i7 a7);rfl;rfl|(first|(with_reducible apply a14);(iterate 4 rfl);(first|rfl|assumption);rfl|(with_reducible apply r7);rfl;(first|rfl|assumption);rfl;rfl))));all_goals ((with_reducible apply j7);intro w' hS';clear hS;have hS:=hS';clear hS')))
   repeat' ((refine yDn (by with_reducible constructor) ?_))
   exact n5 () (by exact Fr.sub_of rfl) trivial (hS.sub (.cons_cons _ (.cons _ (.cons _ (xl8 _)))))
  have hd0:decide (e=0)=true:=xj2 he0;by_cases hf0:F.1=0;rotate_left
  ·have hd1:decide (F.1=0)=false:=xj0 hf0
   (focus ((with_reducible apply d9 _ _ _ (by kernel_rfl) (by kernel_rfl) hS);(repeat' ((first|(with_reducible apply i7 a7);rfl;rfl|(with_reducible apply i9);rfl;(intro wd hd;replace hd:St _ _ wd _:=hd;(apply Ld.sc a7;rfl;exact hd.blkC 1 rfl rfl));rfl|(first|(with_reducible apply a0t);(iterate 4 rfl);assumption|(with_reducible apply a14);(iterate 4 rfl);assumption;rfl|(with_reducible apply t7);rfl;assumption;rfl;rfl|(with_reducible apply r7);rfl;assumption;rfl;rfl))));all_goals ((with_reducible apply j7);intro w' hS';clear hS;have hS:=hS';clear hS')))
   repeat' ((refine yDn (by with_reducible constructor) ?_))
   exact n5 () (by exact Fr.sub_of rfl) trivial (hS.sub (.cons_cons _ (.cons _ (.cons _ (xl8 _)))))
  have hd1:decide (F.1=0)=true:=xj2 hf0;refine a6a 6 18 rfl hS (by kernel_rfl) ?_;intro w10 hS';clear hS;have hS:=hS';clear hS';simp only [xl2,xl3];have hH:=hS.sub (xm3 [_,_,_,_,_,_] _)
  ((with_reducible apply a1g (nn 0) a7);rfl;kernel_rfl;kernel_rfl;kernel_rfl;exact (fun _ _ _ h=>h);exact hH;rfl;rfl);((with_reducible apply a1g (nn 1) a7);rfl;kernel_rfl;kernel_rfl;kernel_rfl;exact (fun _ _ _ h=>h);exact hH;rfl;rfl);((with_reducible apply a1g (nn 2) a7);rfl;kernel_rfl;kernel_rfl;kernel_rfl;exact (fun _ _ _ h=>h);exact hH;rfl;rfl);((with_reducible apply a0e (nn 3));rfl;kernel_rfl;kernel_rfl;kernel_rfl;exact (fun _ _ _ h=>h);exact hH;(iterate 4 rfl);assumption;exact (fun a ha=>l6 a7 ha rfl);rfl);((with_reducible apply a1c (nn 4));rfl;kernel_rfl;kernel_rfl;kernel_rfl;exact (fun _ _ _ h=>h);exact hH;(iterate 4 rfl);assumption;rfl;(intro wd hd;replace hd:St _ _ wd _:=hd;(apply Ld.sc a7;rfl;exact hd.blkC 1 rfl rfl));rfl);((with_reducible apply a0e (nn 5));rfl;kernel_rfl;kernel_rfl;kernel_rfl;exact (fun _ _ _ h=>h);exact hH;(iterate 4 rfl);assumption;exact (fun a ha=>l6 a7 ha rfl);rfl);((with_reducible apply a1D (nn 6));rfl;kernel_rfl;kernel_rfl;kernel_rfl;exact (fun _ _ _ h=>h);exact hH;exact a56 rfl (by (assumption)) rfl;rfl);((with_reducible apply a1g (nn 7) a7);rfl;kernel_rfl;kernel_rfl;kernel_rfl;exact (fun _ _ _ h=>h);exact hH;rfl;rfl);((with_reducible apply a1c (nn 8));rfl;kernel_rfl;kernel_rfl;kernel_rfl;exact (fun _ _ _ h=>h);exact hH;(iterate 4 rfl);assumption;rfl;(intro wd hd;replace hd:St _ _ wd _:=hd;(apply Ld.st a7;rfl;exact hd.blkR 2 rfl;rfl));rfl);((with_reducible apply a1c (nn 9));rfl;kernel_rfl;kernel_rfl;kernel_rfl;exact (fun _ _ _ h=>h);exact hH;(iterate 4 rfl);assumption;rfl;(intro wd hd;replace hd:St _ _ wd _:=hd;(apply Ld.st a7;rfl;exact hd.blkR 5 rfl;rfl));rfl);((with_reducible apply a0e (nn 10));rfl;kernel_rfl;kernel_rfl;kernel_rfl;exact (fun _ _ _ h=>h);exact hH;(iterate 4 rfl);assumption;exact (fun a ha=>l6 a7 ha rfl);rfl);((with_reducible apply a0e (nn 11));rfl;kernel_rfl;kernel_rfl;kernel_rfl;exact (fun _ _ _ h=>h);exact hH;(iterate 4 rfl);assumption;exact (fun a ha=>l6 a7 ha rfl);rfl);((with_reducible apply a0e (nn 12));rfl;kernel_rfl;kernel_rfl;kernel_rfl;exact (fun _ _ _ h=>h);exact hH;(iterate 4 rfl);assumption;exact (fun a ha=>l6 a7 ha rfl);rfl);((with_reducible apply a0e (nn 13));rfl;kernel_rfl;kernel_rfl;kernel_rfl;exact (fun _ _ _ h=>h);exact hH;(iterate 4 rfl);assumption;exact (fun a ha=>l6 a7 ha rfl);rfl)
  refine l4 (i:=14) (by kernel_rfl) ?_;have hok:okR K space addr size way:=by
   refine ⟨he.symm.trans he0,?_⟩;unfold a4B at hF;rw [xf0 (he.symm.trans he0)] at hF;rw [<- hF];exact hf0
  obtain ⟨sp,rfl,ho1,hrR,-⟩:=b7P hok;refine a3V rfl rfl rfl rfl rfl (by (assumption)) (s9 (first:=[]) (caps:=[]) rfl rfl (hro _ (hK0.now hS) _ ho1)) rfl ?_;rintro _ w3 ⟨k5,rfl,hk5,hc5⟩;have hV:=KerV.own (Γ:=[]) (by rw [List.append_nil];exact hc5);have hcm:Came _ _ k5:=xd3 hc5;obtain ⟨Δ5,hD5,hV5⟩:=(hcm).keep;replace hS:=(hS.trans hD5).perm xm4;simp only [List.cons_append,List.nil_append,xg0] at hS;clear hD5;obtain ⟨k5sh,k5fr,k5sl,k5sp,k5hand,k5vsh,k5vfr,k5vsl,k5vsp⟩:=k5;obtain ⟨k5m1,k5m2,k5m3,k5m4,-⟩:=hV;dsimp only at k5m1 k5m2 k5m3 k5m4;obtain ⟨k5x1,k5y1,rfl⟩:=k5m1.sl.len;obtain ⟨k5x2,k5y2,rfl⟩:=k5m2.len;obtain ⟨k5x3,k5y3,rfl⟩:=k5m3.len;obtain ⟨k5x4,k5y4,rfl⟩:=k5m4.len;clear k5m1 k5m2 k5m3 k5m4;have hH:=hS.sub (xm3 [_,_,_,_,_,_] _);refine ⟨hH,?_⟩;refine l4 (i:=15) (by kernel_rfl) ?_;have hsm:=a2p (w:=w3) (hV3 hS (fun _ h=>by simp only [xc4,xe3,h,or_true,true_or])) (hV5 hS (fun _ h=>by simp only [xc4,xe3,h,or_true,true_or])) (hk3.trans (hrR.trans hk5.symm));unfold kvC at hsm
  try unfold kvC
  try dsimp only at hsm
  try dsimp only
  refine a3V rfl rfl rfl rfl rfl (by (assumption)) (s9 (first:=[]) (caps:=[]) rfl rfl hsm) rfl ?_;rintro _ w4 ⟨rfl,hS'⟩;replace hS:=hS.transA hS';simp only [v6] at hS;clear hS';have hH:=hS.sub (xm3 [_,_,_,_,_,_] _);refine ⟨hH,?_⟩
  ((with_reducible apply a0e (nn 16));rfl;kernel_rfl;kernel_rfl;kernel_rfl;exact (fun _ _ _ h=>h);exact hH;(iterate 4 rfl);assumption;exact (fun a ha=>l6 a7 ha rfl);rfl);((with_reducible apply a1D (nn 17));rfl;kernel_rfl;kernel_rfl;kernel_rfl;exact (fun _ _ _ h=>h);exact hH;exact a56 rfl (by (assumption)) rfl;rfl)
  refine v8 (by kernel_rfl) ?_
  repeat' (fail)
  exact n5 () (by exact Fr.sub_of rfl) trivial (hS.sub (.cons_cons _ (.cons _ (.cons _ (.cons_cons _ (.cons_cons _ (.cons_cons _ (List.Sublist.append_left (List.Sublist.append_left (xm3 _ _) _) _))))))))
 clear hS;rintro _ w5 - hS
 repeat' (first|refine yDn (by with_reducible constructor) ?_|(with_reducible apply f8);rfl;rfl)
 refine a07 (F:=nF) (w0:=w) (X:=Unit) (fun _=>[(6,.pointer (some ⟨g6,0,none⟩)),(13,.pointer (some ⟨g13,0,none⟩)),(208,.bool false)]) (fun _=>.blk g13 [.slice k0x1 k0sh.length k0y1,.slice k0x2 k0fr.length k0y2,.slice k0x3 k0sl.length k0y3,.slice k0x4 k0sp.length k0y4,.int .i64 k0hand]::.blk g6 [.slice p1 sh.length c1,.slice p2 fr.length c2,.slice p3 sl.length c3,.slice p4 sps.length c4,.int .i64 hand]::Δ0) (fun _=>True) ?_ ?_
 ·by_cases he0:e2=0;rotate_left
  ·have hd0:decide (e2=0)=false:=xj0 he0
   (focus ((with_reducible apply d9 _ _ _ (by kernel_rfl) (by kernel_rfl) hS);(repeat' ((first|(with_reducible apply i7 a7);rfl;rfl|(first|(with_reducible apply a14);(iterate 4 rfl);assumption;rfl|(with_reducible apply r7);rfl;assumption;rfl;rfl))));all_goals ((with_reducible apply j7);intro w' hS';clear hS;have hS:=hS';clear hS')))
   repeat' ((refine yDn (by with_reducible constructor) ?_))
   exact n5 () (by exact Fr.sub_of rfl) trivial (hS.sub (.cons _ (.cons_cons _ (.cons _ (.cons_cons _ (xm3 _ _))))))
  have hd0:decide (e2=0)=true:=xj2 he0;have hlk:a1n A (shs Lp) en=0:=by
   rw [he0] at he2;unfold b2N at he2;by_cases h:a1n A (shs Lp) en=0
   ·exact h
   ·rw [xf1 h] at he2;exact absurd he2.symm h
  refine a6a 4 9 rfl hS (by kernel_rfl) ?_;intro w10 hS';clear hS;have hS:=hS';clear hS';simp only [xl2,xl3];have hH:=hS.sub (xm3 [_,_,_,_] _)
  ((with_reducible apply a1g (nn 0) a7);rfl;kernel_rfl;kernel_rfl;kernel_rfl;exact (fun _ _ _ h=>h);exact hH;rfl;rfl);((with_reducible apply a1g (nn 1) a7);rfl;kernel_rfl;kernel_rfl;kernel_rfl;exact (fun _ _ _ h=>h);exact hH;rfl;rfl);((with_reducible apply a1g (nn 2) a7);rfl;kernel_rfl;kernel_rfl;kernel_rfl;exact (fun _ _ _ h=>h);exact hH;rfl;rfl);((with_reducible apply a1c (nn 3));rfl;kernel_rfl;kernel_rfl;kernel_rfl;exact (fun _ _ _ h=>h);exact hH;(iterate 4 rfl);assumption;rfl;(intro wd hd;replace hd:St _ _ wd _:=hd;(apply Ld.st a7;rfl;exact hd.blkR 0 rfl;rfl));rfl);((with_reducible apply a1c (nn 4));rfl;kernel_rfl;kernel_rfl;kernel_rfl;exact (fun _ _ _ h=>h);exact hH;(iterate 4 rfl);assumption;rfl;(intro wd hd;replace hd:St _ _ wd _:=hd;(apply Ld.st a7;rfl;exact hd.blkR 2 rfl;rfl));rfl)
  refine l4 (i:=5) (by kernel_rfl) ?_;have hnk:=a8r (hA.now hS) (hL.now hS) hlk (nf:=3) (ns:=512) (by omega) (by omega);unfold lkA at hnk;refine a3V rfl rfl rfl rfl rfl (by (assumption)) (s9 (first:=[]) (caps:=[]) rfl rfl hnk) rfl ?_;rintro _ w3 ⟨k5,rfl,hk5,h5⟩;have hcm:=a8k h5;have hV:=hcm.V;obtain ⟨Δ5,hD5,hV5⟩:=(hcm).keep;replace hS:=(hS.trans hD5).perm xm4;simp only [List.cons_append,List.nil_append,xg0] at hS;clear hD5;obtain ⟨k5sh,k5fr,k5sl,k5sp,k5hand,k5vsh,k5vfr,k5vsl,k5vsp⟩:=k5;obtain ⟨k5m1,k5m2,k5m3,k5m4,-⟩:=hV;dsimp only at k5m1 k5m2 k5m3 k5m4;obtain ⟨k5x1,k5y1,rfl⟩:=k5m1.sl.len;obtain ⟨k5x2,k5y2,rfl⟩:=k5m2.len;obtain ⟨k5x3,k5y3,rfl⟩:=k5m3.len;obtain ⟨k5x4,k5y4,rfl⟩:=k5m4.len;clear k5m1 k5m2 k5m3 k5m4;have hH:=hS.sub (xm3 [_,_,_,_] _);refine ⟨hH,?_⟩;refine l4 (i:=6) (by kernel_rfl) ?_;have hnK:b5i A (shs Lp) en 3 512=(⟨shs Lp,List.replicate 3 fm0,List.replicate 512 sw0,[⟨true,A,[]⟩],0⟩:Ker):=by
   unfold b5i;rw [<- he2,xf0 he0];rfl
  have hk45:=hk4.trans (hnK.trans hk5.symm);have hsm:=a2p (w:=w3) (hV4 hS (fun _ h=>by simp only [xc4,xe3,h,or_true,true_or])) (hV5 hS (fun _ h=>by simp only [xc4,xe3,h,or_true,true_or])) hk45;unfold kvC at hsm
  try unfold kvC
  try dsimp only at hsm
  try dsimp only
  refine a3V rfl rfl rfl rfl rfl (by (assumption)) (s9 (first:=[]) (caps:=[]) rfl rfl hsm) rfl ?_;rintro _ w4 ⟨rfl,hS'⟩;replace hS:=hS.transA hS';simp only [v6] at hS;clear hS';have hH:=hS.sub (xm3 [_,_,_,_] _);refine ⟨hH,?_⟩
  ((with_reducible apply a0e (nn 7));rfl;kernel_rfl;kernel_rfl;kernel_rfl;exact (fun _ _ _ h=>h);exact hH;(iterate 4 rfl);assumption;exact (fun a ha=>l6 a7 ha rfl);rfl);((with_reducible apply a1D (nn 8));rfl;kernel_rfl;kernel_rfl;kernel_rfl;exact (fun _ _ _ h=>h);exact hH;exact a56 rfl (by (assumption)) rfl;rfl)
  refine v8 (by kernel_rfl) ?_
  repeat' (fail)
  exact n5 () (by exact Fr.sub_of rfl) trivial (hS.sub (.cons _ (.cons_cons _ (.cons _ (.cons_cons _ (xm3 _ _))))))
 clear hS;rintro _ w6 - hS;have hsm:=fun w1 h1 h2=>a2p (w:=w1) (k:=⟨sh,fr,sl,sps,hand,.slice p1 sh.length c1,.slice p2 fr.length c2,.slice p3 sl.length c3,.slice p4 sps.length c4⟩) (k':=⟨k0sh,k0fr,k0sl,k0sp,k0hand,.slice k0x1 k0sh.length k0y1,.slice k0x2 k0fr.length k0y2,.slice k0x3 k0sl.length k0y3,.slice k0x4 k0sp.length k0y4⟩) h1 h2 (hKe.symm.trans hk0.symm);unfold kvC at hsm;dsimp only at hsm
 repeat' (first|(with_reducible apply a8 a7);rfl;rfl;rfl|(with_reducible apply a9);rfl;(apply Ld.st a7;rfl;(first|exact hS.blkR 0 rfl|exact hS.blkR 1 rfl);rfl);rfl|refine yDn (by with_reducible constructor) ?_|(with_reducible apply k8);(iterate 4 rfl);rfl|(with_reducible apply j3);rfl;rfl;rfl;rfl|(with_reducible apply f8);rfl;rfl|(with_reducible apply d7 hS);rfl;rfl;rfl;refine ⟨_,hbg _,?_⟩;clear hS;intro w' hS|(with_reducible apply d7 hS);rfl;rfl;rfl;refine ⟨_,hsm _ (hK0.now hS) (hV0 hS (fun _ h=>by simp only [xc4,xe3,h,or_true,true_or])),?_⟩;clear hS;intro w' hS)
 (refine k7 rfl ?_)
 exact ⟨rfl,hS.sub (xj1 _)⟩
end Go.Proofs.YtejnpppejalhfabGreat
namespace Go.Proofs.YtejnpppejalhfabGreat
set_option maxRecDepth 100000
set_option maxHeartbeats 8000000
open Go.ChangeShapes Go.WideShapes Go.ChangeAt Go.RowKit Go.Deep
def b1u {α:Type} (R:α->List Value->Prop) (xs:List α) (rows:List (List Value)):Prop:=rows.length=xs.length/\∀ (i:Nat) (x:α) (r:List Value),xs[i]?=some x->rows[i]?=some r->R x r
section
variable {H:Type} {enc:TypeId×Value->H} {P:Program} {w:World} {base:Nat} {spare:Nat->Bool} {held:Bool}
theorem b5q {α:Type} [Inhabited α] {t e:TypeId} {fuel sz:Nat} {cs:List Value} {y:DataW H×List MemPlace} (ht:P.underlying t=some (.slice e)) (hsz:P.cellsOf e=sz) (hpos:0 < sz) (R:α->List Value->Prop) (hR1:∀ x r,R x r->r.all (·.oneCell')=true)
  (hR:∀ (n:Nat) (cs':List Value) (z:DataW H×List MemPlace),cs'.length=sz->DataW.trod enc P w base spare held n e cs'=some z->∃ x:α,R x cs') (h:DataW.trod enc P w base spare held fuel t cs=some y) :
  ∃ v xs rows,cs=[v]/\Sl nF w sz v rows/\b1u R xs rows/\v.oneCell'=true:=by
 rcases open_slice ht h with ⟨rfl,_⟩|⟨a,len,cap,m,n,D,Pl,rfl,hb,hl,hm,hmm,_,hx⟩
 ·exact ⟨_,[],[],rfl,xd6 ⟨_,_,rfl,rfl⟩,⟨rfl,fun i x r h=>by simp at h⟩,rfl⟩
 ·have hlm:len<=m:=by rw [hmm];split <;> omega
  rw [hsz] at hx;have key:∀ i,∃ r x,i < len->w.cells? base (a.add (i * sz)) sz=some r/\R x r/\r.length=sz:=fun i=>by
   by_cases hi:i < len
   ·obtain ⟨cs',h1,h2⟩:=hx i (by omega);have hl:=(World.cells?_some h1).2.1;obtain ⟨x,hr⟩:=hR n cs' _ hl h2;exact ⟨cs',x,fun _=>⟨h1,hr,hl⟩⟩
   ·exact ⟨[],default,fun h=>(hi h).elim⟩
  obtain ⟨r,hr⟩:=Classical.axiomOfChoice key;obtain ⟨x,hr⟩:=Classical.axiomOfChoice hr;refine ⟨_,(List.range len).map x,(List.range len).map r,rfl,?_,⟨by simp,fun i y r' h1 h2=>?_⟩,rfl⟩
  ·by_cases h0:len=0
   ·subst h0;exact xd6 ⟨_,_,rfl,rfl⟩
   ·obtain ⟨b,off,spot⟩:=a;have hcell:∀ i,i < len->∀ j,j < sz->w.cell? (((⟨b,off,spot⟩:Addr).add (i * sz)).add j)=(r i)[j]?:=fun i hi j hj=>(World.cells?_some (hr i hi).1).2.2 j hj;have h00:=hcell 0 (by omega) 0 hpos;obtain ⟨u0,hu0⟩:∃ u,(r 0)[0]?=some u:=⟨(r 0)[0]'(by rw [(hr 0 (by omega)).2.2];exact hpos),by simp⟩;rw [hu0] at h00;simp only [Nat.zero_mul,Addr.add,if_true] at h00;have hspot:spot=none:=by
     cases spot with
     |none=>rfl
     |some s=>simp [World.cell?] at h00;split at h00 <;> simp at h00
    subst hspot;have hbl:=World.block_lt_of_cell? w _ h00;refine xd3 ⟨b,off,cap,by simp,by simpa using hl,hm,⟨hbl,id,fun r' hr'=>?_,fun r' hr'=>?_,fun k r' hk j u hj=>?_⟩⟩
    ·obtain ⟨i,hi,rfl⟩:=xm5.1 hr';exact (hr i (by simpa using hi)).2.2
    ·obtain ⟨i,hi,rfl⟩:=xm5.1 hr';exact hR1 _ _ (hr i (by simpa using hi)).2.1
    ·have hk':k < len:=by have:=d6 hk;simpa using this
     simp [hk'] at hk;subst hk;have hjl:j < sz:=by have:=d6 hj;rwa [(hr k hk').2.2] at this
     have:=hcell k hk' j hjl;rw [hj] at this
     rwa [Addr.add_mid,Addr.add_mid] at this
  ·have hi:i < len:=by have:=d6 h1;simpa using this
   simp [hi] at h1 h2;subst h1 h2;exact (hr i hi).2.1
end
end Go.Proofs.YtejnpppejalhfabGreat
namespace Go.Proofs.YtejnpppejalhfabGreat
set_option maxRecDepth 100000
set_option maxHeartbeats 8000000
open Go.ChangeShapes Go.WideShapes Go.ChangeAt Go.RowKit
section
variable {H:Type} {enc:TypeId×Value->H} {W:World} {base b0:Nat} {sp:Nat->Bool} {held:Bool}
theorem cI {n:Nat} {t:TypeId} {c:Value} {o:Option (DataW H×List MemPlace)} (ht:(Tryz.prog).underlying t=some (.int .i64)) (h:DataW.trod enc Tryz.prog W base sp held n t [c]=o) (ho:o.isSome=true):∃ k:Int,c=.int .i64 k/\(Lit.int .i64 k).wf=true:=by
 obtain ⟨x,hx⟩:=xi2.1 ho;obtain ⟨k,hk,_,hw⟩:=DataW.trod_int ht (h.trans hx);simp only [List.cons.injEq,and_true] at hk;exact ⟨k,hk,hw⟩
theorem cB {n:Nat} {t:TypeId} {c:Value} {o:Option (DataW H×List MemPlace)} (ht:(Tryz.prog).underlying t=some .bool) (h:DataW.trod enc Tryz.prog W base sp held n t [c]=o) (ho:o.isSome=true):∃ b:Bool,c=.bool b:=by
 obtain ⟨x,hx⟩:=xi2.1 ho;obtain ⟨b,hb,_⟩:=DataW.trod_bool ht (h.trans hx);simp only [List.cons.injEq,and_true] at hb;exact ⟨b,hb⟩
theorem cS {n:Nat} {t:TypeId} {c:Value} {o:Option (DataW H×List MemPlace)} (ht:(Tryz.prog).underlying t=some .string) (h:DataW.trod enc Tryz.prog W base sp held n t [c]=o) (ho:o.isSome=true):∃ l:List UInt8,c=.string ⟨l.toArray⟩/\l.length<=maxLen:=by
 obtain ⟨x,hx⟩:=xi2.1 ho;obtain ⟨s,hs,_,hl⟩:=DataW.trod_string ht (h.trans hx);simp only [List.cons.injEq,and_true] at hs;obtain ⟨⟨l⟩⟩:=s;exact ⟨l,hs,by simpa [ByteArray.size] using hl⟩
theorem gS {α:Type} {l:List α} {i:Nat} (h:i < l.length):(l[i]?).isSome=true:=by simp [h]
theorem a3G:(Tryz.prog).cellsOf 3=1:=by kernel_rfl
theorem a8u:(Tryz.prog).cellsOf 4=1:=by kernel_rfl
theorem a31:(Tryz.prog).cellsOf 9=1:=by kernel_rfl
theorem b1l:(Tryz.prog).cellsOf 81=4:=by kernel_rfl
instance:Inhabited Ar:=⟨⟨0,0,0,false⟩⟩
theorem a7H {n:Nat} {cs:List Value} {z:DataW H×List MemPlace} (hl:cs.length=4) (h:DataW.trod enc Tryz.prog W base sp held n 81 cs=some z):∃ a:Ar,cs=arC a:=by
 match cs,hl with
 |[c0,c1,c2,c3],_=>
  obtain ⟨xs,n,_,_,_,hl,hf⟩:=DataW.trod_struct Tryz.underlying81 h;have f0:=hf 0 _ rfl;have f1:=hf 1 _ rfl;have f2:=hf 2 _ rfl;have f3:=hf 3 _ rfl;simp only [xp2,xp3,xp4,a3G,a8u,xl6,xl7,xl2,xl3] at f0 f1 f2 f3;have hl:xs.length=4:=hl;obtain ⟨k0,rfl,_⟩:=cI Tryz.underlying3 f0 (gS (by omega));obtain ⟨k1,rfl,_⟩:=cI Tryz.underlying3 f1 (gS (by omega));obtain ⟨k2,rfl,_⟩:=cI Tryz.underlying3 f2 (gS (by omega));obtain ⟨k3,rfl⟩:=cB Tryz.underlying4 f3 (gS (by omega));exact ⟨⟨k0,k1,k2,k3⟩,rfl⟩
end
section
variable {H:Type} {enc:TypeId×Value->H} {W:World} {base b0:Nat} {sp:Nat->Bool} {held:Bool}
instance:Inhabited Fx:=⟨⟨0,[]⟩⟩
instance:Inhabited Sh:=⟨⟨0,[],[]⟩⟩
theorem b6T:(Tryz.prog).cellsOf 96=2:=by kernel_rfl
theorem a9j:(Tryz.prog).cellsOf 94=3:=by kernel_rfl
theorem b3X:(Tryz.prog).cellsOf 92=1:=by kernel_rfl
theorem a91:(Tryz.prog).cellsOf 30=1:=by kernel_rfl
theorem a8b:(Tryz.prog).cellsOf 31=1:=by kernel_rfl
theorem b2X:(Tryz.prog).cellsOf 33=3:=by kernel_rfl
theorem a9y {α:Type} {f:α->List Value} {G:α->Prop} {xs:List α} {rows:List (List Value)} (h:b1u (fun a r=>r=f a/\G a) xs rows):rows=xs.map f/\∀ x ∈ xs,G x:=by
 obtain ⟨h1,h2⟩:=h;refine ⟨?_,fun x hx=>?_⟩
 ·apply xh1;intro i;rw [xh6];by_cases hi:i < xs.length
  ·rw [xe1 hi,xe1 (by omega)];simp only [xh7,Option.some.injEq];exact (h2 i _ _ (xe1 hi) (xe1 (by omega))).1
  ·rw [xh8 (by omega),xh8 (by omega)];rfl
 ·obtain ⟨i,hi⟩:=xd9.1 hx;have hl:=d6 hi;exact (h2 i x _ hi (xe1 (by rw [h1];exact hl))).2
theorem cc1 {c v:Value} (h:[c]=[v]):c=v:=by simpa using h
theorem b3B {n:Nat} {cs:List Value} {z:DataW H×List MemPlace} (hl:cs.length=2) (h:DataW.trod enc Tryz.prog W base sp held n 96 cs=some z):∃ f:Fx,cs=fxC f:=by
 match cs,hl with
 |[c0,c1],_=>
  obtain ⟨xs,n,_,_,_,hl,hf⟩:=DataW.trod_struct Tryz.underlying96 h;have f0:=hf 0 _ rfl;have f1:=hf 1 _ rfl;simp only [xp2,xp3,xp4,a3G,a31,xl6,xl7,xl2,xl3] at f0 f1;have hl:xs.length=2:=hl;obtain ⟨k0,rfl,_⟩:=cI Tryz.underlying3 f0 (gS (by omega));obtain ⟨l1,rfl,_⟩:=cS Tryz.underlying9 f1 (gS (by omega));exact ⟨⟨k0,l1⟩,rfl⟩
theorem a1M {α:Type} [Inhabited α] {n:Nat} {t e sz:Nat} {c:Value} {o:Option (DataW H×List MemPlace)} (ht:(Tryz.prog).underlying t=some (.slice e)) (hsz:(Tryz.prog).cellsOf e=sz) (hpos:0 < sz) (f:α->List Value) (G:α->Prop) (h1:∀ x,(f x).all (·.oneCell')=true\/¬ G x)
  (hR:∀ (n:Nat) (cs':List Value) (z:DataW H×List MemPlace),cs'.length=sz->DataW.trod enc Tryz.prog W base sp held n e cs'=some z->∃ x:α,cs'=f x/\G x) (h:DataW.trod enc Tryz.prog W base sp held n t [c]=o) (ho:o.isSome=true):∃ xs:List α,Sl nF W sz c (xs.map f)/\(∀ x ∈ xs,G x)/\c.oneCell'=true:=by
 obtain ⟨x,hx⟩:=xi2.1 ho;obtain ⟨v,xs,rows,hv,hsl,hra,hone⟩:=b5q ht hsz hpos (fun (a:α) r=>r=f a/\G a) (fun x r h=>by
  obtain ⟨rfl,hg⟩:=h;rcases h1 x with h|h
  ·exact h
  ·exact absurd hg h) (fun n cs' z hl hz=>hR n cs' z hl hz) (h.trans hx)
 obtain rfl:=cc1 hv;obtain ⟨rfl,hg⟩:=a9y hra;exact ⟨xs,hsl,hg,hone⟩
theorem a5y {n:Nat} {cs:List Value} {z:DataW H×List MemPlace} (hl:cs.length=3) (h:DataW.trod enc Tryz.prog W base sp held n 94 cs=some z):∃ x:Sh×Value,cs=shC x.1 x.2/\ShV W x.1 x.2/\x.2.oneCell'=true:=by
 match cs,hl with
 |[c0,c1,c2],_=>
  obtain ⟨xs,n,_,_,_,hl,hf⟩:=DataW.trod_struct Tryz.underlying94 h;have f0:=hf 0 _ rfl;have f1:=hf 1 _ rfl;have f2:=hf 2 _ rfl;simp only [xp2,xp3,xp4,a3G,a31,b3X,xl6,xl7,xl2,xl3] at f0 f1 f2;have hl:xs.length=3:=hl;obtain ⟨k0,rfl,_⟩:=cI Tryz.underlying3 f0 (gS (by omega));obtain ⟨l1,rfl,_⟩:=cS Tryz.underlying9 f1 (gS (by omega));obtain ⟨fs,h2,_,h3⟩:=a1M Tryz.underlying92 b6T (by decide) fxC (fun _=>True) (fun x=>xd6 rfl) (fun _ _ _ hl hz=>by obtain ⟨f,hf⟩:=b3B hl hz;exact ⟨f,hf,trivial⟩) f2 (gS (by omega));exact ⟨(⟨k0,l1,fs⟩,c2),rfl,h2,h3⟩
theorem a8X {n:Nat} {cs:List Value} {z:DataW H×List MemPlace} (hl:cs.length=3) (h:DataW.trod enc Tryz.prog W base sp held n 33 cs=some z):∃ (A:List Ar) (Lp:List (Sh×Value)) (va vs:Value) (en:Int),.agg cs.toArray=lkA va vs en/\Sl nF W 4 va (A.map arC)/\ShsV W Lp vs/\(-9223372036854775808<=en/\en<=9223372036854775807):=by
 match cs,hl with
 |[c0,c1,c2],_=>
  obtain ⟨xs,n,_,_,_,hl,hf⟩:=DataW.trod_struct Tryz.underlying33 h;have f0:=hf 0 _ rfl;have f1:=hf 1 _ rfl;have f2:=hf 2 _ rfl;simp only [xp2,xp3,xp4,a3G,a91,a8b,xl6,xl7,xl2,xl3] at f0 f1 f2;have hl:xs.length=3:=hl;obtain ⟨A,h1,_,_⟩:=a1M Tryz.underlying30 b1l (by decide) arC (fun _=>True) (fun x=>xd6 rfl) (fun _ _ _ hl hz=>by obtain ⟨f,hf⟩:=a7H hl hz;exact ⟨f,hf,trivial⟩) f0 (gS (by omega));obtain ⟨Lp,h3,h4,_⟩:=a1M (α:=Sh×Value) Tryz.underlying31 a9j (by decide) (fun x=>shC x.1 x.2) (fun x=>ShV W x.1 x.2/\x.2.oneCell'=true) (fun x=>by
   by_cases hx:x.2.oneCell'=true
   ·left;unfold shC;simp only [xo6,List.all_nil,xp5,hx];rfl
   ·exact xd3 fun h=>hx h.2) (fun _ _ _ hl hz=>by obtain ⟨x,hx,h2,h3⟩:=a5y hl hz;exact ⟨x,hx,h2,h3⟩) f1 (gS (by omega))
  obtain ⟨k2,rfl,hw⟩:=cI Tryz.underlying3 f2 (gS (by omega));exact ⟨A,Lp,c0,c1,k2,rfl,h1,⟨h3,fun p hp=>(h4 p hp).1⟩,by simpa [Lit.wf,IntKind.min,IntKind.max,IntKind.signed,IntKind.bits] using hw⟩
theorem a9h {v:Value} {d:DataW H} {ps:List MemPlace} (hval:Value.okWide Tryz.prog W .any b0 33 v) (h:DataW.Trod enc Tryz.prog W base sp held 33 v d ps):∃ (A:List Ar) (Lp:List (Sh×Value)) (va vs:Value) (en:Int),v=lkA va vs en/\Sl nF W 4 va (A.map arC)/\ShsV W Lp vs/\(-9223372036854775808<=en/\en<=9223372036854775807):=by
 obtain ⟨cs,rfl,hsz⟩:=okWide_struct Tryz.underlying33 hval;obtain ⟨fuel,hf⟩:=h;have hc:(Value.agg cs).cells=cs:=rfl;rw [hc] at hf;have hlen:cs.toList.length=3:=by rw [xh0,hsz,b2X]
 obtain ⟨A,Lp,va,vs,en,h1,h2⟩:=a8X hlen hf;rw [xd2] at h1;exact ⟨A,Lp,va,vs,en,h1,h2⟩
end
end Go.Proofs.YtejnpppejalhfabGreat
