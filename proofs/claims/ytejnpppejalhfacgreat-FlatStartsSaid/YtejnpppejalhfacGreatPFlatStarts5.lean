/- Texts that the proof stands on, one behind the other: Cx14, Plain, Bits, Tab, BitsF, Cx3, Cpu, Cpu2, CpuBad, Cx15. -/
import Derived.Handy
import Derived.Test.YtejnpppejalhfacGreatProg
import Derived.BigQuiet
import Derived.Deep.QuietTactic
import Derived.WalkSpells
import Derived.Lib.QuietBelow
import Derived.Deep.RegionWith
import Derived.Deep.DeepCutAuto
import Derived.Test.YtejnpppejalhfacGreatPFlatStarts4
set_option linter.unusedVariables false
set_option linter.unusedSimpArgs false
namespace Go.Proofs.YtejnpppejalhfacGreat
set_option maxRecDepth 100000
set_option maxHeartbeats 8000000
open Go.RowKit Go.Sort
noncomputable def q7 (N:Nat) (pl:List (Nat×Pl)) (c:Code):Bool:=@Code.rec (fun _=>Bool) true
 (fun id ops draw=>ops.toList.all (a47 N) && (bif draw then (match g8 pl id with
   |some p=>Region.noSelect ops && (plB ops p).1 ops.size (Array.replicate ops.size false)
   |none=>true) else true))
 (fun _ _ x y=>x && y) (fun _ _ _ x y=>x && y) (fun _ _ x=>x) (fun _ x=>x) (fun _ _ _ _ _ _=>true) (fun _=>true) (fun _ _=>true) (fun _=>true) (fun _=>true) true (fun _=>true) c
inductive BT.All {α:Type} (p:Nat->α->Prop):BT α->Prop where
 |nil:BT.All p .nil
 |node {k:Nat} {v:α} {l r:BT α} (h:p k v) (hl:BT.All p l) (hr:BT.All p r):BT.All p (.node k v l r)
theorem BT.All.get {α:Type} {p:Nat->α->Prop} {t:BT α} (h:BT.All p t) {i:Nat} {v:α} (hg:t.get i=some v):p i v:=by
 induction h with
 |nil=>cases hg
 |@node k u l r hp hl hr ihl ihr=>
  replace hg:@Bool.rec (fun _=>Option α) (@Bool.rec (fun _=>Option α) (r.get i) (l.get i) (Nat.blt i k)) (some u) (Nat.beq i k)=some v:=hg
  cases e:Nat.beq i k with
  |true=>
   rw [e] at hg
   cases hg
   rw [xa9 e];exact hp
  |false=>
   rw [e] at hg
   cases e2:Nat.blt i k with
   |true=>rw [e2] at hg;exact ihl hg
   |false=>rw [e2] at hg;exact ihr hg
structure FOk (P:Program) (C:Cx):Prop where
 ok:COk P C
 mixed:P.follows .mixedOrders=true
 F:BT.All (fun g (x:Func×List (Nat×Pl))=>m9 P g x.1/\∃ c,x.1.body=some c/\q7 x.1.ntmps x.2 c=true) C.F
 M:∀ g f,g8 C.M g=some f->∀ vs v,f vs=some v->(∀ ρ,LR ρ vs vs)/\(∀ ρ,VR ρ v v)/\∀ w,Fn P g vs w (RBf v w)
def toX:SX->Exit
 |.normal=>.normal
 |.exit i=>.exit i
 |.ret=>.ret
section
variable {P:Program} {C:Cx} {call:a2X} {w0 w w':World} {ρ σ:Ren} {N:Nat} {ds:List Deferred} {a:Act} {E E':Fr} {H H':SH} {n n':Nat} {Q:Exit->Act->World->Prop}
theorem PQ.then {x:Act->World->Prop} (h:PQ Q):PQ (Exit.then x Q):=fun c a w d v hq=>h c a w d v hq
theorem PQ.block {i:Nat} (h:PQ Q):PQ (Exit.inBlock i Q):=fun c a w d v hq=>h c a w d v hq
theorem a19:∀ (E:Fr) (s:List Nat) {t:Nat} {v:Value},g8 (a30 E s) t=some v->g8 E t=some v/\t ∉ s
 |[],s,t,v,h=>by cases h
 |(k,u)::r,s,t,v,h=>by
  have hany:∀ s:List Nat,@List.rec Nat (fun _=>Bool) false (fun x _ h=>bif Nat.beq k x then true else h) s=s.any (Nat.beq k):=fun s=>by
   induction s with
   |nil=>rfl
   |cons x s ih=>simp only [List.any_cons];rw [<- ih];cases Nat.beq k x <;> rfl
  have e:a30 ((k,u)::r) s=bif s.any (Nat.beq k) then a30 r s else (k,u)::a30 r (k::s):=by rw [<- hany];rfl
  rw [e] at h
  cases hs:s.any (Nat.beq k) with
  |true=>
   rw [hs] at h;obtain ⟨h1,h2⟩:=a19 r s h;obtain ⟨x,hx,hkx⟩:=xj8.1 hs;have hkx:=xa9 hkx;refine ⟨?_,h2⟩;rw [j3,xd9 (fun e=>h2 (by rw [<- e,hkx];exact hx))];exact h1
  |false=>
   rw [hs] at h;replace h:g8 ((k,u)::a30 r (k::s)) t=some v:=h;rw [j3] at h |-;by_cases ek:k=t
   ·rw [xd8 ek] at h |-;refine ⟨h,fun hm=>?_⟩;have:s.any (Nat.beq k)=true:=xj8.2 ⟨t,hm,by rw [ek];exact xj9 _⟩;rw [hs] at this
    cases this
   ·rw [xd9 ek] at h |-;obtain ⟨h1,h2⟩:=a19 r (k::s) h;exact ⟨h1,fun hm=>h2 (xb6 _ hm)⟩
theorem HasR.shrink (h:HasR ρ N ds a E):HasR ρ N ds a (a2A E):=⟨h.size,h.defers,fun t v ht=>by
 unfold a2A at ht
 cases e:Nat.blt 400 (@List.rec (Nat×Value) (fun _=>Nat) 0 (fun _ _ n=>n + 1) E) with
 |true=>rw [e] at ht;exact h.at_ t v (a19 E [] ht).1
 |false=>rw [e] at ht;exact h.at_ t v ht⟩
def a6M (P:Program) (c:Code) (N:Nat) (f:a20):Prop:=∀ E H n e E' H' n',f E H n=.ok (e,E',H',n')->n<=n'/\∀ {w0 w:World} {ρ:Ren} {ds:List Deferred} {a:Act} {hi:Nat} {Q:Exit->Act->World->Prop},PQ Q->HasR ρ N ds a E->Inv P w0 ρ H w->Fsh ρ n hi->n'<=hi->(∀ a' w' σ,Stp ρ σ n n'->HasR σ N ds a' E'->Inv P w0 σ H' w'->Q (toX e) a' w')->c.wp P Q a w
theorem a72 {c:Code} {f:a20} (hf:a6M P c N f):∀ k E H n e E' H' n',a6C f k E H n=.ok (e,E',H',n')->n<=n'/\∀ {w0 w:World} {ρ:Ren} {ds:List Deferred} {a:Act} {hi:Nat} {Q:Exit->Act->World->Prop},PQ Q->HasR ρ N ds a E->Inv P w0 ρ H w->Fsh ρ n hi->n'<=hi->(∀ a' w' σ,Stp ρ σ n n'->HasR σ N ds a' E'->Inv P w0 σ H' w'->Q (toX e) a' w')->Code.rounds P c Q k a w:=by
 intro k
 induction k with
 |zero=>intro E H n e E' H' n' h;cases h
 |succ k ih=>
  intro E H n e E' H' n' h;replace h:(match f E H n with
   |.ok (.normal,E',H',n')=>a6C f k (a2A E') H' n'
   |r=>r)=.ok (e,E',H',n'):=h
  split at h
  ·rename_i E1 H1 n1 hr;obtain ⟨h1,h2⟩:=hf _ _ _ _ _ _ _ hr;obtain ⟨h3,h4⟩:=ih _ _ _ _ _ _ _ h;refine ⟨xc6 h1 h3,fun {w0 w ρ ds a hi Q} hQ ha hI hF hn kk=>?_⟩;rw [rounds_succ];exact h2 hQ.then ha hI hF (xc6 h3 hn) fun a' w' σ hσ ha' hI'=>h4 hQ ha'.shrink hI' (hF.step hσ h1) hn fun a2 w2 τ hτ ha2 hI2=>kk a2 w2 τ (hσ.trans hτ h1 h3) ha2 hI2
  ·rename_i hne;obtain ⟨h1,h2⟩:=hf _ _ _ _ _ _ _ h;refine ⟨h1,fun {w0 w ρ ds a hi Q} hQ ha hI hF hn kk=>?_⟩;rw [rounds_succ];refine h2 hQ.then ha hI hF hn fun a' w' σ hσ ha' hI'=>?_;have:=kk a' w' σ hσ ha' hI'
   cases e with
   |normal=>exact (hne _ _ _ h).elim
   |exit i=>exact this
   |ret=>exact this
theorem a8V (hC:FOk P C) (hc:a0e P call) (pl:List (Nat×Pl)) (c:Code) (hB:q7 N pl c=true):a6M P c N (a2k C call pl c):=by
 induction c with
 |skip=>
  intro E H n e E' H' n' h
  cases h
  exact ⟨xc5 _,fun hQ ha hI hF hn k=>wp_skip (k _ _ _ (Stp.refl _ _ _) ha hI)⟩
 |region id ops draw=>
  intro E H n e E' H' n' h;replace hB:(ops.toList.all (a47 N) && (bif draw then (match g8 pl id with
   |some p=>Region.noSelect ops && (plB ops p).1 ops.size (Array.replicate ops.size false)
   |none=>true) else true))=true:=hB
  rw [xb7] at hB;obtain ⟨hd,hB⟩:=hB
  cases draw with
  |false=>
   replace h:(match a3H C call ops.toList ops.toList E H n with
    |.ok (E',H',n')=>Rs.ok (SX.normal,E',H',n')
    |.no p=>.no p)=.ok (e,E',H',n'):=h
   split at h
   ·rename_i E1 H1 n1 hr
    cases h
    obtain ⟨h1,_⟩:=a10 (Q:=fun _ _ _=>True) hC.ok hc hd hr;refine ⟨h1,fun {w0 w ρ ds a hi Q} hQ ha hI hF hn k=>?_⟩;obtain ⟨_,h2⟩:=a10 (Q:=Q) hC.ok hc hd hr;have:=wp_region_lit (id:=id) (l:=ops.toList) (h2 ha hI hF hn k)
    simpa using this
   ·cases h
  |true=>
   replace h:(match g8 pl id with
    |some p=>match xPl C call ops.toList p n 0 [] E H n with
     |.ok (E',H',n')=>Rs.ok (SX.normal,E',H',n')
     |.no p=>.no p
    | none => .no "plan") = .ok (e, E', H', n') := h
   split at h
   ·rename_i p hp;rw [hp] at hB;dsimp only [cond_true] at hB;rw [xb7] at hB
    split at h
    ·rename_i E1 H1 n1 hr
     cases h
     have hpl:=fun (Q:Exit->Act->World->Prop) (hQ:PQ Q)=>(b1S hC.ok hc hQ hB.1 hd p).1 _ _ _ _ _ _ _ _ _ _ _ hB.2 hr;refine ⟨(hpl (fun _ _ _=>True) (fun _ _ _ _ _ _=>trivial)).1,fun {w0 w ρ ds a hi Q} hQ ha hI hF hn k=>?_⟩;refine wp_region_any hC.mixed (a6F _ [] _ _ _ ((hpl Q hQ).2 (hi:=hi) (m0:=n) ⟨ha,hI.grow ⟨rfl,rfl,rfl,xc5 _,fun _ _ _=>rfl⟩,hF,fun j _ _ q h1 h2=>by simp at h1 h2;omega,xc5 _,by simp,EL.nil⟩ hn k))
    ·cases h
   ·cases h
 |seq x y ihx ihy=>
  intro E H n e E' H' n' h;replace hB:(q7 N pl x && q7 N pl y)=true:=hB;rw [xb7] at hB;replace h:(match a2k C call pl x E H n with
   |.ok (.normal,E',H',n')=>a2k C call pl y E' H' n'
   |r=>r)=.ok (e,E',H',n'):=h
  split at h
  ·rename_i E1 H1 n1 hr;obtain ⟨h1,h2⟩:=ihx hB.1 _ _ _ _ _ _ _ hr;obtain ⟨h3,h4⟩:=ihy hB.2 _ _ _ _ _ _ _ h;refine ⟨xc6 h1 h3,fun {w0 w ρ ds a hi Q} hQ ha hI hF hn k=>wp_seq ?_⟩;exact h2 hQ.then ha hI hF (xc6 h3 hn) fun a' w' σ hσ ha' hI'=>h4 hQ ha' hI' (hF.step hσ h1) hn fun a2 w2 τ hτ ha2 hI2=>k a2 w2 τ (hσ.trans hτ h1 h3) ha2 hI2
  ·rename_i hne;obtain ⟨h1,h2⟩:=ihx hB.1 _ _ _ _ _ _ _ h;refine ⟨h1,fun {w0 w ρ ds a hi Q} hQ ha hI hF hn k=>wp_seq ?_⟩;refine h2 hQ.then ha hI hF hn fun a' w' σ hσ ha' hI'=>?_;have:=k a' w' σ hσ ha' hI'
   cases e with
   |normal=>exact (hne _ _ _ h).elim
   |exit i=>exact this
   |ret=>exact this
 |cond o x y ihx ihy=>
  intro E H n e E' H' n' h;replace hB:(q7 N pl x && q7 N pl y)=true:=hB;rw [xb7] at hB;replace h:(match sEv E o with
   |some (.bool true)=>a2k C call pl x E H n
   |some (.bool false)=>a2k C call pl y E H n
   | _ => Rs.no "cond") = .ok (e, E', H', n') := h
  split at h
  ·rename_i ho;obtain ⟨h1,h2⟩:=ihx hB.1 _ _ _ _ _ _ _ h;refine ⟨h1,fun {w0 w ρ ds a hi Q} hQ ha hI hF hn k=>?_⟩;obtain ⟨u,hu,go⟩:=ha.ev ho;rw [VR.bool hu] at go;exact wp_cond_split (ha.full.ev go) (fun _=>h2 hQ ha hI hF hn k) (fun e=>by cases e)
  ·rename_i ho;obtain ⟨h1,h2⟩:=ihy hB.2 _ _ _ _ _ _ _ h;refine ⟨h1,fun {w0 w ρ ds a hi Q} hQ ha hI hF hn k=>?_⟩;obtain ⟨u,hu,go⟩:=ha.ev ho;rw [VR.bool hu] at go;exact wp_cond_split (ha.full.ev go) (fun e=>by cases e) (fun _=>h2 hQ ha hI hF hn k)
  ·cases h
 |block i x ih=>
  intro E H n e E' H' n' h;replace hB:q7 N pl x=true:=hB;replace h:(match a2k C call pl x E H n with
   |.ok (.exit j,E',H',n')=>bif Nat.beq j i then Rs.ok (SX.normal,E',H',n') else Rs.ok (SX.exit j,E',H',n')
   |r=>r)=.ok (e,E',H',n'):=h
  split at h
  ·rename_i j E1 H1 n1 hr;obtain ⟨h1,h2⟩:=ih hB _ _ _ _ _ _ _ hr
   cases hj:Nat.beq j i with
   |true=>
    rw [hj] at h
    cases h
    obtain rfl:=xa9 hj;refine ⟨h1,fun {w0 w ρ ds a hi Q} hQ ha hI hF hn k=>wp_block (h2 hQ.block ha hI hF hn fun a' w' σ hσ ha' hI'=>?_)⟩;show if j=j then _ else _;rw [xd8 rfl];exact k a' w' σ hσ ha' hI'
   |false=>
    rw [hj] at h
    cases h
    have hne:j≠i:=fun e=>by subst e;rw [xj9] at hj;cases hj
    refine ⟨h1,fun {w0 w ρ ds a hi Q} hQ ha hI hF hn k=>wp_block (h2 hQ.block ha hI hF hn fun a' w' σ hσ ha' hI'=>?_)⟩;show if j=i then _ else _;rw [xd9 hne];exact k a' w' σ hσ ha' hI'
  ·rename_i hne;obtain ⟨h1,h2⟩:=ih hB _ _ _ _ _ _ _ h;refine ⟨h1,fun {w0 w ρ ds a hi Q} hQ ha hI hF hn k=>wp_block (h2 hQ.block ha hI hF hn fun a' w' σ hσ ha' hI'=>?_)⟩;have:=k a' w' σ hσ ha' hI'
   cases e with
   |normal=>exact this
   |exit j=>exact (hne _ _ _ _ h).elim
   |ret=>exact this
 |loop x ih=>
  intro E H n e E' H' n' h;replace hB:q7 N pl x=true:=hB;replace h:a6C (a2k C call pl x) a8u E H n=.ok (e,E',H',n'):=h;generalize a8u=kk at h;obtain ⟨h1,h2⟩:=a72 (ih hB) kk _ _ _ _ _ _ _ h;exact ⟨h1,fun hQ ha hI hF hn k=>wp_loop_rounds kk (h2 hQ ha hI hF hn k)⟩
 |rangeFunc f ps x y _ _=>intro E H n e E' H' n' h;cases h
 |exit i=>
  intro E H n e E' H' n' h
  cases h
  exact ⟨xc5 _,fun hQ ha hI hF hn k=>wp_exit (k _ _ _ (Stp.refl _ _ _) ha hI)⟩
 |scope x _=>intro E H n e E' H' n' h;cases h
 |label l=>intro E H n e E' H' n' h;cases h
 |goto l=>intro E H n e E' H' n' h;cases h
 |ret=>
  intro E H n e E' H' n' h
  cases h
  exact ⟨xc5 _,fun hQ ha hI hF hn k=>wp_ret (k _ _ _ (Stp.refl _ _ _) ha hI)⟩
 |refuse s=>intro E H n e E' H' n' h;cases h
theorem a4d (hT:TOk P C.T) (ha:HasR ρ N ds a E) (hI:Inv P w0 ρ H w):∀ {rs:List ResultVar} {vs:List Value},a7r C.T E H rs=some vs->∃ us,LR ρ vs us/\ResL P (a0c a) w rs us
 |[],vs,h=>by cases h;exact ⟨[],LR.nil,ResL.nil⟩
 |.tmp t::r,vs,h=>by
  unfold a7r at h
  split at h
  ·rename_i v vs' h1 h2
   cases h
   obtain ⟨u,hu,hat⟩:=ha.at_ t v h1;obtain ⟨us,h3,h4⟩:=a4d hT ha hI h2;exact ⟨u::us,LR.cons hu h3,ResL.tmp (a17 hat) h4⟩
  ·cases h
 |.cell p t::r,vs,h=>by
  unfold a7r at h
  split at h
  ·rename_i pv hp
   split at h
   ·rename_i v vs' h1 h2
    cases h
    obtain ⟨p',hp',hat⟩:=ha.at_ p pv hp;obtain ⟨b,o,u,rfl,hu,hl⟩:=a4q hT hI h1 hp';obtain ⟨us,h3,h4⟩:=a4d hT ha hI h2;exact ⟨u::us,LR.cons hu h3,ResL.cell (a17 hat) hl h4⟩
   ·cases h
  ·cases h
theorem VR.pack {vs us:List Value} (h:LR ρ vs us):VR ρ (a1Z vs) (a1Z us):=by
 match vs,us,h with
 |[],us,h=>rw [LR.nil_inv h];exact VR.mkTup LR.nil
 |[v],us,h=>
  obtain ⟨u,r,rfl,h1,h2⟩:=LR.inv h;rw [LR.nil_inv h2];exact h1
 |v::v2::r,us,h=>
  obtain ⟨u,r',rfl,h1,h2⟩:=LR.inv h;obtain ⟨u2,r2,rfl,h3,h4⟩:=LR.inv h2;exact VR.mkTup h
theorem a2Z (m e:Nat):∀ (H:SH) {i:Nat} {s:SA},g8 (a7f m e H) i=some s->g8 H i=some s/\inR m e i=true
 |[],i,s,h=>by cases h
 |(k,t)::r,i,s,h=>by
  replace h:g8 (@Bool.rec (fun _=>SH) (a7f m e r) ((k,t)::a7f m e r) (inR m e k)) i=some s:=h
  cases hb:inR m e k with
  |true=>
   rw [hb] at h;rw [j3] at h |-;by_cases hk:k=i
   ·rw [xd8 hk] at h |-;exact ⟨h,by rw [<- hk];exact hb⟩
   ·rw [xd9 hk] at h |-;exact a2Z m e r h
  |false=>
   rw [hb] at h;obtain ⟨h1,h2⟩:=a2Z m e r h;have hk:k≠i:=fun e2=>by
    subst e2;rw [hb] at h2
    cases h2
   rw [j3,xd9 hk];exact ⟨h1,h2⟩
theorem b1Y {m e:Nat} {v:Value} {i:Nat} {s:SA} (h:g8 (gc m e v H) i=some s):g8 H i=some s:=by
 unfold gc at h
 cases hb:(Nat.blt 20 (b03 m e H) && (a7c 1000 m e v && (a7f m e H).all fun p=>b1a m e p.2)) with
 |true=>rw [hb] at h;exact (a2Z m e H h).1
 |false=>rw [hb] at h;exact h
theorem a21:∀ {vs us:List Value} {k t:Nat} {v:Value},LR ρ vs us->g8 (a2o k vs) t=some v->k<=t/\∃ u,us[t - k]?=some u/\VR ρ v u
 |[],us,k,t,v,_,h=>by cases h
 |x::vs,us,k,t,v,hr,h=>by
  obtain ⟨u,r,rfl,h1,h2⟩:=LR.inv hr;replace h:g8 ((k,x)::a2o (k + 1) vs) t=some v:=h;rw [j3] at h;by_cases e:k=t
  ·rw [xd8 e] at h
   cases h
   subst e;exact ⟨xc5 _,u,by simp,h1⟩
  ·rw [xd9 e] at h;obtain ⟨h3,u',h4,h5⟩:=a21 h2 h;exact ⟨by omega,u',by rw [show t - k=(t - (k + 1)) + 1 from by omega];simpa using h4,h5⟩
theorem a8t (hC:FOk P C) (hc:a0e P call):a0e P (a82 C call):=by
 intro g vs H n v H' n' h;unfold a82 at h
 split at h
 ·rename_i f hf
  split at h
  ·rename_i u hu
   cases h
   refine ⟨xc5 _,fun {w0 w ρ hi us} hr hI hF hn=>?_⟩;obtain ⟨h1,h2,h3⟩:=hC.M g f hf vs _ hu;have e:us=vs:=by
    have:=h1 ρ;unfold LR at hr this;rw [hr] at this
    cases this
    rfl
   rw [e];exact (h3 w).mono fun v' w' ⟨e1,hS⟩=>⟨ρ,Stp.refl _ _ _,by rw [e1];exact h2 ρ,hI.grow (St.grown0 hS)⟩
  ·cases h
 ·split at h
  ·rename_i fn pl hf;obtain ⟨hok,c',hb',hB⟩:=hC.F.get hf
   split at h
   ·rename_i c hb;obtain rfl:c=c':=by rw [hb] at hb';exact Option.some.inj hb'
    cases hl:Nat.ble vs.length fn.ntmps with
    |false=>rw [hl] at h;cases h
    |true=>
    rw [hl] at h;dsimp only [cond_true] at h
    split at h
    ·cases h
    ·rename_i e E1 H1 n1 hne hr
     split at h
     ·rename_i rs hrs
      cases h
      obtain ⟨h1,h2⟩:=a8V hC hc pl c hB _ _ _ _ _ _ _ hr;refine ⟨h1,fun {w0 w ρ hi us} hus hI hF hn=>⟨⟨fn,hok⟩,?_⟩⟩;refine calls_of_wp hok.at_ hb (h2 (fun c a w d v hq=>by cases d <;> exact hq) ⟨?_,rfl,fun t v ht=>?_⟩ hI hF hn fun a' w' σ hσ ha' hI'=>?_)
      ·have:=xe8 hl;have:=hus.len;simp;omega
      ·obtain ⟨_,u,hu,hv⟩:=a21 hus ht;rw [Nat.sub_zero] at hu;have hlt:=j7 hu;exact ⟨u,hv,by rw [Array.getElem?_append_left (by simpa using hlt)];simpa using hu⟩
      ·obtain ⟨us',h3,h4⟩:=a4d hC.ok.T ha' hI' hrs;have q:=b1f (P:=P) (fn:=fn) (Φ:=fun u w'=>∃ σ,Stp ρ σ n n'/\VR σ (a1Z rs) u/\Inv P w0 σ (gc n n' (a1Z rs) H1) w') rfl h4 rfl ⟨σ,hσ,VR.pack h3,hI'.sub fun i s hs=>b1Y hs⟩ ha'.full
       cases e with
       |normal=>exact q
       |exit i=>exact (hne _ rfl).elim
       |ret=>exact q
     ·cases h
    ·cases h
   ·cases h
  ·cases h
theorem b0r (hC:FOk P C) (k:Nat):a0e P (b1e C k):=by
 induction k with
 |zero=>intro g vs H n v H' n' h;cases h
 |succ k ih=>exact a8t hC ih
noncomputable def xIs (r:Rs (Value×SH×Nat)) (v:Value):Bool:=match r with
 |.ok (u,_,_)=>vEq 1000 u v
 |.no _=>false
theorem b13 (hC:FOk P C) {g:Nat} {vs:List Value} {v:Value} (k:Nat) (h:xIs (b1e C k g vs [] 0) v=true) (hvs:vs.all cOk=true) (hv:∀ ρ,VR ρ v v) (w:World):Fn P g vs w (RBf v w):=by
 unfold xIs at h
 split at h
 ·rename_i u H n hr;obtain rfl:=a1x _ h;obtain ⟨h1,h2⟩:=b0r hC k _ _ _ _ _ _ _ hr;refine (h2 (w0:=w) (w:=w) (ρ:=fun _=>none) (hi:=n) (LR.cOks hvs) ⟨⟨rfl,rfl,rfl,xc5 _,fun _ _=>rfl⟩,(fun i s h=>by cases h),(fun i j s t x y h=>by cases h)⟩ (fun _ _ _=>rfl) (xc5 _)).mono fun u' w' ⟨σ,hσ,hu,hI⟩=>?_;exact ⟨VR.fn (hv σ) hu,St.of_below hI.below⟩
 ·cases h
end
theorem a7b {α:Type} {l:List (Nat×α)} {i:Nat} {x:α} (h:g8 l i=some x):(i,x) ∈ l:=by
 induction l with
 |nil=>cases h
 |cons p r ih=>
  have h2:(@Bool.rec (fun _=>Option α) (g8 r i) (some p.2) (Nat.beq p.1 i))=some x:=h
  cases hb:Nat.beq p.1 i with
  |true=>
   rw [hb] at h2
   cases h2
   rw [<- xa9 hb];exact xb5
  |false=>
   rw [hb] at h2;exact xb6 _ (ih h2)
theorem a8y {l:List (String×Nat)} {i:String} {x:Nat} (h:b0e l i=some x):(i,x) ∈ l:=by
 induction l with
 |nil=>cases h
 |cons p r ih=>
  have h2:(@Bool.rec (fun _=>Option Nat) (b0e r i) (some p.2) (decide (p.1=i)))=some x:=h
  cases hb:decide (p.1=i) with
  |true=>
   rw [hb] at h2
   cases h2
   rw [<- xj4 hb];exact xb5
  |false=>
   rw [hb] at h2;exact xb6 _ (ih h2)
theorem b2c {P:Program} {I:List (Nat×List (String×Nat))} (h:I.all (fun p=>P.concrete p.1 && p.2.all fun q=>a8E P p.1 q.1 q.2)=true):IOk P I:=fun t ms ht=>by
 have h1:=xb8.1 h _ (a7b ht);rw [xb7] at h1;exact ⟨h1.1,fun name g hg=>xb8.1 h1.2 _ (a8y hg)⟩
end Go.Proofs.YtejnpppejalhfacGreat
namespace Go.Proofs.YtejnpppejalhfacGreat
set_option maxRecDepth 100000
set_option maxHeartbeats 8000000
open Go.RowKit
def leB (n:Int):Nat->List UInt8
 |0=>[]
 |k + 1=>leB n k++[UInt8.ofNat ((n / 2 ^ (8 * k)) % 256).toNat]
@[go_sem] theorem leB_length (n:Int) (k:Nat):(leB n k).length=k:=by
 induction k with
 |zero=>rfl
 |succ k ih=>simp [leB,ih]
def inB (off n all:Int):Bool:=decide (0<=off/\0<=n/\off<=all/\n<=all - off)
theorem a5u (b:UInt8):wrap64 (b.toNat:Int)=(b.toNat:Int):=by
 have:=b.toNat_lt;unfold wrap64;omega
theorem a84 (off n all:Int):inB off n all=(decide (0<=off) && (decide (0<=n) && (decide (off<=all) && decide (n<=all - off)))):=by
 unfold inB;simp
theorem a8m (off n all:Int) (w:World) (h:0<=all) (h2:all<=9223372036854775807) :
  Calls Tryz.prog 162 #[.int .i64 off,.int .i64 n,.int .i64 all] w fun e w'=>e=.returned (.bool (inB off n all))/\w=w':=by
 have hs:=hid (a84 off n all)
 go_enter Tryz.func162,Tryz.ntmps162
 go_wp2
 all_goals
  go_ret
  refine ⟨j6 ?_,rfl⟩;rw [hs.out]
  first
   |(rw [IntWalk.wrap64_in (all - off) ⟨by omega,by omega⟩];simp [*];done)
   |(rw [xc0];simp;omega)
theorem a8z (s t:List UInt8) (off:Nat) (w:World) (hs:s.length<=maxLen) (h:off + t.length<=s.length) :
  Calls Tryz.prog 149 #[.string ⟨s.toArray⟩,.int .i64 off,.string ⟨t.toArray⟩] w fun e w'=>e=.returned (.string ⟨(splice s off t).toArray⟩)/\∃ n,w'=w.drewN n:=by
 unfold maxLen at hs
 go_enter Tryz.func149,Tryz.ntmps149
 go_wp2
 go_quiet (fail)
 go_wp2
 go_ret
 refine ⟨?_,a7t⟩;exact b0v (by simp [splice,xa0])
theorem a99 (off n all:Nat) (h:off + n<=all):inB off n all=true:=by
 unfold inB;simp;omega
theorem a9L (s t:List UInt8) (off:Nat) (w:World) (hs:s.length<=maxLen) (h:off + t.length<=s.length) :
  Calls Tryz.prog 110 #[.string ⟨s.toArray⟩,.int .i64 off,.string ⟨t.toArray⟩] w fun e w'=>e=.returned (.tuple #[.string ⟨(splice s off t).toArray⟩,.int .i64 0])/\Below w.heap.size w w':=by
 unfold maxLen at hs;have hin:=a99 off t.length s.length h;have hin2:=hid hin;clear hin
 go_enter Tryz.func110,Tryz.ntmps110
 have hsz5:(Tryz.prog.info? 5).map (·.size)=some 1:=by kernel_rfl
 have Hsz5:=hid hsz5;clear hsz5
 go_wp2_with (first|go_at_call 162;(with_reducible refine (a8m _ _ _ _ (by omega) (by omega)).mono ?_);rintro e w' ⟨rfl,rfl⟩;rw [hin2.out]|(with_reducible refine n7 17 ?_);refine a11 rfl (.tmp 16) 9 179 5 rfl Tryz.underlying9 Tryz.underlying179 Tryz.underlying5 s rfl w.heap.size w (Below.refl _ _) (xc5 _) ?_;intro cap w1 hcap hb1 hby1 hsz1;have HB:=hid hby1;clear hby1|(with_reducible refine n7 22 ?_);refine a2v rfl (.tmp 20) (.tmp 21) 179 9 rfl 5 Tryz.underlying179 Hsz5.out _ (s.length - off) _ rfl t rfl w.heap.size off s HB.out ?c1 ?c2 w.heap.size w hb1 (xc5 _) ?_;(case c1=>go_must (rw [xa1];omega));(case c2=>go_must (rw [xa1];intro h0;rw [xd9 (by omega)]));intro w2 hb2 hsz2 hby2;have HB2:=hid hby2;clear hby2|(with_reducible refine n7 24 ?_);refine a2y rfl (.tmp 23) 179 9 5 rfl Tryz.underlying179 Tryz.underlying5 Tryz.underlying9 _ w.heap.size s.length _ rfl ?c3 HB2.out ?_;(case c3=>go_must (exact length_splice _ _ _ (by rw [xa1];omega)));clear HB2)
 all_goals
  go_ret2
  refine ⟨?_,hb2⟩;show Ending.returned (.tuple #[.string ⟨(splice s off (t.take (s.length - off))).toArray⟩,.int .i64 0])=_;rw [xa0 (show t.length<=s.length - off from by omega)]
theorem b2f (s t:List UInt8) (off:Int) (w:World) (hs:s.length<=maxLen) (h:inB off t.length s.length=false) :
  Calls Tryz.prog 110 #[.string ⟨s.toArray⟩,.int .i64 off,.string ⟨t.toArray⟩] w fun e w'=>e=.returned (.tuple #[.string ⟨#[]⟩,.int .i64 3])/\w=w':=by
 unfold maxLen at hs
 go_enter Tryz.func110,Tryz.ntmps110
 go_wp2_with (go_at_call 162;(with_reducible refine (a8m _ _ _ _ (by omega) (by omega)).mono ?_);rintro e w' ⟨rfl,rfl⟩;rw [h])
 go_ret2
 exact ⟨rfl,rfl⟩
end Go.Proofs.YtejnpppejalhfacGreat
namespace Go.Proofs.YtejnpppejalhfacGreat
set_option maxRecDepth 100000
set_option maxHeartbeats 8000000
open Go.RowKit Go.Sort
def tab:Tab:=[
 (3,.sc (.int .i64) 1 (.int .i64 0)),
 (27,.st 5 [(0,1,false),(1,1,false),(2,1,false),(3,1,false),(4,1,false)] [.slice none 0 0,.slice none 0 0,.slice none 0 0,.slice none 0 0,.int .i64 0]),
 (39,.sl 136 4 32 true [.int .i64 0,.int .i64 0,.int .i64 0,.bool false]),
 (136,.st 4 [(0,1,false),(1,1,false),(2,1,false),(3,1,false)] [.int .i64 0,.int .i64 0,.int .i64 0,.bool false]),
 (45,.st 7 [(0,5,true),(5,1,false),(6,1,false)] [.slice none 0 0,.slice none 0 0,.slice none 0 0,.slice none 0 0,.int .i64 0,.slice none 0 0,.slice none 0 0]),
 (137,.sl 145 2 24 true [.int .i64 0,.string ⟨#[]⟩]),
 (76,.sl 82 3 24 true [.int .i64 0,.int .i64 0,.int .i64 0]),
 (82,.st 3 [(0,1,false),(1,1,false),(2,1,false)] [.int .i64 0,.int .i64 0,.int .i64 0]),
 (9,.sc .string 1 (.string ⟨#[]⟩)),
 (78,.st 3 [(0,1,false),(1,1,false),(2,1,false)] [.bool false,.slice none 0 0,.slice none 0 0]),
 (145,.st 2 [(0,1,false),(1,1,false)] [.int .i64 0,.string ⟨#[]⟩]),
 (123,.st 13 [(0,8,true),(8,1,false),(9,1,false),(10,1,false),(11,2,true)] [.int .i64 0,.int .i64 0,.int .i64 0,.int .i64 0,.int .i64 0,.int .i64 0,.int .i64 0,.int .i64 0,.int .i64 0,.int .i64 0,.int .i64 0,.int .i64 0,.int .i64 0]),
 (25,.sl 78 3 56 true [.bool false,.slice none 0 0,.slice none 0 0]),
 (164,.st 5 [(0,1,false),(1,1,false),(2,1,false),(3,1,false),(4,1,false)] [.int .i64 0,.int .i64 0,.int .i64 0,.int .i64 0,.int .i64 0]),
 (99,.st 2 [(0,1,false),(1,1,false)] [.int .i64 0,.int .i64 0]),
 (41,.st 3 [(0,1,false),(1,1,false),(2,1,false)] [.slice none 0 0,.slice none 0 0,.int .i64 0]),
 (23,.sl 84 4 32 true [.string ⟨#[]⟩,.int .i64 0,.bool false,.bool false]),
 (42,.sl 123 13 104 true [.int .i64 0,.int .i64 0,.int .i64 0,.int .i64 0,.int .i64 0,.int .i64 0,.int .i64 0,.int .i64 0,.int .i64 0,.int .i64 0,.int .i64 0,.int .i64 0,.int .i64 0]),
 (142,.st 3 [(0,1,false),(1,1,false),(2,1,false)] [.int .i64 0,.string ⟨#[]⟩,.slice none 0 0]),
 (22,.sl 142 3 48 true [.int .i64 0,.string ⟨#[]⟩,.slice none 0 0]),
 (63,.st 4 [(0,1,false),(1,1,false),(2,1,false),(3,1,false)] [.int .i64 0,.slice none 0 0,.slice none 0 0,.slice none 0 0]),
 (139,.st 3 [(0,1,false),(1,1,false),(2,1,false)] [.bool false,.slice none 0 0,.slice none 0 0]),
 (24,.sl 88 2 24 true [.string ⟨#[]⟩,.int .i64 0]),
 (84,.st 4 [(0,1,false),(1,1,false),(2,1,false),(3,1,false)] [.string ⟨#[]⟩,.int .i64 0,.bool false,.bool false]),
 (43,.sl 120 2 16 true [.int .i64 0,.int .i64 0]),
 (61,.sl 139 3 56 true [.bool false,.slice none 0 0,.slice none 0 0]),
 (172,.st 6 [(0,1,false),(1,1,false),(2,1,false),(3,1,false),(4,1,false),(5,1,false)] [.string ⟨#[]⟩,.slice none 0 0,.slice none 0 0,.slice none 0 0,.slice none 0 0,.int .i64 0]),
 (121,.ar 8 8 1 false [.int .i64 0,.int .i64 0,.int .i64 0,.int .i64 0,.int .i64 0,.int .i64 0,.int .i64 0,.int .i64 0]),
 (4,.sc .bool 1 (.bool false)),
 (53,.sl 3 1 8 false [.int .i64 0]),
 (86,.st 7 [(0,5,true),(5,1,false),(6,1,false)] [.slice none 0 0,.slice none 0 0,.slice none 0 0,.slice none 0 0,.int .i64 0,.int .i64 0,.slice none 0 0]),
 (166,.st 5 [(0,1,false),(1,1,false),(2,1,false),(3,1,false),(4,1,false)] [.int .i64 0,.int .i64 0,.string ⟨#[]⟩,.bool false,.bool false]),
 (221,.st 5 [(0,1,false),(1,1,false),(2,1,false),(3,1,false),(4,1,false)] [.int .i64 0,.int .i64 0,.int .i64 0,.int .i64 0,.int .i64 0]),
 (140,.sl 156 2 24 true [.int .i64 0,.string ⟨#[]⟩]),
 (88,.st 2 [(0,1,false),(1,1,false)] [.string ⟨#[]⟩,.int .i64 0]),
 (188,.ar 256 256 1 false [.int .i64 0,.int .i64 0,.int .i64 0,.int .i64 0,.int .i64 0,.int .i64 0,.int .i64 0,.int .i64 0,.int .i64 0,.int .i64 0,.int .i64 0,.int .i64 0,.int .i64 0,.int .i64 0,.int .i64 0,.int .i64 0,.int .i64 0,.int .i64 0,.int .i64 0,.int .i64 0,.int .i64 0,.int .i64 0,.int .i64 0,.int .i64 0,.int .i64 0,.int .i64 0,.int .i64 0,.int .i64 0,.int .i64 0,.int .i64 0,.int .i64 0,.int .i64 0,.int .i64 0,.int .i64 0,.int .i64 0,.int .i64 0,.int .i64 0,.int .i64 0,.int .i64 0,.int .i64 0,.int .i64 0,.int .i64 0,.int .i64 0,.int .i64 0,.int .i64 0,.int .i64 0,.int .i64 0,.int .i64 0,.int .i64 0,.int .i64 0,.int .i64 0,.int .i64 0,.int .i64 0,.int .i64 0,.int .i64 0,.int .i64 0,.int .i64 0,.int .i64 0,.int .i64 0,.int .i64 0,.int .i64 0,.int .i64 0,.int .i64 0,.int .i64 0,.int .i64 0,.int .i64 0,.int .i64 0,.int .i64 0,.int .i64 0,.int .i64 0,.int .i64 0,.int .i64 0,.int .i64 0,.int .i64 0,.int .i64 0,.int .i64 0,.int .i64 0,.int .i64 0,.int .i64 0,.int .i64 0,.int .i64 0,.int .i64 0,.int .i64 0,.int .i64 0,.int .i64 0,.int .i64 0,.int .i64 0,.int .i64 0,.int .i64 0,.int .i64 0,.int .i64 0,.int .i64 0,.int .i64 0,.int .i64 0,.int .i64 0,.int .i64 0,.int .i64 0,.int .i64 0,.int .i64 0,.int .i64 0,.int .i64 0,.int .i64 0,.int .i64 0,.int .i64 0,.int .i64 0,.int .i64 0,.int .i64 0,.int .i64 0,.int .i64 0,.int .i64 0,.int .i64 0,.int .i64 0,.int .i64 0,.int .i64 0,.int .i64 0,.int .i64 0,.int .i64 0,.int .i64 0,.int .i64 0,.int .i64 0,.int .i64 0,.int .i64 0,.int .i64 0,.int .i64 0,.int .i64 0,.int .i64 0,.int .i64 0,.int .i64 0,.int .i64 0,.int .i64 0,.int .i64 0,.int .i64 0,.int .i64 0,.int .i64 0,.int .i64 0,.int .i64 0,.int .i64 0,.int .i64 0,.int .i64 0,.int .i64 0,.int .i64 0,.int .i64 0,.int .i64 0,.int .i64 0,.int .i64 0,.int .i64 0,.int .i64 0,.int .i64 0,.int .i64 0,.int .i64 0,.int .i64 0,.int .i64 0,.int .i64 0,.int .i64 0,.int .i64 0,.int .i64 0,.int .i64 0,.int .i64 0,.int .i64 0,.int .i64 0,.int .i64 0,.int .i64 0,.int .i64 0,.int .i64 0,.int .i64 0,.int .i64 0,.int .i64 0,.int .i64 0,.int .i64 0,.int .i64 0,.int .i64 0,.int .i64 0,.int .i64 0,.int .i64 0,.int .i64 0,.int .i64 0,.int .i64 0,.int .i64 0,.int .i64 0,.int .i64 0,.int .i64 0,.int .i64 0,.int .i64 0,.int .i64 0,.int .i64 0,.int .i64 0,.int .i64 0,.int .i64 0,.int .i64 0,.int .i64 0,.int .i64 0,.int .i64 0,.int .i64 0,.int .i64 0,.int .i64 0,.int .i64 0,.int .i64 0,.int .i64 0,.int .i64 0,.int .i64 0,.int .i64 0,.int .i64 0,.int .i64 0,.int .i64 0,.int .i64 0,.int .i64 0,.int .i64 0,.int .i64 0,.int .i64 0,.int .i64 0,.int .i64 0,.int .i64 0,.int .i64 0,.int .i64 0,.int .i64 0,.int .i64 0,.int .i64 0,.int .i64 0,.int .i64 0,.int .i64 0,.int .i64 0,.int .i64 0,.int .i64 0,.int .i64 0,.int .i64 0,.int .i64 0,.int .i64 0,.int .i64 0,.int .i64 0,.int .i64 0,.int .i64 0,.int .i64 0,.int .i64 0,.int .i64 0,.int .i64 0,.int .i64 0,.int .i64 0,.int .i64 0,.int .i64 0,.int .i64 0,.int .i64 0,.int .i64 0,.int .i64 0,.int .i64 0,.int .i64 0,.int .i64 0,.int .i64 0,.int .i64 0,.int .i64 0,.int .i64 0,.int .i64 0,.int .i64 0,.int .i64 0,.int .i64 0,.int .i64 0,.int .i64 0]),
 (71,.sc (.pointer 86) 1 (.pointer none)),
 (167,.sl 166 5 40 true [.int .i64 0,.int .i64 0,.string ⟨#[]⟩,.bool false,.bool false]),
 (179,.sl 5 1 1 false [.int .u8 0]),
 (216,.st 3 [(0,1,false),(1,1,false),(2,1,false)] [.nilIface,.slice none 0 0,.slice none 0 0]),
 (156,.st 2 [(0,1,false),(1,1,false)] [.int .i64 0,.string ⟨#[]⟩]),
 (202,.sl 268 7 56 true [.int .i64 0,.int .i64 0,.int .i64 0,.int .i64 0,.int .i64 0,.int .i64 0,.bool false]),
 (168,.sl 9 1 16 false [.string ⟨#[]⟩]),
 (250,.st 7 [(0,6,true),(6,1,false)] [.string ⟨#[]⟩,.slice none 0 0,.slice none 0 0,.slice none 0 0,.slice none 0 0,.int .i64 0,.int .i64 0]),
 (334,.st 3 [(0,1,false),(1,1,false),(2,1,false)] [.bool false,.bool false,.bool false]),
 (292,.st 2 [(0,1,false),(1,1,false)] [.int .i64 0,.slice none 0 0]),
 (375,.sc (.func #[145,145] #[3] false) 1 (.nilFunc)),
 (240,.sl 172 6 120 true [.string ⟨#[]⟩,.slice none 0 0,.slice none 0 0,.slice none 0 0,.slice none 0 0,.int .i64 0]),
 (300,.st 3 [(0,1,false),(1,1,false),(2,1,false)] [.int .i64 0,.string ⟨#[]⟩,.int .i64 0]),
 (246,.st 4 [(0,1,false),(1,1,false),(2,1,false),(3,1,false)] [.map none,.map none,.slice none 0 0,.int .i64 0]),
 (244,.sl 250 7 128 true [.string ⟨#[]⟩,.slice none 0 0,.slice none 0 0,.slice none 0 0,.slice none 0 0,.int .i64 0,.int .i64 0]),
 (5,.sc (.int .u8) 1 (.int .u8 0)),
 (336,.sc (.map 3 334) 1 (.map none)),
 (324,.st 2 [(0,1,false),(1,1,false)] [.string ⟨#[]⟩,.int .i64 0]),
 (95,.sc (.pointer 27) 1 (.pointer none)),
 (285,.sc (.int .u64) 1 (.int .u64 0)),
 (120,.st 2 [(0,1,false),(1,1,false)] [.int .i64 0,.int .i64 0]),
 (169,.sl 324 2 24 true [.string ⟨#[]⟩,.int .i64 0]),
 (392,.sc (.int .u64) 1 (.int .u64 0)),
 (210,.st 5 [(0,5,true)] [.slice none 0 0,.slice none 0 0,.slice none 0 0,.slice none 0 0,.int .i64 0]),
 (170,.sl 300 3 32 true [.int .i64 0,.string ⟨#[]⟩,.int .i64 0]),
 (196,.sl 202 1 24 false [.slice none 0 0]),
 (198,.st 4 [(0,1,false),(1,1,false),(2,1,false),(3,1,false)] [.pointer none,.slice none 0 0,.slice none 0 0,.int .i64 0]),
 (321,.sc (.int .u64) 1 (.int .u64 0)),
 (268,.st 7 [(0,3,true),(3,4,true)] [.int .i64 0,.int .i64 0,.int .i64 0,.int .i64 0,.int .i64 0,.int .i64 0,.bool false]),
 (195,.sc (.pointer 198) 1 (.pointer none)),
 (243,.sc (.map 9 3) 1 (.map none)),
 (396,.sc (.pointer 3) 1 (.pointer none)),
 (242,.sc (.map 9 172) 1 (.map none)),
 (288,.sc (.pointer 292) 1 (.pointer none)),
 (128,.sc (.pointer 216) 1 (.pointer none)),
 (208,.sc (.pointer 210) 1 (.pointer none)),
 (293,.sl 240 1 24 false [.slice none 0 0]),
 (307,.sl 39 1 24 false [.slice none 0 0]),
 (111,.sc (.func #[39] #[39,28] false) 1 (.nilFunc)),
 (297,.sc (.map 3 305) 1 (.map none)),
 (91,.sc (.func #[82] #[4] false) 1 (.nilFunc)),
 (241,.sc (.pointer 246) 1 (.pointer none)),
 (28,.sc (.int .i64) 1 (.int .i64 0)),
 (194,.sl 164 5 40 true [.int .i64 0,.int .i64 0,.int .i64 0,.int .i64 0,.int .i64 0]),
 (295,.sl 248 1 8 false [.nilFunc]),
 (21,.sc (.int .i32) 1 (.int .i32 0)),
 (359,.sc (.int .u32) 1 (.int .u32 0)),
 (79,.sc (.pointer 78) 1 (.pointer none)),
 (344,.sc (.func #[21] #[4] false) 1 (.nilFunc)),
 (130,.sc (.func #[128] #[28] false) 1 (.nilFunc)),
 (178,.sc (.func #[176,3,3] #[] false) 1 (.nilFunc)),
 (200,.sc (.func #[78] #[4] false) 1 (.nilFunc)),
 (259,.sc (.func #[82,3] #[3] false) 1 (.nilFunc)),
 (270,.sc (.func #[268] #[4] false) 1 (.nilFunc)),
 (218,.sc (.pointer 123) 1 (.pointer none)),
 (377,.sc (.func #[145] #[4] false) 1 (.nilFunc)),
 (248,.sc (.func #[172] #[28] false) 1 (.nilFunc)),
 (231,.sc (.pointer 45) 1 (.pointer none)),
 (252,.sc (.pointer 41) 1 (.pointer none)),
 (176,.sc (.pointer 84) 1 (.pointer none)),
 (257,.sc (.func #[136,3] #[3] false) 1 (.nilFunc)),
 (261,.sc (.func #[142,3] #[3] false) 1 (.nilFunc)),
 (331,.sc (.func #[84] #[4] false) 1 (.nilFunc)),
 (349,.sc (.func #[88] #[4] false) 1 (.nilFunc)),
 (379,.sc (.func #[145,3] #[3] false) 1 (.nilFunc))]
theorem a4:TabOk Tryz.prog tab:=by
 unfold tab
 repeat (first|exact TabOk.nil _|refine TabOk.cons (by kernel_rfl) (by rfl) ?_)
theorem a81 (s t:List UInt8) (off:Int) (w:World) (hs:s.length<=maxLen):Fn Tryz.prog 110 [.string ⟨s.toArray⟩,.int .i64 off,.string ⟨t.toArray⟩] w (RBf (.tuple #[.string ⟨(if inB off t.length s.length=true then splice s off.toNat t else []).toArray⟩,.int .i64 (if inB off t.length s.length=true then 0 else 3)]) w):=by
 by_cases h:inB off t.length s.length=true
 ·rw [xd8 h,xd8 h];unfold inB at h;simp only [xh4] at h;have h1:=a9L s t off.toNat w hs (by omega);rw [xh3 (by omega)] at h1;exact Fn.of_rb ⟨Tryz.func110,by kernel_rfl,by kernel_rfl⟩ (a7T h1)
 ·rw [xd9 h,xd9 h];exact (Fn.of_same ⟨Tryz.func110,by kernel_rfl,by kernel_rfl⟩ (b2f s t off w hs (by simpa using h))).mono (by rintro v w' ⟨rfl,rfl⟩;exact ⟨rfl,St.start _⟩)
theorem b0l (s t:List UInt8) (off:Nat) (w:World) (hs:s.length<=maxLen) (h:off + t.length<=s.length):Fn Tryz.prog 149 [.string ⟨s.toArray⟩,.int .i64 off,.string ⟨t.toArray⟩] w (RBf (.string ⟨(splice s off t).toArray⟩) w) :=
 ⟨⟨_,Tryz.func149,by kernel_rfl,by kernel_rfl⟩,(a8z s t off w hs h).mono fun _ _ ⟨he,n,hw⟩=>⟨_,he,rfl,by subst hw;exact (St.start w).grow ⟨rfl,rfl,rfl,xc5 _,fun _ _ _=>rfl⟩⟩⟩
def cxQ:EqT:=[(84,[1,0,2,2]),(88,[1,0]),(99,[0,0])]
noncomputable def b2r:List Value->Option Value
 |[.string ⟨⟨s⟩⟩,.int .i64 off,.string ⟨⟨t⟩⟩]=>ifB (inB off t.length s.length && Nat.ble s.length 100000) (some (.tuple #[.string ⟨(splice s off.toNat t).toArray⟩,.int .i64 0])) none
 |_=>none
noncomputable def cxM:List (Nat×(List Value->Option Value)):=[(110,b2r)]
theorem b2C {ρ:Ren} {z:Value} {l:List Value} (h:celL z=some l) (hl:l.all cOk=true):VR ρ z z:=by
 cases z
 all_goals first
  |(cases h;exact VR.mkAgg (LR.cOks hl);done)
  |(cases h;exact VR.cOk (by simpa using hl);done)
  |(cases h;done)
def zOk (z:Value):Bool:=match celL z with
 |some l=>l.all cOk
 |none=>false
def ForA {α:Type} (p:α->Prop):List α->Prop
 |[]=>True
 |x::r=>p x/\ForA p r
theorem ForA.nil {α:Type} {p:α->Prop}:ForA p []:=trivial
theorem ForA.cons {α:Type} {p:α->Prop} {x:α} {l:List α} (h:p x) (h':ForA p l):ForA p (x::l):=⟨h,h'⟩
theorem ForA.mem {α:Type} {p:α->Prop}:∀ {l:List α},ForA p l->∀ x ∈ l,p x
 |[],_,x,h=>by cases h
 |y::r,⟨h1,h2⟩,x,h=>by
  rcases xb4.1 h with rfl|h
  ·exact h1
  ·exact ForA.mem h2 x h
theorem a9J {P:Program} {ez:List (Nat×Value)} (h:ForA (fun p=>∃ Kt Et,P.underlying p.1=some (.map Kt Et)/\(P.info? Et).bind (·.zero)=some p.2/\zOk p.2=true) ez):b0A P ez:=fun t z hg Kt Et hu=>by
 obtain ⟨K,E,h1,h2,h3⟩:=h.mem _ (a1f hg);dsimp only at h1 h2 h3;rw [hu] at h1
 cases h1
 refine ⟨h2,fun ρ=>?_⟩;unfold zOk at h3
 split at h3
 ·rename_i l hl;exact b2C hl h3
 ·cases h3
theorem b2i:∀ g f,g8 cxM g=some f->∀ vs v,f vs=some v->(∀ ρ,LR ρ vs vs)/\(∀ ρ,VR ρ v v)/\∀ w,Fn Tryz.prog g vs w (RBf v w):=by
 intro g f h vs v hv;have hm:=a1f h;unfold cxM at hm;rw [xl0] at hm
 cases hm
 unfold b2r at hv
 split at hv
 ·rename_i s off t;obtain ⟨h1,h2⟩:=d6 hv
  cases h2
  rw [xb7] at h1;have h3:=xe8 h1.2;refine ⟨fun ρ=>LR.cOks rfl,fun ρ=>VR.mkTup (LR.cOks rfl),fun w=>?_⟩;have:=a81 s t off w (by unfold maxLen;omega);rw [xd8 h1.1,xd8 h1.1] at this;exact this
 ·cases hv
theorem a2V {l l':List Value} {b:Bool} (h:sEqS [] l l'=some b):l=[]/\l'=[]/\b=true:=by
 cases l <;> cases l' <;> simp_all [sEqS]
theorem a4f {s:List Nat} {l l':List Value} {b:Bool} (h:sEqS (0::s) l l'=some b):∃ x y m m' c,l=.int .i64 x::m/\l'=.int .i64 y::m'/\sEqS s m m'=some c/\b=(decide (x=y) && c):=by
 unfold sEqS at h
 split at h
 all_goals first
  |(cases h;done)
  |(exfalso;simp_all;done)
  |(obtain ⟨c,hc,rfl⟩:=xk9.1 h;simp_all;done)
  |(obtain ⟨c,hc,rfl⟩:=xk9.1 h;rename_i e;cases e;exact ⟨_,_,_,_,c,rfl,rfl,hc,rfl⟩)
theorem a8p {s:List Nat} {l l':List Value} {b:Bool} (h:sEqS (1::s) l l'=some b):∃ x y m m' c,l=.string ⟨⟨x⟩⟩::m/\l'=.string ⟨⟨y⟩⟩::m'/\sEqS s m m'=some c/\b=(decide (x=y) && c):=by
 unfold sEqS at h
 split at h
 all_goals first
  |(cases h;done)
  |(exfalso;simp_all;done)
  |(obtain ⟨c,hc,rfl⟩:=xk9.1 h;simp_all;done)
  |(obtain ⟨c,hc,rfl⟩:=xk9.1 h;rename_i e;cases e;exact ⟨_,_,_,_,c,rfl,rfl,hc,rfl⟩)
theorem a76 {s:List Nat} {l l':List Value} {b:Bool} (h:sEqS (2::s) l l'=some b):∃ x y m m' c,l=.bool x::m/\l'=.bool y::m'/\sEqS s m m'=some c/\b=(decide (x=y) && c):=by
 unfold sEqS at h
 split at h
 all_goals first
  |(cases h;done)
  |(exfalso;simp_all;done)
  |(obtain ⟨c,hc,rfl⟩:=xk9.1 h;simp_all;done)
  |(obtain ⟨c,hc,rfl⟩:=xk9.1 h;rename_i e;cases e;exact ⟨_,_,_,_,c,rfl,rfl,hc,rfl⟩)
theorem b2h:QOk Tryz.prog cxQ:=fun t s h l l' b hb=>by
 have hm:=a1f h;unfold cxQ at hm;simp only [xb4,List.not_mem_nil,or_false,Prod.mk.injEq] at hm;rcases hm with ⟨rfl,rfl⟩|⟨rfl,rfl⟩|⟨rfl,rfl⟩
 ·obtain ⟨x1,y1,m1,n1,c1,rfl,rfl,hb1,rfl⟩:=a8p hb;obtain ⟨x2,y2,m2,n2,c2,rfl,rfl,hb2,rfl⟩:=a4f hb1;obtain ⟨x3,y3,m3,n3,c3,rfl,rfl,hb3,rfl⟩:=a76 hb2;obtain ⟨x4,y4,m4,n4,c4,rfl,rfl,hb4,rfl⟩:=a76 hb3;obtain ⟨rfl,rfl,rfl⟩:=a2V hb4;refine ⟨fun w=>?_,by kernel_rfl⟩;simp [go_sem]
  repeat' split
  all_goals simp_all
 ·obtain ⟨x1,y1,m1,n1,c1,rfl,rfl,hb1,rfl⟩:=a8p hb;obtain ⟨x2,y2,m2,n2,c2,rfl,rfl,hb2,rfl⟩:=a4f hb1;obtain ⟨rfl,rfl,rfl⟩:=a2V hb2;refine ⟨fun w=>?_,by kernel_rfl⟩;simp [go_sem]
  repeat' split
  all_goals simp_all
 ·obtain ⟨x1,y1,m1,n1,c1,rfl,rfl,hb1,rfl⟩:=a4f hb;obtain ⟨x2,y2,m2,n2,c2,rfl,rfl,hb2,rfl⟩:=a4f hb1;obtain ⟨rfl,rfl,rfl⟩:=a2V hb2;refine ⟨fun w=>?_,by kernel_rfl⟩;simp [go_sem]
  repeat' split
  all_goals simp_all
def b2X (op a b c imm:Int):Value:=.agg #[.int .i64 op,.int .i64 a,.int .i64 b,.int .i64 c,.int .i64 imm]
attribute [go_sem] a5u
end Go.Proofs.YtejnpppejalhfacGreat
namespace Go.Proofs.YtejnpppejalhfacGreat
set_option maxRecDepth 100000
set_option maxHeartbeats 8000000
open Go.RowKit Go.Sort Go.MapKept
def sh (a b c:Bool):Value:=.agg #[.bool a,.bool b,.bool c]
def shapeL:List (Value×Value):=[(.int .i64 1,sh true false false),(.int .i64 11,sh true false false),(.int .i64 15,sh true false false),(.int .i64 12,sh false false false),(.int .i64 16,sh false false false),
 (.int .i64 2,sh true true true),(.int .i64 3,sh true true true),(.int .i64 4,sh true true true),(.int .i64 5,sh true true true),(.int .i64 6,sh true true true),(.int .i64 7,sh true true true),
 (.int .i64 8,sh true true false),(.int .i64 9,sh true true false),(.int .i64 10,sh true true false),(.int .i64 13,sh true true false),(.int .i64 14,sh true true false)]
def a5J (w:World) (e:Ending) (w':World):Prop:=∃ r,e=.returned (.map (some r))/\Below w.heap.size w w'/\w.heap.size<=r/\MapAt (.int .i64) w' r shapeL
theorem a0l (w:World):Calls Tryz.prog 220 #[] w (a5J w):=by
 have hsz:(Tryz.prog.info? 334).map (·.size)=some 3:=by kernel_rfl
 have Hsz:=hid hsz;clear hsz
 go_enter Tryz.func220,Tryz.ntmps220
 go_wp2_with (first|(with_reducible refine n7 3 ?_);refine a3i (.int .i64) w.heap.size w ?cb ?cs ?_;(case cb=>exact (by repeat (first|with_reducible exact Below.refl _ _|with_reducible refine Below.alloc ?_ (by simp <;> omega) _)));(case cs=>simp);intro w1 hM hb hz hg;have hT:=(hg w.heap.size (by simp)).trans (heap_alloc_new w _);have hM:MapAt (.int .i64) w1 (w.heap.size + 1) (shapeL.take 0):=(by simpa using hM);clear hg hz|(with_reducible refine f6 1 ?_);refine f5 (d:=.int .i64) Tryz.underlying336 Tryz.underlying3 (w.heap.size + 1) (.int .i64 1) (sh true false false) (shapeL.take 0) rfl rfl rfl hM (by simp [IsKey]) (by simp [shapeL]) w.heap.size w hb (by omega) ?_;intro w1 hM hb hz hg;have hT:=(hg w.heap.size (by omega)).trans hT;clear hg hz;have hM:MapAt (.int .i64) w1 (w.heap.size + 1) (shapeL.take 1):=hM|(with_reducible refine f6 11 ?_);refine f5 (d:=.int .i64) Tryz.underlying336 Tryz.underlying3 (w.heap.size + 1) (.int .i64 11) (sh true false false) (shapeL.take 1) rfl rfl rfl hM (by simp [IsKey]) (by simp [shapeL]) w.heap.size w hb (by omega) ?_;intro w1 hM hb hz hg;have hT:=(hg w.heap.size (by omega)).trans hT;clear hg hz;have hM:MapAt (.int .i64) w1 (w.heap.size + 1) (shapeL.take 2):=hM|(with_reducible refine f6 15 ?_);refine f5 (d:=.int .i64) Tryz.underlying336 Tryz.underlying3 (w.heap.size + 1) (.int .i64 15) (sh true false false) (shapeL.take 2) rfl rfl rfl hM (by simp [IsKey]) (by simp [shapeL]) w.heap.size w hb (by omega) ?_;intro w1 hM hb hz hg;have hT:=(hg w.heap.size (by omega)).trans hT;clear hg hz;have hM:MapAt (.int .i64) w1 (w.heap.size + 1) (shapeL.take 3):=hM|(with_reducible refine f6 12 ?_);refine f5 (d:=.int .i64) Tryz.underlying336 Tryz.underlying3 (w.heap.size + 1) (.int .i64 12) (sh false false false) (shapeL.take 3) rfl rfl rfl hM (by simp [IsKey]) (by simp [shapeL]) w.heap.size w hb (by omega) ?_;intro w1 hM hb hz hg;have hT:=(hg w.heap.size (by omega)).trans hT;clear hg hz;have hM:MapAt (.int .i64) w1 (w.heap.size + 1) (shapeL.take 4):=hM|(with_reducible refine f6 16 ?_);refine f5 (d:=.int .i64) Tryz.underlying336 Tryz.underlying3 (w.heap.size + 1) (.int .i64 16) (sh false false false) (shapeL.take 4) rfl rfl rfl hM (by simp [IsKey]) (by simp [shapeL]) w.heap.size w hb (by omega) ?_;intro w1 hM hb hz hg;have hT:=(hg w.heap.size (by omega)).trans hT;clear hg hz;have hM:MapAt (.int .i64) w1 (w.heap.size + 1) (shapeL.take 5):=hM|(with_reducible refine f6 2 ?_);refine f5 (d:=.int .i64) Tryz.underlying336 Tryz.underlying3 (w.heap.size + 1) (.int .i64 2) (sh true true true) (shapeL.take 5) rfl rfl rfl hM (by simp [IsKey]) (by simp [shapeL]) w.heap.size w hb (by omega) ?_;intro w1 hM hb hz hg;have hT:=(hg w.heap.size (by omega)).trans hT;clear hg hz;have hM:MapAt (.int .i64) w1 (w.heap.size + 1) (shapeL.take 6):=hM|(with_reducible refine f6 3 ?_);refine f5 (d:=.int .i64) Tryz.underlying336 Tryz.underlying3 (w.heap.size + 1) (.int .i64 3) (sh true true true) (shapeL.take 6) rfl rfl rfl hM (by simp [IsKey]) (by simp [shapeL]) w.heap.size w hb (by omega) ?_;intro w1 hM hb hz hg;have hT:=(hg w.heap.size (by omega)).trans hT;clear hg hz;have hM:MapAt (.int .i64) w1 (w.heap.size + 1) (shapeL.take 7):=hM|(with_reducible refine f6 4 ?_);refine f5 (d:=.int .i64) Tryz.underlying336 Tryz.underlying3 (w.heap.size + 1) (.int .i64 4) (sh true true true) (shapeL.take 7) rfl rfl rfl hM (by simp [IsKey]) (by simp [shapeL]) w.heap.size w hb (by omega) ?_;intro w1 hM hb hz hg;have hT:=(hg w.heap.size (by omega)).trans hT;clear hg hz;have hM:MapAt (.int .i64) w1 (w.heap.size + 1) (shapeL.take 8):=hM|(with_reducible refine f6 5 ?_);refine f5 (d:=.int .i64) Tryz.underlying336 Tryz.underlying3 (w.heap.size + 1) (.int .i64 5) (sh true true true) (shapeL.take 8) rfl rfl rfl hM (by simp [IsKey]) (by simp [shapeL]) w.heap.size w hb (by omega) ?_;intro w1 hM hb hz hg;have hT:=(hg w.heap.size (by omega)).trans hT;clear hg hz;have hM:MapAt (.int .i64) w1 (w.heap.size + 1) (shapeL.take 9):=hM|(with_reducible refine f6 6 ?_);refine f5 (d:=.int .i64) Tryz.underlying336 Tryz.underlying3 (w.heap.size + 1) (.int .i64 6) (sh true true true) (shapeL.take 9) rfl rfl rfl hM (by simp [IsKey]) (by simp [shapeL]) w.heap.size w hb (by omega) ?_;intro w1 hM hb hz hg;have hT:=(hg w.heap.size (by omega)).trans hT;clear hg hz;have hM:MapAt (.int .i64) w1 (w.heap.size + 1) (shapeL.take 10):=hM|(with_reducible refine f6 7 ?_);refine f5 (d:=.int .i64) Tryz.underlying336 Tryz.underlying3 (w.heap.size + 1) (.int .i64 7) (sh true true true) (shapeL.take 10) rfl rfl rfl hM (by simp [IsKey]) (by simp [shapeL]) w.heap.size w hb (by omega) ?_;intro w1 hM hb hz hg;have hT:=(hg w.heap.size (by omega)).trans hT;clear hg hz;have hM:MapAt (.int .i64) w1 (w.heap.size + 1) (shapeL.take 11):=hM|(with_reducible refine f6 8 ?_);refine f5 (d:=.int .i64) Tryz.underlying336 Tryz.underlying3 (w.heap.size + 1) (.int .i64 8) (sh true true false) (shapeL.take 11) rfl rfl rfl hM (by simp [IsKey]) (by simp [shapeL]) w.heap.size w hb (by omega) ?_;intro w1 hM hb hz hg;have hT:=(hg w.heap.size (by omega)).trans hT;clear hg hz;have hM:MapAt (.int .i64) w1 (w.heap.size + 1) (shapeL.take 12):=hM|(with_reducible refine f6 9 ?_);refine f5 (d:=.int .i64) Tryz.underlying336 Tryz.underlying3 (w.heap.size + 1) (.int .i64 9) (sh true true false) (shapeL.take 12) rfl rfl rfl hM (by simp [IsKey]) (by simp [shapeL]) w.heap.size w hb (by omega) ?_;intro w1 hM hb hz hg;have hT:=(hg w.heap.size (by omega)).trans hT;clear hg hz;have hM:MapAt (.int .i64) w1 (w.heap.size + 1) (shapeL.take 13):=hM|(with_reducible refine f6 10 ?_);refine f5 (d:=.int .i64) Tryz.underlying336 Tryz.underlying3 (w.heap.size + 1) (.int .i64 10) (sh true true false) (shapeL.take 13) rfl rfl rfl hM (by simp [IsKey]) (by simp [shapeL]) w.heap.size w hb (by omega) ?_;intro w1 hM hb hz hg;have hT:=(hg w.heap.size (by omega)).trans hT;clear hg hz;have hM:MapAt (.int .i64) w1 (w.heap.size + 1) (shapeL.take 14):=hM|(with_reducible refine f6 13 ?_);refine f5 (d:=.int .i64) Tryz.underlying336 Tryz.underlying3 (w.heap.size + 1) (.int .i64 13) (sh true true false) (shapeL.take 14) rfl rfl rfl hM (by simp [IsKey]) (by simp [shapeL]) w.heap.size w hb (by omega) ?_;intro w1 hM hb hz hg;have hT:=(hg w.heap.size (by omega)).trans hT;clear hg hz;have hM:MapAt (.int .i64) w1 (w.heap.size + 1) (shapeL.take 15):=hM|(with_reducible refine f6 14 ?_);refine f5 (d:=.int .i64) Tryz.underlying336 Tryz.underlying3 (w.heap.size + 1) (.int .i64 14) (sh true true false) (shapeL.take 15) rfl rfl rfl hM (by simp [IsKey]) (by simp [shapeL]) w.heap.size w hb (by omega) ?_;intro w1 hM hb hz hg;have hT:=(hg w.heap.size (by omega)).trans hT;clear hg hz;have hM:MapAt (.int .i64) w1 (w.heap.size + 1) (shapeL.take 16):=hM|(first|with_reducible refine n7 9 ?_|with_reducible refine n7 10 ?_|with_reducible refine n7 11 ?_|with_reducible refine n7 12 ?_|with_reducible refine n7 13 ?_|with_reducible refine n7 14 ?_);refine wpList_load_row rfl 334 (.tmp 1) rfl w.heap.size rfl _ _ _ _ hT Tryz.underlying334 rfl Hsz.out ?_)
 go_ret
 exact ⟨w.heap.size + 1,rfl,hb,by omega,hM⟩
def b2s (op:Int):Prop:=1<=op/\op<=16/\op≠12/\op≠16
def b1z (op:Int):Prop:=(2<=op/\op<=10)\/op=13\/op=14
def b11 (op:Int):Prop:=2<=op/\op<=7
def a9T (op a b c imm:Int):Prop:=op < 1\/16 < op\/(b2s op/\8<=a)\/(b1z op/\8<=b)\/(b11 op/\8<=c) \/
 ((op=9\/op=10)/\c≠1/\c≠2/\c≠4/\c≠8)\/(op=16/\(imm < 1\/6 < imm))
def a6p (op:Int) (sa sb sc ok:Bool):Prop:=∀ (w:World) (r:Nat),MapAt (.int .i64) w r shapeL ->
 (Instr.lookup 336 (.map (some r)) (.int .i64 op) true).run Tryz.prog w=.ok (.tuple #[.agg #[.bool sa,.bool sb,.bool sc],.bool ok]) w
theorem a1i (op:Int) (sa sb sc:Bool) (h:(Value.int .i64 op,sh sa sb sc) ∈ shapeL):a6p op sa sb sc true:=fun _ _ hM=>
 a04 (P:=Tryz.prog) Tryz.underlying336 Tryz.underlying3 hM (by simp [IsKey]) h true
theorem a5Q (op:Int) (h:op < 1\/16 < op):a6p op false false false false:=fun _ _ hM=>
 a0R (P:=Tryz.prog) Tryz.underlying336 Tryz.underlying3 hM (by simp [IsKey]) (by intro v;simp [shapeL];omega) (by kernel_rfl) true
theorem a9e (op:Int):(a6p op false false false false/\(op < 1\/16 < op))\/(a6p op true false false true/\(op=1\/op=11\/op=15))\/(a6p op false false false true/\(op=12\/op=16)) \/
  (a6p op true true true true/\2<=op/\op<=7)\/(a6p op true true false true/\(op=8\/op=9\/op=10\/op=13\/op=14)):=by
 rcases show (op < 1\/16 < op)\/(op=1\/op=11\/op=15)\/(op=12\/op=16)\/(op=2\/op=3\/op=4\/op=5\/op=6\/op=7)\/(op=8\/op=9\/op=10\/op=13\/op=14) from by omega with h|h|h|h|h
 ·exact .inl ⟨a5Q op h,h⟩
 ·exact .inr (.inl ⟨a1i op _ _ _ (by rcases h with rfl|rfl|rfl <;> simp [shapeL]),h⟩)
 ·exact .inr (.inr (.inl ⟨a1i op _ _ _ (by rcases h with rfl|rfl <;> simp [shapeL]),h⟩))
 ·exact .inr (.inr (.inr (.inl ⟨a1i op _ _ _ (by rcases h with rfl|rfl|rfl|rfl|rfl|rfl <;> simp [shapeL]),by omega,by omega⟩)))
 ·exact .inr (.inr (.inr (.inr ⟨a1i op _ _ _ (by rcases h with rfl|rfl|rfl|rfl|rfl <;> simp [shapeL]),h⟩)))
def a25 (sa sb sc ok:Bool) (op a b c imm:Int) (w:World) (v3 v4:Value) (wx:World):Prop :=
 ∃ g,v3=.pointer (some ⟨g,0,none⟩)/\v4=.bool ok/\Below w.heap.size w wx/\wx.cell? ⟨g,0,none⟩=some (.bool sa)/\wx.cell? ⟨g,1,none⟩=some (.bool sb)/\wx.cell? ⟨g,2,none⟩=some (.bool sc) /\
  wx.cell? ⟨w.heap.size,0,none⟩=some (.int .i64 op)/\wx.cell? ⟨w.heap.size,1,none⟩=some (.int .i64 a)/\wx.cell? ⟨w.heap.size,2,none⟩=some (.int .i64 b)/\wx.cell? ⟨w.heap.size,3,none⟩=some (.int .i64 c)/\wx.cell? ⟨w.heap.size,4,none⟩=some (.int .i64 imm)
theorem b0C (op a b c imm:Int) (w:World) (res:Bool) (h:res=true ↔ a9T op a b c imm) :
  Calls Tryz.prog 203 #[b2X op a b c imm] w (RB (.bool res) w):=by
 unfold b2X;unfold a9T b2s b1z b11 at h;rcases a9e op with ⟨hl,hop⟩|⟨hl,hop⟩|⟨hl,hop⟩|⟨hl,hop1,hop2⟩|⟨hl,hop⟩
 ·have hl:=hid hl;have H:=hid h;clear h;have HO:=hid hop;clear hop
  go_enter Tryz.func203,Tryz.ntmps203
  go_upto_region 1 with fail
  go_cut [3,4] (fun v3 v4 wx=>a25 false false false false op a b c imm w v3 v4 wx)
  case first=>
   go_region_with ((go_at_call 220;refine (a0l _).mono ?_;rintro e w1 ⟨r,rfl,hb1,hr1,hM⟩;have HL:=hl.out _ _ hM;have HL2:=fun o=>hl.out _ _ (hM.grown ((Below.refl _ w1).alloc (xc5 _) o));clear hM;obtain ⟨hc1,hf1⟩:=a4I hb1;have hz1:w.heap.size < w1.heap.size:=by (have:=hb1.size;simp at this;omega)))
   all_goals
    go_wp2_with fail
    go_meet
    exact ⟨_,rfl,rfl,(by repeat (first|with_reducible exact Below.refl _ _|with_reducible refine Below.alloc ?_ (by first|omega|(simp;done)) _|with_reducible refine Below.setCell ?_ (by (simp;done)) _|with_reducible refine Below.drew ?_|refine bt ?_ (by with_reducible assumption))),by simp [go_sem,hc1,hz1],by simp [go_sem,hc1,hz1],by simp [go_sem,hc1,hz1],by simp [go_sem,hc1,hz1],by simp [go_sem,hc1,hz1],by simp [go_sem,hc1,hz1],by simp [go_sem,hc1,hz1],by simp [go_sem,hc1,hz1]⟩
  case rest=>
   obtain ⟨g,rfl,rfl,hb,f0,f1,f2,q0,q1,q2,q3,q4⟩:=hcut
   go_wp2
   all_goals
    have h:=H.out;have hop:=HO.out
    go_ret
    refine ⟨j6 ?_,hb⟩;rw [xc0,h];clear h H hl HO hb f0 f1 f2 q0 q1 q2 q3 q4;simp only [beq_iff_eq,xl3,xl4,xl5,ne_eq,xh4,xl6] at *
    first
     |omega
     |(simp;omega)
 ·have hl:=hid hl;have H:=hid h;clear h;have HO:=hid hop;clear hop
  go_enter Tryz.func203,Tryz.ntmps203
  go_upto_region 1 with fail
  go_cut [3,4] (fun v3 v4 wx=>a25 true false false true op a b c imm w v3 v4 wx)
  case first=>
   go_region_with ((go_at_call 220;refine (a0l _).mono ?_;rintro e w1 ⟨r,rfl,hb1,hr1,hM⟩;have HL:=hl.out _ _ hM;have HL2:=fun o=>hl.out _ _ (hM.grown ((Below.refl _ w1).alloc (xc5 _) o));clear hM;obtain ⟨hc1,hf1⟩:=a4I hb1;have hz1:w.heap.size < w1.heap.size:=by (have:=hb1.size;simp at this;omega)))
   all_goals
    go_wp2_with fail
    go_meet
    exact ⟨_,rfl,rfl,(by repeat (first|with_reducible exact Below.refl _ _|with_reducible refine Below.alloc ?_ (by first|omega|(simp;done)) _|with_reducible refine Below.setCell ?_ (by (simp;done)) _|with_reducible refine Below.drew ?_|refine bt ?_ (by with_reducible assumption))),by simp [go_sem,hc1,hz1],by simp [go_sem,hc1,hz1],by simp [go_sem,hc1,hz1],by simp [go_sem,hc1,hz1],by simp [go_sem,hc1,hz1],by simp [go_sem,hc1,hz1],by simp [go_sem,hc1,hz1],by simp [go_sem,hc1,hz1]⟩
  case rest=>
   obtain ⟨g,rfl,rfl,hb,f0,f1,f2,q0,q1,q2,q3,q4⟩:=hcut
   go_wp2
   all_goals
    have h:=H.out;have hop:=HO.out
    go_ret
    refine ⟨j6 ?_,hb⟩;rw [xc0,h];clear h H hl HO hb f0 f1 f2 q0 q1 q2 q3 q4;simp only [beq_iff_eq,xl3,xl4,xl5,ne_eq,xh4,xl6] at *
    first
     |omega
     |(simp;omega)
 ·have hl:=hid hl;have H:=hid h;clear h;have HO:=hid hop;clear hop
  go_enter Tryz.func203,Tryz.ntmps203
  go_upto_region 1 with fail
  go_cut [3,4] (fun v3 v4 wx=>a25 false false false true op a b c imm w v3 v4 wx)
  case first=>
   go_region_with ((go_at_call 220;refine (a0l _).mono ?_;rintro e w1 ⟨r,rfl,hb1,hr1,hM⟩;have HL:=hl.out _ _ hM;have HL2:=fun o=>hl.out _ _ (hM.grown ((Below.refl _ w1).alloc (xc5 _) o));clear hM;obtain ⟨hc1,hf1⟩:=a4I hb1;have hz1:w.heap.size < w1.heap.size:=by (have:=hb1.size;simp at this;omega)))
   all_goals
    go_wp2_with fail
    go_meet
    exact ⟨_,rfl,rfl,(by repeat (first|with_reducible exact Below.refl _ _|with_reducible refine Below.alloc ?_ (by first|omega|(simp;done)) _|with_reducible refine Below.setCell ?_ (by (simp;done)) _|with_reducible refine Below.drew ?_|refine bt ?_ (by with_reducible assumption))),by simp [go_sem,hc1,hz1],by simp [go_sem,hc1,hz1],by simp [go_sem,hc1,hz1],by simp [go_sem,hc1,hz1],by simp [go_sem,hc1,hz1],by simp [go_sem,hc1,hz1],by simp [go_sem,hc1,hz1],by simp [go_sem,hc1,hz1]⟩
  case rest=>
   obtain ⟨g,rfl,rfl,hb,f0,f1,f2,q0,q1,q2,q3,q4⟩:=hcut
   go_wp2
   all_goals
    have h:=H.out;have hop:=HO.out
    go_ret
    refine ⟨j6 ?_,hb⟩;rw [xc0,h];clear h H hl HO hb f0 f1 f2 q0 q1 q2 q3 q4;simp only [beq_iff_eq,xl3,xl4,xl5,ne_eq,xh4,xl6] at *
    first
     |omega
     |(simp;omega)
 ·have hl:=hid hl;have H:=hid h;clear h;have HO:=hid (And.intro hop1 hop2);clear hop1 hop2
  go_enter Tryz.func203,Tryz.ntmps203
  go_upto_region 1 with fail
  go_cut [3,4] (fun v3 v4 wx=>a25 true true true true op a b c imm w v3 v4 wx)
  case first=>
   go_region_with ((go_at_call 220;refine (a0l _).mono ?_;rintro e w1 ⟨r,rfl,hb1,hr1,hM⟩;have HL:=hl.out _ _ hM;have HL2:=fun o=>hl.out _ _ (hM.grown ((Below.refl _ w1).alloc (xc5 _) o));clear hM;obtain ⟨hc1,hf1⟩:=a4I hb1;have hz1:w.heap.size < w1.heap.size:=by (have:=hb1.size;simp at this;omega)))
   all_goals
    go_wp2_with fail
    go_meet
    exact ⟨_,rfl,rfl,(by repeat (first|with_reducible exact Below.refl _ _|with_reducible refine Below.alloc ?_ (by first|omega|(simp;done)) _|with_reducible refine Below.setCell ?_ (by (simp;done)) _|with_reducible refine Below.drew ?_|refine bt ?_ (by with_reducible assumption))),by simp [go_sem,hc1,hz1],by simp [go_sem,hc1,hz1],by simp [go_sem,hc1,hz1],by simp [go_sem,hc1,hz1],by simp [go_sem,hc1,hz1],by simp [go_sem,hc1,hz1],by simp [go_sem,hc1,hz1],by simp [go_sem,hc1,hz1]⟩
  case rest=>
   obtain ⟨g,rfl,rfl,hb,f0,f1,f2,q0,q1,q2,q3,q4⟩:=hcut
   go_wp2
   all_goals
    have h:=H.out;have hop:=HO.out
    go_ret
    refine ⟨j6 ?_,hb⟩;rw [xc0,h];clear h H hl HO hb f0 f1 f2 q0 q1 q2 q3 q4;simp only [beq_iff_eq,xl3,xl4,xl5,ne_eq,xh4,xl6] at *
    first
     |omega
     |(simp;omega)
 ·have hl:=hid hl;have H:=hid h;clear h;have HO:=hid hop;clear hop
  go_enter Tryz.func203,Tryz.ntmps203
  go_upto_region 1 with fail
  go_cut [3,4] (fun v3 v4 wx=>a25 true true false true op a b c imm w v3 v4 wx)
  case first=>
   go_region_with ((go_at_call 220;refine (a0l _).mono ?_;rintro e w1 ⟨r,rfl,hb1,hr1,hM⟩;have HL:=hl.out _ _ hM;have HL2:=fun o=>hl.out _ _ (hM.grown ((Below.refl _ w1).alloc (xc5 _) o));clear hM;obtain ⟨hc1,hf1⟩:=a4I hb1;have hz1:w.heap.size < w1.heap.size:=by (have:=hb1.size;simp at this;omega)))
   all_goals
    go_wp2_with fail
    go_meet
    exact ⟨_,rfl,rfl,(by repeat (first|with_reducible exact Below.refl _ _|with_reducible refine Below.alloc ?_ (by first|omega|(simp;done)) _|with_reducible refine Below.setCell ?_ (by (simp;done)) _|with_reducible refine Below.drew ?_|refine bt ?_ (by with_reducible assumption))),by simp [go_sem,hc1,hz1],by simp [go_sem,hc1,hz1],by simp [go_sem,hc1,hz1],by simp [go_sem,hc1,hz1],by simp [go_sem,hc1,hz1],by simp [go_sem,hc1,hz1],by simp [go_sem,hc1,hz1],by simp [go_sem,hc1,hz1]⟩
  case rest=>
   obtain ⟨g,rfl,rfl,hb,f0,f1,f2,q0,q1,q2,q3,q4⟩:=hcut
   go_wp2
   all_goals
    have h:=H.out;have hop:=HO.out
    go_ret
    refine ⟨j6 ?_,hb⟩;rw [xc0,h];clear h H hl HO hb f0 f1 f2 q0 q1 q2 q3 q4;simp only [beq_iff_eq,xl3,xl4,xl5,ne_eq,xh4,xl6] at *
    first
     |omega
     |(simp;omega)
end Go.Proofs.YtejnpppejalhfacGreat
namespace Go.Proofs.YtejnpppejalhfacGreat
set_option maxRecDepth 100000
set_option maxHeartbeats 8000000
open Go.RowKit Go.Sort
def b2d (op a b c imm:Int):Bool:=decide (op < 1)||(decide (16 < op)||((decide (1<=op/\op<=16/\op≠12/\op≠16) && decide (8<=a))||((decide ((2<=op/\op<=10)\/op=13\/op=14) && decide (8<=b))||((decide (2<=op/\op<=7) && decide (8<=c))||(decide ((op=9\/op=10)/\c≠1/\c≠2/\c≠4/\c≠8)||decide (op=16/\(imm < 1\/6 < imm)))))))
theorem a7R (op a b c imm:Int):b2d op a b c imm=true ↔ a9T op a b c imm:=by
 unfold b2d a9T b2s b1z b11;simp only [Bool.or_eq_true,xb7,xh4]
noncomputable def b3b:List Value->Option Value
 |[.agg ⟨[.int .i64 op,.int .i64 a,.int .i64 b,.int .i64 c,.int .i64 imm]⟩]=>some (.bool (b2d op a b c imm))
 |_=>none
noncomputable def b1B:List (Nat×(List Value->Option Value)):=[(110,b2r),(203,b3b)]
theorem a9Y:∀ g f,g8 b1B g=some f->∀ vs v,f vs=some v->(∀ ρ,LR ρ vs vs)/\(∀ ρ,VR ρ v v)/\∀ w,Fn Tryz.prog g vs w (RBf v w):=by
 intro g f h vs v hv;have hm:=a1f h;unfold b1B at hm;rcases xb4.1 hm with hm|hm
 ·cases hm
  exact b2i _ _ rfl vs v hv
 ·rw [xl0] at hm
  cases hm
  unfold b3b at hv
  split at hv
  ·rename_i op a b c imm
   cases hv
   exact ⟨fun ρ=>LR.cons (VR.mkAgg (LR.cOks rfl)) LR.nil,fun ρ=>VR.cOk rfl,fun w=>Fn.of_rb ⟨Tryz.func203,by kernel_rfl,by kernel_rfl⟩ (b0C op a b c imm w _ (a7R op a b c imm))⟩
  ·cases hv
end Go.Proofs.YtejnpppejalhfacGreat
