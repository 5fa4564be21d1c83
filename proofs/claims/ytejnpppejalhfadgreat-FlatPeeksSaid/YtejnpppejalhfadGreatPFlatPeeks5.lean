/- Texts that the proof stands on, one behind the other: Cx14, Plain, Bits, Tab, BitsF, Cx3, Cpu, Cpu2, CpuBad, Cx15. -/
import Derived.Handy
import Derived.Test.YtejnpppejalhfadGreatProg
import Derived.BigQuiet
import Derived.Deep.QuietTactic
import Derived.WalkSpells
import Derived.Lib.QuietBelow
import Derived.Deep.RegionWith
import Derived.Deep.DeepCutAuto
import Derived.Test.YtejnpppejalhfadGreatPFlatPeeks4
set_option linter.unusedVariables false
set_option linter.unusedSimpArgs false
namespace Go.Proofs.YtejnpppejalhfadGreat
set_option maxRecDepth 100000
set_option maxHeartbeats 8000000
open Go.RowKit Go.Sort
noncomputable def n6 (N:Nat) (pl:List (Nat×Pl)) (c:Code):Bool:=@Code.rec (fun _=>Bool) true
 (fun id ops draw=>ops.toList.all (a4a N) && (bif draw then (match d4 pl id with
   |some p=>Region.noSelect ops && (plB ops p).1 ops.size (Array.replicate ops.size false)
   |none=>true) else true))
 (fun _ _ x y=>x && y) (fun _ _ _ x y=>x && y) (fun _ _ x=>x) (fun _ x=>x) (fun _ _ _ _ _ _=>true) (fun _=>true) (fun _ _=>true) (fun _=>true) (fun _=>true) true (fun _=>true) c
inductive BT.All {α:Type} (p:Nat->α->Prop):BT α->Prop where
 |nil:BT.All p .nil
 |node {k:Nat} {v:α} {l r:BT α} (h:p k v) (hl:BT.All p l) (hr:BT.All p r):BT.All p (.node k v l r)
theorem BT.All.get {α:Type} {p:Nat->α->Prop} {t:BT α} (h:BT.All p t) {i:Nat} {v:α} (hg:t.get i=some v):p i v:=by
 induction h with
 |nil=>cases hg
 |@node k u l r hp hl hr ihl ihr=>
  replace hg:@Bool.rec (fun _=>Option α) (@Bool.rec (fun _=>Option α) (r.get i) (l.get i) (Nat.blt i k)) (some u) (Nat.beq i k)=some v:=hg
  cases e:Nat.beq i k with
  |true=>
   rw [e] at hg
   cases hg
   rw [xa8 e];exact hp
  |false=>
   rw [e] at hg
   cases e2:Nat.blt i k with
   |true=>rw [e2] at hg;exact ihl hg
   |false=>rw [e2] at hg;exact ihr hg
structure FOk (P:Program) (C:Cx):Prop where
 ok:COk P C
 mixed:P.follows .mixedOrders=true
 F:BT.All (fun g (x:Func×List (Nat×Pl))=>j9 P g x.1/\∃ c,x.1.body=some c/\n6 x.1.ntmps x.2 c=true) C.F
 M:∀ g f,d4 C.M g=some f->∀ vs v,f vs=some v->(∀ ρ,LR ρ vs vs)/\(∀ ρ,VR ρ v v)/\∀ w,Fn P g vs w (RBf v w)
def toX:SX->Exit
 |.normal=>.normal
 |.exit i=>.exit i
 |.ret=>.ret
section
variable {P:Program} {C:Cx} {call:a19} {w0 w w':World} {ρ σ:Ren} {N:Nat} {ds:List Deferred} {a:Act} {E E':Fr} {H H':SH} {n n':Nat} {Q:Exit->Act->World->Prop}
theorem PQ.then {x:Act->World->Prop} (h:PQ Q):PQ (Exit.then x Q):=fun c a w d v hq=>h c a w d v hq
theorem PQ.block {i:Nat} (h:PQ Q):PQ (Exit.inBlock i Q):=fun c a w d v hq=>h c a w d v hq
theorem a1s:∀ (E:Fr) (s:List Nat) {t:Nat} {v:Value},d4 (a27 E s) t=some v->d4 E t=some v/\t ∉ s
 |[],s,t,v,h=>by cases h
 |(k,u)::r,s,t,v,h=>by
  have hany:∀ s:List Nat,@List.rec Nat (fun _=>Bool) false (fun x _ h=>bif Nat.beq k x then true else h) s=s.any (Nat.beq k):=fun s=>by
   induction s with
   |nil=>rfl
   |cons x s ih=>simp only [List.any_cons];rw [<- ih];cases Nat.beq k x <;> rfl
  have e:a27 ((k,u)::r) s=bif s.any (Nat.beq k) then a27 r s else (k,u)::a27 r (k::s):=by rw [<- hany];rfl
  rw [e] at h
  cases hs:s.any (Nat.beq k) with
  |true=>
   rw [hs] at h;obtain ⟨h1,h2⟩:=a1s r s h;obtain ⟨x,hx,hkx⟩:=xi9.1 hs;have hkx:=xa8 hkx;refine ⟨?_,h2⟩;rw [e9,xd7 (fun e=>h2 (by rw [<- e,hkx];exact hx))];exact h1
  |false=>
   rw [hs] at h;replace h:d4 ((k,u)::a27 r (k::s)) t=some v:=h;rw [e9] at h |-;by_cases ek:k=t
   ·rw [xd6 ek] at h |-;refine ⟨h,fun hm=>?_⟩;have:s.any (Nat.beq k)=true:=xi9.2 ⟨t,hm,by rw [ek];exact xj8 _⟩;rw [hs] at this
    cases this
   ·rw [xd7 ek] at h |-;obtain ⟨h1,h2⟩:=a1s r (k::s) h;exact ⟨h1,fun hm=>h2 (xb5 _ hm)⟩
theorem HasR.shrink (h:HasR ρ N ds a E):HasR ρ N ds a (a1U E):=⟨h.size,h.defers,fun t v ht=>by
 unfold a1U at ht
 cases e:Nat.blt 400 (@List.rec (Nat×Value) (fun _=>Nat) 0 (fun _ _ n=>n + 1) E) with
 |true=>rw [e] at ht;exact h.at_ t v (a1s E [] ht).1
 |false=>rw [e] at ht;exact h.at_ t v ht⟩
def a49 (P:Program) (c:Code) (N:Nat) (f:a2g):Prop:=∀ E H n e E' H' n',f E H n=.ok (e,E',H',n')->n<=n'/\∀ {w0 w:World} {ρ:Ren} {ds:List Deferred} {a:Act} {hi:Nat} {Q:Exit->Act->World->Prop},PQ Q->HasR ρ N ds a E->Inv P w0 ρ H w->Fsh ρ n hi->n'<=hi->(∀ a' w' σ,Stp ρ σ n n'->HasR σ N ds a' E'->Inv P w0 σ H' w'->Q (toX e) a' w')->c.wp P Q a w
theorem a70 {c:Code} {f:a2g} (hf:a49 P c N f):∀ k E H n e E' H' n',a5w f k E H n=.ok (e,E',H',n')->n<=n'/\∀ {w0 w:World} {ρ:Ren} {ds:List Deferred} {a:Act} {hi:Nat} {Q:Exit->Act->World->Prop},PQ Q->HasR ρ N ds a E->Inv P w0 ρ H w->Fsh ρ n hi->n'<=hi->(∀ a' w' σ,Stp ρ σ n n'->HasR σ N ds a' E'->Inv P w0 σ H' w'->Q (toX e) a' w')->Code.rounds P c Q k a w:=by
 intro k
 induction k with
 |zero=>intro E H n e E' H' n' h;cases h
 |succ k ih=>
  intro E H n e E' H' n' h;replace h:(match f E H n with
   |.ok (.normal,E',H',n')=>a5w f k (a1U E') H' n'
   |r=>r)=.ok (e,E',H',n'):=h
  split at h
  ·rename_i E1 H1 n1 hr;obtain ⟨h1,h2⟩:=hf _ _ _ _ _ _ _ hr;obtain ⟨h3,h4⟩:=ih _ _ _ _ _ _ _ h;refine ⟨xc5 h1 h3,fun {w0 w ρ ds a hi Q} hQ ha hI hF hn kk=>?_⟩;rw [rounds_succ];exact h2 hQ.then ha hI hF (xc5 h3 hn) fun a' w' σ hσ ha' hI'=>h4 hQ ha'.shrink hI' (hF.step hσ h1) hn fun a2 w2 τ hτ ha2 hI2=>kk a2 w2 τ (hσ.trans hτ h1 h3) ha2 hI2
  ·rename_i hne;obtain ⟨h1,h2⟩:=hf _ _ _ _ _ _ _ h;refine ⟨h1,fun {w0 w ρ ds a hi Q} hQ ha hI hF hn kk=>?_⟩;rw [rounds_succ];refine h2 hQ.then ha hI hF hn fun a' w' σ hσ ha' hI'=>?_;have:=kk a' w' σ hσ ha' hI'
   cases e with
   |normal=>exact (hne _ _ _ h).elim
   |exit i=>exact this
   |ret=>exact this
theorem a7G (hC:FOk P C) (hc:v9 P call) (pl:List (Nat×Pl)) (c:Code) (hB:n6 N pl c=true):a49 P c N (a1G C call pl c):=by
 induction c with
 |skip=>
  intro E H n e E' H' n' h
  cases h
  exact ⟨xc4 _,fun hQ ha hI hF hn k=>wp_skip (k _ _ _ (Stp.refl _ _ _) ha hI)⟩
 |region id ops draw=>
  intro E H n e E' H' n' h;replace hB:(ops.toList.all (a4a N) && (bif draw then (match d4 pl id with
   |some p=>Region.noSelect ops && (plB ops p).1 ops.size (Array.replicate ops.size false)
   |none=>true) else true))=true:=hB
  rw [xb6] at hB;obtain ⟨hd,hB⟩:=hB
  cases draw with
  |false=>
   replace h:(match a2Y C call ops.toList ops.toList E H n with
    |.ok (E',H',n')=>Rs.ok (SX.normal,E',H',n')
    |.no p=>.no p)=.ok (e,E',H',n'):=h
   split at h
   ·rename_i E1 H1 n1 hr
    cases h
    obtain ⟨h1,_⟩:=a1m (Q:=fun _ _ _=>True) hC.ok hc hd hr;refine ⟨h1,fun {w0 w ρ ds a hi Q} hQ ha hI hF hn k=>?_⟩;obtain ⟨_,h2⟩:=a1m (Q:=Q) hC.ok hc hd hr;have:=wp_region_lit (id:=id) (l:=ops.toList) (h2 ha hI hF hn k)
    simpa using this
   ·cases h
  |true=>
   replace h:(match d4 pl id with
    |some p=>match xPl C call ops.toList p n 0 [] E H n with
     |.ok (E',H',n')=>Rs.ok (SX.normal,E',H',n')
     |.no p=>.no p
    | none => .no "plan") = .ok (e, E', H', n') := h
   split at h
   ·rename_i p hp;rw [hp] at hB;dsimp only [cond_true] at hB;rw [xb6] at hB
    split at h
    ·rename_i E1 H1 n1 hr
     cases h
     have hpl:=fun (Q:Exit->Act->World->Prop) (hQ:PQ Q)=>(b0G hC.ok hc hQ hB.1 hd p).1 _ _ _ _ _ _ _ _ _ _ _ hB.2 hr;refine ⟨(hpl (fun _ _ _=>True) (fun _ _ _ _ _ _=>trivial)).1,fun {w0 w ρ ds a hi Q} hQ ha hI hF hn k=>?_⟩;refine wp_region_any hC.mixed (a5m _ [] _ _ _ ((hpl Q hQ).2 (hi:=hi) (m0:=n) ⟨ha,hI.grow ⟨rfl,rfl,rfl,xc4 _,fun _ _ _=>rfl⟩,hF,fun j _ _ q h1 h2=>by simp at h1 h2;omega,xc4 _,by simp,EL.nil⟩ hn k))
    ·cases h
   ·cases h
 |seq x y ihx ihy=>
  intro E H n e E' H' n' h;replace hB:(n6 N pl x && n6 N pl y)=true:=hB;rw [xb6] at hB;replace h:(match a1G C call pl x E H n with
   |.ok (.normal,E',H',n')=>a1G C call pl y E' H' n'
   |r=>r)=.ok (e,E',H',n'):=h
  split at h
  ·rename_i E1 H1 n1 hr;obtain ⟨h1,h2⟩:=ihx hB.1 _ _ _ _ _ _ _ hr;obtain ⟨h3,h4⟩:=ihy hB.2 _ _ _ _ _ _ _ h;refine ⟨xc5 h1 h3,fun {w0 w ρ ds a hi Q} hQ ha hI hF hn k=>wp_seq ?_⟩;exact h2 hQ.then ha hI hF (xc5 h3 hn) fun a' w' σ hσ ha' hI'=>h4 hQ ha' hI' (hF.step hσ h1) hn fun a2 w2 τ hτ ha2 hI2=>k a2 w2 τ (hσ.trans hτ h1 h3) ha2 hI2
  ·rename_i hne;obtain ⟨h1,h2⟩:=ihx hB.1 _ _ _ _ _ _ _ h;refine ⟨h1,fun {w0 w ρ ds a hi Q} hQ ha hI hF hn k=>wp_seq ?_⟩;refine h2 hQ.then ha hI hF hn fun a' w' σ hσ ha' hI'=>?_;have:=k a' w' σ hσ ha' hI'
   cases e with
   |normal=>exact (hne _ _ _ h).elim
   |exit i=>exact this
   |ret=>exact this
 |cond o x y ihx ihy=>
  intro E H n e E' H' n' h;replace hB:(n6 N pl x && n6 N pl y)=true:=hB;rw [xb6] at hB;replace h:(match sEv E o with
   |some (.bool true)=>a1G C call pl x E H n
   |some (.bool false)=>a1G C call pl y E H n
   | _ => Rs.no "cond") = .ok (e, E', H', n') := h
  split at h
  ·rename_i ho;obtain ⟨h1,h2⟩:=ihx hB.1 _ _ _ _ _ _ _ h;refine ⟨h1,fun {w0 w ρ ds a hi Q} hQ ha hI hF hn k=>?_⟩;obtain ⟨u,hu,go⟩:=ha.ev ho;rw [VR.bool hu] at go;exact wp_cond_split (ha.full.ev go) (fun _=>h2 hQ ha hI hF hn k) (fun e=>by cases e)
  ·rename_i ho;obtain ⟨h1,h2⟩:=ihy hB.2 _ _ _ _ _ _ _ h;refine ⟨h1,fun {w0 w ρ ds a hi Q} hQ ha hI hF hn k=>?_⟩;obtain ⟨u,hu,go⟩:=ha.ev ho;rw [VR.bool hu] at go;exact wp_cond_split (ha.full.ev go) (fun e=>by cases e) (fun _=>h2 hQ ha hI hF hn k)
  ·cases h
 |block i x ih=>
  intro E H n e E' H' n' h;replace hB:n6 N pl x=true:=hB;replace h:(match a1G C call pl x E H n with
   |.ok (.exit j,E',H',n')=>bif Nat.beq j i then Rs.ok (SX.normal,E',H',n') else Rs.ok (SX.exit j,E',H',n')
   |r=>r)=.ok (e,E',H',n'):=h
  split at h
  ·rename_i j E1 H1 n1 hr;obtain ⟨h1,h2⟩:=ih hB _ _ _ _ _ _ _ hr
   cases hj:Nat.beq j i with
   |true=>
    rw [hj] at h
    cases h
    obtain rfl:=xa8 hj;refine ⟨h1,fun {w0 w ρ ds a hi Q} hQ ha hI hF hn k=>wp_block (h2 hQ.block ha hI hF hn fun a' w' σ hσ ha' hI'=>?_)⟩;show if j=j then _ else _;rw [xd6 rfl];exact k a' w' σ hσ ha' hI'
   |false=>
    rw [hj] at h
    cases h
    have hne:j≠i:=fun e=>by subst e;rw [xj8] at hj;cases hj
    refine ⟨h1,fun {w0 w ρ ds a hi Q} hQ ha hI hF hn k=>wp_block (h2 hQ.block ha hI hF hn fun a' w' σ hσ ha' hI'=>?_)⟩;show if j=i then _ else _;rw [xd7 hne];exact k a' w' σ hσ ha' hI'
  ·rename_i hne;obtain ⟨h1,h2⟩:=ih hB _ _ _ _ _ _ _ h;refine ⟨h1,fun {w0 w ρ ds a hi Q} hQ ha hI hF hn k=>wp_block (h2 hQ.block ha hI hF hn fun a' w' σ hσ ha' hI'=>?_)⟩;have:=k a' w' σ hσ ha' hI'
   cases e with
   |normal=>exact this
   |exit j=>exact (hne _ _ _ _ h).elim
   |ret=>exact this
 |loop x ih=>
  intro E H n e E' H' n' h;replace hB:n6 N pl x=true:=hB;replace h:a5w (a1G C call pl x) a7J E H n=.ok (e,E',H',n'):=h;generalize a7J=kk at h;obtain ⟨h1,h2⟩:=a70 (ih hB) kk _ _ _ _ _ _ _ h;exact ⟨h1,fun hQ ha hI hF hn k=>wp_loop_rounds kk (h2 hQ ha hI hF hn k)⟩
 |rangeFunc f ps x y _ _=>intro E H n e E' H' n' h;cases h
 |exit i=>
  intro E H n e E' H' n' h
  cases h
  exact ⟨xc4 _,fun hQ ha hI hF hn k=>wp_exit (k _ _ _ (Stp.refl _ _ _) ha hI)⟩
 |scope x _=>intro E H n e E' H' n' h;cases h
 |label l=>intro E H n e E' H' n' h;cases h
 |goto l=>intro E H n e E' H' n' h;cases h
 |ret=>
  intro E H n e E' H' n' h
  cases h
  exact ⟨xc4 _,fun hQ ha hI hF hn k=>wp_ret (k _ _ _ (Stp.refl _ _ _) ha hI)⟩
 |refuse s=>intro E H n e E' H' n' h;cases h
theorem a29 (hT:TOk P C.T) (ha:HasR ρ N ds a E) (hI:Inv P w0 ρ H w):∀ {rs:List ResultVar} {vs:List Value},a5C C.T E H rs=some vs->∃ us,LR ρ vs us/\ResL P (t9 a) w rs us
 |[],vs,h=>by cases h;exact ⟨[],LR.nil,ResL.nil⟩
 |.tmp t::r,vs,h=>by
  unfold a5C at h
  split at h
  ·rename_i v vs' h1 h2
   cases h
   obtain ⟨u,hu,hat⟩:=ha.at_ t v h1;obtain ⟨us,h3,h4⟩:=a29 hT ha hI h2;exact ⟨u::us,LR.cons hu h3,ResL.tmp (a1o hat) h4⟩
  ·cases h
 |.cell p t::r,vs,h=>by
  unfold a5C at h
  split at h
  ·rename_i pv hp
   split at h
   ·rename_i v vs' h1 h2
    cases h
    obtain ⟨p',hp',hat⟩:=ha.at_ p pv hp;obtain ⟨b,o,u,rfl,hu,hl⟩:=a3e hT hI h1 hp';obtain ⟨us,h3,h4⟩:=a29 hT ha hI h2;exact ⟨u::us,LR.cons hu h3,ResL.cell (a1o hat) hl h4⟩
   ·cases h
  ·cases h
theorem VR.pack {vs us:List Value} (h:LR ρ vs us):VR ρ (a1e vs) (a1e us):=by
 match vs,us,h with
 |[],us,h=>rw [LR.nil_inv h];exact VR.mkTup LR.nil
 |[v],us,h=>
  obtain ⟨u,r,rfl,h1,h2⟩:=LR.inv h;rw [LR.nil_inv h2];exact h1
 |v::v2::r,us,h=>
  obtain ⟨u,r',rfl,h1,h2⟩:=LR.inv h;obtain ⟨u2,r2,rfl,h3,h4⟩:=LR.inv h2;exact VR.mkTup h
theorem a10 (m e:Nat):∀ (H:SH) {i:Nat} {s:SA},d4 (a6f m e H) i=some s->d4 H i=some s/\inR m e i=true
 |[],i,s,h=>by cases h
 |(k,t)::r,i,s,h=>by
  replace h:d4 (@Bool.rec (fun _=>SH) (a6f m e r) ((k,t)::a6f m e r) (inR m e k)) i=some s:=h
  cases hb:inR m e k with
  |true=>
   rw [hb] at h;rw [e9] at h |-;by_cases hk:k=i
   ·rw [xd6 hk] at h |-;exact ⟨h,by rw [<- hk];exact hb⟩
   ·rw [xd7 hk] at h |-;exact a10 m e r h
  |false=>
   rw [hb] at h;obtain ⟨h1,h2⟩:=a10 m e r h;have hk:k≠i:=fun e2=>by
    subst e2;rw [hb] at h2
    cases h2
   rw [e9,xd7 hk];exact ⟨h1,h2⟩
theorem b0w {m e:Nat} {v:Value} {i:Nat} {s:SA} (h:d4 (gc m e v H) i=some s):d4 H i=some s:=by
 unfold gc at h
 cases hb:(Nat.blt 20 (a9y m e H) && (a5S 1000 m e v && (a6f m e H).all fun p=>a9r m e p.2)) with
 |true=>rw [hb] at h;exact (a10 m e H h).1
 |false=>rw [hb] at h;exact h
theorem a2h:∀ {vs us:List Value} {k t:Nat} {v:Value},LR ρ vs us->d4 (a1F k vs) t=some v->k<=t/\∃ u,us[t - k]?=some u/\VR ρ v u
 |[],us,k,t,v,_,h=>by cases h
 |x::vs,us,k,t,v,hr,h=>by
  obtain ⟨u,r,rfl,h1,h2⟩:=LR.inv hr;replace h:d4 ((k,x)::a1F (k + 1) vs) t=some v:=h;rw [e9] at h;by_cases e:k=t
  ·rw [xd6 e] at h
   cases h
   subst e;exact ⟨xc4 _,u,by simp,h1⟩
  ·rw [xd7 e] at h;obtain ⟨h3,u',h4,h5⟩:=a2h h2 h;exact ⟨by omega,u',by rw [show t - k=(t - (k + 1)) + 1 from by omega];simpa using h4,h5⟩
theorem a6x (hC:FOk P C) (hc:v9 P call):v9 P (a6I C call):=by
 intro g vs H n v H' n' h;unfold a6I at h
 split at h
 ·rename_i f hf
  split at h
  ·rename_i u hu
   cases h
   refine ⟨xc4 _,fun {w0 w ρ hi us} hr hI hF hn=>?_⟩;obtain ⟨h1,h2,h3⟩:=hC.M g f hf vs _ hu;have e:us=vs:=by
    have:=h1 ρ;unfold LR at hr this;rw [hr] at this
    cases this
    rfl
   rw [e];exact (h3 w).mono fun v' w' ⟨e1,hS⟩=>⟨ρ,Stp.refl _ _ _,by rw [e1];exact h2 ρ,hI.grow (St.grown0 hS)⟩
  ·cases h
 ·split at h
  ·rename_i fn pl hf;obtain ⟨hok,c',hb',hB⟩:=hC.F.get hf
   split at h
   ·rename_i c hb;obtain rfl:c=c':=by rw [hb] at hb';exact Option.some.inj hb'
    cases hl:Nat.ble vs.length fn.ntmps with
    |false=>rw [hl] at h;cases h
    |true=>
    rw [hl] at h;dsimp only [cond_true] at h
    split at h
    ·cases h
    ·rename_i e E1 H1 n1 hne hr
     split at h
     ·rename_i rs hrs
      cases h
      obtain ⟨h1,h2⟩:=a7G hC hc pl c hB _ _ _ _ _ _ _ hr;refine ⟨h1,fun {w0 w ρ hi us} hus hI hF hn=>⟨⟨fn,hok⟩,?_⟩⟩;refine calls_of_wp hok.at_ hb (h2 (fun c a w d v hq=>by cases d <;> exact hq) ⟨?_,rfl,fun t v ht=>?_⟩ hI hF hn fun a' w' σ hσ ha' hI'=>?_)
      ·have:=xe5 hl;have:=hus.len;simp;omega
      ·obtain ⟨_,u,hu,hv⟩:=a2h hus ht;rw [Nat.sub_zero] at hu;have hlt:=a7 hu;exact ⟨u,hv,by rw [Array.getElem?_append_left (by simpa using hlt)];simpa using hu⟩
      ·obtain ⟨us',h3,h4⟩:=a29 hC.ok.T ha' hI' hrs;have q:=a9G (P:=P) (fn:=fn) (Φ:=fun u w'=>∃ σ,Stp ρ σ n n'/\VR σ (a1e rs) u/\Inv P w0 σ (gc n n' (a1e rs) H1) w') rfl h4 rfl ⟨σ,hσ,VR.pack h3,hI'.sub fun i s hs=>b0w hs⟩ ha'.full
       cases e with
       |normal=>exact q
       |exit i=>exact (hne _ rfl).elim
       |ret=>exact q
     ·cases h
    ·cases h
   ·cases h
  ·cases h
theorem a8m (hC:FOk P C) (k:Nat):v9 P (a9K C k):=by
 induction k with
 |zero=>intro g vs H n v H' n' h;cases h
 |succ k ih=>exact a6x hC ih
noncomputable def xIs (r:Rs (Value×SH×Nat)) (v:Value):Bool:=match r with
 |.ok (u,_,_)=>vEq 1000 u v
 |.no _=>false
theorem b0a (hC:FOk P C) {g:Nat} {vs:List Value} {v:Value} (k:Nat) (h:xIs (a9K C k g vs [] 0) v=true) (hvs:vs.all cOk=true) (hv:∀ ρ,VR ρ v v) (w:World):Fn P g vs w (RBf v w):=by
 unfold xIs at h
 split at h
 ·rename_i u H n hr;obtain rfl:=a04 _ h;obtain ⟨h1,h2⟩:=a8m hC k _ _ _ _ _ _ _ hr;refine (h2 (w0:=w) (w:=w) (ρ:=fun _=>none) (hi:=n) (LR.cOks hvs) ⟨⟨rfl,rfl,rfl,xc4 _,fun _ _=>rfl⟩,(fun i s h=>by cases h),(fun i j s t x y h=>by cases h)⟩ (fun _ _ _=>rfl) (xc4 _)).mono fun u' w' ⟨σ,hσ,hu,hI⟩=>?_;exact ⟨VR.fn (hv σ) hu,St.of_below hI.below⟩
 ·cases h
end
theorem a52 {α:Type} {l:List (Nat×α)} {i:Nat} {x:α} (h:d4 l i=some x):(i,x) ∈ l:=by
 induction l with
 |nil=>cases h
 |cons p r ih=>
  have h2:(@Bool.rec (fun _=>Option α) (d4 r i) (some p.2) (Nat.beq p.1 i))=some x:=h
  cases hb:Nat.beq p.1 i with
  |true=>
   rw [hb] at h2
   cases h2
   rw [<- xa8 hb];exact xb4
  |false=>
   rw [hb] at h2;exact xb5 _ (ih h2)
theorem a7P {l:List (String×Nat)} {i:String} {x:Nat} (h:a9n l i=some x):(i,x) ∈ l:=by
 induction l with
 |nil=>cases h
 |cons p r ih=>
  have h2:(@Bool.rec (fun _=>Option Nat) (a9n r i) (some p.2) (decide (p.1=i)))=some x:=h
  cases hb:decide (p.1=i) with
  |true=>
   rw [hb] at h2
   cases h2
   rw [<- xi8 hb];exact xb4
  |false=>
   rw [hb] at h2;exact xb5 _ (ih h2)
theorem b0K {P:Program} {I:List (Nat×List (String×Nat))} (h:I.all (fun p=>P.concrete p.1 && p.2.all fun q=>a7m P p.1 q.1 q.2)=true):IOk P I:=fun t ms ht=>by
 have h1:=xb7.1 h _ (a52 ht);rw [xb6] at h1;exact ⟨h1.1,fun name g hg=>xb7.1 h1.2 _ (a7P hg)⟩
end Go.Proofs.YtejnpppejalhfadGreat
namespace Go.Proofs.YtejnpppejalhfadGreat
set_option maxRecDepth 100000
set_option maxHeartbeats 8000000
open Go.RowKit
def leB (n:Int):Nat->List UInt8
 |0=>[]
 |k + 1=>leB n k++[UInt8.ofNat ((n / 2 ^ (8 * k)) % 256).toNat]
@[go_sem] theorem leB_length (n:Int) (k:Nat):(leB n k).length=k:=by
 induction k with
 |zero=>rfl
 |succ k ih=>simp [leB,ih]
def inB (off n all:Int):Bool:=decide (0<=off/\0<=n/\off<=all/\n<=all - off)
theorem a3z (b:UInt8):wrap64 (b.toNat:Int)=(b.toNat:Int):=by
 have:=b.toNat_lt;unfold wrap64;omega
theorem a7B (off n all:Int):inB off n all=(decide (0<=off) && (decide (0<=n) && (decide (off<=all) && decide (n<=all - off)))):=by
 unfold inB;simp
theorem a6C (off n all:Int) (w:World) (h:0<=all) (h2:all<=9223372036854775807) :
  Calls Tryz.prog 148 #[.int .i64 off,.int .i64 n,.int .i64 all] w fun e w'=>e=.returned (.bool (inB off n all))/\w=w':=by
 have hs:=hid (a7B off n all)
 go_enter Tryz.func148,Tryz.ntmps148
 go_wp2
 all_goals
  go_ret
  refine ⟨g9 ?_,rfl⟩;rw [hs.out]
  first
   |(rw [IntWalk.wrap64_in (all - off) ⟨by omega,by omega⟩];simp [*];done)
   |(rw [xb9];simp;omega)
theorem a85 (off n all:Nat) (h:off + n<=all):inB off n all=true:=by
 unfold inB;simp;omega
theorem a8X (s t:List UInt8) (off:Nat) (w:World) (hs:s.length<=maxLen) (h:off + t.length<=s.length) :
  Calls Tryz.prog 116 #[.string ⟨s.toArray⟩,.int .i64 off,.string ⟨t.toArray⟩] w fun e w'=>e=.returned (.tuple #[.string ⟨(splice s off t).toArray⟩,.int .i64 0])/\Below w.heap.size w w':=by
 unfold maxLen at hs;have hin:=a85 off t.length s.length h;have hin2:=hid hin;clear hin
 go_enter Tryz.func116,Tryz.ntmps116
 have hsz5:(Tryz.prog.info? 5).map (·.size)=some 1:=by kernel_rfl
 have Hsz5:=hid hsz5;clear hsz5
 go_wp2_with (first|go_at_call 148;(with_reducible refine (a6C _ _ _ _ (by omega) (by omega)).mono ?_);rintro e w' ⟨rfl,rfl⟩;rw [hin2.out]|(with_reducible refine l2 17 ?_);refine a1i rfl (.tmp 16) 9 194 5 rfl Tryz.underlying9 Tryz.underlying194 Tryz.underlying5 s rfl w.heap.size w (Below.refl _ _) (xc4 _) ?_;intro cap w1 hcap hb1 hby1 hsz1;have HB:=hid hby1;clear hby1|(with_reducible refine l2 22 ?_);refine a1N rfl (.tmp 20) (.tmp 21) 194 9 rfl 5 Tryz.underlying194 Hsz5.out _ (s.length - off) _ rfl t rfl w.heap.size off s HB.out ?c1 ?c2 w.heap.size w hb1 (xc4 _) ?_;(case c1=>go_must (rw [xa1];omega));(case c2=>go_must (rw [xa1];intro h0;rw [xd7 (by omega)]));intro w2 hb2 hsz2 hby2;have HB2:=hid hby2;clear hby2|(with_reducible refine l2 24 ?_);refine a1K rfl (.tmp 23) 194 9 5 rfl Tryz.underlying194 Tryz.underlying5 Tryz.underlying9 _ w.heap.size s.length _ rfl ?c3 HB2.out ?_;(case c3=>go_must (exact length_splice _ _ _ (by rw [xa1];omega)));clear HB2)
 all_goals
  go_ret2
  refine ⟨?_,hb2⟩;show Ending.returned (.tuple #[.string ⟨(splice s off (t.take (s.length - off))).toArray⟩,.int .i64 0])=_;rw [xa0 (show t.length<=s.length - off from by omega)]
theorem a97 (s t:List UInt8) (off:Int) (w:World) (hs:s.length<=maxLen) (h:inB off t.length s.length=false) :
  Calls Tryz.prog 116 #[.string ⟨s.toArray⟩,.int .i64 off,.string ⟨t.toArray⟩] w fun e w'=>e=.returned (.tuple #[.string ⟨#[]⟩,.int .i64 3])/\w=w':=by
 unfold maxLen at hs
 go_enter Tryz.func116,Tryz.ntmps116
 go_wp2_with (go_at_call 148;(with_reducible refine (a6C _ _ _ _ (by omega) (by omega)).mono ?_);rintro e w' ⟨rfl,rfl⟩;rw [h])
 go_ret2
 exact ⟨rfl,rfl⟩
end Go.Proofs.YtejnpppejalhfadGreat
namespace Go.Proofs.YtejnpppejalhfadGreat
set_option maxRecDepth 100000
set_option maxHeartbeats 8000000
open Go.RowKit Go.Sort
def tab:Tab:=[
 (3,.sc (.int .i64) 1 (.int .i64 0)),
 (39,.st 5 [(0,1,false),(1,1,false),(2,1,false),(3,1,false),(4,1,false)] [.slice none 0 0,.slice none 0 0,.slice none 0 0,.slice none 0 0,.int .i64 0]),
 (57,.sl 119 4 32 true [.int .i64 0,.int .i64 0,.int .i64 0,.bool false]),
 (58,.sl 83 2 24 true [.int .i64 0,.string ⟨#[]⟩]),
 (26,.st 4 [(0,1,false),(1,1,false),(2,1,false),(3,1,false)] [.int .i64 0,.slice none 0 0,.slice none 0 0,.slice none 0 0]),
 (119,.st 4 [(0,1,false),(1,1,false),(2,1,false),(3,1,false)] [.int .i64 0,.int .i64 0,.int .i64 0,.bool false]),
 (89,.sl 190 3 24 true [.int .i64 0,.int .i64 0,.int .i64 0]),
 (9,.sc .string 1 (.string ⟨#[]⟩)),
 (190,.st 3 [(0,1,false),(1,1,false),(2,1,false)] [.int .i64 0,.int .i64 0,.int .i64 0]),
 (78,.st 13 [(0,8,true),(8,1,false),(9,1,false),(10,1,false),(11,2,true)] [.int .i64 0,.int .i64 0,.int .i64 0,.int .i64 0,.int .i64 0,.int .i64 0,.int .i64 0,.int .i64 0,.int .i64 0,.int .i64 0,.int .i64 0,.int .i64 0,.int .i64 0]),
 (83,.st 2 [(0,1,false),(1,1,false)] [.int .i64 0,.string ⟨#[]⟩]),
 (91,.st 3 [(0,1,false),(1,1,false),(2,1,false)] [.bool false,.slice none 0 0,.slice none 0 0]),
 (97,.st 5 [(0,1,false),(1,1,false),(2,1,false),(3,1,false),(4,1,false)] [.int .i64 0,.int .i64 0,.int .i64 0,.int .i64 0,.int .i64 0]),
 (37,.sl 91 3 56 true [.bool false,.slice none 0 0,.slice none 0 0]),
 (76,.st 2 [(0,1,false),(1,1,false)] [.int .i64 0,.int .i64 0]),
 (60,.st 3 [(0,1,false),(1,1,false),(2,1,false)] [.bool false,.slice none 0 0,.slice none 0 0]),
 (41,.st 7 [(0,5,true),(5,1,false),(6,1,false)] [.slice none 0 0,.slice none 0 0,.slice none 0 0,.slice none 0 0,.int .i64 0,.slice none 0 0,.slice none 0 0]),
 (35,.sl 177 4 32 true [.string ⟨#[]⟩,.int .i64 0,.bool false,.bool false]),
 (23,.sl 78 13 104 true [.int .i64 0,.int .i64 0,.int .i64 0,.int .i64 0,.int .i64 0,.int .i64 0,.int .i64 0,.int .i64 0,.int .i64 0,.int .i64 0,.int .i64 0,.int .i64 0,.int .i64 0]),
 (22,.sl 60 3 56 true [.bool false,.slice none 0 0,.slice none 0 0]),
 (143,.st 3 [(0,1,false),(1,1,false),(2,1,false)] [.int .i64 0,.string ⟨#[]⟩,.slice none 0 0]),
 (24,.sl 73 2 16 true [.int .i64 0,.int .i64 0]),
 (34,.sl 143 3 48 true [.int .i64 0,.string ⟨#[]⟩,.slice none 0 0]),
 (36,.sl 182 2 24 true [.string ⟨#[]⟩,.int .i64 0]),
 (177,.st 4 [(0,1,false),(1,1,false),(2,1,false),(3,1,false)] [.string ⟨#[]⟩,.int .i64 0,.bool false,.bool false]),
 (74,.ar 8 8 1 false [.int .i64 0,.int .i64 0,.int .i64 0,.int .i64 0,.int .i64 0,.int .i64 0,.int .i64 0,.int .i64 0]),
 (99,.st 5 [(0,1,false),(1,1,false),(2,1,false),(3,1,false),(4,1,false)] [.int .i64 0,.int .i64 0,.int .i64 0,.int .i64 0,.int .i64 0]),
 (157,.st 6 [(0,1,false),(1,1,false),(2,1,false),(3,1,false),(4,1,false),(5,1,false)] [.string ⟨#[]⟩,.slice none 0 0,.slice none 0 0,.slice none 0 0,.slice none 0 0,.int .i64 0]),
 (4,.sc .bool 1 (.bool false)),
 (69,.st 3 [(0,1,false),(1,1,false),(2,1,false)] [.slice none 0 0,.slice none 0 0,.int .i64 0]),
 (151,.st 5 [(0,1,false),(1,1,false),(2,1,false),(3,1,false),(4,1,false)] [.int .i64 0,.int .i64 0,.string ⟨#[]⟩,.bool false,.bool false]),
 (374,.st 7 [(0,5,true),(5,1,false),(6,1,false)] [.slice none 0 0,.slice none 0 0,.slice none 0 0,.slice none 0 0,.int .i64 0,.int .i64 0,.slice none 0 0]),
 (27,.sl 3 1 8 false [.int .i64 0]),
 (141,.sl 219 2 24 true [.int .i64 0,.string ⟨#[]⟩]),
 (182,.st 2 [(0,1,false),(1,1,false)] [.string ⟨#[]⟩,.int .i64 0]),
 (203,.ar 256 256 1 false [.int .i64 0,.int .i64 0,.int .i64 0,.int .i64 0,.int .i64 0,.int .i64 0,.int .i64 0,.int .i64 0,.int .i64 0,.int .i64 0,.int .i64 0,.int .i64 0,.int .i64 0,.int .i64 0,.int .i64 0,.int .i64 0,.int .i64 0,.int .i64 0,.int .i64 0,.int .i64 0,.int .i64 0,.int .i64 0,.int .i64 0,.int .i64 0,.int .i64 0,.int .i64 0,.int .i64 0,.int .i64 0,.int .i64 0,.int .i64 0,.int .i64 0,.int .i64 0,.int .i64 0,.int .i64 0,.int .i64 0,.int .i64 0,.int .i64 0,.int .i64 0,.int .i64 0,.int .i64 0,.int .i64 0,.int .i64 0,.int .i64 0,.int .i64 0,.int .i64 0,.int .i64 0,.int .i64 0,.int .i64 0,.int .i64 0,.int .i64 0,.int .i64 0,.int .i64 0,.int .i64 0,.int .i64 0,.int .i64 0,.int .i64 0,.int .i64 0,.int .i64 0,.int .i64 0,.int .i64 0,.int .i64 0,.int .i64 0,.int .i64 0,.int .i64 0,.int .i64 0,.int .i64 0,.int .i64 0,.int .i64 0,.int .i64 0,.int .i64 0,.int .i64 0,.int .i64 0,.int .i64 0,.int .i64 0,.int .i64 0,.int .i64 0,.int .i64 0,.int .i64 0,.int .i64 0,.int .i64 0,.int .i64 0,.int .i64 0,.int .i64 0,.int .i64 0,.int .i64 0,.int .i64 0,.int .i64 0,.int .i64 0,.int .i64 0,.int .i64 0,.int .i64 0,.int .i64 0,.int .i64 0,.int .i64 0,.int .i64 0,.int .i64 0,.int .i64 0,.int .i64 0,.int .i64 0,.int .i64 0,.int .i64 0,.int .i64 0,.int .i64 0,.int .i64 0,.int .i64 0,.int .i64 0,.int .i64 0,.int .i64 0,.int .i64 0,.int .i64 0,.int .i64 0,.int .i64 0,.int .i64 0,.int .i64 0,.int .i64 0,.int .i64 0,.int .i64 0,.int .i64 0,.int .i64 0,.int .i64 0,.int .i64 0,.int .i64 0,.int .i64 0,.int .i64 0,.int .i64 0,.int .i64 0,.int .i64 0,.int .i64 0,.int .i64 0,.int .i64 0,.int .i64 0,.int .i64 0,.int .i64 0,.int .i64 0,.int .i64 0,.int .i64 0,.int .i64 0,.int .i64 0,.int .i64 0,.int .i64 0,.int .i64 0,.int .i64 0,.int .i64 0,.int .i64 0,.int .i64 0,.int .i64 0,.int .i64 0,.int .i64 0,.int .i64 0,.int .i64 0,.int .i64 0,.int .i64 0,.int .i64 0,.int .i64 0,.int .i64 0,.int .i64 0,.int .i64 0,.int .i64 0,.int .i64 0,.int .i64 0,.int .i64 0,.int .i64 0,.int .i64 0,.int .i64 0,.int .i64 0,.int .i64 0,.int .i64 0,.int .i64 0,.int .i64 0,.int .i64 0,.int .i64 0,.int .i64 0,.int .i64 0,.int .i64 0,.int .i64 0,.int .i64 0,.int .i64 0,.int .i64 0,.int .i64 0,.int .i64 0,.int .i64 0,.int .i64 0,.int .i64 0,.int .i64 0,.int .i64 0,.int .i64 0,.int .i64 0,.int .i64 0,.int .i64 0,.int .i64 0,.int .i64 0,.int .i64 0,.int .i64 0,.int .i64 0,.int .i64 0,.int .i64 0,.int .i64 0,.int .i64 0,.int .i64 0,.int .i64 0,.int .i64 0,.int .i64 0,.int .i64 0,.int .i64 0,.int .i64 0,.int .i64 0,.int .i64 0,.int .i64 0,.int .i64 0,.int .i64 0,.int .i64 0,.int .i64 0,.int .i64 0,.int .i64 0,.int .i64 0,.int .i64 0,.int .i64 0,.int .i64 0,.int .i64 0,.int .i64 0,.int .i64 0,.int .i64 0,.int .i64 0,.int .i64 0,.int .i64 0,.int .i64 0,.int .i64 0,.int .i64 0,.int .i64 0,.int .i64 0,.int .i64 0,.int .i64 0,.int .i64 0,.int .i64 0,.int .i64 0,.int .i64 0,.int .i64 0,.int .i64 0,.int .i64 0,.int .i64 0,.int .i64 0,.int .i64 0,.int .i64 0,.int .i64 0,.int .i64 0,.int .i64 0,.int .i64 0,.int .i64 0,.int .i64 0,.int .i64 0,.int .i64 0,.int .i64 0,.int .i64 0,.int .i64 0,.int .i64 0,.int .i64 0]),
 (194,.sl 5 1 1 false [.int .u8 0]),
 (367,.sc (.pointer 374) 1 (.pointer none)),
 (138,.st 3 [(0,1,false),(1,1,false),(2,1,false)] [.nilIface,.slice none 0 0,.slice none 0 0]),
 (152,.sl 151 5 40 true [.int .i64 0,.int .i64 0,.string ⟨#[]⟩,.bool false,.bool false]),
 (219,.st 2 [(0,1,false),(1,1,false)] [.int .i64 0,.string ⟨#[]⟩]),
 (282,.sl 302 7 56 true [.int .i64 0,.int .i64 0,.int .i64 0,.int .i64 0,.int .i64 0,.int .i64 0,.bool false]),
 (129,.st 2 [(0,1,false),(1,1,false)] [.int .i64 0,.slice none 0 0]),
 (153,.sl 9 1 16 false [.string ⟨#[]⟩]),
 (231,.st 7 [(0,6,true),(6,1,false)] [.string ⟨#[]⟩,.slice none 0 0,.slice none 0 0,.slice none 0 0,.slice none 0 0,.int .i64 0,.int .i64 0]),
 (285,.st 3 [(0,1,false),(1,1,false),(2,1,false)] [.bool false,.bool false,.bool false]),
 (330,.sc (.func #[83,83] #[3] false) 1 (.nilFunc)),
 (270,.st 3 [(0,1,false),(1,1,false),(2,1,false)] [.int .i64 0,.string ⟨#[]⟩,.int .i64 0]),
 (5,.sc (.int .u8) 1 (.int .u8 0)),
 (227,.st 4 [(0,1,false),(1,1,false),(2,1,false),(3,1,false)] [.map none,.map none,.slice none 0 0,.int .i64 0]),
 (221,.sl 157 6 120 true [.string ⟨#[]⟩,.slice none 0 0,.slice none 0 0,.slice none 0 0,.slice none 0 0,.int .i64 0]),
 (225,.sl 231 7 128 true [.string ⟨#[]⟩,.slice none 0 0,.slice none 0 0,.slice none 0 0,.slice none 0 0,.int .i64 0,.int .i64 0]),
 (287,.sc (.map 3 285) 1 (.map none)),
 (294,.st 2 [(0,1,false),(1,1,false)] [.string ⟨#[]⟩,.int .i64 0]),
 (73,.st 2 [(0,1,false),(1,1,false)] [.int .i64 0,.int .i64 0]),
 (191,.sc (.int .u64) 1 (.int .u64 0)),
 (184,.sc (.pointer 39) 1 (.pointer none)),
 (154,.sl 294 2 24 true [.string ⟨#[]⟩,.int .i64 0]),
 (353,.sc (.int .u64) 1 (.int .u64 0)),
 (161,.st 5 [(0,5,true)] [.slice none 0 0,.slice none 0 0,.slice none 0 0,.slice none 0 0,.int .i64 0]),
 (155,.sl 270 3 32 true [.int .i64 0,.string ⟨#[]⟩,.int .i64 0]),
 (255,.sc (.int .u64) 1 (.int .u64 0)),
 (276,.sl 282 1 24 false [.slice none 0 0]),
 (278,.st 4 [(0,1,false),(1,1,false),(2,1,false),(3,1,false)] [.pointer none,.slice none 0 0,.slice none 0 0,.int .i64 0]),
 (302,.st 7 [(0,3,true),(3,4,true)] [.int .i64 0,.int .i64 0,.int .i64 0,.int .i64 0,.int .i64 0,.int .i64 0,.bool false]),
 (224,.sc (.map 9 3) 1 (.map none)),
 (275,.sc (.pointer 278) 1 (.pointer none)),
 (63,.sc (.pointer 138) 1 (.pointer none)),
 (127,.sc (.pointer 129) 1 (.pointer none)),
 (357,.sc (.pointer 3) 1 (.pointer none)),
 (223,.sc (.map 9 157) 1 (.map none)),
 (158,.sc (.pointer 161) 1 (.pointer none)),
 (263,.sl 221 1 24 false [.slice none 0 0]),
 (351,.sl 57 1 24 false [.slice none 0 0]),
 (334,.sc (.func #[57] #[57,28] false) 1 (.nilFunc)),
 (267,.sc (.map 3 274) 1 (.map none)),
 (222,.sc (.pointer 227) 1 (.pointer none)),
 (28,.sc (.int .i64) 1 (.int .i64 0)),
 (371,.sc (.func #[190] #[4] false) 1 (.nilFunc)),
 (65,.sc (.func #[63] #[28] false) 1 (.nilFunc)),
 (146,.sl 97 5 40 true [.int .i64 0,.int .i64 0,.int .i64 0,.int .i64 0,.int .i64 0]),
 (265,.sl 229 1 8 false [.nilFunc]),
 (21,.sc (.int .i32) 1 (.int .i32 0)),
 (319,.sc (.int .u32) 1 (.int .u32 0)),
 (250,.sc (.pointer 91) 1 (.pointer none)),
 (306,.sc (.func #[21] #[4] false) 1 (.nilFunc)),
 (122,.sc (.pointer 60) 1 (.pointer none)),
 (94,.sc (.pointer 78) 1 (.pointer none)),
 (280,.sc (.func #[91] #[4] false) 1 (.nilFunc)),
 (304,.sc (.func #[302] #[4] false) 1 (.nilFunc)),
 (332,.sc (.func #[83] #[4] false) 1 (.nilFunc)),
 (379,.sc (.func #[378,3,3] #[] false) 1 (.nilFunc)),
 (392,.sc (.func #[190,3] #[3] false) 1 (.nilFunc)),
 (229,.sc (.func #[157] #[28] false) 1 (.nilFunc)),
 (111,.sc (.pointer 41) 1 (.pointer none)),
 (126,.sc (.pointer 26) 1 (.pointer none)),
 (215,.sc (.func #[83,3] #[3] false) 1 (.nilFunc)),
 (233,.sc (.pointer 69) 1 (.pointer none)),
 (262,.sc (.func #[119,3] #[3] false) 1 (.nilFunc)),
 (308,.sc (.func #[143,3] #[3] false) 1 (.nilFunc)),
 (378,.sc (.pointer 177) 1 (.pointer none)),
 (395,.sc (.func #[177] #[4] false) 1 (.nilFunc)),
 (401,.sc (.func #[182] #[4] false) 1 (.nilFunc))]
theorem a0:TabOk Tryz.prog tab:=by
 unfold tab
 repeat (first|exact TabOk.nil _|refine TabOk.cons (by kernel_rfl) (by rfl) ?_)
theorem a9R (s t:List UInt8) (off:Int) (w:World) (hs:s.length<=maxLen):Fn Tryz.prog 116 [.string ⟨s.toArray⟩,.int .i64 off,.string ⟨t.toArray⟩] w (RBf (.tuple #[.string ⟨(if inB off t.length s.length=true then splice s off.toNat t else []).toArray⟩,.int .i64 (if inB off t.length s.length=true then 0 else 3)]) w):=by
 by_cases h:inB off t.length s.length=true
 ·rw [xd6 h,xd6 h];unfold inB at h;simp only [xh1] at h;have h1:=a8X s t off.toNat w hs (by omega);rw [xk1 (by omega)] at h1;exact Fn.of_rb ⟨Tryz.func116,by kernel_rfl,by kernel_rfl⟩ (a6T h1)
 ·rw [xd7 h,xd7 h];exact (Fn.of_same ⟨Tryz.func116,by kernel_rfl,by kernel_rfl⟩ (a97 s t off w hs (by simpa using h))).mono (by rintro v w' ⟨rfl,rfl⟩;exact ⟨rfl,St.start _⟩)
def cxQ:EqT:=[(177,[1,0,2,2]),(182,[1,0]),(76,[0,0])]
noncomputable def b0R:List Value->Option Value
 |[.string ⟨⟨s⟩⟩,.int .i64 off,.string ⟨⟨t⟩⟩]=>ifB (inB off t.length s.length && Nat.ble s.length 100000) (some (.tuple #[.string ⟨(splice s off.toNat t).toArray⟩,.int .i64 0])) none
 |_=>none
noncomputable def cxM:List (Nat×(List Value->Option Value)):=[(116,b0R)]
theorem b1d {ρ:Ren} {z:Value} {l:List Value} (h:celL z=some l) (hl:l.all cOk=true):VR ρ z z:=by
 cases z
 all_goals first
  |(cases h;exact VR.mkAgg (LR.cOks hl);done)
  |(cases h;exact VR.cOk (by simpa using hl);done)
  |(cases h;done)
def zOk (z:Value):Bool:=match celL z with
 |some l=>l.all cOk
 |none=>false
def ForA {α:Type} (p:α->Prop):List α->Prop
 |[]=>True
 |x::r=>p x/\ForA p r
theorem ForA.nil {α:Type} {p:α->Prop}:ForA p []:=trivial
theorem ForA.cons {α:Type} {p:α->Prop} {x:α} {l:List α} (h:p x) (h':ForA p l):ForA p (x::l):=⟨h,h'⟩
theorem ForA.mem {α:Type} {p:α->Prop}:∀ {l:List α},ForA p l->∀ x ∈ l,p x
 |[],_,x,h=>by cases h
 |y::r,⟨h1,h2⟩,x,h=>by
  rcases xb3.1 h with rfl|h
  ·exact h1
  ·exact ForA.mem h2 x h
theorem a8t {P:Program} {ez:List (Nat×Value)} (h:ForA (fun p=>∃ Kt Et,P.underlying p.1=some (.map Kt Et)/\(P.info? Et).bind (·.zero)=some p.2/\zOk p.2=true) ez):a77 P ez:=fun t z hg Kt Et hu=>by
 obtain ⟨K,E,h1,h2,h3⟩:=h.mem _ (a0G hg);dsimp only at h1 h2 h3;rw [hu] at h1
 cases h1
 refine ⟨h2,fun ρ=>?_⟩;unfold zOk at h3
 split at h3
 ·rename_i l hl;exact b1d hl h3
 ·cases h3
theorem b0Q:∀ g f,d4 cxM g=some f->∀ vs v,f vs=some v->(∀ ρ,LR ρ vs vs)/\(∀ ρ,VR ρ v v)/\∀ w,Fn Tryz.prog g vs w (RBf v w):=by
 intro g f h vs v hv;have hm:=a0G h;unfold cxM at hm;rw [xh6] at hm
 cases hm
 unfold b0R at hv
 split at hv
 ·rename_i s off t;obtain ⟨h1,h2⟩:=a8 hv
  cases h2
  rw [xb6] at h1;have h3:=xe5 h1.2;refine ⟨fun ρ=>LR.cOks rfl,fun ρ=>VR.mkTup (LR.cOks rfl),fun w=>?_⟩;have:=a9R s t off w (by unfold maxLen;omega);rw [xd6 h1.1,xd6 h1.1] at this;exact this
 ·cases hv
theorem a2r {l l':List Value} {b:Bool} (h:sEqS [] l l'=some b):l=[]/\l'=[]/\b=true:=by
 cases l <;> cases l' <;> simp_all [sEqS]
theorem a3l {s:List Nat} {l l':List Value} {b:Bool} (h:sEqS (0::s) l l'=some b):∃ x y m m' c,l=.int .i64 x::m/\l'=.int .i64 y::m'/\sEqS s m m'=some c/\b=(decide (x=y) && c):=by
 unfold sEqS at h
 split at h
 all_goals first
  |(cases h;done)
  |(exfalso;simp_all;done)
  |(obtain ⟨c,hc,rfl⟩:=xh4.1 h;simp_all;done)
  |(obtain ⟨c,hc,rfl⟩:=xh4.1 h;rename_i e;cases e;exact ⟨_,_,_,_,c,rfl,rfl,hc,rfl⟩)
theorem a60 {s:List Nat} {l l':List Value} {b:Bool} (h:sEqS (1::s) l l'=some b):∃ x y m m' c,l=.string ⟨⟨x⟩⟩::m/\l'=.string ⟨⟨y⟩⟩::m'/\sEqS s m m'=some c/\b=(decide (x=y) && c):=by
 unfold sEqS at h
 split at h
 all_goals first
  |(cases h;done)
  |(exfalso;simp_all;done)
  |(obtain ⟨c,hc,rfl⟩:=xh4.1 h;simp_all;done)
  |(obtain ⟨c,hc,rfl⟩:=xh4.1 h;rename_i e;cases e;exact ⟨_,_,_,_,c,rfl,rfl,hc,rfl⟩)
theorem a6N {s:List Nat} {l l':List Value} {b:Bool} (h:sEqS (2::s) l l'=some b):∃ x y m m' c,l=.bool x::m/\l'=.bool y::m'/\sEqS s m m'=some c/\b=(decide (x=y) && c):=by
 unfold sEqS at h
 split at h
 all_goals first
  |(cases h;done)
  |(exfalso;simp_all;done)
  |(obtain ⟨c,hc,rfl⟩:=xh4.1 h;simp_all;done)
  |(obtain ⟨c,hc,rfl⟩:=xh4.1 h;rename_i e;cases e;exact ⟨_,_,_,_,c,rfl,rfl,hc,rfl⟩)
theorem a9Y:QOk Tryz.prog cxQ:=fun t s h l l' b hb=>by
 have hm:=a0G h;unfold cxQ at hm;simp only [xb3,List.not_mem_nil,or_false,Prod.mk.injEq] at hm;rcases hm with ⟨rfl,rfl⟩|⟨rfl,rfl⟩|⟨rfl,rfl⟩
 ·obtain ⟨x1,y1,m1,n1,c1,rfl,rfl,hb1,rfl⟩:=a60 hb;obtain ⟨x2,y2,m2,n2,c2,rfl,rfl,hb2,rfl⟩:=a3l hb1;obtain ⟨x3,y3,m3,n3,c3,rfl,rfl,hb3,rfl⟩:=a6N hb2;obtain ⟨x4,y4,m4,n4,c4,rfl,rfl,hb4,rfl⟩:=a6N hb3;obtain ⟨rfl,rfl,rfl⟩:=a2r hb4;refine ⟨fun w=>?_,by kernel_rfl⟩;simp [go_sem]
  repeat' split
  all_goals simp_all
 ·obtain ⟨x1,y1,m1,n1,c1,rfl,rfl,hb1,rfl⟩:=a60 hb;obtain ⟨x2,y2,m2,n2,c2,rfl,rfl,hb2,rfl⟩:=a3l hb1;obtain ⟨rfl,rfl,rfl⟩:=a2r hb2;refine ⟨fun w=>?_,by kernel_rfl⟩;simp [go_sem]
  repeat' split
  all_goals simp_all
 ·obtain ⟨x1,y1,m1,n1,c1,rfl,rfl,hb1,rfl⟩:=a3l hb;obtain ⟨x2,y2,m2,n2,c2,rfl,rfl,hb2,rfl⟩:=a3l hb1;obtain ⟨rfl,rfl,rfl⟩:=a2r hb2;refine ⟨fun w=>?_,by kernel_rfl⟩;simp [go_sem]
  repeat' split
  all_goals simp_all
def b1B (op a b c imm:Int):Value:=.agg #[.int .i64 op,.int .i64 a,.int .i64 b,.int .i64 c,.int .i64 imm]
attribute [go_sem] a3z
end Go.Proofs.YtejnpppejalhfadGreat
namespace Go.Proofs.YtejnpppejalhfadGreat
set_option maxRecDepth 100000
set_option maxHeartbeats 8000000
open Go.RowKit Go.Sort Go.MapKept
def sh (a b c:Bool):Value:=.agg #[.bool a,.bool b,.bool c]
def shapeL:List (Value×Value):=[(.int .i64 1,sh true false false),(.int .i64 11,sh true false false),(.int .i64 15,sh true false false),(.int .i64 12,sh false false false),(.int .i64 16,sh false false false),
 (.int .i64 2,sh true true true),(.int .i64 3,sh true true true),(.int .i64 4,sh true true true),(.int .i64 5,sh true true true),(.int .i64 6,sh true true true),(.int .i64 7,sh true true true),
 (.int .i64 8,sh true true false),(.int .i64 9,sh true true false),(.int .i64 10,sh true true false),(.int .i64 13,sh true true false),(.int .i64 14,sh true true false)]
def a4F (w:World) (e:Ending) (w':World):Prop:=∃ r,e=.returned (.map (some r))/\Below w.heap.size w w'/\w.heap.size<=r/\MapAt (.int .i64) w' r shapeL
theorem x6 (w:World):Calls Tryz.prog 166 #[] w (a4F w):=by
 have hsz:(Tryz.prog.info? 285).map (·.size)=some 3:=by kernel_rfl
 have Hsz:=hid hsz;clear hsz
 go_enter Tryz.func166,Tryz.ntmps166
 go_wp2_with (first|(with_reducible refine l2 3 ?_);refine a2k (.int .i64) w.heap.size w ?cb ?cs ?_;(case cb=>exact (by repeat (first|with_reducible exact Below.refl _ _|with_reducible refine Below.alloc ?_ (by simp <;> omega) _)));(case cs=>simp);intro w1 hM hb hz hg;have hT:=(hg w.heap.size (by simp)).trans (heap_alloc_new w _);have hM:MapAt (.int .i64) w1 (w.heap.size + 1) (shapeL.take 0):=(by simpa using hM);clear hg hz|(with_reducible refine b6 1 ?_);refine b5 (d:=.int .i64) Tryz.underlying287 Tryz.underlying3 (w.heap.size + 1) (.int .i64 1) (sh true false false) (shapeL.take 0) rfl rfl rfl hM (by simp [IsKey]) (by simp [shapeL]) w.heap.size w hb (by omega) ?_;intro w1 hM hb hz hg;have hT:=(hg w.heap.size (by omega)).trans hT;clear hg hz;have hM:MapAt (.int .i64) w1 (w.heap.size + 1) (shapeL.take 1):=hM|(with_reducible refine b6 11 ?_);refine b5 (d:=.int .i64) Tryz.underlying287 Tryz.underlying3 (w.heap.size + 1) (.int .i64 11) (sh true false false) (shapeL.take 1) rfl rfl rfl hM (by simp [IsKey]) (by simp [shapeL]) w.heap.size w hb (by omega) ?_;intro w1 hM hb hz hg;have hT:=(hg w.heap.size (by omega)).trans hT;clear hg hz;have hM:MapAt (.int .i64) w1 (w.heap.size + 1) (shapeL.take 2):=hM|(with_reducible refine b6 15 ?_);refine b5 (d:=.int .i64) Tryz.underlying287 Tryz.underlying3 (w.heap.size + 1) (.int .i64 15) (sh true false false) (shapeL.take 2) rfl rfl rfl hM (by simp [IsKey]) (by simp [shapeL]) w.heap.size w hb (by omega) ?_;intro w1 hM hb hz hg;have hT:=(hg w.heap.size (by omega)).trans hT;clear hg hz;have hM:MapAt (.int .i64) w1 (w.heap.size + 1) (shapeL.take 3):=hM|(with_reducible refine b6 12 ?_);refine b5 (d:=.int .i64) Tryz.underlying287 Tryz.underlying3 (w.heap.size + 1) (.int .i64 12) (sh false false false) (shapeL.take 3) rfl rfl rfl hM (by simp [IsKey]) (by simp [shapeL]) w.heap.size w hb (by omega) ?_;intro w1 hM hb hz hg;have hT:=(hg w.heap.size (by omega)).trans hT;clear hg hz;have hM:MapAt (.int .i64) w1 (w.heap.size + 1) (shapeL.take 4):=hM|(with_reducible refine b6 16 ?_);refine b5 (d:=.int .i64) Tryz.underlying287 Tryz.underlying3 (w.heap.size + 1) (.int .i64 16) (sh false false false) (shapeL.take 4) rfl rfl rfl hM (by simp [IsKey]) (by simp [shapeL]) w.heap.size w hb (by omega) ?_;intro w1 hM hb hz hg;have hT:=(hg w.heap.size (by omega)).trans hT;clear hg hz;have hM:MapAt (.int .i64) w1 (w.heap.size + 1) (shapeL.take 5):=hM|(with_reducible refine b6 2 ?_);refine b5 (d:=.int .i64) Tryz.underlying287 Tryz.underlying3 (w.heap.size + 1) (.int .i64 2) (sh true true true) (shapeL.take 5) rfl rfl rfl hM (by simp [IsKey]) (by simp [shapeL]) w.heap.size w hb (by omega) ?_;intro w1 hM hb hz hg;have hT:=(hg w.heap.size (by omega)).trans hT;clear hg hz;have hM:MapAt (.int .i64) w1 (w.heap.size + 1) (shapeL.take 6):=hM|(with_reducible refine b6 3 ?_);refine b5 (d:=.int .i64) Tryz.underlying287 Tryz.underlying3 (w.heap.size + 1) (.int .i64 3) (sh true true true) (shapeL.take 6) rfl rfl rfl hM (by simp [IsKey]) (by simp [shapeL]) w.heap.size w hb (by omega) ?_;intro w1 hM hb hz hg;have hT:=(hg w.heap.size (by omega)).trans hT;clear hg hz;have hM:MapAt (.int .i64) w1 (w.heap.size + 1) (shapeL.take 7):=hM|(with_reducible refine b6 4 ?_);refine b5 (d:=.int .i64) Tryz.underlying287 Tryz.underlying3 (w.heap.size + 1) (.int .i64 4) (sh true true true) (shapeL.take 7) rfl rfl rfl hM (by simp [IsKey]) (by simp [shapeL]) w.heap.size w hb (by omega) ?_;intro w1 hM hb hz hg;have hT:=(hg w.heap.size (by omega)).trans hT;clear hg hz;have hM:MapAt (.int .i64) w1 (w.heap.size + 1) (shapeL.take 8):=hM|(with_reducible refine b6 5 ?_);refine b5 (d:=.int .i64) Tryz.underlying287 Tryz.underlying3 (w.heap.size + 1) (.int .i64 5) (sh true true true) (shapeL.take 8) rfl rfl rfl hM (by simp [IsKey]) (by simp [shapeL]) w.heap.size w hb (by omega) ?_;intro w1 hM hb hz hg;have hT:=(hg w.heap.size (by omega)).trans hT;clear hg hz;have hM:MapAt (.int .i64) w1 (w.heap.size + 1) (shapeL.take 9):=hM|(with_reducible refine b6 6 ?_);refine b5 (d:=.int .i64) Tryz.underlying287 Tryz.underlying3 (w.heap.size + 1) (.int .i64 6) (sh true true true) (shapeL.take 9) rfl rfl rfl hM (by simp [IsKey]) (by simp [shapeL]) w.heap.size w hb (by omega) ?_;intro w1 hM hb hz hg;have hT:=(hg w.heap.size (by omega)).trans hT;clear hg hz;have hM:MapAt (.int .i64) w1 (w.heap.size + 1) (shapeL.take 10):=hM|(with_reducible refine b6 7 ?_);refine b5 (d:=.int .i64) Tryz.underlying287 Tryz.underlying3 (w.heap.size + 1) (.int .i64 7) (sh true true true) (shapeL.take 10) rfl rfl rfl hM (by simp [IsKey]) (by simp [shapeL]) w.heap.size w hb (by omega) ?_;intro w1 hM hb hz hg;have hT:=(hg w.heap.size (by omega)).trans hT;clear hg hz;have hM:MapAt (.int .i64) w1 (w.heap.size + 1) (shapeL.take 11):=hM|(with_reducible refine b6 8 ?_);refine b5 (d:=.int .i64) Tryz.underlying287 Tryz.underlying3 (w.heap.size + 1) (.int .i64 8) (sh true true false) (shapeL.take 11) rfl rfl rfl hM (by simp [IsKey]) (by simp [shapeL]) w.heap.size w hb (by omega) ?_;intro w1 hM hb hz hg;have hT:=(hg w.heap.size (by omega)).trans hT;clear hg hz;have hM:MapAt (.int .i64) w1 (w.heap.size + 1) (shapeL.take 12):=hM|(with_reducible refine b6 9 ?_);refine b5 (d:=.int .i64) Tryz.underlying287 Tryz.underlying3 (w.heap.size + 1) (.int .i64 9) (sh true true false) (shapeL.take 12) rfl rfl rfl hM (by simp [IsKey]) (by simp [shapeL]) w.heap.size w hb (by omega) ?_;intro w1 hM hb hz hg;have hT:=(hg w.heap.size (by omega)).trans hT;clear hg hz;have hM:MapAt (.int .i64) w1 (w.heap.size + 1) (shapeL.take 13):=hM|(with_reducible refine b6 10 ?_);refine b5 (d:=.int .i64) Tryz.underlying287 Tryz.underlying3 (w.heap.size + 1) (.int .i64 10) (sh true true false) (shapeL.take 13) rfl rfl rfl hM (by simp [IsKey]) (by simp [shapeL]) w.heap.size w hb (by omega) ?_;intro w1 hM hb hz hg;have hT:=(hg w.heap.size (by omega)).trans hT;clear hg hz;have hM:MapAt (.int .i64) w1 (w.heap.size + 1) (shapeL.take 14):=hM|(with_reducible refine b6 13 ?_);refine b5 (d:=.int .i64) Tryz.underlying287 Tryz.underlying3 (w.heap.size + 1) (.int .i64 13) (sh true true false) (shapeL.take 14) rfl rfl rfl hM (by simp [IsKey]) (by simp [shapeL]) w.heap.size w hb (by omega) ?_;intro w1 hM hb hz hg;have hT:=(hg w.heap.size (by omega)).trans hT;clear hg hz;have hM:MapAt (.int .i64) w1 (w.heap.size + 1) (shapeL.take 15):=hM|(with_reducible refine b6 14 ?_);refine b5 (d:=.int .i64) Tryz.underlying287 Tryz.underlying3 (w.heap.size + 1) (.int .i64 14) (sh true true false) (shapeL.take 15) rfl rfl rfl hM (by simp [IsKey]) (by simp [shapeL]) w.heap.size w hb (by omega) ?_;intro w1 hM hb hz hg;have hT:=(hg w.heap.size (by omega)).trans hT;clear hg hz;have hM:MapAt (.int .i64) w1 (w.heap.size + 1) (shapeL.take 16):=hM|(first|with_reducible refine l2 9 ?_|with_reducible refine l2 10 ?_|with_reducible refine l2 11 ?_|with_reducible refine l2 12 ?_|with_reducible refine l2 13 ?_|with_reducible refine l2 14 ?_);refine wpList_load_row rfl 285 (.tmp 1) rfl w.heap.size rfl _ _ _ _ hT Tryz.underlying285 rfl Hsz.out ?_)
 go_ret
 exact ⟨w.heap.size + 1,rfl,hb,by omega,hM⟩
def b0h (op:Int):Prop:=1<=op/\op<=16/\op≠12/\op≠16
def a9S (op:Int):Prop:=(2<=op/\op<=10)\/op=13\/op=14
def a9L (op:Int):Prop:=2<=op/\op<=7
def a8F (op a b c imm:Int):Prop:=op < 1\/16 < op\/(b0h op/\8<=a)\/(a9S op/\8<=b)\/(a9L op/\8<=c) \/
 ((op=9\/op=10)/\c≠1/\c≠2/\c≠4/\c≠8)\/(op=16/\(imm < 1\/6 < imm))
def a4t (op:Int) (sa sb sc ok:Bool):Prop:=∀ (w:World) (r:Nat),MapAt (.int .i64) w r shapeL ->
 (Instr.lookup 287 (.map (some r)) (.int .i64 op) true).run Tryz.prog w=.ok (.tuple #[.agg #[.bool sa,.bool sb,.bool sc],.bool ok]) w
theorem a0J (op:Int) (sa sb sc:Bool) (h:(Value.int .i64 op,sh sa sb sc) ∈ shapeL):a4t op sa sb sc true:=fun _ _ hM=>
 a0u (P:=Tryz.prog) Tryz.underlying287 Tryz.underlying3 hM (by simp [IsKey]) h true
theorem a4s (op:Int) (h:op < 1\/16 < op):a4t op false false false false:=fun _ _ hM=>
 a0o (P:=Tryz.prog) Tryz.underlying287 Tryz.underlying3 hM (by simp [IsKey]) (by intro v;simp [shapeL];omega) (by kernel_rfl) true
theorem a6L (op:Int):(a4t op false false false false/\(op < 1\/16 < op))\/(a4t op true false false true/\(op=1\/op=11\/op=15))\/(a4t op false false false true/\(op=12\/op=16)) \/
  (a4t op true true true true/\2<=op/\op<=7)\/(a4t op true true false true/\(op=8\/op=9\/op=10\/op=13\/op=14)):=by
 rcases show (op < 1\/16 < op)\/(op=1\/op=11\/op=15)\/(op=12\/op=16)\/(op=2\/op=3\/op=4\/op=5\/op=6\/op=7)\/(op=8\/op=9\/op=10\/op=13\/op=14) from by omega with h|h|h|h|h
 ·exact .inl ⟨a4s op h,h⟩
 ·exact .inr (.inl ⟨a0J op _ _ _ (by rcases h with rfl|rfl|rfl <;> simp [shapeL]),h⟩)
 ·exact .inr (.inr (.inl ⟨a0J op _ _ _ (by rcases h with rfl|rfl <;> simp [shapeL]),h⟩))
 ·exact .inr (.inr (.inr (.inl ⟨a0J op _ _ _ (by rcases h with rfl|rfl|rfl|rfl|rfl|rfl <;> simp [shapeL]),by omega,by omega⟩)))
 ·exact .inr (.inr (.inr (.inr ⟨a0J op _ _ _ (by rcases h with rfl|rfl|rfl|rfl|rfl <;> simp [shapeL]),h⟩)))
def a1X (sa sb sc ok:Bool) (op a b c imm:Int) (w:World) (v3 v4:Value) (wx:World):Prop :=
 ∃ g,v3=.pointer (some ⟨g,0,none⟩)/\v4=.bool ok/\Below w.heap.size w wx/\wx.cell? ⟨g,0,none⟩=some (.bool sa)/\wx.cell? ⟨g,1,none⟩=some (.bool sb)/\wx.cell? ⟨g,2,none⟩=some (.bool sc) /\
  wx.cell? ⟨w.heap.size,0,none⟩=some (.int .i64 op)/\wx.cell? ⟨w.heap.size,1,none⟩=some (.int .i64 a)/\wx.cell? ⟨w.heap.size,2,none⟩=some (.int .i64 b)/\wx.cell? ⟨w.heap.size,3,none⟩=some (.int .i64 c)/\wx.cell? ⟨w.heap.size,4,none⟩=some (.int .i64 imm)
theorem a8f (op a b c imm:Int) (w:World) (res:Bool) (h:res=true ↔ a8F op a b c imm) :
  Calls Tryz.prog 127 #[b1B op a b c imm] w (RB (.bool res) w):=by
 unfold b1B;unfold a8F b0h a9S a9L at h;rcases a6L op with ⟨hl,hop⟩|⟨hl,hop⟩|⟨hl,hop⟩|⟨hl,hop1,hop2⟩|⟨hl,hop⟩
 ·have hl:=hid hl;have H:=hid h;clear h;have HO:=hid hop;clear hop
  go_enter Tryz.func127,Tryz.ntmps127
  go_upto_region 1 with fail
  go_cut [3,4] (fun v3 v4 wx=>a1X false false false false op a b c imm w v3 v4 wx)
  case first=>
   go_region_with ((go_at_call 166;refine (x6 _).mono ?_;rintro e w1 ⟨r,rfl,hb1,hr1,hM⟩;have HL:=hl.out _ _ hM;have HL2:=fun o=>hl.out _ _ (hM.grown ((Below.refl _ w1).alloc (xc4 _) o));clear hM;obtain ⟨hc1,hf1⟩:=a3Q hb1;have hz1:w.heap.size < w1.heap.size:=by (have:=hb1.size;simp at this;omega)))
   all_goals
    go_wp2_with fail
    go_meet
    exact ⟨_,rfl,rfl,(by repeat (first|with_reducible exact Below.refl _ _|with_reducible refine Below.alloc ?_ (by first|omega|(simp;done)) _|with_reducible refine Below.setCell ?_ (by (simp;done)) _|with_reducible refine Below.drew ?_|refine bt ?_ (by with_reducible assumption))),by simp [go_sem,hc1,hz1],by simp [go_sem,hc1,hz1],by simp [go_sem,hc1,hz1],by simp [go_sem,hc1,hz1],by simp [go_sem,hc1,hz1],by simp [go_sem,hc1,hz1],by simp [go_sem,hc1,hz1],by simp [go_sem,hc1,hz1]⟩
  case rest=>
   obtain ⟨g,rfl,rfl,hb,f0,f1,f2,q0,q1,q2,q3,q4⟩:=hcut
   go_wp2
   all_goals
    have h:=H.out;have hop:=HO.out
    go_ret
    refine ⟨g9 ?_,hb⟩;rw [xb9,h];clear h H hl HO hb f0 f1 f2 q0 q1 q2 q3 q4;simp only [beq_iff_eq,xk2,xk3,xk4,ne_eq,xh1,xg9] at *
    first
     |omega
     |(simp;omega)
 ·have hl:=hid hl;have H:=hid h;clear h;have HO:=hid hop;clear hop
  go_enter Tryz.func127,Tryz.ntmps127
  go_upto_region 1 with fail
  go_cut [3,4] (fun v3 v4 wx=>a1X true false false true op a b c imm w v3 v4 wx)
  case first=>
   go_region_with ((go_at_call 166;refine (x6 _).mono ?_;rintro e w1 ⟨r,rfl,hb1,hr1,hM⟩;have HL:=hl.out _ _ hM;have HL2:=fun o=>hl.out _ _ (hM.grown ((Below.refl _ w1).alloc (xc4 _) o));clear hM;obtain ⟨hc1,hf1⟩:=a3Q hb1;have hz1:w.heap.size < w1.heap.size:=by (have:=hb1.size;simp at this;omega)))
   all_goals
    go_wp2_with fail
    go_meet
    exact ⟨_,rfl,rfl,(by repeat (first|with_reducible exact Below.refl _ _|with_reducible refine Below.alloc ?_ (by first|omega|(simp;done)) _|with_reducible refine Below.setCell ?_ (by (simp;done)) _|with_reducible refine Below.drew ?_|refine bt ?_ (by with_reducible assumption))),by simp [go_sem,hc1,hz1],by simp [go_sem,hc1,hz1],by simp [go_sem,hc1,hz1],by simp [go_sem,hc1,hz1],by simp [go_sem,hc1,hz1],by simp [go_sem,hc1,hz1],by simp [go_sem,hc1,hz1],by simp [go_sem,hc1,hz1]⟩
  case rest=>
   obtain ⟨g,rfl,rfl,hb,f0,f1,f2,q0,q1,q2,q3,q4⟩:=hcut
   go_wp2
   all_goals
    have h:=H.out;have hop:=HO.out
    go_ret
    refine ⟨g9 ?_,hb⟩;rw [xb9,h];clear h H hl HO hb f0 f1 f2 q0 q1 q2 q3 q4;simp only [beq_iff_eq,xk2,xk3,xk4,ne_eq,xh1,xg9] at *
    first
     |omega
     |(simp;omega)
 ·have hl:=hid hl;have H:=hid h;clear h;have HO:=hid hop;clear hop
  go_enter Tryz.func127,Tryz.ntmps127
  go_upto_region 1 with fail
  go_cut [3,4] (fun v3 v4 wx=>a1X false false false true op a b c imm w v3 v4 wx)
  case first=>
   go_region_with ((go_at_call 166;refine (x6 _).mono ?_;rintro e w1 ⟨r,rfl,hb1,hr1,hM⟩;have HL:=hl.out _ _ hM;have HL2:=fun o=>hl.out _ _ (hM.grown ((Below.refl _ w1).alloc (xc4 _) o));clear hM;obtain ⟨hc1,hf1⟩:=a3Q hb1;have hz1:w.heap.size < w1.heap.size:=by (have:=hb1.size;simp at this;omega)))
   all_goals
    go_wp2_with fail
    go_meet
    exact ⟨_,rfl,rfl,(by repeat (first|with_reducible exact Below.refl _ _|with_reducible refine Below.alloc ?_ (by first|omega|(simp;done)) _|with_reducible refine Below.setCell ?_ (by (simp;done)) _|with_reducible refine Below.drew ?_|refine bt ?_ (by with_reducible assumption))),by simp [go_sem,hc1,hz1],by simp [go_sem,hc1,hz1],by simp [go_sem,hc1,hz1],by simp [go_sem,hc1,hz1],by simp [go_sem,hc1,hz1],by simp [go_sem,hc1,hz1],by simp [go_sem,hc1,hz1],by simp [go_sem,hc1,hz1]⟩
  case rest=>
   obtain ⟨g,rfl,rfl,hb,f0,f1,f2,q0,q1,q2,q3,q4⟩:=hcut
   go_wp2
   all_goals
    have h:=H.out;have hop:=HO.out
    go_ret
    refine ⟨g9 ?_,hb⟩;rw [xb9,h];clear h H hl HO hb f0 f1 f2 q0 q1 q2 q3 q4;simp only [beq_iff_eq,xk2,xk3,xk4,ne_eq,xh1,xg9] at *
    first
     |omega
     |(simp;omega)
 ·have hl:=hid hl;have H:=hid h;clear h;have HO:=hid (And.intro hop1 hop2);clear hop1 hop2
  go_enter Tryz.func127,Tryz.ntmps127
  go_upto_region 1 with fail
  go_cut [3,4] (fun v3 v4 wx=>a1X true true true true op a b c imm w v3 v4 wx)
  case first=>
   go_region_with ((go_at_call 166;refine (x6 _).mono ?_;rintro e w1 ⟨r,rfl,hb1,hr1,hM⟩;have HL:=hl.out _ _ hM;have HL2:=fun o=>hl.out _ _ (hM.grown ((Below.refl _ w1).alloc (xc4 _) o));clear hM;obtain ⟨hc1,hf1⟩:=a3Q hb1;have hz1:w.heap.size < w1.heap.size:=by (have:=hb1.size;simp at this;omega)))
   all_goals
    go_wp2_with fail
    go_meet
    exact ⟨_,rfl,rfl,(by repeat (first|with_reducible exact Below.refl _ _|with_reducible refine Below.alloc ?_ (by first|omega|(simp;done)) _|with_reducible refine Below.setCell ?_ (by (simp;done)) _|with_reducible refine Below.drew ?_|refine bt ?_ (by with_reducible assumption))),by simp [go_sem,hc1,hz1],by simp [go_sem,hc1,hz1],by simp [go_sem,hc1,hz1],by simp [go_sem,hc1,hz1],by simp [go_sem,hc1,hz1],by simp [go_sem,hc1,hz1],by simp [go_sem,hc1,hz1],by simp [go_sem,hc1,hz1]⟩
  case rest=>
   obtain ⟨g,rfl,rfl,hb,f0,f1,f2,q0,q1,q2,q3,q4⟩:=hcut
   go_wp2
   all_goals
    have h:=H.out;have hop:=HO.out
    go_ret
    refine ⟨g9 ?_,hb⟩;rw [xb9,h];clear h H hl HO hb f0 f1 f2 q0 q1 q2 q3 q4;simp only [beq_iff_eq,xk2,xk3,xk4,ne_eq,xh1,xg9] at *
    first
     |omega
     |(simp;omega)
 ·have hl:=hid hl;have H:=hid h;clear h;have HO:=hid hop;clear hop
  go_enter Tryz.func127,Tryz.ntmps127
  go_upto_region 1 with fail
  go_cut [3,4] (fun v3 v4 wx=>a1X true true false true op a b c imm w v3 v4 wx)
  case first=>
   go_region_with ((go_at_call 166;refine (x6 _).mono ?_;rintro e w1 ⟨r,rfl,hb1,hr1,hM⟩;have HL:=hl.out _ _ hM;have HL2:=fun o=>hl.out _ _ (hM.grown ((Below.refl _ w1).alloc (xc4 _) o));clear hM;obtain ⟨hc1,hf1⟩:=a3Q hb1;have hz1:w.heap.size < w1.heap.size:=by (have:=hb1.size;simp at this;omega)))
   all_goals
    go_wp2_with fail
    go_meet
    exact ⟨_,rfl,rfl,(by repeat (first|with_reducible exact Below.refl _ _|with_reducible refine Below.alloc ?_ (by first|omega|(simp;done)) _|with_reducible refine Below.setCell ?_ (by (simp;done)) _|with_reducible refine Below.drew ?_|refine bt ?_ (by with_reducible assumption))),by simp [go_sem,hc1,hz1],by simp [go_sem,hc1,hz1],by simp [go_sem,hc1,hz1],by simp [go_sem,hc1,hz1],by simp [go_sem,hc1,hz1],by simp [go_sem,hc1,hz1],by simp [go_sem,hc1,hz1],by simp [go_sem,hc1,hz1]⟩
  case rest=>
   obtain ⟨g,rfl,rfl,hb,f0,f1,f2,q0,q1,q2,q3,q4⟩:=hcut
   go_wp2
   all_goals
    have h:=H.out;have hop:=HO.out
    go_ret
    refine ⟨g9 ?_,hb⟩;rw [xb9,h];clear h H hl HO hb f0 f1 f2 q0 q1 q2 q3 q4;simp only [beq_iff_eq,xk2,xk3,xk4,ne_eq,xh1,xg9] at *
    first
     |omega
     |(simp;omega)
end Go.Proofs.YtejnpppejalhfadGreat
namespace Go.Proofs.YtejnpppejalhfadGreat
set_option maxRecDepth 100000
set_option maxHeartbeats 8000000
open Go.RowKit Go.Sort
def b0d (op a b c imm:Int):Bool:=decide (op < 1)||(decide (16 < op)||((decide (1<=op/\op<=16/\op≠12/\op≠16) && decide (8<=a))||((decide ((2<=op/\op<=10)\/op=13\/op=14) && decide (8<=b))||((decide (2<=op/\op<=7) && decide (8<=c))||(decide ((op=9\/op=10)/\c≠1/\c≠2/\c≠4/\c≠8)||decide (op=16/\(imm < 1\/6 < imm)))))))
theorem a7n (op a b c imm:Int):b0d op a b c imm=true ↔ a8F op a b c imm:=by
 unfold b0d a8F b0h a9S a9L;simp only [Bool.or_eq_true,xb6,xh1]
noncomputable def b1i:List Value->Option Value
 |[.agg ⟨[.int .i64 op,.int .i64 a,.int .i64 b,.int .i64 c,.int .i64 imm]⟩]=>some (.bool (b0d op a b c imm))
 |_=>none
noncomputable def b0A:List (Nat×(List Value->Option Value)):=[(116,b0R),(127,b1i)]
theorem a9f:∀ g f,d4 b0A g=some f->∀ vs v,f vs=some v->(∀ ρ,LR ρ vs vs)/\(∀ ρ,VR ρ v v)/\∀ w,Fn Tryz.prog g vs w (RBf v w):=by
 intro g f h vs v hv;have hm:=a0G h;unfold b0A at hm;rcases xb3.1 hm with hm|hm
 ·cases hm
  exact b0Q _ _ rfl vs v hv
 ·rw [xh6] at hm
  cases hm
  unfold b1i at hv
  split at hv
  ·rename_i op a b c imm
   cases hv
   exact ⟨fun ρ=>LR.cons (VR.mkAgg (LR.cOks rfl)) LR.nil,fun ρ=>VR.cOk rfl,fun w=>Fn.of_rb ⟨Tryz.func127,by kernel_rfl,by kernel_rfl⟩ (a8f op a b c imm w _ (a7n op a b c imm))⟩
  ·cases hv
end Go.Proofs.YtejnpppejalhfadGreat
