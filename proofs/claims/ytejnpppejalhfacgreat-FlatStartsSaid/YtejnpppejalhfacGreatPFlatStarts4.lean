/- Texts that the proof stands on, one behind the other: Cx8, Cx9, Cx10, Cx11, Cx12, Cx13. -/
import Derived.Test.YtejnpppejalhfacGreatPFlatStarts3
set_option linter.unusedVariables false
set_option linter.unusedSimpArgs false
namespace Go.Proofs.YtejnpppejalhfacGreat
set_option maxRecDepth 100000
set_option maxHeartbeats 8000000
open Go.RowKit Go.Sort
section
variable {F:Nat->Prop} {w0 w w':World} {Γ:List Asr} {A:Asr}
theorem St.self (h:A.holds w):St (fps [A]) w w [A] :=
 ⟨rfl,rfl,rfl,xc5 _,fun _ _ _=>rfl,by simpa using h,fun B hB k hk=>xc4 ⟨B,hB,hk⟩,by simp⟩
theorem St.grown1 {b:Nat} (h:St (fps [A]) w w' Γ) (hb:A.fp=some b):w.grownBy w' (some b) :=
 ⟨h.os,h.tape,h.output,h.size,fun k hk hne=>h.base k hk (fun ⟨B,hB,e⟩=>by
  rw [xl0.1 hB,hb] at e;exact hne (by rw [e]))⟩
theorem St.grown0 (h:St nF w w' Γ):w.grownBy w' none:=⟨h.os,h.tape,h.output,h.size,fun k hk _=>h.base k hk id⟩
end
section
variable {P:Program} {T:TT} {q:EqT} {w0 w w':World} {ρ σ:Ren} {N:Nat} {ds:List Deferred} {a:Act} {E:Fr} {H:SH} {n:Nat} {x:Nat×Nat} {i:Nat}
theorem Fits.blk {L:List Value} {b y:Nat} {o:Obj} (h:Fits P ρ y (.blk L) o) (hb:w.heap[b]?=some o):∃ M,LR ρ L M/\Asr.holds w (.blk b M):=by
 obtain ⟨M,t,h1,h2⟩:=h;exact ⟨M,h1,t,by rw [hb,h2]⟩
theorem Fits.of_blk {L M:List Value} {b y:Nat} (h:Asr.holds w (.blk b M)) (hr:LR ρ L M):∃ o,w.heap[b]?=some o/\Fits P ρ y (.blk L) o:=by
 obtain ⟨t,h⟩:=h;exact ⟨_,h,M,t,hr,rfl⟩
theorem Fits.row {e sz cap b y:Nat} {u:Bool} {rows:List (List Value)} {o:Obj} (h:Fits P ρ y (.row e sz rows cap u) o) (hb:w.heap[b]?=some o):∃ rs,RR ρ rows rs/\Asr.holds w (.row e sz (.slice (some ⟨b,0,none⟩) rs.length (cap + y)) rs)/\(u=false->y=0):=by
 obtain ⟨rs,cur,h1,h2,h3,h4,h5,h6,h7,h8,h9⟩:=h;exact ⟨rs,h1,⟨⟨j4 h7,.inr ⟨b,cap + y,cur,rfl,xf0 _,by rw [hb,h2],h3,h4,h5,h6⟩⟩,h7,h8⟩,h9⟩
theorem Fits.of_row {e sz cap b y m c:Nat} {u:Bool} {rows rs:List (List Value)} (h:Asr.holds w (.row e sz (.slice (some ⟨b,0,none⟩) m c) rs)) (hr:RR ρ rows rs) (hc:c=cap + y) (hu:u=false->y=0):∃ o,w.heap[b]?=some o/\Fits P ρ y (.row e sz rows cap u) o:=by
 obtain ⟨⟨h1,h2⟩,h3,h4⟩:=h;rcases h2 with ⟨e,_⟩|⟨g,c',cur,e,_,h5,h6,h7,h8,h9⟩
 ·cases e
 ·cases e
  subst hc;exact ⟨_,h5,rs,cur,hr,rfl,h6,h7,h8,h9,h3,h4,hu⟩
theorem RR.get {l m:List (List Value)} {k:Nat} {r:List Value} (h:RR ρ l m) (hk:l[k]?=some r):∃ s,m[k]?=some s/\LR ρ r s:=h.2 k r hk
theorem RR.set {l m:List (List Value)} {k:Nat} {r s:List Value} (h:RR ρ l m) (hr:LR ρ r s):RR ρ (l.set k r) (m.set k s):=by
 refine ⟨by simp [h.1],fun j q hq=>?_⟩;rw [xd0] at hq |-;by_cases e:k=j
 ·rw [xd8 e] at hq;rw [xd8 e]
  split at hq
  ·rename_i hlt
   cases hq
   rw [xd8 (by rw [h.1];exact hlt)];exact ⟨s,rfl,hr⟩
  ·cases hq
 ·rw [xd9 e] at hq;rw [xd9 e];exact h.2 j q hq
theorem RR.app {l m l' m':List (List Value)} (h:RR ρ l m) (h':RR ρ l' m'):RR ρ (l++l') (m++m'):=by
 refine ⟨by simp [h.1,h'.1],fun j q hq=>?_⟩;by_cases hj:j < l.length
 ·rw [xa5 hj] at hq;rw [xa5 (by rw [h.1];exact hj)];exact h.2 j q hq
 ·rw [xa4 (by omega)] at hq;rw [xa4 (by rw [h.1];omega),h.1];exact h'.2 _ q hq
theorem RR.take {l m:List (List Value)} (h:RR ρ l m) (k:Nat):RR ρ (l.take k) (m.take k):=by
 refine ⟨by simp [h.1],fun j q hq=>?_⟩;rw [xe2] at hq |-
 split at hq
 ·rename_i hlt;rw [xd8 hlt];exact h.2 j q hq
 ·cases hq
theorem RR.drop {l m:List (List Value)} (h:RR ρ l m) (k:Nat):RR ρ (l.drop k) (m.drop k):=by
 refine ⟨by simp [h.1],fun j q hq=>?_⟩;rw [xe3] at hq |-;exact h.2 _ q hq
theorem RR.rep {r:List Value} (h:LR ρ r r) (k:Nat):RR ρ (List.replicate k r) (List.replicate k r):=by
 refine ⟨rfl,fun j q hq=>?_⟩;have:=xl1 (xc1 hq);subst this;exact ⟨q,hq,h⟩
theorem RR.one1 {l m:List (List Value)} (h:RR ρ l m) (hl:∀ r ∈ l,r.all (·.oneCell')=true):∀ s ∈ m,s.all (·.oneCell')=true:=fun s hs=>by
 obtain ⟨j,hj⟩:=xc9.1 hs;have hlt:j < l.length:=by rw [<- h.1];exact j7 hj
 obtain ⟨s',h1,h2⟩:=h.2 j _ (xd1 hlt);rw [hj] at h1
 cases h1
 rw [h2.one];exact hl _ (List.getElem_mem hlt)
def Snd (P:Program) (op:Op) (E:Fr) (H:SH) (n:Nat) (r:Option Value×SH×Nat):Prop :=
 n<=r.2.2/\∀ {w0 w:World} {ρ:Ren} {N:Nat} {ds:List Deferred} {a:Act} {hi:Nat},HasR ρ N ds a E->Inv P w0 ρ H w->Fsh ρ n hi->r.2.2<=hi ->
  ∀ dst ty pos after (K:Act->World->Prop) (Q:Exit->Act->World->Prop),(∀ u w' σ,Stp ρ σ n r.2.2->OR σ r.1 u->Inv P w0 σ r.2.1 w'->K (a.put dst u) w')->Oper.wp P ⟨dst,op,ty,pos,after,none⟩ a w K Q
theorem Snd.of_runs {op:Op} {v:Option Value} (h:∀ {ρ:Ren} {N:Nat} {ds:List Deferred} {a:Act},HasR ρ N ds a E->∃ u,OR ρ v u/\∀ dst ty pos after,x7 P ⟨dst,op,ty,pos,after,none⟩ a u):Snd P op E H n (v,H,n) :=
 ⟨xc5 _,fun ha hI _ _ dst ty pos after K Q k=>by
  obtain ⟨u,hu,hr⟩:=h ha;unfold Oper.wp;rw [hr dst ty pos after _];exact k u _ _ (Stp.refl _ _ _) hu hI⟩
theorem Snd.of_yl {op:Op} {v:Value} (h:∀ {ρ:Ren} {N:Nat} {ds:List Deferred} {a:Act},HasR ρ N ds a E->Yl P ρ a op v):Snd P op E H n (some v,H,n):=Snd.of_runs h
theorem Snd.of_gets {op:Op} {v:Option Value} (h:∀ {w0 w:World} {ρ:Ren} {N:Nat} {ds:List Deferred} {a:Act},HasR ρ N ds a E->Inv P w0 ρ H w->∃ u,OR ρ v u/\∀ dst ty pos after,Gets P ⟨dst,op,ty,pos,after,none⟩ N ds (a0c a) w (fun v' w'=>v'=u/\w'=w)):Snd P op E H n (v,H,n) :=
 ⟨xc5 _,fun ha hI _ _ dst ty pos after K Q k=>by
  obtain ⟨u,hu,hr⟩:=h ha hI;exact hr dst ty pos after _ ha.full K Q (fun v' w' hv=>by obtain ⟨rfl,rfl⟩:=hv;exact k _ _ _ (Stp.refl _ _ _) hu hI)⟩
theorem Snd.of_new {op:Op} {v:Value} {s:SA} (h:∀ {w0 w:World} {ρ:Ren} {N:Nat} {ds:List Deferred} {a:Act},HasR ρ N ds a E->Inv P w0 ρ H w->∀ dst ty pos after,Gets P ⟨dst,op,ty,pos,after,none⟩ N ds (a0c a) w (fun u w'=>∃ x:Nat×Nat,(∀ τ:Ren,Rle ρ τ->τ n=some x->VR τ v u)/\w.grownBy w' none/\w.heap.size<=x.1/\∃ o,w'.heap[x.1]?=some o/\∀ τ:Ren,Rle ρ τ->τ n=some x->Fits P τ x.2 s o)):Snd P op E H n (some v,a0p H n s,n + 1) :=
 ⟨Nat.le_succ _,fun {w0 w ρ N ds a hi} ha hI hF hn dst ty pos after K Q k=>by
  have hfr:ρ n=none:=hF n (xc5 _) hn;refine h ha hI dst ty pos after _ ha.full K Q fun u w' ⟨x,hv,hg,hb,o,ho,hf⟩=>?_;exact k u w' (upR ρ n x) (a6R hfr) (hv _ (a0M hfr) a0G) (hI.new hfr hg ho hb (hf _ (a0M hfr) a0G))⟩
theorem Snd.of_upd {op:Op} {v:Option Value} {s s':SA} (hi:g8 H i=some s) (h:∀ {w0 w:World} {ρ:Ren} {N:Nat} {ds:List Deferred} {a:Act} {x:Nat×Nat} {o:Obj},HasR ρ N ds a E->Inv P w0 ρ H w->ρ i=some x->w.heap[x.1]?=some o->Fits P ρ x.2 s o->∀ dst ty pos after,Gets P ⟨dst,op,ty,pos,after,none⟩ N ds (a0c a) w (fun u w'=>OR ρ v u/\w.grownBy w' (some x.1)/\∃ o',w'.heap[x.1]?=some o'/\Fits P ρ x.2 s' o')):Snd P op E H n (v,a0o H i s',n) :=
 ⟨xc5 _,fun {w0 w ρ N ds a hi'} ha hI hF hn dst ty pos after K Q k=>by
  obtain ⟨x,o,h1,h2,h3,_⟩:=hI.held i s hi;refine h ha hI h1 h2 h3 dst ty pos after _ ha.full K Q fun u w' ⟨hv,hg,o',ho,hf⟩=>?_;exact k u w' ρ (Stp.refl _ _ _) hv (hI.upd hi h1 hg ho hf)⟩
theorem a2n {b o k m:Nat} {M:List Value} (h:w.rangeAt b o M):w.rangeAt b (o + k) ((M.drop k).take m):=fun j v hj=>by
 rw [xe2] at hj
 split at hj
 ·rw [xe3] at hj;have:=h (k + j) v hj
  rwa [<- xe4] at this
 ·cases hj
theorem a2C (hI:Inv P w0 ρ H w) {o m:Nat} {L:List Value} (h:j0 H i o m=some L):∃ x M,ρ i=some x/\LR ρ L M/\w.rangeAt x.1 o M/\L.length=m:=by
 unfold j0 at h
 split at h
 ·rename_i L0 hi;obtain ⟨h1,h2⟩:=d6 h
  cases h2
  have h1:=xe8 h1;obtain ⟨x,ob,g1,g2,g3,_⟩:=hI.held _ _ hi;obtain ⟨M,hM,hh⟩:=g3.blk g2;refine ⟨x,(M.drop o).take m,g1,(hM.drop o).take m,?_,by simp;omega⟩;have:=a2n (k:=o) (m:=m) ((St.self hh).blkR 0 rfl)
  rwa [xe0] at this
 ·rename_i e sz rows cap u hi;rw [s4] at h
  split at h
  ·rename_i r hr;obtain ⟨h1,h2⟩:=d6 h
   cases h2
   have h1:=xe8 h1;obtain ⟨x,ob,g1,g2,g3,_⟩:=hI.held _ _ hi;obtain ⟨rs,hR,hh,_⟩:=g3.row g2;obtain ⟨r',hr',hrr⟩:=hR.get hr;refine ⟨x,(r'.drop (o % sz)).take m,g1,(hrr.drop _).take m,?_,by simp;omega⟩;have:=a2n (k:=o % sz) (m:=m) ((St.self hh).rowR 0 rfl hr')
   rwa [xe0,xf8,xf9] at this
  ·cases h
 ·cases h
theorem a4q (hT:TOk P T) (hI:Inv P w0 ρ H w) {t:TypeId} {p v p':Value} (h:a3c T H t p=some v) (hp:VR ρ p p'):∃ b o u,p'=.pointer (some ⟨b,o,none⟩)/\VR ρ v u/\Ld P t ⟨b,o,none⟩ u w:=by
 obtain ⟨Tb,hTb,hget⟩:=hT.tabs [t];unfold a3c at h
 split at h
 ·rename_i i o;obtain ⟨x,hx,rfl⟩:=VR.ptr hp
  split at h
  ·rename_i ht
   split at h
   ·rename_i v' hc
    cases h
    obtain ⟨x',M,h1,h2,h3,_⟩:=a2C hI hc;rw [hx] at h1;cases h1;obtain ⟨u,r,rfl,hu,hr⟩:=LR.inv h2;have:=h3 0 u rfl;exact ⟨_,_,u,rfl,hu,Ld.sc hTb (hget t _ (by simp) ht) this⟩
   ·cases h
  ·rename_i ht
   split at h
   ·rename_i v' hc
    cases h
    obtain ⟨x',M,h1,h2,h3,_⟩:=a2C hI hc;rw [hx] at h1;cases h1;obtain ⟨u,r,rfl,hu,hr⟩:=LR.inv h2;have:=h3 0 u rfl;exact ⟨_,_,u,rfl,hu,Ld.sl hTb (hget t _ (by simp) ht) this⟩
   ·cases h
  ·rename_i ht;obtain ⟨L,hL,rfl⟩:=xk9.1 h;obtain ⟨x',M,h1,h2,h3,h4⟩:=a2C hI hL;rw [hx] at h1;cases h1;exact ⟨_,_,_,rfl,VR.mkAgg h2,Ld.st hTb (hget t _ (by simp) ht) h3 (by rw [h2.len,h4])⟩
  ·rename_i ht;obtain ⟨L,hL,rfl⟩:=xk9.1 h;obtain ⟨x',M,h1,h2,h3,h4⟩:=a2C hI hL;rw [hx] at h1;cases h1;exact ⟨_,_,_,rfl,VR.mkAgg h2,Ld.ar hTb (hget t _ (by simp) ht) h3 (by rw [h2.len,h4])⟩
  ·cases h
 ·cases h
theorem b14 (hT:TOk P T) {t:TypeId} {y:Operand} {p v:Value} (hy:sEv E y=some p) (h:a3c T H t p=some v):Snd P (.load t y) E H n (some v,H,n) :=
 Snd.of_gets fun ha hI=>by
  obtain ⟨p',hp,hev⟩:=ha.ev hy;obtain ⟨b,o,u,rfl,hu,hl⟩:=a4q hT hI h hp;exact ⟨u,hu,fun _ _ _ _=>a8G hev hl⟩
theorem a9E (hT:TOk P T) {t:TypeId} {y z:Operand} {p v:Value} {H':SH} (hy:sEv E y=some p) (hz:sEv E z=some v) (h:a5I T H t v p=some H'):Snd P (.store t y z) E H n (none,H',n):=by
 obtain ⟨Tb,hTb,hget⟩:=hT.tabs [t];unfold a5I at h
 split at h
 ·rename_i i o
  split at h
  ·rename_i ti c ht hc;unfold b2J at h;obtain ⟨h1,h⟩:=d6 h;rw [xb7] at h1;obtain ⟨hl,h1⟩:=h1;have hl:=xa9 hl
   split at h
   ·rename_i L hi;obtain ⟨h2,h3⟩:=d6 h
    cases h3
    have h2:=xe8 h2;refine Snd.of_upd hi fun {w0 w ρ N ds a x ob} ha hI hx hb hf dst ty pos after=>?_;obtain ⟨p',hp,hev⟩:=ha.ev hy;obtain ⟨x',hx',rfl⟩:=VR.ptr hp;rw [hx] at hx';cases hx';obtain ⟨v',hv,hev2⟩:=ha.ev hz;obtain ⟨c',hc',hcc⟩:=VR.celL hv hc;obtain ⟨M,hM,hh⟩:=hf.blk hb;have e:=a0J hc';intro b hB K Q kk;refine p9 (St.self hh) hTb (hget t _ (by simp) ht) hev hev2 (i:=0) rfl (by rw [e,hcc.len,hl]) (by rw [hM.len];exact h2) (by rw [e];exact fun u hu=>xb8.1 (by rw [hcc.one];exact h1) u hu) b hB K Q fun u w' hS=>kk u w' ⟨?_,hS.grown1 rfl,?_⟩
    ·trivial
    ·rw [e] at hS;exact Fits.of_blk (hS.at_ (i:=0) rfl) (hM.setLs hcc)
   ·rename_i e sz rows cap u hi;rw [s4] at h
    split at h
    ·rename_i r hr;obtain ⟨h2,h3⟩:=d6 h
     cases h3
     have h2:=xe8 h2;refine Snd.of_upd hi fun {w0 w ρ N ds a x ob} ha hI hx hb hf dst ty pos after=>?_;obtain ⟨p',hp,hev⟩:=ha.ev hy;obtain ⟨x',hx',rfl⟩:=VR.ptr hp;rw [hx] at hx';cases hx';obtain ⟨v',hv,hev2⟩:=ha.ev hz;obtain ⟨c',hc',hcc⟩:=VR.celL hv hc;obtain ⟨rs,hR,hh,hu⟩:=hf.row hb;obtain ⟨r',hr',hrr⟩:=hR.get hr;intro b hB K Q kk;refine a8r (St.self hh) hTb (hget t _ (by simp) ht) hev hev2 (i:=0) rfl (show o=0 + (o / sz) * sz + o % sz by rw [xe0,xf8,xf9]) hr' (a0J hc') (by rw [hcc.len,hl]) h2 (by rw [hcc.one];exact h1) b hB K Q fun u w' hS=>kk u w' ⟨?_,hS.grown1 rfl,?_⟩
     ·trivial
     ·exact Fits.of_row (hS.at_ (i:=0) rfl) (hR.set (hrr.setLs hcc)) rfl hu
    ·cases h
   ·cases h
  ·cases h
 ·cases h
theorem b22 {t:TypeId} {y:Operand} {v:Value} {L:List Value} (hy:sEv E y=some v) (hc:celL v=some L):Snd P (.box t y) E H n (some (.pointer (some ⟨n,0,none⟩)),a0p H n (.blk L),n + 1) :=
 Snd.of_new fun ha hI dst ty pos after=>by
  obtain ⟨u,hu,hev⟩:=ha.ev hy;obtain ⟨M,hM,hr⟩:=VR.celL hu hc;intro b hB K Q kk;refine b0Y (St.start _) hev b hB K Q fun u' w' ⟨g,e,hS⟩=>kk u' w' ⟨(g,0),fun τ _ hτ=>by rw [e];exact VR.mkPtr hτ,hS.drop.grown0,?_,?_⟩
  ·rcases hS.own _ (xb5) g rfl with h|h
   ·exact h
   ·exact h.elim
  ·rw [a0J hM] at hS;obtain ⟨t',hh⟩:=hS.at_ (i:=0) rfl;exact ⟨_,hh,fun τ hτ _=>⟨M,t',hr.mono hτ,rfl⟩⟩
theorem TI.zc (ti:TI):ti.zeroCells=ti.zeros\/ti.zeroCells=[.slice none 0 0]:=by cases ti <;> simp [TI.zeroCells,TI.zeros]
theorem b0F (hT:TOk P T) (hZ:ZOk T) {t:TypeId} {ti:TI} (ht:T.get t=some ti):Snd P (.alloc t) E H n (some (.pointer (some ⟨n,0,none⟩)),a0p H n (.blk ti.zeroCells),n + 1) :=
 Snd.of_new fun ha hI dst ty pos after=>by
  obtain ⟨Tb,hTb,hget⟩:=hT.tabs [t];have hz:∀ τ:Ren,LR τ ti.zeroCells ti.zeroCells:=fun τ=>by
   rcases TI.zc ti with h|h
   ·rw [h];exact LR.cOks (hZ t ti ht)
   ·rw [h];exact LR.cOks rfl
  intro b hB K Q kk;refine t3 (St.start _) hTb (hget t _ (by simp) ht) rfl b hB K Q fun u' w' ⟨g,e,hS⟩=>kk u' w' ⟨(g,0),fun τ _ hτ=>by rw [e];exact VR.mkPtr hτ,hS.drop.grown0,?_,?_⟩
  ·rcases hS.own _ (xb5) g rfl with h|h
   ·exact h
   ·exact h.elim
  ·obtain ⟨t',hh⟩:=hS.at_ (i:=0) rfl;exact ⟨_,hh,fun τ hτ _=>⟨_,t',hz τ,rfl⟩⟩
theorem b0c {v:Value} {c:List Value} {k s:Nat} {r:List (Nat×Value)} {rs:List (List Value)} (hc:celL v=some c) (hl:c.length=s) (hr:a05 (k + 1) s r=some rs):a05 k s ((k,v)::r)=some (c::rs):=by
 unfold a05;rw [hr]
 cases v
 all_goals first
  |(cases hc;subst hl;simp [xj9];done)
  |(cases hc;done)
theorem a9t {v:Value} {i k s:Nat} {r:List (Nat×Value)} {rows:List (List Value)} (h:a05 k s ((i,v)::r)=some rows):celL v=some v.cells.toList:=by
 unfold a05 at h
 cases v
 all_goals first
  |rfl
  |(cases h':a05 (k + 1) s r <;> rw [h'] at h <;> cases h;done)
theorem a41:∀ {ps qs:List (Nat×Value)} {k s:Nat} {rows:List (List Value)},PR ρ ps qs->a05 k s ps=some rows->∃ rs,a05 k s qs=some rs/\RR ρ rows rs
 |[],qs,k,s,rows,hp,h=>by
  rw [PR.nil_inv hp]
  cases h
  exact ⟨[],rfl,rfl,fun i r hr=>by simp at hr⟩
 |(i,v)::r,qs,k,s,rows,hp,h=>by
  obtain ⟨u,m',rfl,hx,hr⟩:=PR.cons_inv hp;have hcv:=a9t h;obtain ⟨rr,e1,e2,e3,e4⟩:=a3y h;obtain ⟨rs',h1,h2⟩:=a41 hr e2;obtain ⟨c,hc,hcc⟩:=VR.celL hx hcv;subst e3;refine ⟨c::rs',b0c hc (by rw [hcc.len,e4]) h1,?_⟩;rw [e1];refine ⟨by simp [h2.1],fun j q hq=>?_⟩
  cases j with
  |zero=>simp at hq;subst hq;exact ⟨_,rfl,hcc⟩
  |succ j=>simpa using h2.2 j q (by simpa using hq)
theorem a85 {g:Nat} {A:Asr} {Γ:List Asr} (hS:St nF w w' (A::Γ)) (hA:A.fp=some g):w.heap.size<=g:=by
 rcases hS.own _ (xb5) g hA with h|h
 ·exact h
 ·exact h.elim
theorem a5U {rows rs:List (List Value)} (h:RR ρ rows rs) (ho:a1J rows=true):a1J rs=true:=by
 unfold a1J;rw [xb8];exact h.one1 (a2h ho)
theorem b3i (hT:TOk P T) {t:TypeId} {len:Nat} {parts:Array (Nat×Operand)} {r:Option Value×SH×Nat} (h:sBS T E H n t len parts=some r):Snd P (.buildSlice t len parts) E H n r:=by
 obtain ⟨Tb,hTb,hget⟩:=hT.tabs [t];unfold sBS at h
 split at h
 ·rename_i e sz eb ag z ps ht hp
  split at h
  ·rename_i rows hr;obtain ⟨h1,h2⟩:=d6 h
   cases h2
   simp only [xb7] at h1;obtain ⟨h1,h2,h3⟩:=h1;refine Snd.of_new fun {w0 w ρ N ds a} ha hI dst ty pos after=>?_;obtain ⟨qs,hq,hev⟩:=ha.evP hp;obtain ⟨rs,hrs,hR⟩:=a41 hq hr;have hlen:rs.length=len:=by rw [hR.1];exact xa9 h1
   intro b hB K Q kk;refine a0j (St.start _) hTb (hget t _ (by simp) ht) hev hrs (by rw [hlen];exact xj9 _) h2 (a5U hR h3) b hB K Q fun u' w' ⟨g,e1,hS⟩=>kk u' w' ⟨(g,0),fun τ _ hτ=>by rw [e1];exact VR.mkSl hτ,hS.drop.grown0,a85 hS rfl,?_⟩;have hh:=hS.at_ (i:=0) rfl;have key:=fun (τ:Ren) (hτ:Rle ρ τ)=>Fits.of_row (P:=P) (y:=0) (u:=false) hh (hR.mono hτ) rfl (fun _=>rfl);obtain ⟨o,ho,_⟩:=key ρ (Rle.refl ρ);refine ⟨o,ho,fun τ hτ _=>?_⟩;obtain ⟨o',ho',hf⟩:=key τ hτ;rw [ho] at ho'
   cases ho'
   exact hf
  ·cases h
 ·cases h
theorem b3B (hT:TOk P T) (hZ:ZOk T) {t:TypeId} {y z:Operand} {r:Option Value×SH×Nat} (h:sMk T E H n t y z=some r):Snd P (.makeSlice t y z) E H n r:=by
 obtain ⟨Tb,hTb,hget⟩:=hT.tabs [t];unfold sMk at h
 split at h
 ·rename_i e sz eb ag zz m m' ht hy hz;obtain ⟨h1,h2⟩:=d6 h
  cases h2
  simp only [xb7] at h1;obtain ⟨h1,h2,h3⟩:=h1;have h1:=xa9 h1;have h2:=xe8 h2;subst h1;have hz0:=hZ t _ ht;have hmul:m * (eb + 1)=m * eb + m:=Nat.mul_succ m eb;have hmul2:m * eb=eb * m:=xf8 _ _;refine Snd.of_new fun {w0 w ρ N ds a} ha hI dst ty pos after=>?_;obtain ⟨u1,hu1,gy⟩:=ha.ev hy;obtain ⟨u2,hu2,gz⟩:=ha.ev hz;rw [VR.int hu1] at gy;rw [VR.int hu2] at gz;intro b hB K Q kk;refine b1R (St.start _) hTb (hget t _ (by simp) ht) gy gz rfl rfl (by omega) (by have h9:((eb * m:Nat):Int)<=281474976710656:=(by omega);simpa using h9) h3 b hB K Q fun u' w' ⟨g,e1,hS⟩=>kk u' w' ⟨(g,0),fun τ _ hτ=>by rw [e1];exact VR.mkSl hτ,hS.drop.grown0,a85 hS rfl,?_⟩;have hh:=hS.at_ (i:=0) rfl;have key:=fun (τ:Ren)=>Fits.of_row (P:=P) (cap:=m) (y:=0) (u:=false) hh (RR.rep (ρ:=τ) (LR.cOks hz0) m) rfl (fun _=>rfl);obtain ⟨o,ho,_⟩:=key ρ;refine ⟨o,ho,fun τ hτ _=>?_⟩;obtain ⟨o',ho',hf⟩:=key τ;rw [ho] at ho'
  cases ho'
  exact hf
 ·cases h
theorem a3u:∀ {rows:List (List Value)} {l:List UInt8},a4v rows=some l->rows=bR l:=by
 intro rows
 induction rows with
 |nil=>intro l h;cases h;rfl
 |cons r q ih=>
  intro l h;unfold a4v at h
  split at h
  ·rename_i e;cases e
  ·rename_i m q' e
   cases e
   obtain ⟨h1,h2⟩:=d6 h;obtain ⟨l',hl',rfl⟩:=xk9.1 h2;have h1:m < 256:=by simpa [xb1] using h1
   have hb:(UInt8.ofNat m).toNat=m:=by simp [UInt8.toNat_ofNat'];omega
   rw [ih hl'];show _=[.int .u8 ((UInt8.ofNat m).toNat:Nat)]::bR l';rw [hb];rfl
  ·cases h
theorem RR.bR {l:List UInt8} {rs:List (List Value)} (h:RR ρ (bR l) rs):rs=Go.Proofs.YtejnpppejalhfacGreat.bR l:=by
 refine xf6 fun j=>?_;by_cases hj:j < (Go.Proofs.YtejnpppejalhfacGreat.bR l).length
 ·obtain ⟨s,h1,h2⟩:=h.2 j _ (xd1 hj);rw [h1,xd1 hj];have hr:(Go.Proofs.YtejnpppejalhfacGreat.bR l)[j]=[.int .u8 ((l[j]'(by rw [a1G] at hj;exact hj)).toNat:Nat)]:=by simp [Go.Proofs.YtejnpppejalhfacGreat.bR]
  rw [hr] at h2 |-;obtain ⟨u,t,rfl,h3,h4⟩:=LR.inv h2;rw [LR.nil_inv h4,VR.int h3]
 ·rw [xg2 (by rw [h.1];omega),xg2 (by omega)]
theorem RR.ofbR (l:List UInt8):RR ρ (Go.Proofs.YtejnpppejalhfacGreat.bR l) (Go.Proofs.YtejnpppejalhfacGreat.bR l):=by
 refine ⟨rfl,fun j r hr=>⟨r,hr,?_⟩⟩;have hj:j < l.length:=by have:=j7 hr;rwa [a1G] at this
 have e:(Go.Proofs.YtejnpppejalhfacGreat.bR l)[j]?=some [.int .u8 ((l[j]).toNat:Nat)]:=by simp [Go.Proofs.YtejnpppejalhfacGreat.bR,hj]
 rw [e] at hr
 cases hr
 exact LR.cOks rfl
theorem b01 (hT:TOk P T) (hI:Inv P w0 ρ H w) {t:TypeId} {v v':Value} {i e cap:Nat} {l:List UInt8} {ub:Bool} (h:a8D T H t v=some (i,e,cap,l,ub)) (hv:VR ρ v v'):∃ x o,ρ i=some x/\T.get t=some (.sl e 1 1 false [.int .u8 0])/\g8 H i=some (.row e 1 (Go.Proofs.YtejnpppejalhfacGreat.bR l) cap ub)/\w.heap[x.1]?=some o/\v'=.slice (some ⟨x.1,0,none⟩) (Go.Proofs.YtejnpppejalhfacGreat.bR l).length (cap + x.2)/\Asr.holds w (.row e 1 (.slice (some ⟨x.1,0,none⟩) (Go.Proofs.YtejnpppejalhfacGreat.bR l).length (cap + x.2)) (Go.Proofs.YtejnpppejalhfacGreat.bR l))/\(ub=false->x.2=0):=by
 unfold a8D at h
 split at h
 ·rename_i ht
  split at h
  ·rename_i hi;obtain ⟨h1,h2⟩:=d6 h;obtain ⟨l',hl,he⟩:=xk9.1 h2
   cases he
   obtain rfl:=a3u hl;simp only [xb7] at h1;obtain ⟨h1,h3,h4⟩:=h1;obtain rfl:=xa9 h1;obtain rfl:=xa9 h3;obtain rfl:=xa9 h4;obtain ⟨x,hx,rfl⟩:=VR.sl hv;obtain ⟨x',o,g1,g2,g3,_⟩:=hI.held _ _ hi;rw [hx] at g1;cases g1;obtain ⟨rs,hR,hh,hu⟩:=g3.row g2;obtain rfl:=hR.bR;exact ⟨x,o,hx,ht,hi,g2,rfl,hh,hu⟩
  ·cases h
 ·cases h
theorem b1q (hT:TOk P T) {t t':TypeId} {y z:Operand} {s u:Value} {r:Option Value×SH×Nat} (hy:sEv E y=some s) (hz:sEv E z=some u) (h:a8o T H n t s u=some r):Snd P (.call { callee:=.builtin .copy,args:=#[y,z],argTypes:=#[t,t'] }) E H n r:=by
 obtain ⟨Tb,hTb,hget⟩:=hT.tabs [t];unfold a8o at h
 split at h
 ·rename_i i e cap old ub l hb
  cases h
  have hi:g8 H i=some (.row e 1 (Go.Proofs.YtejnpppejalhfacGreat.bR old) cap ub):=by
   unfold a8D at hb
   split at hb
   ·split at hb
    ·rename_i hi;obtain ⟨h1,h2⟩:=d6 hb;obtain ⟨l',hl,he⟩:=xk9.1 h2
     cases he
     obtain rfl:=a3u hl;simp only [xb7] at h1;rw [xa9 h1.1];exact hi
    ·cases hb
   ·cases hb
  refine Snd.of_upd hi fun {w0 w ρ N ds a x ob} ha hI hx hob hf dst ty pos after=>?_;obtain ⟨v1,hv1,gy⟩:=ha.ev hy;obtain ⟨v2,hv2,gz⟩:=ha.ev hz;rw [VR.str hv2] at gz;obtain ⟨x',o,g1,ht,_,g2,rfl,hh,hu⟩:=b01 hT hI hb hv1;rw [hx] at g1;cases g1;rw [a1G] at gy hh;intro b hB K Q kk;refine b0O (St.self hh) hTb (hget t _ (by simp) ht) gy (i:=0) rfl gz b hB K Q fun u' w' ⟨e1,hS⟩=>kk u' w' ⟨by rw [e1];exact VR.cOk rfl,hS.grown1 rfl,?_⟩;refine Fits.of_row (hS.at_ (i:=0) rfl) (RR.ofbR _) rfl hu
 ·cases h
theorem b27 (hT:TOk P T) {t t':TypeId} {y:Operand} {r:Option Value×SH×Nat} (h:b15 T E H n t t' y=some r):Snd P (.convert t t' y) E H n r:=by
 unfold b15 at h
 split at h
 ·rename_i v ht hy
  split at h
  ·rename_i i e cap l ub hb
   split at h
   ·rename_i he;obtain ⟨h1,h2⟩:=d6 h
    cases h2
    have h1:0 < l.length:=by simpa [xb1] using h1
    refine Snd.of_gets fun {w0 w ρ N ds a} ha hI=>?_;obtain ⟨Tb,hTb,hget⟩:=hT.tabs [t,t',e];obtain ⟨v1,hv1,gy⟩:=ha.ev hy;obtain ⟨x,o,g1,ht1,_,g2,rfl,hh,hu⟩:=b01 hT hI hb hv1;exact ⟨_,VR.cOk rfl,fun _ _ _ _=>b0s (St.self hh) hTb (hget t _ (by simp) ht1) (hget e _ (by simp) he) (hget t' _ (by simp) ht) gy (i:=0) rfl h1⟩
   ·cases h
  ·cases h
 ·cases h
theorem b0D (hT:TOk P T) {t:TypeId} {y:Operand} {l:List UInt8} (hy:sEv E y=some (.string ⟨⟨l⟩⟩)) (ht:∃ s z,T.get t=some (.sc .string s z)):Snd P (.range t y) E H n (some (.pointer (some ⟨n,0,none⟩)),a0p H n (.siter l 0),n + 1) :=
 Snd.of_new fun {w0 w ρ N ds a} ha hI dst ty pos after=>by
  obtain ⟨s,z,ht⟩:=ht;obtain ⟨Tb,hTb,hget⟩:=hT.tabs [t];obtain ⟨v,hv,gy⟩:=ha.ev hy;rw [VR.str hv] at gy;intro b hB K Q kk;refine b0h (St.start _) hTb (hget t _ (by simp) ht) gy b hB K Q fun u' w' ⟨g,e,hS⟩=>kk u' w' ⟨(g,0),fun τ _ hτ=>by rw [e];exact VR.mkPtr hτ,hS.drop.grown0,a85 hS rfl,_,(hS.at_ (i:=0) rfl).1,fun _ _ _=>rfl⟩
theorem b1Q {y:Operand} {r:Option Value×SH×Nat} (h:a7Q E H n y=some r):Snd P (.next y true) E H n r:=by
 unfold a7Q at h
 split at h
 ·rename_i i hy
  split at h
  ·rename_i l k hi;rw [s4] at h
   split at h
   ·rename_i b hb;obtain ⟨h1,h2⟩:=d6 h
    cases h2
    have h1:b.toNat < 128:=by simpa [xb1] using h1
    have hd:=a6h hb h1;have hlt:=j7 hb;refine Snd.of_upd hi fun {w0 w ρ N ds a x ob} ha hI hx hob hf dst ty pos after=>?_;obtain ⟨v,hv,gy⟩:=ha.ev hy;obtain ⟨x',hx',rfl⟩:=VR.ptr hv;rw [hx] at hx';cases hx';have hh:Asr.holds w (.obj x.1 (.stringIter ⟨l.toArray⟩ k)):=⟨by rw [hob,show ob=_ from hf],rfl⟩;intro c hB K Q kk;refine a79 (St.self hh) gy (i:=0) rfl c hB K Q fun u' w' hP=>kk u' w' ?_;rcases hP with ⟨_,e1,hS⟩|⟨h3,_⟩
    ·rw [hd] at e1 hS;refine ⟨by rw [e1];exact VR.mkTup (LR.cOks rfl),hS.grown1 rfl,_,(hS.at_ (i:=0) rfl).1,rfl⟩
    ·omega
   ·rename_i hb
    cases h
    have hge:l.length<=k:=by simpa using hb
    refine Snd.of_gets fun {w0 w ρ N ds a} ha hI=>?_;obtain ⟨v,hv,gy⟩:=ha.ev hy;obtain ⟨x,hx,rfl⟩:=VR.ptr hv;obtain ⟨x',ob,g1,g2,g3,_⟩:=hI.held _ _ hi;rw [hx] at g1;cases g1;have hh:Asr.holds w (.obj x.1 (.stringIter ⟨l.toArray⟩ k)):=⟨by rw [g2,show ob=_ from g3],rfl⟩;refine ⟨_,VR.mkTup (LR.cOks rfl),fun dst ty pos after c hB K Q kk=>?_⟩;refine a79 (St.self hh) gy (i:=0) rfl c hB K Q fun u' w' hP=>kk u' w' ?_;rcases hP with ⟨h3,_⟩|⟨_,e1,e2⟩
    ·omega
    ·exact ⟨e1,e2⟩
  ·cases h
 ·cases h
end
section
variable {P:Program} {T:TT} {q:EqT} {w0 w w':World} {ρ σ:Ren} {N:Nat} {ds:List Deferred} {a:Act} {E:Fr} {H:SH} {n:Nat} {x:Nat×Nat} {i:Nat}
theorem a9j {Tb:Tab} (hTb:TabOk P Tb) {t e sz eb:Nat} {ag:Bool} {z:List Value} (ht:Tb.get t=some (.sl e sz eb ag z)) (p p2:Option Addr) (m c c2:Nat) (hm:m<=c) (ty:TypeId) (w:World):(Builtin.append_ #[t,t] ty #[.slice p m c,.slice p2 0 c2]).run P w=.ok (.slice p m c) w:=by
 obtain ⟨ji,zv,hu,hinfo,_,hs,_⟩:=hTb.sl ht
 cases p2 <;> cases p <;> simp [Builtin.append_,run_underlying hu,sizeOf,typeInfo,hinfo,Builtin.lenOf,Builtin.firstCells,hm,loadCells,loadCellsFrom,storeCells]
theorem RoAt.take {G:Nat->Prop} {b off sz:Nat} {rows:List (List Value)} (h:RoAt G w b off sz rows) (k:Nat):RoAt G w b off sz (rows.take k) :=
 ⟨h.lt,h.nf,fun r hr=>h.len r (xe5 hr),fun r hr=>h.one r (xe5 hr),fun j r hj=>by
  rw [xe2] at hj
  split at hj
  ·exact h.cells j r hj
  ·cases hj⟩
theorem a6l (hI:Inv P w0 ρ H w) {sz m c:Nat} {p:Option Addr} {news:List (List Value)} {u':Value} (h:a1o H sz (.slice p m c)=some news) (hu:VR ρ (.slice p m c) u') (hne:news≠[]):∃ b o c' ns,u'=.slice (some ⟨b,o,none⟩) ns.length c'/\RR ρ news ns/\RoAt nF w b o sz ns:=by
 rcases p with _|⟨i,o,sp⟩
 ·cases m with
  |zero=>cases h;exact (hne rfl).elim
  |succ m=>cases h
 rcases sp with _|sp
 ·cases m with
  |zero=>cases h;exact (hne rfl).elim
  |succ m=>
  rw [show a1o H sz (.slice (some ⟨i,o,none⟩) (m + 1) c)=(match g8 H i with
   |some (.row _ sz' rows _ _)=>ifB (Nat.beq sz sz' && (Nat.beq (o % sz) 0 && Nat.ble (o / sz + (m + 1)) rows.length)) (some ((rows.drop (o / sz)).take (m + 1))) none
   |_=>none) from rfl] at h
  generalize m + 1=m at h hu
  split at h
  ·rename_i e' sz' rows cap ub hi;obtain ⟨h1,h2⟩:=d6 h
   cases h2
   simp only [xb7] at h1;obtain ⟨h1,h2,h3⟩:=h1;obtain rfl:=xa9 h1;have h2:=xa9 h2;have h3:=xe8 h3;obtain ⟨x,hx,rfl⟩:=VR.sl hu;obtain ⟨x',ob,g1,g2,g3,_⟩:=hI.held _ _ hi;rw [hx] at g1;cases g1;obtain ⟨rs,hR,hh,_⟩:=g3.row g2;have hro:=(((St.self hh).rowRo 0 rfl).drop (o / sz)).take m;rw [xe0] at hro;have ho:o / sz * sz=o:=by
    have:=xf9 o sz;rw [h2,xe9,xf8] at this;exact this
   rw [ho] at hro;refine ⟨x.1,o,c + x.2,(rs.drop (o / sz)).take m,?_,(hR.drop _).take _,hro⟩;have:((rs.drop (o / sz)).take m).length=m:=by
    rw [xa1,xk5,hR.1];omega
   rw [this]
  ·cases h
 ·cases m with
  |zero=>cases h;exact (hne rfl).elim
  |succ m=>cases h
theorem a5o {e sz g cap m:Nat} {rows rs:List (List Value)} (hh:Asr.holds w (.row e sz (.slice (some ⟨g,0,none⟩) m cap) rs)) (hR:RR ρ rows rs) (hm:m=rows.length):m<=cap/\∃ o,w.heap[g]?=some o/\∀ τ:Ren,Rle ρ τ->Fits P τ (cap - m) (.row e sz rows m true) o:=by
 have hle:m<=cap:=by
  rcases hh.1.2 with ⟨e1,_⟩|⟨g',c',cur,e1,_,_,h,_⟩
  ·cases e1
  ·cases e1;exact h
 have key:=fun (τ:Ren) (hτ:Rle ρ τ)=>Fits.of_row (P:=P) (cap:=m) (y:=cap - m) (u:=true) hh (hR.mono hτ) (by omega) (fun h=>by cases h);obtain ⟨o,ho,_⟩:=key ρ (Rle.refl ρ);refine ⟨hle,o,ho,fun τ hτ=>?_⟩;obtain ⟨o',ho',hf⟩:=key τ hτ;rw [ho] at ho'
 cases ho'
 exact hf
theorem b0E (hT:TOk P T) {t e sz eb:Nat} {ag:Bool} {zz:List Value} {y z:Operand} {u:Value} {news:List (List Value)} (ht:T.get t=some (.sl e sz eb ag zz)) (hy:sEv E y=some (.slice none 0 0)) (hz:sEv E z=some u) (hu:∃ p m c,u=.slice p m c) (hr:a1o H sz u=some news) (hne:news≠[]) (hbig:news.length * (eb + 1)<=1000000):Snd P (.call { callee:=.builtin .append,args:=#[y,z],argTypes:=#[t,t] }) E H n (some (.slice (some ⟨n,0,none⟩) news.length news.length),a0p H n (.row e sz news news.length true),n + 1) :=
 Snd.of_new fun {w0 w ρ N ds a} ha hI dst ty pos after=>by
  obtain ⟨Tb,hTb,hget⟩:=hT.tabs [t];obtain ⟨p,m,c,rfl⟩:=hu;obtain ⟨v1,hv1,gy⟩:=ha.ev hy;rw [VR.sl0 hv1] at gy;obtain ⟨v2,hv2,gz⟩:=ha.ev hz;obtain ⟨b,o,c',ns,rfl,hR,hro⟩:=a6l hI hr hv2 hne;have hl:ns.length=news.length:=hR.1;intro bb hB K Q kk;refine a1c ((St.start w).addNil e sz) hTb (hget t _ (by simp) ht) gy (i:=0) rfl gz hro rfl (by rw [xa2,xe0,hl];omega) bb hB K Q fun u' w' ⟨p',cap',e1,hS⟩=>kk u' w' ?_;simp only [List.set,xa2,xe0,List.nil_append] at hS e1;have hpos:0 < ns.length:=by rw [hl];exact xa3.2 hne
  obtain ⟨g,rfl⟩:=hS.rowSome 0 rfl hpos;obtain ⟨hle,ob,hob,hf⟩:=a5o (P:=P) (hS.at_ (i:=0) rfl) hR hl;refine ⟨(g,cap' - ns.length),fun τ _ hτ=>?_,hS.drop.grown0,a85 hS rfl,ob,hob,fun τ hτ _=>?_⟩
  ·rw [e1,hl];have:=VR.mkSl (o:=0) (n:=news.length) (c:=news.length) hτ;rw [show news.length + (g,cap' - ns.length).2=cap' from by simp;omega] at this;exact this
  ·rw [<- hl];exact hf τ hτ
theorem Snd.of_move {op:Op} {s:SA} {e sz:Nat} {rows:List (List Value)} (hi:g8 H i=some s) (h:∀ {w0 w:World} {ρ:Ren} {N:Nat} {ds:List Deferred} {a:Act} {x:Nat×Nat} {o:Obj},HasR ρ N ds a E->Inv P w0 ρ H w->ρ i=some x->w.heap[x.1]?=some o->Fits P ρ x.2 s o->∀ dst ty pos after,Gets P ⟨dst,op,ty,pos,after,none⟩ N ds (a0c a) w (fun u w'=>∃ y:Nat×Nat,(∀ τ:Ren,Rle ρ τ->τ n=some y->VR τ (.slice (some ⟨n,0,none⟩) rows.length rows.length) u)/\w.grownBy w' (some x.1)/\(y.1=x.1\/w.heap.size<=y.1)/\∃ o,w'.heap[y.1]?=some o/\∀ τ:Ren,Rle ρ τ->τ n=some y->Fits P τ y.2 (.row e sz rows rows.length true) o)):Snd P op E H n (some (.slice (some ⟨n,0,none⟩) rows.length rows.length),a0p (t6 H i) n (.row e sz rows rows.length true),n + 1) :=
 ⟨Nat.le_succ _,fun {w0 w ρ N ds a hi'} ha hI hF hn dst ty pos after K Q k=>by
  have hfr:ρ n=none:=hF n (xc5 _) hn;obtain ⟨x,o,h1,h2,h3,_⟩:=hI.held i s hi;refine h ha hI h1 h2 h3 dst ty pos after _ ha.full K Q fun u w' ⟨y,hv,hg,hb,o',ho,hf⟩=>?_;exact k u w' (upR ρ n y) (a6R hfr) (hv _ (a0M hfr) a0G) (hI.move hfr hi h1 hg ho hb (hf _ (a0M hfr) a0G))⟩
theorem b0w (hT:TOk P T) {t e sz eb cap:Nat} {ag ub:Bool} {zz:List Value} {y z:Operand} {u:Value} {rows news:List (List Value)} (ht:T.get t=some (.sl e sz eb ag zz)) (hi:g8 H i=some (.row e sz rows cap ub)) (hy:sEv E y=some (.slice (some ⟨i,0,none⟩) rows.length cap)) (hz:sEv E z=some u) (hu:∃ p m c,u=.slice p m c) (hr:a1o H sz u=some news) (hne:news≠[]) (hbig:(rows.length + news.length) * (eb + 1)<=1000000):Snd P (.call { callee:=.builtin .append,args:=#[y,z],argTypes:=#[t,t] }) E H n (some (.slice (some ⟨n,0,none⟩) (rows++news).length (rows++news).length),a0p (t6 H i) n (.row e sz (rows++news) (rows++news).length true),n + 1) :=
 Snd.of_move hi fun {w0 w ρ N ds a x o} ha hI hx hob hf dst ty pos after=>by
  obtain ⟨Tb,hTb,hget⟩:=hT.tabs [t];obtain ⟨p,m,c,rfl⟩:=hu;obtain ⟨v1,hv1,gy⟩:=ha.ev hy;obtain ⟨x',hx',rfl⟩:=VR.sl hv1;rw [hx] at hx';cases hx';obtain ⟨v2,hv2,gz⟩:=ha.ev hz;obtain ⟨b,o2,c',ns,rfl,hR,hro⟩:=a6l hI hr hv2 hne;obtain ⟨rs,hR0,hh,_⟩:=hf.row hob;have hl:ns.length=news.length:=hR.1;have hl0:rs.length=rows.length:=hR0.1;rw [<- hl0] at gy;intro bb hB K Q kk;refine a1c (St.self hh) hTb (hget t _ (by simp) ht) gy (i:=0) rfl gz hro rfl (by rw [hl,hl0];omega) bb hB K Q fun u' w' ⟨p',cap',e1,hS⟩=>kk u' w' ?_;simp only [List.set] at hS;have hpos:0 < ns.length:=by rw [hl];exact xa3.2 hne
  obtain ⟨g,rfl⟩:=hS.rowSome 0 rfl (by omega);have hlen:rs.length + ns.length=(rows++news).length:=by rw [xd6,hl,hl0]
  rw [hlen] at hS e1;obtain ⟨hle,ob,hob2,hf2⟩:=a5o (P:=P) (hS.at_ (i:=0) rfl) (hR0.app hR) rfl;refine ⟨(g,cap' - (rows++news).length),fun τ _ hτ=>?_,hS.grown1 rfl,?_,ob,hob2,fun τ hτ _=>hf2 τ hτ⟩
  ·rw [e1];have:=VR.mkSl (o:=0) (n:=(rows++news).length) (c:=(rows++news).length) hτ;rw [show (rows++news).length + (g,cap' - (rows++news).length).2=cap' from by simp only;omega] at this;exact this
  ·rcases hS.own _ (xb5) g rfl with h|⟨B,hB',e2⟩
   ·exact xc4 h
   ·rw [xl0.1 hB'] at e2
    cases e2
    exact xc7 rfl
theorem b2u (hT:TOk P T) {t e sz eb cap m c:Nat} {ag ub:Bool} {zz:List Value} {y z:Operand} {u:Value} {rows news:List (List Value)} (ht:T.get t=some (.sl e sz eb ag zz)) (hi:g8 H i=some (.row e sz rows cap ub)) (hy:sEv E y=some (.slice (some ⟨i,0,none⟩) m c)) (hz:sEv E z=some u) (hu:∃ p m c,u=.slice p m c) (hr:a1o H sz u=some news) (hne:news≠[]) (h1:m + news.length<=rows.length) (h2:m + news.length<=c):Snd P (.call { callee:=.builtin .append,args:=#[y,z],argTypes:=#[t,t] }) E H n (some (.slice (some ⟨i,0,none⟩) (m + news.length) c),a0o H i (.row e sz (a00 rows news m) cap ub),n) :=
 Snd.of_upd hi fun {w0 w ρ N ds a x o} ha hI hx hob hf dst ty pos after=>by
  obtain ⟨Tb,hTb,hget⟩:=hT.tabs [t];obtain ⟨p,m2,c2,rfl⟩:=hu;obtain ⟨v1,hv1,gy⟩:=ha.ev hy;obtain ⟨x',hx',rfl⟩:=VR.sl hv1;rw [hx] at hx';cases hx';obtain ⟨v2,hv2,gz⟩:=ha.ev hz;obtain ⟨b,o2,c',ns,rfl,hR,hro⟩:=a6l hI hr hv2 hne;obtain ⟨rs,hR0,hh,hub⟩:=hf.row hob;have hl:ns.length=news.length:=hR.1;have hl0:rs.length=rows.length:=hR0.1;obtain ⟨ji,zv,hu,hinfo,_,hs,_,_,_,_,hsz,hs0⟩:=hTb.sl (hget t _ (by simp) ht);have hcap:rs.length<=cap + x.2:=by
   rcases hh.1.2 with ⟨e1,_⟩|⟨g',c',cur,e1,_,_,h,_⟩
   ·cases e1
   ·cases e1;exact h
  obtain ⟨w',hst,hg,hh2⟩:=a5E (P:=P) (k:=m) hh (by omega) (by omega) hro.len hro.one;have hll:(loadCells ⟨b,o2,none⟩ (ns.length * sz)).run P w=.ok ns.flatten.toArray w:=by
   have:=run_loadCells_list (P:=P) w ⟨b,o2,none⟩ ns.flatten (fun j u hj=>by
    have hjl:j < ns.length * sz:=by rw [<- j4 hro.len];exact j7 hj
    have hdiv:j / sz < ns.length:=xf7 (by rw [xf8];exact hjl);have hmod:=Nat.mod_lt j (xf3 hs0);have h3:=a1V hro.len (i:=j / sz) (j:=j % sz) (xd1 hdiv) hmod;rw [show j / sz * sz + j % sz=j from by rw [xf8];exact xf9 j sz] at h3;rw [h3] at hj;have:=hro.cells (j / sz) _ (xd1 hdiv) (j % sz) u hj;rw [Addr.add_mid]
    rwa [xe4,show j / sz * sz + j % sz=j from by rw [xf8];exact xf9 j sz] at this)
   rwa [j4 hro.len] at this
  have hadd:(⟨x.1,0,none⟩:Addr).add (m * sz)=⟨x.1,m * sz,none⟩:=by rw [a5t,xe0]
  have hrun:(Builtin.append_ #[t,t] ty #[.slice (some ⟨x.1,0,none⟩) m (c + x.2),.slice (some ⟨b,o2,none⟩) ns.length c']).run P w=.ok (.slice (some ⟨x.1,0,none⟩) (m + ns.length) (c + x.2)) w':=by
   simp [Builtin.append_,run_underlying hu,Builtin.lenOf,Builtin.firstCells,sizeOf,typeInfo,hinfo,hs,show m + ns.length<=c + x.2 by omega,hll,hadd,hst]
  intro bb hB K Q kk;have hex:(execOp bb.eval ⟨dst,.call { callee:=.builtin .append,args:=#[y,z],argTypes:=#[t,t] },ty,pos,after,none⟩).run P w=.ok (.value (.slice (some ⟨x.1,0,none⟩) (m + ns.length) (c + x.2))) w':=by
   simp [execOp,resolve,invoke,builtin,hB.ev gy,hB.ev gz,hrun,Result.andThen]
  unfold Oper.wp;rw [hex];refine kk _ w' ⟨?_,hg,Fits.of_row hh2 ?_ rfl hub⟩
  ·rw [hl];exact VR.mkSl hx
  ·unfold a00;rw [hl];exact (hR0.take m).app (hR.app (hR0.drop _))
end
end Go.Proofs.YtejnpppejalhfacGreat
namespace Go.Proofs.YtejnpppejalhfacGreat
set_option maxRecDepth 100000
set_option maxHeartbeats 8000000
open Go.RowKit Go.Sort Go.MapKept
def b0A (P:Program) (ez:List (Nat×Value)):Prop:=∀ t z,g8 ez t=some z->∀ Kt Et,P.underlying t=some (.map Kt Et)->(P.info? Et).bind (·.zero)=some z/\∀ ρ,VR ρ z z
section
variable {P:Program} {T:TT} {q:EqT} {w0 w w':World} {ρ σ:Ren} {N:Nat} {ds:List Deferred} {a:Act} {E:Fr} {H:SH} {n:Nat} {x:Nat×Nat} {i:Nat}
theorem b2q (hT:TOk P T) {t e sz eb:Nat} {ag:Bool} {zz:List Value} {y z:Operand} {p:Option Addr} {m c:Nat} {u:Value} (ht:T.get t=some (.sl e sz eb ag zz)) (hy:sEv E y=some (.slice p m c)) (hz:sEv E z=some u) (hr:a1o H sz u=some []) (hm:m<=c):Snd P (.call { callee:=.builtin .append,args:=#[y,z],argTypes:=#[t,t] }) E H n (some (.slice p m c),H,n) :=
 Snd.of_gets fun {w0 w ρ N ds a} ha hI=>by
  obtain ⟨Tb,hTb,hget⟩:=hT.tabs [t];obtain ⟨v1,hv1,gy⟩:=ha.ev hy;obtain ⟨v2,hv2,gz⟩:=ha.ev hz;have h2:∃ p2 c2,v2=.slice p2 0 c2:=by
   unfold a1o at hr
   split at hr
   ·obtain ⟨p',c',e,_⟩:=VR.slAny hv2;exact ⟨p',c',e⟩
   ·obtain ⟨p',c',e,_⟩:=VR.slAny hv2;exact ⟨p',c',e⟩
   ·rename_i i o m' c' hm'
    split at hr
    ·obtain ⟨h1,h2⟩:=d6 hr;simp only [xb7] at h1;have h3:=xe8 h1.2.2;have h4:=congrArg (Option.map List.length) h2;simp only [xg1,xa1,xk5,xa2,Option.some.injEq] at h4;obtain ⟨p',c'',e,_⟩:=VR.slAny hv2;exact ⟨p',c'',by rw [e,show m'=0 by omega]⟩
    ·cases hr
   ·cases hr
  obtain ⟨p2,c2,rfl⟩:=h2;have hv:∃ p' c',v1=.slice p' m c'/\m<=c':=by
   match p,hv1 with
   |none,hv1=>exact ⟨_,_,VR.sl0 hv1,hm⟩
   |some ⟨i,o,none⟩,hv1=>obtain ⟨x,_,e⟩:=VR.sl hv1;exact ⟨_,_,e,by omega⟩
   |some ⟨i,o,some s⟩,hv1=>unfold VR o8 at hv1;cases hv1
  obtain ⟨p',c',rfl,hm'⟩:=hv;refine ⟨_,hv1,fun dst ty pos after=>Gets.of_at fun b hB=>?_⟩;have hrun:=a9j hTb (hget t _ (by simp) ht) p' p2 m c' c2 hm' ty w;simp [execOp,resolve,invoke,builtin,hB.ev gy,hB.ev gz,hrun,Result.andThen]
theorem a2T {zv:Value} {ez:List Value} {sz:Nat} (hzl:zv.cells.toList=ez) (hsz:sz=ez.length) (hs0:sz≠0) (dl:Nat):(Builtin.zeroCells zv.cells dl).toList=(List.replicate dl ez).flatten:=by
 have hzs:zv.cells.size=sz:=by rw [<- xf5,hzl,hsz]
 have hfl:(List.replicate dl ez).flatten.length=dl * sz:=by rw [j4 (size:=sz) (fun r hr=>by rw [xl1 hr,hsz]),xg3]
 refine xf6 fun j=>?_;unfold Builtin.zeroCells;rw [hzs];by_cases hj:j < dl * sz
 ·have hdiv:j / sz < (List.replicate dl ez).length:=by rw [xg3];exact xf7 (by rw [xf8];exact hj)
  have hmod:=Nat.mod_lt j (xf3 hs0);have h3:=a1V (rows:=List.replicate dl ez) (size:=sz) (fun r hr=>by rw [xl1 hr,hsz]) (i:=j / sz) (j:=j % sz) (xd1 hdiv) hmod;rw [show j / sz * sz + j % sz=j from by rw [xf8];exact xf9 j sz] at h3;rw [h3,List.getElem_replicate];have hml:j % sz < zv.cells.size:=by rw [hzs];exact hmod
  simp [hj,hml,<- hzl]
 ·rw [xg2 (by simp;omega),xg2 (by rw [hfl];omega)]
theorem b24 (hT:TOk P T) (hZ:ZOk T) {t tn e sz eb s2 m:Nat} {ag:Bool} {zz:List Value} {z2:Value} {y z:Operand} (ht:T.get t=some (.sl e sz eb ag zz)) (htn:T.get tn=some (.sc (.int .i64) s2 z2)) (hy:sEv E y=some (.slice none 0 0)) (hz:sEv E z=some (.int .i64 (.ofNat m))) (hm:0 < m) (hbig:m * (eb + 1)<=1000000) (h1:zz.all (·.oneCell')=true):Snd P (.call { callee:=.builtin .append,args:=#[y,z],argTypes:=#[t,tn] }) E H n (some (.slice (some ⟨n,0,none⟩) (List.replicate m zz).length (List.replicate m zz).length),a0p H n (.row e sz (List.replicate m zz) (List.replicate m zz).length true),n + 1) :=
 Snd.of_new fun {w0 w ρ N ds a} ha hI dst ty pos after=>by
  obtain ⟨Tb,hTb,hget⟩:=hT.tabs [t,tn];obtain ⟨v1,hv1,gy⟩:=ha.ev hy;rw [VR.sl0 hv1] at gy;obtain ⟨v2,hv2,gz⟩:=ha.ev hz;rw [VR.int hv2] at gz;obtain ⟨ji,zv,hu,hinfo,_,hs,hby,hz0,hzl,_,hsz,hs0⟩:=hTb.sl (hget t _ (by simp) ht);obtain ⟨_,hun,_⟩:=hTb.sc (hget tn _ (by simp) htn);have hmul:m * (eb + 1)=m * eb + m:=Nat.mul_succ m eb;intro b hB K Q kk;have hold:(Builtin.firstCells ji.size 0 (.slice none 0 0)).run P w.drew=.ok ([]:List Value).toArray w.drew:=rfl;have hrun:=Go.Lib.run_append_grow_zeros (P:=P) w t tn ty e ji zv .i64 .i64 hu hun hinfo hz0 none 0 0 [] hold m hm (by rw [hs];exact xf3 hs0) (by omega) (by omega) (by rw [hby];omega) (by rw [hby,xe0];exact growslice_fits (by omega) (by omega));rw [xe0] at hrun;have hex:(execOp b.eval ⟨dst,.call { callee:=.builtin .append,args:=#[y,z],argTypes:=#[t,tn] },ty,pos,after,none⟩).run P w=.ok (.value (.slice (some ⟨w.heap.size,0,none⟩) m (grownCap w m 0 e))) (w.drew.alloc (.cells ((([]:List Value).toArray++Builtin.zeroCells zv.cells m++Builtin.zeroCells zv.cells (grownCap w m 0 e - m))) e)):=by
   simp only [Int.ofNat_eq_natCast] at gz;simp [execOp,resolve,invoke,builtin,hB.ev gy,hB.ev gz,hrun,Result.andThen]
  unfold Oper.wp;rw [hex];have hge:=grownCap_ge w m 0 e;have hcm:=grownCap_le_maxLen w m 0 e (by unfold maxLen;omega);have hz2:=LR.cOks (ρ:=ρ) (hZ t _ ht);have hlr:(List.replicate m zz).length=m:=xg3;refine kk _ _ ⟨(w.heap.size,grownCap w m 0 e - m),fun τ _ hτ=>?_,⟨rfl,rfl,rfl,by simp,fun k hk _=>heap_alloc_old w.drew _ hk⟩,xc5 _,_,heap_alloc_new w.drew _,fun τ hτ _=>?_⟩
  ·rw [hlr];have:=VR.mkSl (o:=0) (n:=m) (c:=m) hτ;rw [show m + (w.heap.size,grownCap w m 0 e - m).2=grownCap w m 0 e from by simp only;omega] at this;exact this
  ·have hfl:(List.replicate m zz).flatten.length=m * sz:=by rw [j4 (size:=sz) (fun r hr=>by rw [xl1 hr,hsz]),xg3]
   refine ⟨List.replicate m zz,_,RR.rep (LR.cOks (hZ t _ ht)) m,rfl,by rw [hlr];simp only;omega,by rw [hlr];simp only;omega,?_,?_,fun r hr=>by rw [xl1 hr,hsz],fun r hr=>by rw [xl1 hr];exact h1,fun h=>by cases h⟩
   ·rw [<- xf5,xl2,xl2,a2T hzl hsz hs0,a2T hzl hsz hs0,xf1,List.nil_append,xd6,hfl,hlr];rw [j4 (size:=sz) (fun r hr=>by rw [xl1 hr,hsz]),xg3,<- Nat.add_mul]
   ·rw [xl2,xl2,a2T hzl hsz hs0,xf1,List.nil_append,hlr,<- hfl,List.take_left'];rfl
theorem a13 {k x:Value} {b:Bool} (h:a9W k x=some b):(b=true ↔ x=k):=by
 unfold a9W at h
 split at h
 ·cases h;simp [eq_comm]
 ·cases h;simp [eq_comm]
 ·cases h
theorem a16 {k:Value}:∀ {es:List (Value×Value)} {v:Value},a1P k es=some (some v)->(k,v) ∈ es
 |[],_,h=>by cases h
 |(x,u)::r,v,h=>by
  unfold a1P at h
  split at h
  ·rename_i hk
   cases h
   rw [(a13 hk).1 rfl];exact xb5
  ·exact xb6 _ (a16 h)
  ·cases h
theorem a1C {k:Value}:∀ {es:List (Value×Value)},a1P k es=some none->∀ p ∈ es,p.1≠k
 |[],_=>by simp
 |(x,u)::r,h=>by
  unfold a1P at h
  split at h
  ·cases h
  ·rename_i hk;intro p hp;rcases xb4.1 hp with rfl|hp
   ·exact fun e=>by have:=(a13 hk).2 e;cases this
   ·exact a1C h p hp
  ·cases h
theorem a3I {k v:Value}:∀ {es:List (Value×Value)},(∀ p ∈ es,p.1≠k)->a7e k v es=es++[(k,v)]
 |[],_=>rfl
 |(x,u)::r,h=>by
  unfold a7e
  split
  ·rename_i hk;exact (h _ xb5 ((a13 hk).1 rfl)).elim
  ·rw [a3I fun p hp=>h p (xb6 _ hp)];rfl
theorem a4S {k v:Value}:∀ {es:List (Value×Value)} {j:Nat} {u:Value},(es.map (·.1)).Nodup->es[j]?=some (k,u)->(∃ w,a1P k es=some (some w))->a7e k v es=es.set j (k,v)
 |[],_,_,_,h,_=>by simp at h
 |(x,w)::r,j,u,hn,h,hf=>by
  obtain ⟨w',hf⟩:=hf;unfold a1P at hf;unfold a7e;rw [xb0,List.nodup_cons] at hn
  split at hf
  ·rename_i hk;rw [hk];have hx:=(a13 hk).1 rfl
   cases j with
   |zero=>rfl
   |succ j=>
    have:k ∈ r.map (·.1):=xh9.2 ⟨(k,u),xc1 (by simpa using h),rfl⟩;subst hx;exact (hn.1 this).elim
  ·rename_i hk;rw [hk]
   cases j with
   |zero=>
    simp at h;have:=(a13 hk).2 h.1
    cases this
   |succ j=>
    dsimp only;rw [a4S hn.2 (by simpa using h) ⟨w',hf⟩];rfl
  ·cases hf
theorem R2.at_ {es L:List (Value×Value)} (h:R2 ρ es L) {j:Nat} {k v:Value} (hj:es[j]?=some (k,v)):∃ u,L[j]?=some (k,u)/\VR ρ v u:=by
 obtain ⟨h1,h2⟩:=h;obtain ⟨u,hu,hv⟩:=h2.get (i:=j) (v:=v) (by rw [xg0,hj];rfl);rw [xg0] at hu;obtain ⟨p,hp,e⟩:=xk9.1 hu;have h3:(L.map (·.1))[j]?=some k:=by rw [h1,xg0,hj];rfl
 rw [xg0,hp] at h3;simp only [xg1,Option.some.injEq] at h3;exact ⟨u,by rw [hp];congr 1;exact Prod.ext h3 e,hv⟩
theorem R2.at' {es L:List (Value×Value)} (h:R2 ρ es L) {j:Nat} {k u:Value} (hj:L[j]?=some (k,u)):∃ v,es[j]?=some (k,v):=by
 obtain ⟨h1,h2⟩:=h;have h3:(es.map (·.1))[j]?=some k:=by rw [<- h1,xg0,hj];rfl
 rw [xg0] at h3;obtain ⟨p,hp,e⟩:=xk9.1 h3;exact ⟨p.2,by rw [hp,<- e]⟩
theorem R2.len {es L:List (Value×Value)} (h:R2 ρ es L):L.length=es.length:=by
 have:=congrArg List.length h.1
 simpa using this
theorem R2.set {es L:List (Value×Value)} (h:R2 ρ es L) {j:Nat} {k v u:Value} (hv:VR ρ v u):R2 ρ (es.set j (k,v)) (L.set j (k,u)):=by
 refine ⟨by rw [List.map_set,List.map_set,h.1],?_⟩;rw [List.map_set,List.map_set];exact h.2.set j hv
theorem R2.snoc {es L:List (Value×Value)} (h:R2 ρ es L) {k v u:Value} (hv:VR ρ v u):R2 ρ (es++[(k,v)]) (L++[(k,u)]):=by
 refine ⟨by rw [xh5,xh5,h.1];rfl,?_⟩;rw [xh5,xh5];exact h.2.app (LR.cons hv LR.nil)
theorem a8k (hT:TOk P T) (hI:Inv P w0 ρ H w) {t:TypeId} {k:Value} {es:List (Value×Value)} (h:a5r T H t i k=some es):g8 H i=some (.smap t es)/\∃ x arr c Kt Et D L,ρ i=some x/\w.heap[x.1]?=some (.map arr c)/\P.underlying t=some (.map Kt Et)/\P.underlying Kt=some D/\MapG D arr L/\R2 ρ es L/\IsKey D k/\(∀ p ∈ es,(∃ n,p.1=.int .i64 n)\/∃ s,p.1=.string s)/\((∃ n,k=.int .i64 n)\/∃ s,k=.string s):=by
 unfold a5r at h
 split at h
 ·rename_i t' es' hi;obtain ⟨h1,h2⟩:=d6 h
  cases h2
  rw [xb7] at h1;obtain ⟨h1,h2⟩:=h1;obtain rfl:=xa9 h1;refine ⟨hi,?_⟩;obtain ⟨x,ob,g1,g2,g3,_⟩:=hI.held _ _ hi;obtain ⟨arr,c,Kt,Et,D,L,e1,e2,rfl,e4,e5,e6⟩:=g3;refine ⟨x,arr,c,Kt,Et,D,L,g1,g2,e1,e2,e4,e5,?_,e6,?_⟩
  ·unfold sKO at h2
   split at h2
   ·rename_i K _ _ _ ht;obtain ⟨Tb,hTb,hget⟩:=hT.tabs [t,K];obtain ⟨_,hu,_⟩:=hTb.sc (hget t _ (by simp) ht);rw [e1] at hu
    cases hu
    split at h2
    ·rename_i hk;obtain ⟨_,hu,_⟩:=hTb.sc (hget _ _ (by simp) hk);rw [e2] at hu
     cases hu
     rfl
    ·rename_i hk;obtain ⟨_,hu,_⟩:=hTb.sc (hget _ _ (by simp) hk);rw [e2] at hu
     cases hu
     exact trivial
    ·cases h2
   ·cases h2
  ·unfold sKO at h2
   split at h2
   ·split at h2
    ·exact xc7 ⟨_,rfl⟩
    ·exact xc4 ⟨_,rfl⟩
    ·cases h2
   ·cases h2
 ·cases h
theorem VR.key {k u:Value} (hk:(∃ n,k=.int .i64 n)\/∃ s,k=.string s) (h:VR ρ k u):u=k:=by
 rcases hk with ⟨n,rfl⟩|⟨s,rfl⟩
 ·exact VR.int h
 ·exact VR.str h
theorem b1n (hT:TOk P T) {ez:List (Nat×Value)} (hE:b0A P ez) {t:TypeId} {ok:Bool} {y z:Operand} {m k:Value} {r:Option Value×SH×Nat} (hy:sEv E y=some m) (hz:sEv E z=some k) (h:a8n T ez H n t ok m k=some r):Snd P (.lookup t y z ok) E H n r:=by
 unfold a8n at h
 split at h
 ·rename_i i
  split at h
  ·rename_i es hm
   split at h
   ·rename_i v hf
    cases h
    refine Snd.of_gets fun {w0 w ρ N ds a} ha hI=>?_;obtain ⟨hi,x,arr,c,Kt,Et,D,L,g1,g2,e1,e2,e4,e5,e6,_,e7⟩:=a8k hT hI hm;obtain ⟨v1,hv1,gy⟩:=ha.ev hy;obtain ⟨x',hx,rfl⟩:=VR.mp hv1;rw [g1] at hx;cases hx;obtain ⟨v2,hv2,gz⟩:=ha.ev hz;rw [VR.key e7 hv2] at gz;obtain ⟨j,hj⟩:=xc9.1 (a16 hf);obtain ⟨u,hu,huv⟩:=e5.at_ hj;have hh:Asr.holds w (.obj x.1 (.map arr c)):=⟨g2,rfl⟩;refine ⟨_,?_,fun _ _ _ _=>b1E (St.self hh) e1 e2 gy gz (i:=0) rfl e4 e6 (xc1 hu) ok⟩
    cases ok
    ·exact huv
    ·exact VR.mkTup (LR.cons huv (LR.cOks rfl))
   ·rename_i hf;obtain ⟨z0,hz0,rfl⟩:=xk9.1 h;refine Snd.of_gets fun {w0 w ρ N ds a} ha hI=>?_;obtain ⟨hi,x,arr,c,Kt,Et,D,L,g1,g2,e1,e2,e4,e5,e6,_,e7⟩:=a8k hT hI hm;obtain ⟨v1,hv1,gy⟩:=ha.ev hy;obtain ⟨x',hx,rfl⟩:=VR.mp hv1;rw [g1] at hx;cases hx;obtain ⟨v2,hv2,gz⟩:=ha.ev hz;rw [VR.key e7 hv2] at gz;have hh:Asr.holds w (.obj x.1 (.map arr c)):=⟨g2,rfl⟩;obtain ⟨hz1,hz2⟩:=hE t z0 hz0 Kt Et e1;refine ⟨_,?_,fun _ _ _ _=>a9B (St.self hh) e1 e2 hz1 gy gz (i:=0) rfl e4 e6 (fun v hv=>?_) ok⟩
    ·cases ok
     ·exact hz2 ρ
     ·exact VR.mkTup (LR.cons (hz2 ρ) (LR.cOks rfl))
    ·obtain ⟨j,hj⟩:=xc9.1 hv;obtain ⟨v',hv'⟩:=e5.at' hj;exact a1C hf _ (xc1 hv') rfl
   ·cases h
  ·cases h
 ·cases h
theorem b07 (hT:TOk P T) {t:TypeId} {y z u:Operand} {m k v:Value} {r:Option Value×SH×Nat} (hy:sEv E y=some m) (hz:sEv E z=some k) (hu:sEv E u=some v) (h:a8v T H n t m k v=some r):Snd P (.mapUpdate t y z u) E H n r:=by
 unfold a8v at h
 split at h
 ·rename_i i
  split at h
  ·rename_i es hm
   split at h
   ·rename_i fo hf
    cases h
    have hi:g8 H i=some (.smap t es):=by
     unfold a5r at hm
     split at hm
     ·rename_i hi;obtain ⟨h1,h2⟩:=d6 hm
      cases h2
      rw [xb7] at h1;rw [xa9 h1.1];exact hi
     ·cases hm
    refine Snd.of_upd hi fun {w0 w ρ N ds a x ob} ha hI hx hob hf' dst ty pos after=>?_;obtain ⟨_,x',arr,c,Kt,Et,D,L,g1,g2,e1,e2,e4,e5,e6,e8,e7⟩:=a8k hT hI hm;rw [hx] at g1;cases g1;obtain ⟨v1,hv1,gy⟩:=ha.ev hy;obtain ⟨x',hx',rfl⟩:=VR.mp hv1;rw [hx] at hx';cases hx';obtain ⟨v2,hv2,gz⟩:=ha.ev hz;rw [VR.key e7 hv2] at gz;obtain ⟨v3,hv3,gu⟩:=ha.ev hu;have hh:Asr.holds w (.obj x.1 (.map arr c)):=⟨g2,rfl⟩;intro b hB K Q kk
    cases fo with
    |none=>
     have hmiss:=a1C hf;refine b1G (St.self hh) e1 e2 gy gz gu (i:=0) rfl e4 e6 (fun v hv=>?_) b hB K Q fun u' w' ⟨es',c',hG,hS⟩=>kk u' w' ⟨trivial,hS.grown1 rfl,_,(hS.at_ (i:=0) rfl).1,?_⟩
     ·obtain ⟨j,hj⟩:=xc9.1 hv;obtain ⟨v',hv'⟩:=e5.at' hj;exact hmiss _ (xc1 hv') rfl
     ·rw [a3I hmiss];refine ⟨es',c',Kt,Et,D,_,e1,e2,rfl,hG,e5.snoc hv3,fun p hp=>?_⟩;rcases xd2.1 hp with hp|hp
      ·exact e8 p hp
      ·rw [xl0.1 hp];exact e7
    |some w1=>
     obtain ⟨j,hj⟩:=xc9.1 (a16 hf);obtain ⟨u0,hu0,_⟩:=e5.at_ hj;refine b2k (St.self hh) e1 e2 gy gz gu (i:=0) rfl e4 e6 (xc1 hu0) b hB K Q fun u' w' ⟨es',c',j2,u2,hj2,hG,hS⟩=>kk u' w' ⟨trivial,hS.grown1 rfl,_,(hS.at_ (i:=0) rfl).1,?_⟩;obtain ⟨v',hv'⟩:=e5.at' hj2;have hnd:(es.map (·.1)).Nodup:=by rw [<- e5.1];exact e4.once
     rw [a4S hnd hv' ⟨w1,hf⟩];refine ⟨es',c',Kt,Et,D,_,e1,e2,rfl,hG,e5.set hv3,fun p hp=>?_⟩;rcases xj3 hp with hp|hp
     ·exact e8 p hp
     ·rw [hp];exact e7
   ·cases h
  ·cases h
 ·cases h
theorem b2b {t:TypeId} {y:Operand} {v:Value} {r:Option Value×SH×Nat} (hy:sEv E y=some v) (h:a8x H n t v=some r):Snd P (.call { callee:=.builtin .len,args:=#[y],argTypes:=#[t] }) E H n r:=by
 unfold a8x at h
 split at h
 ·rename_i i
  split at h
  ·rename_i t' es hi;obtain ⟨h1,h2⟩:=d6 h
   cases h2
   obtain rfl:=xa9 h1;refine Snd.of_gets fun {w0 w ρ N ds a} ha hI=>?_;obtain ⟨v1,hv1,gy⟩:=ha.ev hy;obtain ⟨x',hx,rfl⟩:=VR.mp hv1;obtain ⟨x,ob,g1,g2,g3,_⟩:=hI.held _ _ hi;rw [hx] at g1;cases g1;obtain ⟨arr,c,Kt,Et,D,L,e1,e2,rfl,e4,e5,e6⟩:=g3;have hh:Asr.holds w (.obj x'.1 (.map arr c)):=⟨g2,rfl⟩;refine ⟨_,VR.cOk rfl,fun dst ty pos after b hB K Q kk=>a8T (St.self hh) e1 gy (i:=0) rfl b hB K Q fun v' w' hv=>kk v' w' ⟨?_,hv.2⟩⟩;rw [hv.1,e4.size,e5.len]
  ·cases h
 ·cases h
theorem b3C (hT:TOk P T) {t K:TypeId} {Et:TypeId} {s:Nat} {z:Value} {tk:TI} (ht:T.get t=some (.sc (.map K Et) s z)) (hk:T.get K=some tk):Snd P (.makeMap t none) E H n (some (.map (some n)),a0p H n (.smap t []),n + 1) :=
 Snd.of_new fun {w0 w ρ N ds a} ha hI dst ty pos after=>by
  obtain ⟨Tb,hTb,hget⟩:=hT.tabs [t,K];obtain ⟨_,hu,_⟩:=hTb.sc (hget t _ (by simp) ht);obtain ⟨D,hD⟩:=hTb.und (hget K _ (by simp) hk);intro b hB K' Q kk;refine a7p (St.start _) b hB K' Q fun u' w' ⟨g,e,hS⟩=>kk u' w' ⟨(g,0),fun τ _ hτ=>by rw [e];exact VR.mkMap hτ,hS.drop.grown0,a85 hS rfl,_,(hS.at_ (i:=0) rfl).1,fun τ _ _=>⟨#[],0,K,Et,D,[],hu,hD,rfl,MapG.nil D,⟨rfl,LR.nil⟩,by simp⟩⟩
end
end Go.Proofs.YtejnpppejalhfacGreat
namespace Go.Proofs.YtejnpppejalhfacGreat
set_option maxRecDepth 100000
set_option maxHeartbeats 8000000
open Go.RowKit Go.Sort
section
variable {P:Program} {T:TT} {q:EqT} {w0 w w':World} {ρ σ:Ren} {N:Nat} {ds:List Deferred} {a:Act} {E:Fr} {H:SH} {n:Nat} {x:Nat×Nat} {i:Nat}
theorem b2x (hT:TOk P T) {t:TypeId} {y:Operand} {lo hi mx:Option Operand} {r:Option Value×SH×Nat} (h:b2t T E H n t y lo hi mx=some r):Snd P (.slice t y lo hi mx) E H n r:=by
 unfold b2t at h
 split at h
 ·rename_i ht hy hlo;obtain ⟨h1,h2⟩:=d6 h
  cases h2
  have h1:=xe8 h1;obtain ⟨Tb,hTb,hget⟩:=hT.tabs [t];refine Snd.of_runs fun {ρ N ds a} ha=>?_;obtain ⟨v1,hv1,gy⟩:=ha.ev hy;obtain ⟨x,hx,rfl⟩:=VR.sl hv1
  cases lo with
  |none=>cases hlo
  |some l=>
   obtain ⟨v,hv,e⟩:=xk9.1 (show (sEv E l).map some=_ from hlo)
   cases e
   obtain ⟨v2,hv2,gl⟩:=ha.ev hv;rw [VR.int hv2] at gl;exact ⟨_,trivial,fun _ _ _ _=>a56 hTb (hget t _ (by simp) ht) gy gl rfl h1 a ha.full _⟩
 ·cases h
theorem a8s {sz:Nat} {u:Value} {rows:List (List Value)} (h:a1o H sz u=some rows):∃ p m c,u=.slice p m c:=by
 unfold a1o at h
 split at h
 ·exact ⟨_,_,_,rfl⟩
 ·exact ⟨_,_,_,rfl⟩
 ·exact ⟨_,_,_,rfl⟩
 ·cases h
theorem b2D (hT:TOk P T) (hZ:ZOk T) {t t':TypeId} {y z:Operand} {s u:Value} {r:Option Value×SH×Nat} (hy:sEv E y=some s) (hz:sEv E z=some u) (h:a5Y T H n t t' s u=some r):Snd P (.call { callee:=.builtin .append,args:=#[y,z],argTypes:=#[t,t'] }) E H n r:=by
 unfold a5Y at h
 split at h
 ·rename_i e sz eb ag zz ht;rcases a1R h with ⟨h1,g⟩|⟨_,g⟩
  ·clear h;obtain rfl:=xa9 h1
   split at g
   ·rename_i news hr;have hu:=a8s hr;unfold a61 at g
    split at g
    ·rename_i p m c
     split at g
     ·obtain ⟨h2,g2⟩:=d6 g
      cases g2
      exact b2q hT ht hy hz hr (xe8 h2)
     ·rename_i n0 nr;obtain ⟨h2,g2⟩:=d6 g;clear g;have h2:=xe8 h2;have hne:n0::nr≠[]:=by simp
      generalize n0::nr=news at g2 h2 hr hne
      split at g2
      ·obtain ⟨h3,g3⟩:=d6 g2
       cases g3
       rw [xb7] at h3;obtain rfl:=xa9 h3.1;obtain rfl:=xa9 h3.2;exact b0E hT ht hy hz hu hr hne (by simpa using h2)
      ·rename_i i;unfold b1b at g2
       split at g2
       ·rename_i e' sz' rows cap ub hi;obtain ⟨h3,g3⟩:=d6 g2;clear g2;rw [xb7] at h3;obtain rfl:=xa9 h3.1;obtain rfl:=xa9 h3.2;rcases a1R g3 with ⟨h4,g4⟩|⟨_,g4⟩
        ·clear g3
         cases g4
         rw [xb7] at h4;obtain rfl:=xa9 h4.1;obtain rfl:=xa9 h4.2;exact b0w hT ht hi hy hz hu hr hne h2
        ·clear g3;obtain ⟨h4,g5⟩:=d6 g4
         cases g5
         rw [xb7] at h4;exact b2u hT ht hi hy hz hu hr hne (xe8 h4.1) (xe8 h4.2)
       ·cases g2
      ·cases g2
    ·cases g
   ·cases g
  ·clear h
   split at g
   ·rename_i s2 z2 m ht';unfold b09 at g
    split at g
    ·obtain ⟨h2,g2⟩:=d6 g
     cases g2
     simp only [xb7] at h2;exact b24 hT hZ ht ht' hy hz (by simpa [xb1] using h2.1) (xe8 h2.2.1) h2.2.2
    ·cases g
   ·cases g
 ·cases h
theorem b3e (hT:TOk P T) (hZ:ZOk T) {b:Builtin} {args:Array Operand} {ats:Array TypeId} {r:Option Value×SH×Nat} (h:b2e T E H n b args.toList ats.toList=some r):Snd P (.call { callee:=.builtin b,args:=args,argTypes:=ats }) E H n r:=by
 unfold b2e at h
 split at h
 ·rename_i x y t t' h1 h2;obtain rfl:=a8Y h1;obtain rfl:=a8Y h2
  split at h
  ·rename_i s u hx hy;exact b2D hT hZ hx hy h
  ·cases h
 ·rename_i x y t t' h1 h2;obtain rfl:=a8Y h1;obtain rfl:=a8Y h2
  split at h
  ·rename_i s u hx hy;exact b1q hT hx hy h
  ·cases h
 ·rename_i x t h1 h2;obtain rfl:=a7g h1;obtain rfl:=a7g h2
  split at h
  ·rename_i v hx;exact b2b hx h
  ·cases h
 ·cases h
theorem b25 (hT:TOk P T) {t:TypeId} {y z u:Operand} {m k v:Value} {r:Option Value×SH×Nat} (hy:sEv E y=some m) (hz:sEv E z=some k) (hu:sEv E u=some v) (h:a8v T H n t m k v=some r):Snd P (.insert t y z u) E H n r:=by
 have h2:=b07 hT hy hz hu h;exact h2
theorem b3o (hT:TOk P T) (hZ:ZOk T) {ez:List (Nat×Value)} (hE:b0A P ez) {op:Op} {r:Option Value×SH×Nat} (h:sOp T ez E H n op=some r):Snd P op E H n r:=by
 unfold sOp at h
 split at h
 ·split at h
  ·rename_i p hx;obtain ⟨v,hv,rfl⟩:=xk9.1 h;exact b14 hT hx hv
  ·cases h
 ·split at h
  ·rename_i p v hx hy;obtain ⟨H',hv,rfl⟩:=xk9.1 h;exact a9E hT hx hy hv
  ·cases h
 ·split at h
  ·rename_i v hx
   split at h
   ·rename_i L hL
    cases h
    exact b22 hx hL
   ·cases h
  ·cases h
 ·split at h
  ·rename_i ti ht
   cases h
   exact b0F hT hZ ht
  ·cases h
 ·exact b3i hT h
 ·exact b3B hT hZ h
 ·rename_i c;obtain ⟨cl,args,ats⟩:=c
  split at h
  ·rename_i b hb;dsimp only at hb h;subst hb;exact b3e hT hZ h
  ·cases h
 ·exact b27 hT h
 ·split at h
  ·rename_i ht
   split at h
   ·rename_i hk
    cases h
    exact b3C hT ht hk
   ·cases h
  ·cases h
 ·split at h
  ·rename_i m k hx hy;exact b1n hT hE hx hy h
  ·cases h
 ·split at h
  ·rename_i m k v hx hy hz;exact b07 hT hx hy hz h
  ·cases h
 ·split at h
  ·rename_i m k v hx hy hz;exact b25 hT hx hy hz h
  ·cases h
 ·exact b2x hT h
 ·split at h
  ·rename_i ht hx
   cases h
   exact b0D hT hx ⟨_,_,ht⟩
  ·cases h
 ·exact b1Q h
 ·cases h
end
section
variable {P:Program} {ops:Array Oper} {Q:Exit->Act->World->Prop}
abbrev Ea:=List (Nat×(World->Prop))
def t2 (ops:Array Oper) (j:Nat) (L:Ea):Ea:=L.filter fun p=>!t5 ops j p.1
def wpT (P:Program) (ops:Array Oper) (Q:Exit->Act->World->Prop):Nat->Ea->Array Bool->Act->World->Prop
 |0,_,li,a,w=>Region.ready .any ops li=[]/\Q .normal a w
 |f + 1,L,li,a,w=>(Region.ready .any ops li=[]->Q .normal a w)/\∀ j ∈ Region.ready .any ops li,wpOp P ops Q j (fun a' w'=>(∀ p ∈ t2 ops j L,p.2 w')/\wpT P ops Q f (t2 ops j L) (li.setIfInBounds j true) a' w') a w
theorem a6F:∀ (f:Nat) (L:Ea) (li:Array Bool) (a:Act) (w:World),wpT P ops Q f L li a w->wpAny P .any ops Q f li a w
 |0,_,_,_,_,h=>h
 |f + 1,L,_,_,_,h=>⟨h.1,fun i hi=>wpOp_mono (fun a' w' h'=>a6F f _ _ a' w' h'.2) (h.2 i hi)⟩
theorem a2H:∀ (f:Nat) {L L':Ea} {li:Array Bool} {a:Act} {w:World},(∀ p ∈ L',p ∈ L)->wpT P ops Q f L li a w->wpT P ops Q f L' li a w
 |0,_,_,_,_,_,_,h=>h
 |f + 1,L,L',_,_,_,hs,h=>⟨h.1,fun i hi=>wpOp_mono (fun a' w' h'=>by
   have hk:∀ p ∈ t2 ops i L',p ∈ t2 ops i L:=fun p hp=>by
    have:=xi0.1 hp;exact xi0.2 ⟨hs p this.1,this.2⟩
   exact ⟨fun p hp=>h'.1 p (hk p hp),a2H f hk h'.2⟩) (h.2 i hi)⟩
theorem a3a {i:Nat} {oi:Oper} {v:Value} {S:World->Prop} (hi:ops[i]?=some oi) (hsel:∀ (j:Nat) (o:Oper) cs b,ops[j]?=some o->o.op≠.select cs b)
  (hQ:∀ c a w,Q (.panic c) (a.put oi.dst v) w->Q (.panic c) a w) :
  ∀ (fuel:Nat) (L:Ea) (li:Array Bool) (a:Act) (w:World),
   (∀ j oj,ops[j]?=some oj->j≠i->li.getD j true=false->(∀ e ∈ oj.after,Region.binds .any e=true->e.on≠i)->oi.apart ops oj=true) ->
   i ∈ Region.ready .any ops li->YieldsIf P ops S oi v a->S w->(∀ p ∈ L,p.2 w) ->
   wpT P ops Q fuel ((i,S)::L) (li.setIfInBounds i true) (a.put oi.dst v) w->wpT P ops Q (fuel + 1) L li a w:=by
 intro fuel;have step:∀ (li:Array Bool) (j:Nat),i ∈ Region.ready .any ops li->j ∈ Region.ready .any ops li->∀ oj,ops[j]?=some oj->∀ e ∈ oj.after,Region.binds .any e=true->e.on≠i:=by
  intro li j hr hj oj hoj e he hb heq;obtain ⟨_,o,ho,hall⟩:=mem_ready.1 hj;rw [hoj] at ho
  cases ho
  have h1:=hall e he hb;have h0:=(mem_ready.1 hr).1;rw [heq] at h1;rcases xj5 i li.size with h'|h'
  ·simp [h'] at h0 h1;rw [h0] at h1;cases h1
  ·simp [xj6 h'] at h1
 have nowait:∀ (li:Array Bool) (j:Nat),i ∈ Region.ready .any ops li->j ∈ Region.ready .any ops li->t5 ops j i=false:=fun li j hr hj=>by
  cases e:t5 ops j i with
  |false=>rfl
  |true=>
   obtain ⟨oq,hoq,e',he,hb,heq⟩:=a5c e;exact (step li j hr hj oq hoq e' he hb heq).elim
 induction fuel with
 |zero=>
  intro L li a w _ hr hy hS hL H;refine ⟨fun h=>(by rw [h] at hr;cases hr),fun j hj=>?_⟩;by_cases hji:j=i
  ·subst hji;exact hy.wpOp hi hS ⟨fun p hp=>hL p (xi0.1 hp).1,H⟩
  ·have:=ready_mono hj hji;rw [H.1] at this
   cases this
 |succ fuel ih=>
  intro L li a w hfree hr hy hS hL H;refine ⟨fun h=>(by rw [h] at hr;cases hr),fun j hj=>?_⟩;by_cases hji:j=i
  ·subst hji;exact hy.wpOp hi hS ⟨fun p hp=>hL p (xi0.1 hp).1,a2H _ (fun p hp=>xb6 _ (xi0.1 hp).1) H⟩
  ·have hnw:=nowait li j hr hj;have h1:=H.2 j (ready_mono hj hji);obtain ⟨hjun,oj,hoj,_⟩:=mem_ready.1 hj;have h2:=wpOp_putIf hoj (hfree j oj hoj hji hjun (step li j hr hj oj hoj)) (fun cs b=>hsel i oi cs b hi) (fun cs b=>hsel j oj cs b hoj) hQ hy h1;have hfree':∀ k ok,ops[k]?=some ok->k≠i->(li.setIfInBounds j true).getD k true=false ->
     (∀ e ∈ ok.after,Region.binds .any e=true->e.on≠i)->oi.apart ops ok=true:=fun k ok hk hki hun hno=>by
    refine hfree k ok hk hki ?_ hno;by_cases hjk:j=k
    ·subst hjk;exact hjun
    ·rw [getD_set_ne true hjk] at hun;exact hun
   have hkeep:t2 ops j ((i,S)::L)=(i,S)::t2 ops j L:=by
    unfold t2;rw [List.filter_cons,hnw];rfl
   refine wpOp_mono (fun a' w' h3=>?_) h2;obtain ⟨h4,h5,h6⟩:=h3;rw [hkeep] at h5 h6;refine ⟨fun p hp=>h5 p (xb6 _ hp),ih (t2 ops j L) (li.setIfInBounds j true) a' w' hfree' (ready_mono hr (Ne.symm hji)) h4 (h5 _ xb5) (fun p hp=>h5 p (xb6 _ hp)) ?_⟩;rw [xj7 _ _ hji];exact h6
end
def PQ (Q:Exit->Act->World->Prop):Prop:=∀ c (a:Act) w d v,Q (.panic c) (a.put d v) w->Q (.panic c) a w
def a0e (P:Program) (call:a2X):Prop:=∀ g vs H n v H' n',call g vs H n=.ok (v,H',n')->n<=n'/\∀ {w0 w:World} {ρ:Ren} {hi:Nat} {us:List Value},LR ρ vs us->Inv P w0 ρ H w->Fsh ρ n hi->n'<=hi->Fn P g us w (fun u w'=>∃ σ,Stp ρ σ n n'/\VR σ v u/\Inv P w0 σ H' w')
def IOk (P:Program) (I:List (Nat×List (String×Nat))):Prop:=∀ t ms,g8 I t=some ms->P.concrete t=true/\∀ name g,b0e ms name=some g->a8E P t name g=true
structure COk (P:Program) (C:Cx):Prop where
 T:TOk P C.T
 Z:ZOk C.T
 q:QOk P C.q
 ez:b0A P C.ez
 I:IOk P C.I
section
variable {P:Program} {C:Cx} {call:a2X} {w0 w w':World} {ρ σ:Ren} {N:Nat} {ds:List Deferred} {a:Act} {E E':Fr} {H H':SH} {n n':Nat} {Q:Exit->Act->World->Prop}
theorem a4T {o:Oper} {K:Act->World->Prop} (h:Oper.wp P ⟨o.dst,o.op,o.type,o.pos,o.after,none⟩ a w K Q):o.wp P a w K Q:=h
theorem a60 (hC:COk P C) {op:Op} {pos:String} {r:Option Value×SH×Nat} (h:b0y C op pos E H n=.ok r):Snd P op E H n r:=by
 unfold b0y at h
 split at h
 ·rename_i v hv
  cases h
  exact Snd.of_yl fun ha=>a87 hC.T hC.Z hC.q ha hv
 ·split at h
  ·rename_i r' hr
   cases h
   exact b3o hC.T hC.Z hC.ez hr
  ·cases h
theorem a8A (hc:a0e P call) {f:Operand} {args:Array Operand} {ats:Array TypeId} {pos:String} {r:Option Value×SH×Nat} (h:b1y call pos E H n f args.toList=.ok r):Snd P (.call { callee:=.value f,args:=args,argTypes:=ats }) E H n r:=by
 unfold b1y at h
 split at h
 ·rename_i g first caps vs hf hv
  split at h
  ·rename_i v r' hr
   cases h
   obtain ⟨H',n'⟩:=r';obtain ⟨hle,hs⟩:=hc g _ H n v H' n' hr;refine ⟨hle,fun {w0 w ρ N ds a hi} ha hI hF hn dst ty pos after K Q kk=>?_⟩;obtain ⟨u,hu,gf⟩:=ha.ev hf;obtain ⟨us,hus,gv⟩:=ha.evs hv;obtain ⟨first',caps',rfl,h1,h2⟩:=VR.fun_ (a:=first.toList) (b:=caps.toList) hu;refine a0n gf gv (hs ((h1.app hus).app h2) hI hF hn) a ha.full K Q fun v' w' ⟨σ,hσ,hv',hI'⟩=>kk v' w' σ hσ hv' hI'
  ·cases h
 ·cases h
theorem VR.iface_ {t:TypeId} {v u:Value} (h:VR ρ (.iface t v) u):∃ u',u=.iface t u'/\VR ρ v u':=by
 unfold VR o8 at h;obtain ⟨u',h1,h2⟩:=xk9.1 h;exact ⟨u',h2.symm,h1⟩
theorem b0H (hC:COk P C) (hc:a0e P call) {f:Operand} {name:String} {args:Array Operand} {ats:Array TypeId} {pos:String} {r:Option Value×SH×Nat} (h:b1m C call pos E H n f name args.toList=.ok r):Snd P (.call { callee:=.invoke f name,args:=args,argTypes:=ats }) E H n r:=by
 unfold b1m at h
 split at h
 ·rename_i t u vs hf hv
  split at h
  ·rename_i ms hms
   split at h
   ·rename_i g hg
    split at h
    ·rename_i v r' hr
     cases h
     obtain ⟨H',n'⟩:=r';obtain ⟨hle,hs⟩:=hc g _ H n v H' n' hr;refine ⟨hle,fun {w0 w ρ N ds a hi} ha hI hF hn dst ty pos after K Q kk=>?_⟩;obtain ⟨x,hx,gf⟩:=ha.ev hf;obtain ⟨us,hus,gv⟩:=ha.evs hv;obtain ⟨u',rfl,hu'⟩:=VR.iface_ hx;refine a8U gf gv ((hC.I t ms hms).2 name g hg) (hs (LR.cons hu' hus) hI hF hn) a ha.full K Q fun v' w' ⟨σ,hσ,hv',hI'⟩=>kk v' w' σ hσ hv' hI'
    ·cases h
   ·cases h
  ·cases h
 ·cases h
theorem b0d (hC:COk P C) {t:TypeId} {x:Operand} {pos:String} {r:Option Value×SH×Nat} (h:b2l C pos E H n t x=.ok r):Snd P (.makeInterface t x) E H n r:=by
 unfold b2l at h
 split at h
 ·rename_i ms v hms hx
  cases h
  refine Snd.of_yl fun ha=>?_;obtain ⟨u,hu,gx⟩:=ha.ev hx;refine ⟨.iface t u,by unfold VR o8;rw [show o8 _ v=some u from hu];rfl,fun dst ty pos after w=>?_⟩;simp only [execOp,ha.full.ev gx,Sem.run_bind,run_makeInterface w t u (hC.I t ms hms).1,Result.andThen_ok,Sem.run_pure]
 ·cases h
theorem a2S (hC:COk P C) (hc:a0e P call) {op:Op} {pos:String} {r:Option Value×SH×Nat} (h:a3D C call op pos E H n=.ok r):Snd P op E H n r:=by
 unfold a3D at h
 split at h
 ·rename_i c;obtain ⟨cl,args,ats⟩:=c
  split at h
  ·rename_i f hf;dsimp only at hf h;subst hf;exact a8A hc h
  ·rename_i f name hf;dsimp only at hf h;subst hf;exact b0H hC hc h
  ·exact a60 hC h
 ·exact b0d hC h
 ·exact a60 hC h
theorem a0k {ops:Array Oper} {o:Oper} {b:Bool} (ha:HasR ρ N ds a E) (h:a26 ops.toList E o=some b):Region.wanted o (yielded ops a.tmps)=b:=by
 unfold a26 at h
 split at h
 ·rename_i hg
  cases h
  simp [Region.wanted,hg]
 ·rename_i j wb hg;rw [s4] at h
  split at h
  ·rename_i oj hj;have hj:ops[j]?=some oj:=by simpa using hj
   split at h
   ·rename_i dj hdj
    split at h
    ·rename_i c hb
     cases h
     obtain ⟨u,hu,hat⟩:=ha.at_ dj _ hb;rw [VR.bool hu] at hat;have hy:yielded ops a.tmps j=some c:=by simp [yielded,hj,hdj,hat]
     simp only [Region.wanted,hg,hy]
     cases c <;> cases wb <;> rfl
    ·rename_i v hne hb
     cases h
     obtain ⟨u,hu,hat⟩:=ha.at_ dj _ hb;have hy:yielded ops a.tmps j=none:=by
      simp only [yielded,hj,hdj,hat,Option.bind_some]
      cases u with
      |bool c=>
       exfalso;unfold VR o8 at hu
       split at hu
       all_goals first
        |(cases hu;exact hne _ rfl)
        |(obtain ⟨_,_,hu⟩:=xk9.1 hu;cases hu;done)
        |(obtain ⟨_,_,hu⟩:=xk3.1 hu;obtain ⟨_,_,hu⟩:=xk9.1 hu;cases hu;done)
        |(cases hu;done)
      |_=>rfl
     simp only [Region.wanted,hg,hy];rfl
    ·cases h
   ·cases h
  ·cases h
def a47 (N:Nat) (o:Oper):Bool:=match o.dst with
 |some d=>Nat.blt d N
 |none=>true
theorem a2b {o:Oper} (h:a47 N o=true):∀ k,o.dst=some k->k < N:=fun k hk=>by
 unfold a47 at h;rw [hk] at h
 simpa [xb1] using h
theorem VR.undef:VR ρ Go.undef Go.undef:=VR.mkTup LR.nil
theorem a10 (hC:COk P C) (hc:a0e P call) {ops:Array Oper}:∀ {l:List Oper} {E:Fr} {H:SH} {n:Nat},l.all (a47 N)=true->a3H C call ops.toList l E H n=.ok (E',H',n')->n<=n'/\∀ {w0 w:World} {ρ:Ren} {ds:List Deferred} {a:Act} {hi:Nat},HasR ρ N ds a E->Inv P w0 ρ H w->Fsh ρ n hi->n'<=hi->(∀ a' w' σ,Stp ρ σ n n'->HasR σ N ds a' E'->Inv P w0 σ H' w'->Q .normal a' w')->wpList P ops Q l a w
 |[],E,H,n,_,h=>by
  cases h
  exact ⟨xc5 _,fun ha hI _ _ k=>k _ _ _ (Stp.refl _ _ _) ha hI⟩
 |o::r,E,H,n,hd,h=>by
  simp only [xg4,xb7] at hd;rw [show a3H C call ops.toList (o::r) E H n=(match a26 ops.toList E o with
   |some true=>match a3D C call o.op o.pos E H n with
    |.ok (v,H',n')=>a3H C call ops.toList r (a0y E o.dst v) H' n'
    |.no p=>.no p
   |some false=>a3H C call ops.toList r (a0y E o.dst (some undef)) H n
   | none => .no "guard") from rfl] at h
  split at h
  ·rename_i hw
   split at h
   ·rename_i v H1 n1 hr;obtain ⟨h1,h2⟩:=a2S hC hc hr;obtain ⟨h3,h4⟩:=a10 hC hc hd.2 h;refine ⟨xc6 h1 h3,fun {w0 w ρ ds a hi} ha hI hF hn k=>?_⟩;unfold wpList;rw [xd8 (a0k ha hw)];exact xc7 (a4T (h2 ha hI hF (xc6 h3 hn) _ _ _ _ _ _ fun u w1 σ hσ hu hI1=>h4 ((ha.mono hσ.le).putE o.dst (a2b hd.1) hu) hI1 (hF.step hσ h1) hn fun a' w' τ hτ ha' hI'=>k a' w' τ (hσ.trans hτ h1 h3) ha' hI'))
   ·cases h
  ·rename_i hw;obtain ⟨h3,h4⟩:=a10 hC hc hd.2 h;refine ⟨h3,fun {w0 w ρ ds a hi} ha hI hF hn k=>?_⟩;unfold wpList;rw [xd9 (by rw [a0k ha hw];simp)];exact h4 (ha.putE o.dst (a2b hd.1) VR.undef) hI hF hn k
  ·cases h
end
def a5j:Pl->List Nat
 |.alt i _ _ more=>i::a5j more
 |_=>[]
noncomputable def plB (ops:Array Oper) (p:Pl):(Nat->Array Bool->Bool)×(Nat->Array Bool->Bool):=@Pl.rec (fun _=>(Nat->Array Bool->Bool)×(Nat->Array Bool->Bool))
 (fun _ li=>(Region.ready .any ops li).isEmpty,fun _ _=>false)
 (fun _ _=>false,fun _ _=>true)
 (fun i _ k=>(fun f li=>match f with
  |0=>false
  |f + 1=>Nat.blt i ops.size && (Region.free .any ops li i && ((Region.ready .any ops li).contains i && k.1 f (li.setIfInBounds i true))),fun _ _=>false))
 (fun i dr _ k=>(fun f li=>match f with
  |0=>false
  |f + 1=>(Region.ready .any ops li).all (Nat.beq i) && ((Region.ready .any ops li).contains i && (dr.all (t5 ops i) && k.1 f (li.setIfInBounds i true))),fun _ _=>false))
 (fun _ _ k=>(k.1,fun _ _=>false))
 (fun i dr p more k m=>(fun f li=>match f with
  |0=>false
  |f + 1=>(Region.ready .any ops li).all (fun j=>(i::a5j more).any (Nat.beq j)) && ((Region.ready .any ops li).contains i && (Nat.blt i ops.size && (!li.getD i true && (dr.all (t5 ops i) && (k.1 f (li.setIfInBounds i true) && m.2 f li))))),
  fun f li=>Nat.blt i ops.size && (!li.getD i true && (dr.all (t5 ops i) && (k.1 f (li.setIfInBounds i true) && m.2 f li))))) p
section
variable {P:Program} {C:Cx} {call:a2X} {w0 w w':World} {ρ σ:Ren} {N:Nat} {ds:List Deferred} {a:Act} {E E':Fr} {H H':SH} {n n':Nat} {Q:Exit->Act->World->Prop} {ops:Array Oper}
inductive EL (P:Program) (ρ:Ren) (w:World):a0P->Ea->Prop where
 |nil:EL P ρ w [] []
 |cons {i:Nat} {t:TypeId} {pv v:Value} {p:Addr} {u:Value} {L:a0P} {M:Ea} (hp:VR ρ pv (.pointer (some p))) (hv:VR ρ v u) (hl:Ld P t p u w) (h:EL P ρ w L M):EL P ρ w ((i,t,pv,v)::L) ((i,fun w=>Ld P t p u w)::M)
 |triv {i:Nat} {L:a0P} {M:Ea} (h:EL P ρ w L M):EL P ρ w L ((i,fun _=>True)::M)
theorem EL.all {L:a0P} {M:Ea} (h:EL P ρ w L M):∀ p ∈ M,p.2 w:=by
 induction h with
 |nil=>simp
 |cons _ _ hl _ ih=>
  intro p hp;rcases xb4.1 hp with rfl|hp
  ·exact hl
  ·exact ih p hp
 |triv _ ih=>
  intro p hp;rcases xb4.1 hp with rfl|hp
  ·trivial
  ·exact ih p hp
mutual
theorem a1x:∀ (k:Nat) {a b:Value},vEq k a b=true->a=b
 |0,_,_,h=>by cases h
 |k + 1,a,b,h=>by
  unfold vEq at h
  split at h
  ·simp at h;rw [h]
  ·rw [xb7] at h;rw [a73 h.1,xj4 h.2]
  ·rw [xj4 h]
  ·rfl
  ·rw [xb7] at h;rw [xa9 h.1,xa9 h.2]
  ·rw [xb7] at h;rw [xa9 h.1,xa9 h.2]
  ·simp only [xb7] at h;rw [xa9 h.1,xa9 h.2.1,xa9 h.2.2.1,xa9 h.2.2.2]
  ·rfl
  ·rw [xa9 h]
  ·rfl
  ·simp only [xb7] at h;rw [xa9 h.1,a0N k h.2.1,a0N k h.2.2]
  ·rfl
  ·rw [xb7] at h;rw [xa9 h.1,a1x k h.2]
  ·rw [a0N k h]
  ·rw [a0N k h]
  ·cases h
theorem a0N:∀ (k:Nat) {a b:List Value},a37 k a b=true->a=b
 |0,_,_,h=>by cases h
 |k + 1,a,b,h=>by
  unfold a37 at h
  split at h
  ·rename_i e;cases e
  ·rfl
  ·rename_i e
   cases e
   rw [xb7] at h;rw [a1x _ h.1,a0N _ h.2]
  ·cases h
end
theorem a4K:∀ {a b:List (List Value)},a6A a b=true->a=b
 |[],[],_=>rfl
 |a::l,b::r,h=>by
  unfold a6A at h;rw [xb7] at h;rw [a0N _ h.1,a4K h.2]
 |[],_::_,h=>by cases h
 |_::_,[],h=>by cases h
theorem a6L:∀ {a b:List (Value×Value)},b0q a b=true->a=b
 |[],[],_=>rfl
 |(a,c)::l,(b,d)::r,h=>by
  unfold b0q at h;simp only [xb7] at h;rw [a1x _ h.1,a1x _ h.2.1,a6L h.2.2]
 |[],_::_,h=>by cases h
 |_::_,[],h=>by cases h
theorem b0t {a b:SA} (h:b1x a b=true):a=b:=by
 unfold b1x at h
 split at h
 ·rw [a0N _ h]
 ·simp only [xb7,beq_iff_eq] at h;rw [xa9 h.1,xa9 h.2.1,xa9 h.2.2.1,h.2.2.2.1,a4K h.2.2.2.2]
 ·rw [xb7] at h;rw [xa9 h.1,a6L h.2]
 ·rw [xb7] at h;rw [xa9 h.1,xj4 h.2]
 ·cases h
theorem a9p:∀ {a b:SH},hEq a b=true->a=b
 |[],[],_=>rfl
 |(i,a)::l,(j,b)::r,h=>by
  unfold hEq at h;simp only [xb7] at h;rw [xa9 h.1,b0t h.2.1,a9p h.2.2]
 |[],_::_,h=>by cases h
 |_::_,[],h=>by cases h
theorem a3P {E1 E2:Fr}:∀ {l:Fr},a3X E1 E2 l=true->∀ d v,(d,v) ∈ l->∃ u,g8 E1 d=some u/\g8 E2 d=some u
 |[],_,d,v,h=>by cases h
 |(d',v')::r,h,d,v,hm=>by
  unfold a3X at h;rw [xb7] at h;rcases xb4.1 hm with e|hm
  ·cases e
   have h1:=h.1
   split at h1
   ·rename_i u u' e1 e2;exact ⟨u,e1,by rw [e2,a1x _ h1]⟩
   ·cases h1
  ·exact a3P h.2 d v hm
theorem HasR.same {E1 E2:Fr} (h:HasR ρ N ds a E2) (he:a3X E1 E2 E1=true):HasR ρ N ds a E1:=⟨h.size,h.defers,fun t v ht=>by
 obtain ⟨u,e1,e2⟩:=a3P he t v (a1f ht);rw [ht] at e1
 cases e1
 exact h.at_ t v e2⟩
theorem EL.still (hT:TOk P C.T) {L:a0P} {M:Ea} {j:Nat} {dr:List Nat} (h:EL P ρ w L M) (hd:dr.all (t5 ops j)=true) (hs:a1a C.T H' (a0B dr L)=true) (hI:Inv P w0 σ H' w') (hle:Rle ρ σ):∃ M',EL P σ w' (a0B dr L) M'/\∀ p ∈ t2 ops j M,p ∈ M':=by
 induction h with
 |nil=>exact ⟨[],EL.nil,fun p hp=>by simp [t2] at hp⟩
 |@triv i L M h ih=>
  obtain ⟨M',h1,h2⟩:=ih hs;refine ⟨_,EL.triv (i:=i) h1,fun q hq=>?_⟩;obtain ⟨hq1,hq2⟩:=xi0.1 hq;rcases xb4.1 hq1 with rfl|hq1
  ·exact xb5
  ·exact xb6 _ (h2 q (xi0.2 ⟨hq1,hq2⟩))
 |@cons i t pv v p u L M hp hv hl h ih=>
  unfold a0B at hs |-;rw [List.filter_cons] at hs |-
  cases e:dr.any (Nat.beq i) with
  |true=>
   simp only [e,Bool.not_true,Bool.false_eq_true,if_false] at hs |-;obtain ⟨M',h1,h2⟩:=ih hs;refine ⟨M',h1,fun q hq=>?_⟩;obtain ⟨hq1,hq2⟩:=xi0.1 hq;rcases xb4.1 hq1 with rfl|hq1
   ·obtain ⟨k,hk,hki⟩:=xj8.1 e;obtain rfl:=xa9 hki;have:=xb8.1 hd _ hk;rw [this] at hq2
    cases hq2
   ·exact h2 q (xi0.2 ⟨hq1,hq2⟩)
  |false=>
   simp only [e,Bool.not_false,if_true] at hs |-;unfold a1a at hs;rw [xb7] at hs;obtain ⟨M',h1,h2⟩:=ih hs.2;have hs1:=hs.1
   split at hs1
   ·rename_i u' hu';obtain rfl:=a1x _ hs1;obtain ⟨b,o,x,e1,e2,e3⟩:=a4q hT hI hu' (hp.mono hle)
    cases e1
    obtain rfl:=VR.fn (hv.mono hle) e2;refine ⟨_,EL.cons (hp.mono hle) (hv.mono hle) e3 h1,fun q hq=>?_⟩;obtain ⟨hq1,hq2⟩:=xi0.1 hq;rcases xb4.1 hq1 with rfl|hq1
    ·exact xb5
    ·exact xb6 _ (h2 q (xi0.2 ⟨hq1,hq2⟩))
   ·cases hs1
theorem EL.mono {L:a0P} {M:Ea} (h:EL P ρ w L M) (hle:Rle ρ σ):EL P σ w L M:=by
 induction h with
 |nil=>exact EL.nil
 |cons hp hv hl _ ih=>exact EL.cons (hp.mono hle) (hv.mono hle) hl ih
 |triv _ ih=>exact EL.triv ih
theorem Stp.join {τ:Ren} {x y m0:Nat} (h:Stp ρ σ x y) (h2:Stp σ τ m0 n') (hx:m0<=x) (hy:y<=n'):Stp ρ τ m0 n' :=
 ⟨h.le.trans h2.le,fun j hj=>(h2.only j hj).trans (h.only j (by omega))⟩
structure PS (P:Program) (w0:World) (ρ:Ren) (N:Nat) (ds:List Deferred) (a:Act) (E:Fr) (H:SH) (w:World) (n hi b z:Nat) (li:Array Bool) (L:a0P) (M:Ea) (size m0:Nat):Prop where
 ha:HasR ρ N ds a E
 hI:Inv P w0 ρ H w
 hF:Fsh ρ n hi
 hG:∀ j,j < size->li.getD j true=false->Fsh ρ (b + z * j) (b + z * (j + 1))
 hb:m0<=b
 hbn:b + z * size<=n
 hL:EL P ρ w L M
theorem a33 {li:Array Bool} {i j:Nat} (h:(li.setIfInBounds i true).getD j true=false):li.getD j true=false/\j≠i:=by
 by_cases e:i=j
 ·subst e;rcases xj5 i li.size with h'|h'
  ·simp [h'] at h
  ·simp [xj6 (show (li.setIfInBounds i true).size<=i by simpa using h')] at h
 ·rw [getD_set_ne true e] at h;exact ⟨h,Ne.symm e⟩
theorem b2K {z i j s:Nat} (h:i < j) (hj:j<=s):z * (i + 1)<=z * j/\z * j<=z * s:=⟨xf4 z h,xf4 z hj⟩
theorem PS.next {hi b z m0 i x n1:Nat} {li:Array Bool} {L:a0P} {M:Ea} {dr:List Nat} {v:Option Value} {u:Value} {o:Oper} (hT:TOk P C.T) (h:PS P w0 ρ N ds a E H w n hi b z li L M ops.size m0) (hd:a47 N o=true) (hσ:Stp ρ σ x n1) (hu:OR σ v u) (hI:Inv P w0 σ H' w') (hdr:dr.all (t5 ops i)=true) (hst:a1a C.T H' (a0B dr L)=true)
  (hx:(x=n/\n'=n1)\/(x=b + z * i/\n1<=b + z * (i + 1)/\i < ops.size/\n'=n)) (hle:x<=n1) :
  ∃ M',(∀ p ∈ t2 ops i M,p ∈ M')/\PS P w0 σ N ds (a.put o.dst u) (a0y E o.dst v) H' w' n' hi b z (li.setIfInBounds i true) (a0B dr L) M' ops.size m0:=by
 obtain ⟨M',h1,h2⟩:=h.hL.still hT hdr hst hI hσ.le;refine ⟨M',h2,(h.ha.mono hσ.le).putE o.dst (a2b hd) hu,hI,fun j hj1 hj2=>?_,fun j hj hl k hk1 hk2=>?_,h.hb,?_,h1⟩
 ·rcases hx with ⟨rfl,rfl⟩|⟨rfl,hx,hi',rfl⟩
  ·exact (hσ.only j (xc4 hj1)).trans (h.hF j (by omega) hj2)
  ·have:z * (i + 1)<=z * ops.size:=xf4 z hi';have:=h.hbn;exact (hσ.only j (xc4 (by omega))).trans (h.hF j (by omega) hj2)
 ·obtain ⟨hl,hne⟩:=a33 hl;have h0:=h.hG j hj hl k hk1 hk2;have hj2:z * (j + 1)<=z * ops.size:=xf4 z hj;have:=h.hbn;rcases hx with ⟨rfl,rfl⟩|⟨rfl,hx,hi',rfl⟩
  ·exact (hσ.only k (xc7 (by omega))).trans h0
  ·rcases Nat.lt_or_gt_of_ne hne with hlt|hlt
   ·have:=(b2K (z:=z) (s:=ops.size) hlt (by omega)).1;exact (hσ.only k (xc7 (by omega))).trans h0
   ·have:=(b2K (z:=z) (s:=ops.size) hlt (by omega)).1;exact (hσ.only k (xc4 (by omega))).trans h0
 ·have:=h.hbn;rcases hx with ⟨rfl,rfl⟩|⟨rfl,hx,hi',rfl⟩ <;> omega
theorem a6Z {i:Nat} {o:Oper} {b:Bool} {K:Act->World->Prop} (hi:ops[i]?=some o) (hw:Region.wanted o (yielded ops a.tmps)=b) (h1:b=true->Oper.wp P ⟨o.dst,o.op,o.type,o.pos,o.after,none⟩ a w K Q) (h2:b=false->K (a.put o.dst undef) w):wpOp P ops Q i K a w:=by
 unfold wpOp;simp only [hi]
 cases b with
 |true=>rw [xd8 hw];exact xc7 (a4T (h1 rfl))
 |false=>rw [xd9 (by rw [hw];simp)];exact h2 rfl
theorem b1S (hC:COk P C) (hc:a0e P call) (hQ:PQ Q) (hsel:Region.noSelect ops=true) (hd:ops.toList.all (a47 N)=true) (p:Pl) :
  (∀ f li b z L E H n E' H' n',(plB ops p).1 f li=true->xPl C call ops.toList p b z L E H n=.ok (E',H',n')->n<=n'/\∀ {w0 w:World} {ρ:Ren} {ds:List Deferred} {a:Act} {hi m0:Nat} {M:Ea},PS P w0 ρ N ds a E H w n hi b z li L M ops.size m0->n'<=hi->(∀ a' w' σ,Stp ρ σ m0 n'->HasR σ N ds a' E'->Inv P w0 σ H' w'->Q .normal a' w')->wpT P ops Q f M li a w) /\
  (∀ f li b z L E H n E' H' n',(plB ops p).2 f li=true->xPl C call ops.toList p b z L E H n=.ok (E',H',n')->n<=n'/\∀ {w0 w:World} {ρ:Ren} {ds:List Deferred} {a:Act} {hi m0:Nat} {M:Ea},PS P w0 ρ N ds a E H w n hi b z li L M ops.size m0->n'<=hi->(∀ a' w' σ,Stp ρ σ m0 n'->HasR σ N ds a' E'->Inv P w0 σ H' w'->Q .normal a' w')->∀ j ∈ a5j p,wpOp P ops Q j (fun a' w'=>(∀ q ∈ t2 ops j M,q.2 w')/\wpT P ops Q f (t2 ops j M) (li.setIfInBounds j true) a' w') a w):=by
 have hdo:∀ {i:Nat} {o:Oper},ops[i]?=some o->a47 N o=true:=fun {i o} hi=>xb8.1 hd o (by
  have:ops.toList[i]?=some o:=by simpa using hi
  exact xc1 this)
 induction p with
 |nil=>
  refine ⟨fun f li b z L E H n E' H' n' hp h=>?_,fun f li b z L E H n E' H' n' hp h=>by cases hp⟩
  cases h
  have hr:Region.ready .any ops li=[]:=List.isEmpty_iff.1 hp;refine ⟨xc5 _,fun hS hn k=>?_⟩;have hq:=k _ _ _ (Stp.refl _ _ _) hS.ha hS.hI
  cases f with
  |zero=>exact ⟨hr,hq⟩
  |succ f=>exact ⟨fun _=>hq,by rw [hr];simp⟩
 |stop=>
  exact ⟨fun f li b z L E H n E' H' n' hp h=>(by cases hp),fun f li b z L E H n E' H' n' hp h=>by cases h⟩
 |take i p ih=>
  refine ⟨fun f li b z L E H n E' H' n' hp h=>?_,fun f li b z L E H n E' H' n' hp h=>by cases hp⟩
  cases f with
  |zero=>cases hp
  |succ f=>
  replace hp:(Nat.blt i ops.size && (Region.free .any ops li i && ((Region.ready .any ops li).contains i && (plB ops p).1 f (li.setIfInBounds i true))))=true:=hp;simp only [xb7] at hp;obtain ⟨hp1,hp2,hp3,hp4⟩:=hp;replace h:a8P C ops.toList i (xPl C call ops.toList p) b z L E H n=.ok (E',H',n'):=h;unfold a8P at h;rw [s4] at h
  split at h
  ·rename_i o ho;have ho:ops[i]?=some o:=by simpa using ho
   have hQ':∀ v c (a:Act) w,Q (.panic c) (a.put o.dst v) w->Q (.panic c) a w:=fun v c a w=>hQ c a w o.dst v;have hsp:=Region.noSelect_spec hsel;have hrm:i ∈ Region.ready .any ops li:=by simpa using hp3
   have G:∀ {z:Nat} {ρ:Ren},(∀ j,j < ops.size->li.getD j true=false->Fsh ρ (b + z * j) (b + z * (j + 1)))->∀ j,j < ops.size->(li.setIfInBounds i true).getD j true=false->Fsh ρ (b + z * j) (b + z * (j + 1)):=fun hG j hj hl=>hG j hj (a33 hl).1
   split at h
   ·rename_i hw;obtain ⟨h1,h2⟩:=ih.1 f _ _ _ _ _ _ _ _ _ _ hp4 h;refine ⟨h1,fun {w0 w ρ ds a hi m0 M} hS hn k=>?_⟩;refine a3a (S:=fun _=>True) ho hsp (hQ' undef) f M li a w (Region.free_spec ho hp2) hrm (xc4 ⟨a0k hS.ha hw,rfl⟩) trivial hS.hL.all ?_;exact h2 ⟨hS.ha.putE o.dst (a2b (hdo ho)) VR.undef,hS.hI,hS.hF,G hS.hG,hS.hb,hS.hbn,EL.triv hS.hL⟩ hn k
   ·rename_i hw
    split at h
    ·rename_i t x hop
     split at h
     ·rename_i pv hx
      split at h
      ·rename_i v hv;obtain ⟨h1,h2⟩:=ih.1 f _ _ _ _ _ _ _ _ _ _ hp4 h;refine ⟨h1,fun {w0 w ρ ds a hi m0 M} hS hn k=>?_⟩;obtain ⟨p',hp',gx⟩:=hS.ha.ev hx;obtain ⟨bb,oo,u,rfl,hu,hl⟩:=a4q hC.T hS.hI hv hp';refine a3a (S:=fun w=>Ld P t ⟨bb,oo,none⟩ u w) ho hsp (hQ' u) f M li a w (Region.free_spec ho hp2) hrm (xc7 ⟨a0k hS.ha hw,fun w2 hw2=>?_⟩) hl hS.hL.all ?_
       ·have hw2:(loadVar t ⟨bb,oo,none⟩).run P w2=.ok u w2:=hw2;obtain ⟨dst,op,ty,pos,after,g⟩:=o;dsimp only at hop;subst hop;simp only [execOp,hS.ha.full.ev gx,Instr.loadAt,Instr.sureAddr,Sem.run_bind,Sem.run_pure,Result.andThen_ok,hw2]
       ·exact h2 ⟨hS.ha.putE o.dst (a2b (hdo ho)) (v:=some v) hu,hS.hI,hS.hF,G hS.hG,hS.hb,hS.hbn,EL.cons hp' hu hl hS.hL⟩ hn k
      ·cases h
     ·cases h
    ·split at h
     ·rename_i v hv;obtain ⟨h1,h2⟩:=ih.1 f _ _ _ _ _ _ _ _ _ _ hp4 h;refine ⟨h1,fun {w0 w ρ ds a hi m0 M} hS hn k=>?_⟩;obtain ⟨u,hu,hr⟩:=a87 hC.T hC.Z hC.q hS.ha hv;refine a3a (S:=fun _=>True) ho hsp (hQ' u) f M li a w (Region.free_spec ho hp2) hrm (xc7 ⟨a0k hS.ha hw,fun w2 _=>hr o.dst o.type o.pos o.after w2⟩) trivial hS.hL.all ?_;exact h2 ⟨hS.ha.putE o.dst (a2b (hdo ho)) (v:=some v) hu,hS.hI,hS.hF,G hS.hG,hS.hb,hS.hbn,EL.triv hS.hL⟩ hn k
     ·cases h
   ·cases h
  ·cases h
 |one i dr p ih=>
  refine ⟨fun f li b z L E H n E' H' n' hp h=>?_,fun f li b z L E H n E' H' n' hp h=>by cases hp⟩
  cases f with
  |zero=>cases hp
  |succ f=>
  replace hp:((Region.ready .any ops li).all (Nat.beq i) && ((Region.ready .any ops li).contains i && (dr.all (t5 ops i) && (plB ops p).1 f (li.setIfInBounds i true))))=true:=hp;simp only [xb7] at hp;obtain ⟨hp1,hp2,hp3,hp4⟩:=hp;replace h:b1C C call ops.toList i dr (xPl C call ops.toList p) b z L E H n=.ok (E',H',n'):=h;unfold b1C at h;rw [s4] at h
  split at h
  ·rename_i o ho;have ho:ops[i]?=some o:=by simpa using ho
   split at h
   ·rename_i wb hw
    split at h
    ·rename_i v H1 n1 hr;have key:n<=n1/\(wb=true->Snd P o.op E H n (v,H1,n1))/\(wb=false->v=some undef/\H1=H/\n1=n):=by
      cases wb with
      |true=>
       have:=a2S hC hc hr;exact ⟨this.1,fun _=>this,fun h=>by cases h⟩
      |false=>cases hr;exact ⟨xc5 _,(fun h=>by cases h),fun _=>⟨rfl,rfl,rfl⟩⟩
     cases hst:a1a C.T H1 (a0B dr L) with
     |false=>rw [hst] at h;cases h
     |true=>
     rw [hst] at h;obtain ⟨h1,h2⟩:=ih.1 f _ _ _ _ _ _ _ _ _ _ hp4 h;refine ⟨xc6 key.1 h1,fun {w0 w ρ ds a hi m0 M} hS hn k=>⟨fun h0=>(by rw [h0] at hp2;cases hp2),fun j hj=>?_⟩⟩;obtain rfl:=xa9 (xb8.1 hp1 j hj);have fin:∀ u w' σ,Stp ρ σ n n1->OR σ v u->Inv P w0 σ H1 w'->(∀ q ∈ t2 ops i M,q.2 w')/\wpT P ops Q f (t2 ops i M) (li.setIfInBounds i true) (a.put o.dst u) w':=fun u w' σ hσ hu hI=>by
      obtain ⟨M',h3,h4⟩:=hS.next hC.T (hdo ho) hσ hu hI hp3 hst (xc7 ⟨rfl,rfl⟩) key.1;have hm:m0<=n:=by have:=hS.hb;have:=hS.hbn;omega
      exact ⟨fun q hq=>h4.hL.all q (h3 q hq),a2H f h3 (h2 h4 hn fun a' w' τ hτ ha' hI'=>k a' w' τ (hσ.join hτ hm h1) ha' hI')⟩
     refine a6Z ho (a0k hS.ha hw) (fun e=>(key.2.1 e).2 hS.ha hS.hI hS.hF (xc6 h1 hn) _ _ _ _ _ _ fin) fun e=>?_;obtain ⟨rfl,rfl,rfl⟩:=key.2.2 e;exact fin _ _ ρ (Stp.refl _ _ _) VR.undef hS.hI
    ·cases h
   ·cases h
  ·cases h
 |grp wd p ih=>
  refine ⟨fun f li b z L E H n E' H' n' hp h=>?_,fun f li b z L E H n E' H' n' hp h=>by cases hp⟩;replace h:xPl C call ops.toList p n wd L E H (n + wd * ops.toList.length)=.ok (E',H',n'):=h;obtain ⟨h1,h2⟩:=ih.1 f _ _ _ _ _ _ _ _ _ _ hp h;rw [xf5] at h1 h2;refine ⟨by omega,fun {w0 w ρ ds a hi m0 M} hS hn k=>h2 ⟨hS.ha,hS.hI,fun j hj1 hj2=>hS.hF j (by omega) hj2,fun j hj hl q hq1 hq2=>?_,?_,xc5 _,hS.hL⟩ hn k⟩
  ·have:wd * (j + 1)<=wd * ops.size:=xf4 wd hj;exact hS.hF q (by omega) (by omega)
  ·have:=hS.hb;have:=hS.hbn;omega
 |alt i dr p more ih im=>
  have chain:∀ f li b z L E H n E' H' n',(Nat.blt i ops.size && (!li.getD i true && (dr.all (t5 ops i) && ((plB ops p).1 f (li.setIfInBounds i true) && (plB ops more).2 f li))))=true->xPl C call ops.toList (.alt i dr p more) b z L E H n=.ok (E',H',n')->n<=n'/\∀ {w0 w:World} {ρ:Ren} {ds:List Deferred} {a:Act} {hi m0:Nat} {M:Ea},PS P w0 ρ N ds a E H w n hi b z li L M ops.size m0->n'<=hi->(∀ a' w' σ,Stp ρ σ m0 n'->HasR σ N ds a' E'->Inv P w0 σ H' w'->Q .normal a' w')->∀ j ∈ a5j (.alt i dr p more),wpOp P ops Q j (fun a' w'=>(∀ q ∈ t2 ops j M,q.2 w')/\wpT P ops Q f (t2 ops j M) (li.setIfInBounds j true) a' w') a w:=by
   intro f li b z L E H n E' H' n' hp h;simp only [xb7,xb9] at hp;obtain ⟨hp1,hp2,hp3,hp4,hp5⟩:=hp;have hp1:i < ops.size:=by simpa [xb1] using hp1
   replace h:b1D C call ops.toList i dr (xPl C call ops.toList p) more.isStop (xPl C call ops.toList more) b z L E H n=.ok (E',H',n'):=h;unfold b1D at h;rw [s4] at h
   split at h
   ·rename_i o ho;have ho:ops[i]?=some o:=by simpa using ho
    split at h
    ·rename_i wb hw
     split at h
     ·rename_i v H1 n1 hr;have key:b + z * i<=n1/\(wb=true->Snd P o.op E H (b + z * i) (v,H1,n1))/\(wb=false->v=some undef/\H1=H/\n1=b + z * i):=by
       cases wb with
       |true=>
        have:=a2S hC hc hr;exact ⟨this.1,fun _=>this,fun h=>by cases h⟩
       |false=>cases hr;exact ⟨xc5 _,(fun h=>by cases h),fun _=>⟨rfl,rfl,rfl⟩⟩
      cases hst:(Nat.ble n1 (b + z * (i + 1)) && a1a C.T H1 (a0B dr L)) with
      |false=>rw [hst] at h;cases h
      |true=>
      rw [hst] at h;rw [xb7] at hst;obtain ⟨hst1,hst2⟩:=hst;have hst1:=xe8 hst1;have first:∀ {E1:Fr} {H2:SH} {n2:Nat},xPl C call ops.toList p b z (a0B dr L) (a0y E o.dst v) H1 n=.ok (E1,H2,n2)->n<=n2/\∀ {w0 w:World} {ρ:Ren} {ds:List Deferred} {a:Act} {hi m0:Nat} {M:Ea},PS P w0 ρ N ds a E H w n hi b z li L M ops.size m0->n2<=hi->(∀ a' w' σ,Stp ρ σ m0 n2->HasR σ N ds a' E1->Inv P w0 σ H2 w'->Q .normal a' w')->wpOp P ops Q i (fun a' w'=>(∀ q ∈ t2 ops i M,q.2 w')/\wpT P ops Q f (t2 ops i M) (li.setIfInBounds i true) a' w') a w:=by
       intro E1 H2 n2 hx;obtain ⟨h1,h2⟩:=ih.1 f _ _ _ _ _ _ _ _ _ _ hp4 hx;refine ⟨h1,fun {w0 w ρ ds a hi m0 M} hS hn k=>?_⟩;have fin:∀ u w' σ,Stp ρ σ (b + z * i) n1->OR σ v u->Inv P w0 σ H1 w'->(∀ q ∈ t2 ops i M,q.2 w')/\wpT P ops Q f (t2 ops i M) (li.setIfInBounds i true) (a.put o.dst u) w':=fun u w' σ hσ hu hI=>by
        obtain ⟨M',h3,h4⟩:=hS.next hC.T (hdo ho) hσ hu hI hp3 hst2 (xc4 ⟨rfl,hst1,hp1,rfl⟩) key.1;have hm:m0<=b + z * i:=by have:=hS.hb;omega
        have hz:z * (i + 1)<=z * ops.size:=xf4 z hp1;have:=hS.hbn;exact ⟨fun q hq=>h4.hL.all q (h3 q hq),a2H f h3 (h2 h4 hn fun a' w' τ hτ ha' hI'=>k a' w' τ (hσ.join hτ hm (by omega)) ha' hI')⟩
       refine a6Z ho (a0k hS.ha hw) (fun e=>(key.2.1 e).2 hS.ha hS.hI (hi:=b + z * (i + 1)) (hS.hG i hp1 hp2) hst1 _ _ _ _ _ _ fin) fun e=>?_;obtain ⟨rfl,rfl,rfl⟩:=key.2.2 e;exact fin _ _ ρ (Stp.refl _ _ _) VR.undef hS.hI
      cases hl:more.isStop with
      |true=>
       rw [hl] at h;obtain ⟨h1,h2⟩:=first h;refine ⟨h1,fun {w0 w ρ ds a hi m0 M} hS hn k j hj=>?_⟩;have he:a5j more=[]:=by cases more <;> first|rfl|cases hl
       rcases xb4.1 (show j ∈ i::a5j more from hj) with rfl|hj
       ·exact h2 hS hn k
       ·rw [he] at hj;cases hj
      |false=>
       rw [hl] at h;dsimp only [cond_true,cond_false] at h
       split at h
       ·rename_i E1 H1' n1' E2 H2 n2 hx1 hx2
        cases hs:(a3X E1 E2 E1 && (hEq H1' H2 && Nat.beq n1' n2)) with
        |false=>rw [hs] at h;cases h
        |true=>
        rw [hs] at h
        cases h
        simp only [xb7] at hs;obtain ⟨hs1,hs2,hs3⟩:=hs;obtain rfl:=a9p hs2;obtain rfl:=xa9 hs3;obtain ⟨h1,h2⟩:=first hx1;obtain ⟨h3,h4⟩:=im.2 f _ _ _ _ _ _ _ _ _ _ hp5 hx2;refine ⟨h1,fun {w0 w ρ ds a hi m0 M} hS hn k j hj=>?_⟩;rcases xb4.1 (show j ∈ i::a5j more from hj) with rfl|hj
        ·exact h2 hS hn k
        ·exact h4 hS hn (fun a' w' σ hσ ha' hI'=>k a' w' σ hσ (ha'.same hs1) hI') j hj
       ·cases h
       ·cases h
     ·cases h
    ·cases h
   ·cases h
  refine ⟨fun f li b z L E H n E' H' n' hp h=>?_,fun f li b z L E H n E' H' n' hp h=>chain f li b z L E H n E' H' n' hp h⟩
  cases f with
  |zero=>cases hp
  |succ f=>
  replace hp:((Region.ready .any ops li).all (fun j=>(i::a5j more).any (Nat.beq j)) && ((Region.ready .any ops li).contains i && (Nat.blt i ops.size && (!li.getD i true && (dr.all (t5 ops i) && ((plB ops p).1 f (li.setIfInBounds i true) && (plB ops more).2 f li))))))=true:=hp;rw [xb7,xb7] at hp;obtain ⟨hp1,hp2,hp3⟩:=hp;obtain ⟨h1,h2⟩:=chain f li b z L E H n E' H' n' hp3 h;refine ⟨h1,fun {w0 w ρ ds a hi m0 M} hS hn k=>⟨fun h0=>(by rw [h0] at hp2;cases hp2),fun j hj=>h2 hS hn k j ?_⟩⟩;obtain ⟨q,hq,hqj⟩:=xj8.1 (xb8.1 hp1 j hj);rw [xa9 hqj];exact hq
end
end Go.Proofs.YtejnpppejalhfacGreat
