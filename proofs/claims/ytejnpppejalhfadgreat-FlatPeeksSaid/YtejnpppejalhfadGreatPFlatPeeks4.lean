/- Texts that the proof stands on, one behind the other: Cx8, Cx9, Cx10, Cx11, Cx12, Cx13. -/
import Derived.Test.YtejnpppejalhfadGreatPFlatPeeks3
set_option linter.unusedVariables false
set_option linter.unusedSimpArgs false
namespace Go.Proofs.YtejnpppejalhfadGreat
set_option maxRecDepth 100000
set_option maxHeartbeats 8000000
open Go.RowKit Go.Sort
section
variable {F:Nat->Prop} {w0 w w':World} {Γ:List Asr} {A:Asr}
theorem St.self (h:A.holds w):St (fps [A]) w w [A] :=
 ⟨rfl,rfl,rfl,xc4 _,fun _ _ _=>rfl,by simpa using h,fun B hB k hk=>xc3 ⟨B,hB,hk⟩,by simp⟩
theorem St.grown1 {b:Nat} (h:St (fps [A]) w w' Γ) (hb:A.fp=some b):w.grownBy w' (some b) :=
 ⟨h.os,h.tape,h.output,h.size,fun k hk hne=>h.base k hk (fun ⟨B,hB,e⟩=>by
  rw [xh6.1 hB,hb] at e;exact hne (by rw [e]))⟩
theorem St.grown0 (h:St nF w w' Γ):w.grownBy w' none:=⟨h.os,h.tape,h.output,h.size,fun k hk _=>h.base k hk id⟩
end
section
variable {P:Program} {T:TT} {q:EqT} {w0 w w':World} {ρ σ:Ren} {N:Nat} {ds:List Deferred} {a:Act} {E:Fr} {H:SH} {n:Nat} {x:Nat×Nat} {i:Nat}
theorem Fits.blk {L:List Value} {b y:Nat} {o:Obj} (h:Fits P ρ y (.blk L) o) (hb:w.heap[b]?=some o):∃ M,LR ρ L M/\Asr.holds w (.blk b M):=by
 obtain ⟨M,t,h1,h2⟩:=h;exact ⟨M,h1,t,by rw [hb,h2]⟩
theorem Fits.of_blk {L M:List Value} {b y:Nat} (h:Asr.holds w (.blk b M)) (hr:LR ρ L M):∃ o,w.heap[b]?=some o/\Fits P ρ y (.blk L) o:=by
 obtain ⟨t,h⟩:=h;exact ⟨_,h,M,t,hr,rfl⟩
theorem Fits.row {e sz cap b y:Nat} {u:Bool} {rows:List (List Value)} {o:Obj} (h:Fits P ρ y (.row e sz rows cap u) o) (hb:w.heap[b]?=some o):∃ rs,RR ρ rows rs/\Asr.holds w (.row e sz (.slice (some ⟨b,0,none⟩) rs.length (cap + y)) rs)/\(u=false->y=0):=by
 obtain ⟨rs,cur,h1,h2,h3,h4,h5,h6,h7,h8,h9⟩:=h;exact ⟨rs,h1,⟨⟨f5 h7,.inr ⟨b,cap + y,cur,rfl,xe7 _,by rw [hb,h2],h3,h4,h5,h6⟩⟩,h7,h8⟩,h9⟩
theorem Fits.of_row {e sz cap b y m c:Nat} {u:Bool} {rows rs:List (List Value)} (h:Asr.holds w (.row e sz (.slice (some ⟨b,0,none⟩) m c) rs)) (hr:RR ρ rows rs) (hc:c=cap + y) (hu:u=false->y=0):∃ o,w.heap[b]?=some o/\Fits P ρ y (.row e sz rows cap u) o:=by
 obtain ⟨⟨h1,h2⟩,h3,h4⟩:=h;rcases h2 with ⟨e,_⟩|⟨g,c',cur,e,_,h5,h6,h7,h8,h9⟩
 ·cases e
 ·cases e
  subst hc;exact ⟨_,h5,rs,cur,hr,rfl,h6,h7,h8,h9,h3,h4,hu⟩
theorem RR.get {l m:List (List Value)} {k:Nat} {r:List Value} (h:RR ρ l m) (hk:l[k]?=some r):∃ s,m[k]?=some s/\LR ρ r s:=h.2 k r hk
theorem RR.set {l m:List (List Value)} {k:Nat} {r s:List Value} (h:RR ρ l m) (hr:LR ρ r s):RR ρ (l.set k r) (m.set k s):=by
 refine ⟨by simp [h.1],fun j q hq=>?_⟩;rw [xc9] at hq |-;by_cases e:k=j
 ·rw [xd6 e] at hq;rw [xd6 e]
  split at hq
  ·rename_i hlt
   cases hq
   rw [xd6 (by rw [h.1];exact hlt)];exact ⟨s,rfl,hr⟩
  ·cases hq
 ·rw [xd7 e] at hq;rw [xd7 e];exact h.2 j q hq
theorem RR.app {l m l' m':List (List Value)} (h:RR ρ l m) (h':RR ρ l' m'):RR ρ (l++l') (m++m'):=by
 refine ⟨by simp [h.1,h'.1],fun j q hq=>?_⟩;by_cases hj:j < l.length
 ·rw [xa4 hj] at hq;rw [xa4 (by rw [h.1];exact hj)];exact h.2 j q hq
 ·rw [xa3 (by omega)] at hq;rw [xa3 (by rw [h.1];omega),h.1];exact h'.2 _ q hq
theorem RR.take {l m:List (List Value)} (h:RR ρ l m) (k:Nat):RR ρ (l.take k) (m.take k):=by
 refine ⟨by simp [h.1],fun j q hq=>?_⟩;rw [xe0] at hq |-
 split at hq
 ·rename_i hlt;rw [xd6 hlt];exact h.2 j q hq
 ·cases hq
theorem RR.drop {l m:List (List Value)} (h:RR ρ l m) (k:Nat):RR ρ (l.drop k) (m.drop k):=by
 refine ⟨by simp [h.1],fun j q hq=>?_⟩;rw [xe1] at hq |-;exact h.2 _ q hq
theorem RR.rep {r:List Value} (h:LR ρ r r) (k:Nat):RR ρ (List.replicate k r) (List.replicate k r):=by
 refine ⟨rfl,fun j q hq=>?_⟩;have:=xj9 (xc0 hq);subst this;exact ⟨q,hq,h⟩
theorem RR.one1 {l m:List (List Value)} (h:RR ρ l m) (hl:∀ r ∈ l,r.all (·.oneCell')=true):∀ s ∈ m,s.all (·.oneCell')=true:=fun s hs=>by
 obtain ⟨j,hj⟩:=xc8.1 hs;have hlt:j < l.length:=by rw [<- h.1];exact a7 hj
 obtain ⟨s',h1,h2⟩:=h.2 j _ (xd0 hlt);rw [hj] at h1
 cases h1
 rw [h2.one];exact hl _ (List.getElem_mem hlt)
def Snd (P:Program) (op:Op) (E:Fr) (H:SH) (n:Nat) (r:Option Value×SH×Nat):Prop :=
 n<=r.2.2/\∀ {w0 w:World} {ρ:Ren} {N:Nat} {ds:List Deferred} {a:Act} {hi:Nat},HasR ρ N ds a E->Inv P w0 ρ H w->Fsh ρ n hi->r.2.2<=hi ->
  ∀ dst ty pos after (K:Act->World->Prop) (Q:Exit->Act->World->Prop),(∀ u w' σ,Stp ρ σ n r.2.2->OR σ r.1 u->Inv P w0 σ r.2.1 w'->K (a.put dst u) w')->Oper.wp P ⟨dst,op,ty,pos,after,none⟩ a w K Q
theorem Snd.of_runs {op:Op} {v:Option Value} (h:∀ {ρ:Ren} {N:Nat} {ds:List Deferred} {a:Act},HasR ρ N ds a E->∃ u,OR ρ v u/\∀ dst ty pos after,t8 P ⟨dst,op,ty,pos,after,none⟩ a u):Snd P op E H n (v,H,n) :=
 ⟨xc4 _,fun ha hI _ _ dst ty pos after K Q k=>by
  obtain ⟨u,hu,hr⟩:=h ha;unfold Oper.wp;rw [hr dst ty pos after _];exact k u _ _ (Stp.refl _ _ _) hu hI⟩
theorem Snd.of_yl {op:Op} {v:Value} (h:∀ {ρ:Ren} {N:Nat} {ds:List Deferred} {a:Act},HasR ρ N ds a E->Yl P ρ a op v):Snd P op E H n (some v,H,n):=Snd.of_runs h
theorem Snd.of_gets {op:Op} {v:Option Value} (h:∀ {w0 w:World} {ρ:Ren} {N:Nat} {ds:List Deferred} {a:Act},HasR ρ N ds a E->Inv P w0 ρ H w->∃ u,OR ρ v u/\∀ dst ty pos after,Gets P ⟨dst,op,ty,pos,after,none⟩ N ds (t9 a) w (fun v' w'=>v'=u/\w'=w)):Snd P op E H n (v,H,n) :=
 ⟨xc4 _,fun ha hI _ _ dst ty pos after K Q k=>by
  obtain ⟨u,hu,hr⟩:=h ha hI;exact hr dst ty pos after _ ha.full K Q (fun v' w' hv=>by obtain ⟨rfl,rfl⟩:=hv;exact k _ _ _ (Stp.refl _ _ _) hu hI)⟩
theorem Snd.of_new {op:Op} {v:Value} {s:SA} (h:∀ {w0 w:World} {ρ:Ren} {N:Nat} {ds:List Deferred} {a:Act},HasR ρ N ds a E->Inv P w0 ρ H w->∀ dst ty pos after,Gets P ⟨dst,op,ty,pos,after,none⟩ N ds (t9 a) w (fun u w'=>∃ x:Nat×Nat,(∀ τ:Ren,Rle ρ τ->τ n=some x->VR τ v u)/\w.grownBy w' none/\w.heap.size<=x.1/\∃ o,w'.heap[x.1]?=some o/\∀ τ:Ren,Rle ρ τ->τ n=some x->Fits P τ x.2 s o)):Snd P op E H n (some v,x9 H n s,n + 1) :=
 ⟨Nat.le_succ _,fun {w0 w ρ N ds a hi} ha hI hF hn dst ty pos after K Q k=>by
  have hfr:ρ n=none:=hF n (xc4 _) hn;refine h ha hI dst ty pos after _ ha.full K Q fun u w' ⟨x,hv,hg,hb,o,ho,hf⟩=>?_;exact k u w' (upR ρ n x) (a5n hfr) (hv _ (a0m hfr) a0b) (hI.new hfr hg ho hb (hf _ (a0m hfr) a0b))⟩
theorem Snd.of_upd {op:Op} {v:Option Value} {s s':SA} (hi:d4 H i=some s) (h:∀ {w0 w:World} {ρ:Ren} {N:Nat} {ds:List Deferred} {a:Act} {x:Nat×Nat} {o:Obj},HasR ρ N ds a E->Inv P w0 ρ H w->ρ i=some x->w.heap[x.1]?=some o->Fits P ρ x.2 s o->∀ dst ty pos after,Gets P ⟨dst,op,ty,pos,after,none⟩ N ds (t9 a) w (fun u w'=>OR ρ v u/\w.grownBy w' (some x.1)/\∃ o',w'.heap[x.1]?=some o'/\Fits P ρ x.2 s' o')):Snd P op E H n (v,y5 H i s',n) :=
 ⟨xc4 _,fun {w0 w ρ N ds a hi'} ha hI hF hn dst ty pos after K Q k=>by
  obtain ⟨x,o,h1,h2,h3,_⟩:=hI.held i s hi;refine h ha hI h1 h2 h3 dst ty pos after _ ha.full K Q fun u w' ⟨hv,hg,o',ho,hf⟩=>?_;exact k u w' ρ (Stp.refl _ _ _) hv (hI.upd hi h1 hg ho hf)⟩
theorem a1A {b o k m:Nat} {M:List Value} (h:w.rangeAt b o M):w.rangeAt b (o + k) ((M.drop k).take m):=fun j v hj=>by
 rw [xe0] at hj
 split at hj
 ·rw [xe1] at hj;have:=h (k + j) v hj
  rwa [<- xe2] at this
 ·cases hj
theorem a1V (hI:Inv P w0 ρ H w) {o m:Nat} {L:List Value} (h:d9 H i o m=some L):∃ x M,ρ i=some x/\LR ρ L M/\w.rangeAt x.1 o M/\L.length=m:=by
 unfold d9 at h
 split at h
 ·rename_i L0 hi;obtain ⟨h1,h2⟩:=a8 h
  cases h2
  have h1:=xe5 h1;obtain ⟨x,ob,g1,g2,g3,_⟩:=hI.held _ _ hi;obtain ⟨M,hM,hh⟩:=g3.blk g2;refine ⟨x,(M.drop o).take m,g1,(hM.drop o).take m,?_,by simp;omega⟩;have:=a1A (k:=o) (m:=m) ((St.self hh).blkR 0 rfl)
  rwa [xd8] at this
 ·rename_i e sz rows cap u hi;rw [n9] at h
  split at h
  ·rename_i r hr;obtain ⟨h1,h2⟩:=a8 h
   cases h2
   have h1:=xe5 h1;obtain ⟨x,ob,g1,g2,g3,_⟩:=hI.held _ _ hi;obtain ⟨rs,hR,hh,_⟩:=g3.row g2;obtain ⟨r',hr',hrr⟩:=hR.get hr;refine ⟨x,(r'.drop (o % sz)).take m,g1,(hrr.drop _).take m,?_,by simp;omega⟩;have:=a1A (k:=o % sz) (m:=m) ((St.self hh).rowR 0 rfl hr')
   rwa [xd8,xf5,xf6] at this
  ·cases h
 ·cases h
theorem a3e (hT:TOk P T) (hI:Inv P w0 ρ H w) {t:TypeId} {p v p':Value} (h:a2l T H t p=some v) (hp:VR ρ p p'):∃ b o u,p'=.pointer (some ⟨b,o,none⟩)/\VR ρ v u/\Ld P t ⟨b,o,none⟩ u w:=by
 obtain ⟨Tb,hTb,hget⟩:=hT.tabs [t];unfold a2l at h
 split at h
 ·rename_i i o;obtain ⟨x,hx,rfl⟩:=VR.ptr hp
  split at h
  ·rename_i ht
   split at h
   ·rename_i v' hc
    cases h
    obtain ⟨x',M,h1,h2,h3,_⟩:=a1V hI hc;rw [hx] at h1;cases h1;obtain ⟨u,r,rfl,hu,hr⟩:=LR.inv h2;have:=h3 0 u rfl;exact ⟨_,_,u,rfl,hu,Ld.sc hTb (hget t _ (by simp) ht) this⟩
   ·cases h
  ·rename_i ht
   split at h
   ·rename_i v' hc
    cases h
    obtain ⟨x',M,h1,h2,h3,_⟩:=a1V hI hc;rw [hx] at h1;cases h1;obtain ⟨u,r,rfl,hu,hr⟩:=LR.inv h2;have:=h3 0 u rfl;exact ⟨_,_,u,rfl,hu,Ld.sl hTb (hget t _ (by simp) ht) this⟩
   ·cases h
  ·rename_i ht;obtain ⟨L,hL,rfl⟩:=xh4.1 h;obtain ⟨x',M,h1,h2,h3,h4⟩:=a1V hI hL;rw [hx] at h1;cases h1;exact ⟨_,_,_,rfl,VR.mkAgg h2,Ld.st hTb (hget t _ (by simp) ht) h3 (by rw [h2.len,h4])⟩
  ·rename_i ht;obtain ⟨L,hL,rfl⟩:=xh4.1 h;obtain ⟨x',M,h1,h2,h3,h4⟩:=a1V hI hL;rw [hx] at h1;cases h1;exact ⟨_,_,_,rfl,VR.mkAgg h2,Ld.ar hTb (hget t _ (by simp) ht) h3 (by rw [h2.len,h4])⟩
  ·cases h
 ·cases h
theorem b0p (hT:TOk P T) {t:TypeId} {y:Operand} {p v:Value} (hy:sEv E y=some p) (h:a2l T H t p=some v):Snd P (.load t y) E H n (some v,H,n) :=
 Snd.of_gets fun ha hI=>by
  obtain ⟨p',hp,hev⟩:=ha.ev hy;obtain ⟨b,o,u,rfl,hu,hl⟩:=a3e hT hI h hp;exact ⟨u,hu,fun _ _ _ _=>a6z hev hl⟩
theorem a8n (hT:TOk P T) {t:TypeId} {y z:Operand} {p v:Value} {H':SH} (hy:sEv E y=some p) (hz:sEv E z=some v) (h:a43 T H t v p=some H'):Snd P (.store t y z) E H n (none,H',n):=by
 obtain ⟨Tb,hTb,hget⟩:=hT.tabs [t];unfold a43 at h
 split at h
 ·rename_i i o
  split at h
  ·rename_i ti c ht hc;unfold b02 at h;obtain ⟨h1,h⟩:=a8 h;rw [xb6] at h1;obtain ⟨hl,h1⟩:=h1;have hl:=xa8 hl
   split at h
   ·rename_i L hi;obtain ⟨h2,h3⟩:=a8 h
    cases h3
    have h2:=xe5 h2;refine Snd.of_upd hi fun {w0 w ρ N ds a x ob} ha hI hx hb hf dst ty pos after=>?_;obtain ⟨p',hp,hev⟩:=ha.ev hy;obtain ⟨x',hx',rfl⟩:=VR.ptr hp;rw [hx] at hx';cases hx';obtain ⟨v',hv,hev2⟩:=ha.ev hz;obtain ⟨c',hc',hcc⟩:=VR.celL hv hc;obtain ⟨M,hM,hh⟩:=hf.blk hb;have e:=a0g hc';intro b hB K Q kk;refine a1Q (St.self hh) hTb (hget t _ (by simp) ht) hev hev2 (i:=0) rfl (by rw [e,hcc.len,hl]) (by rw [hM.len];exact h2) (by rw [e];exact fun u hu=>xb7.1 (by rw [hcc.one];exact h1) u hu) b hB K Q fun u w' hS=>kk u w' ⟨?_,hS.grown1 rfl,?_⟩
    ·trivial
    ·rw [e] at hS;exact Fits.of_blk (hS.at_ (i:=0) rfl) (hM.setLs hcc)
   ·rename_i e sz rows cap u hi;rw [n9] at h
    split at h
    ·rename_i r hr;obtain ⟨h2,h3⟩:=a8 h
     cases h3
     have h2:=xe5 h2;refine Snd.of_upd hi fun {w0 w ρ N ds a x ob} ha hI hx hb hf dst ty pos after=>?_;obtain ⟨p',hp,hev⟩:=ha.ev hy;obtain ⟨x',hx',rfl⟩:=VR.ptr hp;rw [hx] at hx';cases hx';obtain ⟨v',hv,hev2⟩:=ha.ev hz;obtain ⟨c',hc',hcc⟩:=VR.celL hv hc;obtain ⟨rs,hR,hh,hu⟩:=hf.row hb;obtain ⟨r',hr',hrr⟩:=hR.get hr;intro b hB K Q kk;refine a7Y (St.self hh) hTb (hget t _ (by simp) ht) hev hev2 (i:=0) rfl (show o=0 + (o / sz) * sz + o % sz by rw [xd8,xf5,xf6]) hr' (a0g hc') (by rw [hcc.len,hl]) h2 (by rw [hcc.one];exact h1) b hB K Q fun u w' hS=>kk u w' ⟨?_,hS.grown1 rfl,?_⟩
     ·trivial
     ·exact Fits.of_row (hS.at_ (i:=0) rfl) (hR.set (hrr.setLs hcc)) rfl hu
    ·cases h
   ·cases h
  ·cases h
 ·cases h
theorem b1u {t:TypeId} {y:Operand} {v:Value} {L:List Value} (hy:sEv E y=some v) (hc:celL v=some L):Snd P (.box t y) E H n (some (.pointer (some ⟨n,0,none⟩)),x9 H n (.blk L),n + 1) :=
 Snd.of_new fun ha hI dst ty pos after=>by
  obtain ⟨u,hu,hev⟩:=ha.ev hy;obtain ⟨M,hM,hr⟩:=VR.celL hu hc;intro b hB K Q kk;refine a9A (St.start _) hev b hB K Q fun u' w' ⟨g,e,hS⟩=>kk u' w' ⟨(g,0),fun τ _ hτ=>by rw [e];exact VR.mkPtr hτ,hS.drop.grown0,?_,?_⟩
  ·rcases hS.own _ (xb4) g rfl with h|h
   ·exact h
   ·exact h.elim
  ·rw [a0g hM] at hS;obtain ⟨t',hh⟩:=hS.at_ (i:=0) rfl;exact ⟨_,hh,fun τ hτ _=>⟨M,t',hr.mono hτ,rfl⟩⟩
theorem TI.zc (ti:TI):ti.zeroCells=ti.zeros\/ti.zeroCells=[.slice none 0 0]:=by cases ti <;> simp [TI.zeroCells,TI.zeros]
theorem a8j (hT:TOk P T) (hZ:ZOk T) {t:TypeId} {ti:TI} (ht:T.get t=some ti):Snd P (.alloc t) E H n (some (.pointer (some ⟨n,0,none⟩)),x9 H n (.blk ti.zeroCells),n + 1) :=
 Snd.of_new fun ha hI dst ty pos after=>by
  obtain ⟨Tb,hTb,hget⟩:=hT.tabs [t];have hz:∀ τ:Ren,LR τ ti.zeroCells ti.zeroCells:=fun τ=>by
   rcases TI.zc ti with h|h
   ·rw [h];exact LR.cOks (hZ t ti ht)
   ·rw [h];exact LR.cOks rfl
  intro b hB K Q kk;refine a1a (St.start _) hTb (hget t _ (by simp) ht) rfl b hB K Q fun u' w' ⟨g,e,hS⟩=>kk u' w' ⟨(g,0),fun τ _ hτ=>by rw [e];exact VR.mkPtr hτ,hS.drop.grown0,?_,?_⟩
  ·rcases hS.own _ (xb4) g rfl with h|h
   ·exact h
   ·exact h.elim
  ·obtain ⟨t',hh⟩:=hS.at_ (i:=0) rfl;exact ⟨_,hh,fun τ hτ _=>⟨_,t',hz τ,rfl⟩⟩
theorem a8c {v:Value} {c:List Value} {k s:Nat} {r:List (Nat×Value)} {rs:List (List Value)} (hc:celL v=some c) (hl:c.length=s) (hr:a0L (k + 1) s r=some rs):a0L k s ((k,v)::r)=some (c::rs):=by
 unfold a0L;rw [hr]
 cases v
 all_goals first
  |(cases hc;subst hl;simp [xj8];done)
  |(cases hc;done)
theorem a6u {v:Value} {i k s:Nat} {r:List (Nat×Value)} {rows:List (List Value)} (h:a0L k s ((i,v)::r)=some rows):celL v=some v.cells.toList:=by
 unfold a0L at h
 cases v
 all_goals first
  |rfl
  |(cases h':a0L (k + 1) s r <;> rw [h'] at h <;> cases h;done)
theorem a35:∀ {ps qs:List (Nat×Value)} {k s:Nat} {rows:List (List Value)},PR ρ ps qs->a0L k s ps=some rows->∃ rs,a0L k s qs=some rs/\RR ρ rows rs
 |[],qs,k,s,rows,hp,h=>by
  rw [PR.nil_inv hp]
  cases h
  exact ⟨[],rfl,rfl,fun i r hr=>by simp at hr⟩
 |(i,v)::r,qs,k,s,rows,hp,h=>by
  obtain ⟨u,m',rfl,hx,hr⟩:=PR.cons_inv hp;have hcv:=a6u h;obtain ⟨rr,e1,e2,e3,e4⟩:=a2N h;obtain ⟨rs',h1,h2⟩:=a35 hr e2;obtain ⟨c,hc,hcc⟩:=VR.celL hx hcv;subst e3;refine ⟨c::rs',a8c hc (by rw [hcc.len,e4]) h1,?_⟩;rw [e1];refine ⟨by simp [h2.1],fun j q hq=>?_⟩
  cases j with
  |zero=>simp at hq;subst hq;exact ⟨_,rfl,hcc⟩
  |succ j=>simpa using h2.2 j q (by simpa using hq)
theorem a7a {g:Nat} {A:Asr} {Γ:List Asr} (hS:St nF w w' (A::Γ)) (hA:A.fp=some g):w.heap.size<=g:=by
 rcases hS.own _ (xb4) g hA with h|h
 ·exact h
 ·exact h.elim
theorem a4V {rows rs:List (List Value)} (h:RR ρ rows rs) (ho:a1t rows=true):a1t rs=true:=by
 unfold a1t;rw [xb7];exact h.one1 (a1z ho)
theorem b1G (hT:TOk P T) {t:TypeId} {len:Nat} {parts:Array (Nat×Operand)} {r:Option Value×SH×Nat} (h:sBS T E H n t len parts=some r):Snd P (.buildSlice t len parts) E H n r:=by
 obtain ⟨Tb,hTb,hget⟩:=hT.tabs [t];unfold sBS at h
 split at h
 ·rename_i e sz eb ag z ps ht hp
  split at h
  ·rename_i rows hr;obtain ⟨h1,h2⟩:=a8 h
   cases h2
   simp only [xb6] at h1;obtain ⟨h1,h2,h3⟩:=h1;refine Snd.of_new fun {w0 w ρ N ds a} ha hI dst ty pos after=>?_;obtain ⟨qs,hq,hev⟩:=ha.evP hp;obtain ⟨rs,hrs,hR⟩:=a35 hq hr;have hlen:rs.length=len:=by rw [hR.1];exact xa8 h1
   intro b hB K Q kk;refine a7c (St.start _) hTb (hget t _ (by simp) ht) hev hrs (by rw [hlen];exact xj8 _) h2 (a4V hR h3) b hB K Q fun u' w' ⟨g,e1,hS⟩=>kk u' w' ⟨(g,0),fun τ _ hτ=>by rw [e1];exact VR.mkSl hτ,hS.drop.grown0,a7a hS rfl,?_⟩;have hh:=hS.at_ (i:=0) rfl;have key:=fun (τ:Ren) (hτ:Rle ρ τ)=>Fits.of_row (P:=P) (y:=0) (u:=false) hh (hR.mono hτ) rfl (fun _=>rfl);obtain ⟨o,ho,_⟩:=key ρ (Rle.refl ρ);refine ⟨o,ho,fun τ hτ _=>?_⟩;obtain ⟨o',ho',hf⟩:=key τ hτ;rw [ho] at ho'
   cases ho'
   exact hf
  ·cases h
 ·cases h
theorem b1K (hT:TOk P T) (hZ:ZOk T) {t:TypeId} {y z:Operand} {r:Option Value×SH×Nat} (h:sMk T E H n t y z=some r):Snd P (.makeSlice t y z) E H n r:=by
 obtain ⟨Tb,hTb,hget⟩:=hT.tabs [t];unfold sMk at h
 split at h
 ·rename_i e sz eb ag zz m m' ht hy hz;obtain ⟨h1,h2⟩:=a8 h
  cases h2
  simp only [xb6] at h1;obtain ⟨h1,h2,h3⟩:=h1;have h1:=xa8 h1;have h2:=xe5 h2;subst h1;have hz0:=hZ t _ ht;have hmul:m * (eb + 1)=m * eb + m:=Nat.mul_succ m eb;have hmul2:m * eb=eb * m:=xf5 _ _;refine Snd.of_new fun {w0 w ρ N ds a} ha hI dst ty pos after=>?_;obtain ⟨u1,hu1,gy⟩:=ha.ev hy;obtain ⟨u2,hu2,gz⟩:=ha.ev hz;rw [VR.int hu1] at gy;rw [VR.int hu2] at gz;intro b hB K Q kk;refine b0j (St.start _) hTb (hget t _ (by simp) ht) gy gz rfl rfl (by omega) (by have h9:((eb * m:Nat):Int)<=281474976710656:=(by omega);simpa using h9) h3 b hB K Q fun u' w' ⟨g,e1,hS⟩=>kk u' w' ⟨(g,0),fun τ _ hτ=>by rw [e1];exact VR.mkSl hτ,hS.drop.grown0,a7a hS rfl,?_⟩;have hh:=hS.at_ (i:=0) rfl;have key:=fun (τ:Ren)=>Fits.of_row (P:=P) (cap:=m) (y:=0) (u:=false) hh (RR.rep (ρ:=τ) (LR.cOks hz0) m) rfl (fun _=>rfl);obtain ⟨o,ho,_⟩:=key ρ;refine ⟨o,ho,fun τ hτ _=>?_⟩;obtain ⟨o',ho',hf⟩:=key τ;rw [ho] at ho'
  cases ho'
  exact hf
 ·cases h
theorem a2E:∀ {rows:List (List Value)} {l:List UInt8},a3n rows=some l->rows=bR l:=by
 intro rows
 induction rows with
 |nil=>intro l h;cases h;rfl
 |cons r q ih=>
  intro l h;unfold a3n at h
  split at h
  ·rename_i e;cases e
  ·rename_i m q' e
   cases e
   obtain ⟨h1,h2⟩:=a8 h;obtain ⟨l',hl',rfl⟩:=xh4.1 h2;have h1:m < 256:=by simpa [xb0] using h1
   have hb:(UInt8.ofNat m).toNat=m:=by simp [UInt8.toNat_ofNat'];omega
   rw [ih hl'];show _=[.int .u8 ((UInt8.ofNat m).toNat:Nat)]::bR l';rw [hb];rfl
  ·cases h
theorem RR.bR {l:List UInt8} {rs:List (List Value)} (h:RR ρ (bR l) rs):rs=Go.Proofs.YtejnpppejalhfadGreat.bR l:=by
 refine xf3 fun j=>?_;by_cases hj:j < (Go.Proofs.YtejnpppejalhfadGreat.bR l).length
 ·obtain ⟨s,h1,h2⟩:=h.2 j _ (xd0 hj);rw [h1,xd0 hj];have hr:(Go.Proofs.YtejnpppejalhfadGreat.bR l)[j]=[.int .u8 ((l[j]'(by rw [a0U] at hj;exact hj)).toNat:Nat)]:=by simp [Go.Proofs.YtejnpppejalhfadGreat.bR]
  rw [hr] at h2 |-;obtain ⟨u,t,rfl,h3,h4⟩:=LR.inv h2;rw [LR.nil_inv h4,VR.int h3]
 ·rw [xf9 (by rw [h.1];omega),xf9 (by omega)]
theorem RR.ofbR (l:List UInt8):RR ρ (Go.Proofs.YtejnpppejalhfadGreat.bR l) (Go.Proofs.YtejnpppejalhfadGreat.bR l):=by
 refine ⟨rfl,fun j r hr=>⟨r,hr,?_⟩⟩;have hj:j < l.length:=by have:=a7 hr;rwa [a0U] at this
 have e:(Go.Proofs.YtejnpppejalhfadGreat.bR l)[j]?=some [.int .u8 ((l[j]).toNat:Nat)]:=by simp [Go.Proofs.YtejnpppejalhfadGreat.bR,hj]
 rw [e] at hr
 cases hr
 exact LR.cOks rfl
theorem a9p (hT:TOk P T) (hI:Inv P w0 ρ H w) {t:TypeId} {v v':Value} {i e cap:Nat} {l:List UInt8} {ub:Bool} (h:a6F T H t v=some (i,e,cap,l,ub)) (hv:VR ρ v v'):∃ x o,ρ i=some x/\T.get t=some (.sl e 1 1 false [.int .u8 0])/\d4 H i=some (.row e 1 (Go.Proofs.YtejnpppejalhfadGreat.bR l) cap ub)/\w.heap[x.1]?=some o/\v'=.slice (some ⟨x.1,0,none⟩) (Go.Proofs.YtejnpppejalhfadGreat.bR l).length (cap + x.2)/\Asr.holds w (.row e 1 (.slice (some ⟨x.1,0,none⟩) (Go.Proofs.YtejnpppejalhfadGreat.bR l).length (cap + x.2)) (Go.Proofs.YtejnpppejalhfadGreat.bR l))/\(ub=false->x.2=0):=by
 unfold a6F at h
 split at h
 ·rename_i ht
  split at h
  ·rename_i hi;obtain ⟨h1,h2⟩:=a8 h;obtain ⟨l',hl,he⟩:=xh4.1 h2
   cases he
   obtain rfl:=a2E hl;simp only [xb6] at h1;obtain ⟨h1,h3,h4⟩:=h1;obtain rfl:=xa8 h1;obtain rfl:=xa8 h3;obtain rfl:=xa8 h4;obtain ⟨x,hx,rfl⟩:=VR.sl hv;obtain ⟨x',o,g1,g2,g3,_⟩:=hI.held _ _ hi;rw [hx] at g1;cases g1;obtain ⟨rs,hR,hh,hu⟩:=g3.row g2;obtain rfl:=hR.bR;exact ⟨x,o,hx,ht,hi,g2,rfl,hh,hu⟩
  ·cases h
 ·cases h
theorem a90 (hT:TOk P T) {t t':TypeId} {y z:Operand} {s u:Value} {r:Option Value×SH×Nat} (hy:sEv E y=some s) (hz:sEv E z=some u) (h:a7v T H n t s u=some r):Snd P (.call { callee:=.builtin .copy,args:=#[y,z],argTypes:=#[t,t'] }) E H n r:=by
 obtain ⟨Tb,hTb,hget⟩:=hT.tabs [t];unfold a7v at h
 split at h
 ·rename_i i e cap old ub l hb
  cases h
  have hi:d4 H i=some (.row e 1 (Go.Proofs.YtejnpppejalhfadGreat.bR old) cap ub):=by
   unfold a6F at hb
   split at hb
   ·split at hb
    ·rename_i hi;obtain ⟨h1,h2⟩:=a8 hb;obtain ⟨l',hl,he⟩:=xh4.1 h2
     cases he
     obtain rfl:=a2E hl;simp only [xb6] at h1;rw [xa8 h1.1];exact hi
    ·cases hb
   ·cases hb
  refine Snd.of_upd hi fun {w0 w ρ N ds a x ob} ha hI hx hob hf dst ty pos after=>?_;obtain ⟨v1,hv1,gy⟩:=ha.ev hy;obtain ⟨v2,hv2,gz⟩:=ha.ev hz;rw [VR.str hv2] at gz;obtain ⟨x',o,g1,ht,_,g2,rfl,hh,hu⟩:=a9p hT hI hb hv1;rw [hx] at g1;cases g1;rw [a0U] at gy hh;intro b hB K Q kk;refine a86 (St.self hh) hTb (hget t _ (by simp) ht) gy (i:=0) rfl gz b hB K Q fun u' w' ⟨e1,hS⟩=>kk u' w' ⟨by rw [e1];exact VR.cOk rfl,hS.grown1 rfl,?_⟩;refine Fits.of_row (hS.at_ (i:=0) rfl) (RR.ofbR _) rfl hu
 ·cases h
theorem b1o (hT:TOk P T) {t t':TypeId} {y:Operand} {r:Option Value×SH×Nat} (h:b0n T E H n t t' y=some r):Snd P (.convert t t' y) E H n r:=by
 unfold b0n at h
 split at h
 ·rename_i v ht hy
  split at h
  ·rename_i i e cap l ub hb
   split at h
   ·rename_i he;obtain ⟨h1,h2⟩:=a8 h
    cases h2
    have h1:0 < l.length:=by simpa [xb0] using h1
    refine Snd.of_gets fun {w0 w ρ N ds a} ha hI=>?_;obtain ⟨Tb,hTb,hget⟩:=hT.tabs [t,t',e];obtain ⟨v1,hv1,gy⟩:=ha.ev hy;obtain ⟨x,o,g1,ht1,_,g2,rfl,hh,hu⟩:=a9p hT hI hb hv1;exact ⟨_,VR.cOk rfl,fun _ _ _ _=>a8O (St.self hh) hTb (hget t _ (by simp) ht1) (hget e _ (by simp) he) (hget t' _ (by simp) ht) gy (i:=0) rfl h1⟩
   ·cases h
  ·cases h
 ·cases h
theorem a8l (hT:TOk P T) {t:TypeId} {y:Operand} {l:List UInt8} (hy:sEv E y=some (.string ⟨⟨l⟩⟩)) (ht:∃ s z,T.get t=some (.sc .string s z)):Snd P (.range t y) E H n (some (.pointer (some ⟨n,0,none⟩)),x9 H n (.siter l 0),n + 1) :=
 Snd.of_new fun {w0 w ρ N ds a} ha hI dst ty pos after=>by
  obtain ⟨s,z,ht⟩:=ht;obtain ⟨Tb,hTb,hget⟩:=hT.tabs [t];obtain ⟨v,hv,gy⟩:=ha.ev hy;rw [VR.str hv] at gy;intro b hB K Q kk;refine a8g (St.start _) hTb (hget t _ (by simp) ht) gy b hB K Q fun u' w' ⟨g,e,hS⟩=>kk u' w' ⟨(g,0),fun τ _ hτ=>by rw [e];exact VR.mkPtr hτ,hS.drop.grown0,a7a hS rfl,_,(hS.at_ (i:=0) rfl).1,fun _ _ _=>rfl⟩
theorem b0J {y:Operand} {r:Option Value×SH×Nat} (h:a6A E H n y=some r):Snd P (.next y true) E H n r:=by
 unfold a6A at h
 split at h
 ·rename_i i hy
  split at h
  ·rename_i l k hi;rw [n9] at h
   split at h
   ·rename_i b hb;obtain ⟨h1,h2⟩:=a8 h
    cases h2
    have h1:b.toNat < 128:=by simpa [xb0] using h1
    have hd:=a46 hb h1;have hlt:=a7 hb;refine Snd.of_upd hi fun {w0 w ρ N ds a x ob} ha hI hx hob hf dst ty pos after=>?_;obtain ⟨v,hv,gy⟩:=ha.ev hy;obtain ⟨x',hx',rfl⟩:=VR.ptr hv;rw [hx] at hx';cases hx';have hh:Asr.holds w (.obj x.1 (.stringIter ⟨l.toArray⟩ k)):=⟨by rw [hob,show ob=_ from hf],rfl⟩;intro c hB K Q kk;refine a6R (St.self hh) gy (i:=0) rfl c hB K Q fun u' w' hP=>kk u' w' ?_;rcases hP with ⟨_,e1,hS⟩|⟨h3,_⟩
    ·rw [hd] at e1 hS;refine ⟨by rw [e1];exact VR.mkTup (LR.cOks rfl),hS.grown1 rfl,_,(hS.at_ (i:=0) rfl).1,rfl⟩
    ·omega
   ·rename_i hb
    cases h
    have hge:l.length<=k:=by simpa using hb
    refine Snd.of_gets fun {w0 w ρ N ds a} ha hI=>?_;obtain ⟨v,hv,gy⟩:=ha.ev hy;obtain ⟨x,hx,rfl⟩:=VR.ptr hv;obtain ⟨x',ob,g1,g2,g3,_⟩:=hI.held _ _ hi;rw [hx] at g1;cases g1;have hh:Asr.holds w (.obj x.1 (.stringIter ⟨l.toArray⟩ k)):=⟨by rw [g2,show ob=_ from g3],rfl⟩;refine ⟨_,VR.mkTup (LR.cOks rfl),fun dst ty pos after c hB K Q kk=>?_⟩;refine a6R (St.self hh) gy (i:=0) rfl c hB K Q fun u' w' hP=>kk u' w' ?_;rcases hP with ⟨h3,_⟩|⟨_,e1,e2⟩
    ·omega
    ·exact ⟨e1,e2⟩
  ·cases h
 ·cases h
end
section
variable {P:Program} {T:TT} {q:EqT} {w0 w w':World} {ρ σ:Ren} {N:Nat} {ds:List Deferred} {a:Act} {E:Fr} {H:SH} {n:Nat} {x:Nat×Nat} {i:Nat}
theorem a7g {Tb:Tab} (hTb:TabOk P Tb) {t e sz eb:Nat} {ag:Bool} {z:List Value} (ht:Tb.get t=some (.sl e sz eb ag z)) (p p2:Option Addr) (m c c2:Nat) (hm:m<=c) (ty:TypeId) (w:World):(Builtin.append_ #[t,t] ty #[.slice p m c,.slice p2 0 c2]).run P w=.ok (.slice p m c) w:=by
 obtain ⟨ji,zv,hu,hinfo,_,hs,_⟩:=hTb.sl ht
 cases p2 <;> cases p <;> simp [Builtin.append_,run_underlying hu,sizeOf,typeInfo,hinfo,Builtin.lenOf,Builtin.firstCells,hm,loadCells,loadCellsFrom,storeCells]
theorem RoAt.take {G:Nat->Prop} {b off sz:Nat} {rows:List (List Value)} (h:RoAt G w b off sz rows) (k:Nat):RoAt G w b off sz (rows.take k) :=
 ⟨h.lt,h.nf,fun r hr=>h.len r (xe3 hr),fun r hr=>h.one r (xe3 hr),fun j r hj=>by
  rw [xe0] at hj
  split at hj
  ·exact h.cells j r hj
  ·cases hj⟩
theorem a4G (hI:Inv P w0 ρ H w) {sz m c:Nat} {p:Option Addr} {news:List (List Value)} {u':Value} (h:a0R H sz (.slice p m c)=some news) (hu:VR ρ (.slice p m c) u') (hne:news≠[]):∃ b o c' ns,u'=.slice (some ⟨b,o,none⟩) ns.length c'/\RR ρ news ns/\RoAt nF w b o sz ns:=by
 rcases p with _|⟨i,o,sp⟩
 ·cases m with
  |zero=>cases h;exact (hne rfl).elim
  |succ m=>cases h
 rcases sp with _|sp
 ·cases m with
  |zero=>cases h;exact (hne rfl).elim
  |succ m=>
  rw [show a0R H sz (.slice (some ⟨i,o,none⟩) (m + 1) c)=(match d4 H i with
   |some (.row _ sz' rows _ _)=>ifB (Nat.beq sz sz' && (Nat.beq (o % sz) 0 && Nat.ble (o / sz + (m + 1)) rows.length)) (some ((rows.drop (o / sz)).take (m + 1))) none
   |_=>none) from rfl] at h
  generalize m + 1=m at h hu
  split at h
  ·rename_i e' sz' rows cap ub hi;obtain ⟨h1,h2⟩:=a8 h
   cases h2
   simp only [xb6] at h1;obtain ⟨h1,h2,h3⟩:=h1;obtain rfl:=xa8 h1;have h2:=xa8 h2;have h3:=xe5 h3;obtain ⟨x,hx,rfl⟩:=VR.sl hu;obtain ⟨x',ob,g1,g2,g3,_⟩:=hI.held _ _ hi;rw [hx] at g1;cases g1;obtain ⟨rs,hR,hh,_⟩:=g3.row g2;have hro:=(((St.self hh).rowRo 0 rfl).drop (o / sz)).take m;rw [xd8] at hro;have ho:o / sz * sz=o:=by
    have:=xf6 o sz;rw [h2,xe6,xf5] at this;exact this
   rw [ho] at hro;refine ⟨x.1,o,c + x.2,(rs.drop (o / sz)).take m,?_,(hR.drop _).take _,hro⟩;have:((rs.drop (o / sz)).take m).length=m:=by
    rw [xa1,xj4,hR.1];omega
   rw [this]
  ·cases h
 ·cases m with
  |zero=>cases h;exact (hne rfl).elim
  |succ m=>cases h
theorem a4c {e sz g cap m:Nat} {rows rs:List (List Value)} (hh:Asr.holds w (.row e sz (.slice (some ⟨g,0,none⟩) m cap) rs)) (hR:RR ρ rows rs) (hm:m=rows.length):m<=cap/\∃ o,w.heap[g]?=some o/\∀ τ:Ren,Rle ρ τ->Fits P τ (cap - m) (.row e sz rows m true) o:=by
 have hle:m<=cap:=by
  rcases hh.1.2 with ⟨e1,_⟩|⟨g',c',cur,e1,_,_,h,_⟩
  ·cases e1
  ·cases e1;exact h
 have key:=fun (τ:Ren) (hτ:Rle ρ τ)=>Fits.of_row (P:=P) (cap:=m) (y:=cap - m) (u:=true) hh (hR.mono hτ) (by omega) (fun h=>by cases h);obtain ⟨o,ho,_⟩:=key ρ (Rle.refl ρ);refine ⟨hle,o,ho,fun τ hτ=>?_⟩;obtain ⟨o',ho',hf⟩:=key τ hτ;rw [ho] at ho'
 cases ho'
 exact hf
theorem a8w (hT:TOk P T) {t e sz eb:Nat} {ag:Bool} {zz:List Value} {y z:Operand} {u:Value} {news:List (List Value)} (ht:T.get t=some (.sl e sz eb ag zz)) (hy:sEv E y=some (.slice none 0 0)) (hz:sEv E z=some u) (hu:∃ p m c,u=.slice p m c) (hr:a0R H sz u=some news) (hne:news≠[]) (hbig:news.length * (eb + 1)<=1000000):Snd P (.call { callee:=.builtin .append,args:=#[y,z],argTypes:=#[t,t] }) E H n (some (.slice (some ⟨n,0,none⟩) news.length news.length),x9 H n (.row e sz news news.length true),n + 1) :=
 Snd.of_new fun {w0 w ρ N ds a} ha hI dst ty pos after=>by
  obtain ⟨Tb,hTb,hget⟩:=hT.tabs [t];obtain ⟨p,m,c,rfl⟩:=hu;obtain ⟨v1,hv1,gy⟩:=ha.ev hy;rw [VR.sl0 hv1] at gy;obtain ⟨v2,hv2,gz⟩:=ha.ev hz;obtain ⟨b,o,c',ns,rfl,hR,hro⟩:=a4G hI hr hv2 hne;have hl:ns.length=news.length:=hR.1;intro bb hB K Q kk;refine a3G ((St.start w).addNil e sz) hTb (hget t _ (by simp) ht) gy (i:=0) rfl gz hro rfl (by rw [xa2,xd8,hl];omega) bb hB K Q fun u' w' ⟨p',cap',e1,hS⟩=>kk u' w' ?_;simp only [List.set,xa2,xd8,List.nil_append] at hS e1;have hpos:0 < ns.length:=by rw [hl];exact List.length_pos_iff.2 hne
  obtain ⟨g,rfl⟩:=hS.rowSome 0 rfl hpos;obtain ⟨hle,ob,hob,hf⟩:=a4c (P:=P) (hS.at_ (i:=0) rfl) hR hl;refine ⟨(g,cap' - ns.length),fun τ _ hτ=>?_,hS.drop.grown0,a7a hS rfl,ob,hob,fun τ hτ _=>?_⟩
  ·rw [e1,hl];have:=VR.mkSl (o:=0) (n:=news.length) (c:=news.length) hτ;rw [show news.length + (g,cap' - ns.length).2=cap' from by simp;omega] at this;exact this
  ·rw [<- hl];exact hf τ hτ
theorem Snd.of_move {op:Op} {s:SA} {e sz:Nat} {rows:List (List Value)} (hi:d4 H i=some s) (h:∀ {w0 w:World} {ρ:Ren} {N:Nat} {ds:List Deferred} {a:Act} {x:Nat×Nat} {o:Obj},HasR ρ N ds a E->Inv P w0 ρ H w->ρ i=some x->w.heap[x.1]?=some o->Fits P ρ x.2 s o->∀ dst ty pos after,Gets P ⟨dst,op,ty,pos,after,none⟩ N ds (t9 a) w (fun u w'=>∃ y:Nat×Nat,(∀ τ:Ren,Rle ρ τ->τ n=some y->VR τ (.slice (some ⟨n,0,none⟩) rows.length rows.length) u)/\w.grownBy w' (some x.1)/\(y.1=x.1\/w.heap.size<=y.1)/\∃ o,w'.heap[y.1]?=some o/\∀ τ:Ren,Rle ρ τ->τ n=some y->Fits P τ y.2 (.row e sz rows rows.length true) o)):Snd P op E H n (some (.slice (some ⟨n,0,none⟩) rows.length rows.length),x9 (q8 H i) n (.row e sz rows rows.length true),n + 1) :=
 ⟨Nat.le_succ _,fun {w0 w ρ N ds a hi'} ha hI hF hn dst ty pos after K Q k=>by
  have hfr:ρ n=none:=hF n (xc4 _) hn;obtain ⟨x,o,h1,h2,h3,_⟩:=hI.held i s hi;refine h ha hI h1 h2 h3 dst ty pos after _ ha.full K Q fun u w' ⟨y,hv,hg,hb,o',ho,hf⟩=>?_;exact k u w' (upR ρ n y) (a5n hfr) (hv _ (a0m hfr) a0b) (hI.move hfr hi h1 hg ho hb (hf _ (a0m hfr) a0b))⟩
theorem a88 (hT:TOk P T) {t e sz eb cap:Nat} {ag ub:Bool} {zz:List Value} {y z:Operand} {u:Value} {rows news:List (List Value)} (ht:T.get t=some (.sl e sz eb ag zz)) (hi:d4 H i=some (.row e sz rows cap ub)) (hy:sEv E y=some (.slice (some ⟨i,0,none⟩) rows.length cap)) (hz:sEv E z=some u) (hu:∃ p m c,u=.slice p m c) (hr:a0R H sz u=some news) (hne:news≠[]) (hbig:(rows.length + news.length) * (eb + 1)<=1000000):Snd P (.call { callee:=.builtin .append,args:=#[y,z],argTypes:=#[t,t] }) E H n (some (.slice (some ⟨n,0,none⟩) (rows++news).length (rows++news).length),x9 (q8 H i) n (.row e sz (rows++news) (rows++news).length true),n + 1) :=
 Snd.of_move hi fun {w0 w ρ N ds a x o} ha hI hx hob hf dst ty pos after=>by
  obtain ⟨Tb,hTb,hget⟩:=hT.tabs [t];obtain ⟨p,m,c,rfl⟩:=hu;obtain ⟨v1,hv1,gy⟩:=ha.ev hy;obtain ⟨x',hx',rfl⟩:=VR.sl hv1;rw [hx] at hx';cases hx';obtain ⟨v2,hv2,gz⟩:=ha.ev hz;obtain ⟨b,o2,c',ns,rfl,hR,hro⟩:=a4G hI hr hv2 hne;obtain ⟨rs,hR0,hh,_⟩:=hf.row hob;have hl:ns.length=news.length:=hR.1;have hl0:rs.length=rows.length:=hR0.1;rw [<- hl0] at gy;intro bb hB K Q kk;refine a3G (St.self hh) hTb (hget t _ (by simp) ht) gy (i:=0) rfl gz hro rfl (by rw [hl,hl0];omega) bb hB K Q fun u' w' ⟨p',cap',e1,hS⟩=>kk u' w' ?_;simp only [List.set] at hS;have hpos:0 < ns.length:=by rw [hl];exact List.length_pos_iff.2 hne
  obtain ⟨g,rfl⟩:=hS.rowSome 0 rfl (by omega);have hlen:rs.length + ns.length=(rows++news).length:=by rw [xd4,hl,hl0]
  rw [hlen] at hS e1;obtain ⟨hle,ob,hob2,hf2⟩:=a4c (P:=P) (hS.at_ (i:=0) rfl) (hR0.app hR) rfl;refine ⟨(g,cap' - (rows++news).length),fun τ _ hτ=>?_,hS.grown1 rfl,?_,ob,hob2,fun τ hτ _=>hf2 τ hτ⟩
  ·rw [e1];have:=VR.mkSl (o:=0) (n:=(rows++news).length) (c:=(rows++news).length) hτ;rw [show (rows++news).length + (g,cap' - (rows++news).length).2=cap' from by simp only;omega] at this;exact this
  ·rcases hS.own _ (xb4) g rfl with h|⟨B,hB',e2⟩
   ·exact xc3 h
   ·rw [xh6.1 hB'] at e2
    cases e2
    exact xc6 rfl
theorem b0B (hT:TOk P T) {t e sz eb cap m c:Nat} {ag ub:Bool} {zz:List Value} {y z:Operand} {u:Value} {rows news:List (List Value)} (ht:T.get t=some (.sl e sz eb ag zz)) (hi:d4 H i=some (.row e sz rows cap ub)) (hy:sEv E y=some (.slice (some ⟨i,0,none⟩) m c)) (hz:sEv E z=some u) (hu:∃ p m c,u=.slice p m c) (hr:a0R H sz u=some news) (hne:news≠[]) (h1:m + news.length<=rows.length) (h2:m + news.length<=c):Snd P (.call { callee:=.builtin .append,args:=#[y,z],argTypes:=#[t,t] }) E H n (some (.slice (some ⟨i,0,none⟩) (m + news.length) c),y5 H i (.row e sz (a0z rows news m) cap ub),n) :=
 Snd.of_upd hi fun {w0 w ρ N ds a x o} ha hI hx hob hf dst ty pos after=>by
  obtain ⟨Tb,hTb,hget⟩:=hT.tabs [t];obtain ⟨p,m2,c2,rfl⟩:=hu;obtain ⟨v1,hv1,gy⟩:=ha.ev hy;obtain ⟨x',hx',rfl⟩:=VR.sl hv1;rw [hx] at hx';cases hx';obtain ⟨v2,hv2,gz⟩:=ha.ev hz;obtain ⟨b,o2,c',ns,rfl,hR,hro⟩:=a4G hI hr hv2 hne;obtain ⟨rs,hR0,hh,hub⟩:=hf.row hob;have hl:ns.length=news.length:=hR.1;have hl0:rs.length=rows.length:=hR0.1;obtain ⟨ji,zv,hu,hinfo,_,hs,_,_,_,_,hsz,hs0⟩:=hTb.sl (hget t _ (by simp) ht);have hcap:rs.length<=cap + x.2:=by
   rcases hh.1.2 with ⟨e1,_⟩|⟨g',c',cur,e1,_,_,h,_⟩
   ·cases e1
   ·cases e1;exact h
  obtain ⟨w',hst,hg,hh2⟩:=a4C (P:=P) (k:=m) hh (by omega) (by omega) hro.len hro.one;have hll:(loadCells ⟨b,o2,none⟩ (ns.length * sz)).run P w=.ok ns.flatten.toArray w:=by
   have:=run_loadCells_list (P:=P) w ⟨b,o2,none⟩ ns.flatten (fun j u hj=>by
    have hjl:j < ns.length * sz:=by rw [<- f5 hro.len];exact a7 hj
    have hdiv:j / sz < ns.length:=xf4 (by rw [xf5];exact hjl);have hmod:=Nat.mod_lt j (xf0 hs0);have h3:=a08 hro.len (i:=j / sz) (j:=j % sz) (xd0 hdiv) hmod;rw [show j / sz * sz + j % sz=j from by rw [xf5];exact xf6 j sz] at h3;rw [h3] at hj;have:=hro.cells (j / sz) _ (xd0 hdiv) (j % sz) u hj;rw [Addr.add_mid]
    rwa [xe2,show j / sz * sz + j % sz=j from by rw [xf5];exact xf6 j sz] at this)
   rwa [f5 hro.len] at this
  have hadd:(⟨x.1,0,none⟩:Addr).add (m * sz)=⟨x.1,m * sz,none⟩:=by rw [a3R,xd8]
  have hrun:(Builtin.append_ #[t,t] ty #[.slice (some ⟨x.1,0,none⟩) m (c + x.2),.slice (some ⟨b,o2,none⟩) ns.length c']).run P w=.ok (.slice (some ⟨x.1,0,none⟩) (m + ns.length) (c + x.2)) w':=by
   simp [Builtin.append_,run_underlying hu,Builtin.lenOf,Builtin.firstCells,sizeOf,typeInfo,hinfo,hs,show m + ns.length<=c + x.2 by omega,hll,hadd,hst]
  intro bb hB K Q kk;have hex:(execOp bb.eval ⟨dst,.call { callee:=.builtin .append,args:=#[y,z],argTypes:=#[t,t] },ty,pos,after,none⟩).run P w=.ok (.value (.slice (some ⟨x.1,0,none⟩) (m + ns.length) (c + x.2))) w':=by
   simp [execOp,resolve,invoke,builtin,hB.ev gy,hB.ev gz,hrun,Result.andThen]
  unfold Oper.wp;rw [hex];refine kk _ w' ⟨?_,hg,Fits.of_row hh2 ?_ rfl hub⟩
  ·rw [hl];exact VR.mkSl hx
  ·unfold a0z;rw [hl];exact (hR0.take m).app (hR.app (hR0.drop _))
end
end Go.Proofs.YtejnpppejalhfadGreat
namespace Go.Proofs.YtejnpppejalhfadGreat
set_option maxRecDepth 100000
set_option maxHeartbeats 8000000
open Go.RowKit Go.Sort Go.MapKept
def a77 (P:Program) (ez:List (Nat×Value)):Prop:=∀ t z,d4 ez t=some z->∀ Kt Et,P.underlying t=some (.map Kt Et)->(P.info? Et).bind (·.zero)=some z/\∀ ρ,VR ρ z z
section
variable {P:Program} {T:TT} {q:EqT} {w0 w w':World} {ρ σ:Ren} {N:Nat} {ds:List Deferred} {a:Act} {E:Fr} {H:SH} {n:Nat} {x:Nat×Nat} {i:Nat}
theorem b0C (hT:TOk P T) {t e sz eb:Nat} {ag:Bool} {zz:List Value} {y z:Operand} {p:Option Addr} {m c:Nat} {u:Value} (ht:T.get t=some (.sl e sz eb ag zz)) (hy:sEv E y=some (.slice p m c)) (hz:sEv E z=some u) (hr:a0R H sz u=some []) (hm:m<=c):Snd P (.call { callee:=.builtin .append,args:=#[y,z],argTypes:=#[t,t] }) E H n (some (.slice p m c),H,n) :=
 Snd.of_gets fun {w0 w ρ N ds a} ha hI=>by
  obtain ⟨Tb,hTb,hget⟩:=hT.tabs [t];obtain ⟨v1,hv1,gy⟩:=ha.ev hy;obtain ⟨v2,hv2,gz⟩:=ha.ev hz;have h2:∃ p2 c2,v2=.slice p2 0 c2:=by
   unfold a0R at hr
   split at hr
   ·obtain ⟨p',c',e,_⟩:=VR.slAny hv2;exact ⟨p',c',e⟩
   ·obtain ⟨p',c',e,_⟩:=VR.slAny hv2;exact ⟨p',c',e⟩
   ·rename_i i o m' c' hm'
    split at hr
    ·obtain ⟨h1,h2⟩:=a8 hr;simp only [xb6] at h1;have h3:=xe5 h1.2.2;have h4:=congrArg (Option.map List.length) h2;simp only [xf8,xa1,xj4,xa2,Option.some.injEq] at h4;obtain ⟨p',c'',e,_⟩:=VR.slAny hv2;exact ⟨p',c'',by rw [e,show m'=0 by omega]⟩
    ·cases hr
   ·cases hr
  obtain ⟨p2,c2,rfl⟩:=h2;have hv:∃ p' c',v1=.slice p' m c'/\m<=c':=by
   match p,hv1 with
   |none,hv1=>exact ⟨_,_,VR.sl0 hv1,hm⟩
   |some ⟨i,o,none⟩,hv1=>obtain ⟨x,_,e⟩:=VR.sl hv1;exact ⟨_,_,e,by omega⟩
   |some ⟨i,o,some s⟩,hv1=>unfold VR m8 at hv1;cases hv1
  obtain ⟨p',c',rfl,hm'⟩:=hv;refine ⟨_,hv1,fun dst ty pos after=>Gets.of_at fun b hB=>?_⟩;have hrun:=a7g hTb (hget t _ (by simp) ht) p' p2 m c' c2 hm' ty w;simp [execOp,resolve,invoke,builtin,hB.ev gy,hB.ev gz,hrun,Result.andThen]
theorem a2c {zv:Value} {ez:List Value} {sz:Nat} (hzl:zv.cells.toList=ez) (hsz:sz=ez.length) (hs0:sz≠0) (dl:Nat):(Builtin.zeroCells zv.cells dl).toList=(List.replicate dl ez).flatten:=by
 have hzs:zv.cells.size=sz:=by rw [<- xf2,hzl,hsz]
 have hfl:(List.replicate dl ez).flatten.length=dl * sz:=by rw [f5 (size:=sz) (fun r hr=>by rw [xj9 hr,hsz]),xg0]
 refine xf3 fun j=>?_;unfold Builtin.zeroCells;rw [hzs];by_cases hj:j < dl * sz
 ·have hdiv:j / sz < (List.replicate dl ez).length:=by rw [xg0];exact xf4 (by rw [xf5];exact hj)
  have hmod:=Nat.mod_lt j (xf0 hs0);have h3:=a08 (rows:=List.replicate dl ez) (size:=sz) (fun r hr=>by rw [xj9 hr,hsz]) (i:=j / sz) (j:=j % sz) (xd0 hdiv) hmod;rw [show j / sz * sz + j % sz=j from by rw [xf5];exact xf6 j sz] at h3;rw [h3,List.getElem_replicate];have hml:j % sz < zv.cells.size:=by rw [hzs];exact hmod
  simp [hj,hml,<- hzl]
 ·rw [xf9 (by simp;omega),xf9 (by rw [hfl];omega)]
theorem b0V (hT:TOk P T) (hZ:ZOk T) {t tn e sz eb s2 m:Nat} {ag:Bool} {zz:List Value} {z2:Value} {y z:Operand} (ht:T.get t=some (.sl e sz eb ag zz)) (htn:T.get tn=some (.sc (.int .i64) s2 z2)) (hy:sEv E y=some (.slice none 0 0)) (hz:sEv E z=some (.int .i64 (.ofNat m))) (hm:0 < m) (hbig:m * (eb + 1)<=1000000) (h1:zz.all (·.oneCell')=true):Snd P (.call { callee:=.builtin .append,args:=#[y,z],argTypes:=#[t,tn] }) E H n (some (.slice (some ⟨n,0,none⟩) (List.replicate m zz).length (List.replicate m zz).length),x9 H n (.row e sz (List.replicate m zz) (List.replicate m zz).length true),n + 1) :=
 Snd.of_new fun {w0 w ρ N ds a} ha hI dst ty pos after=>by
  obtain ⟨Tb,hTb,hget⟩:=hT.tabs [t,tn];obtain ⟨v1,hv1,gy⟩:=ha.ev hy;rw [VR.sl0 hv1] at gy;obtain ⟨v2,hv2,gz⟩:=ha.ev hz;rw [VR.int hv2] at gz;obtain ⟨ji,zv,hu,hinfo,_,hs,hby,hz0,hzl,_,hsz,hs0⟩:=hTb.sl (hget t _ (by simp) ht);obtain ⟨_,hun,_⟩:=hTb.sc (hget tn _ (by simp) htn);have hmul:m * (eb + 1)=m * eb + m:=Nat.mul_succ m eb;intro b hB K Q kk;have hold:(Builtin.firstCells ji.size 0 (.slice none 0 0)).run P w.drew=.ok ([]:List Value).toArray w.drew:=rfl;have hrun:=Go.Lib.run_append_grow_zeros (P:=P) w t tn ty e ji zv .i64 .i64 hu hun hinfo hz0 none 0 0 [] hold m hm (by rw [hs];exact xf0 hs0) (by omega) (by omega) (by rw [hby];omega) (by rw [hby,xd8];exact growslice_fits (by omega) (by omega));rw [xd8] at hrun;have hex:(execOp b.eval ⟨dst,.call { callee:=.builtin .append,args:=#[y,z],argTypes:=#[t,tn] },ty,pos,after,none⟩).run P w=.ok (.value (.slice (some ⟨w.heap.size,0,none⟩) m (grownCap w m 0 e))) (w.drew.alloc (.cells ((([]:List Value).toArray++Builtin.zeroCells zv.cells m++Builtin.zeroCells zv.cells (grownCap w m 0 e - m))) e)):=by
   simp only [Int.ofNat_eq_natCast] at gz;simp [execOp,resolve,invoke,builtin,hB.ev gy,hB.ev gz,hrun,Result.andThen]
  unfold Oper.wp;rw [hex];have hge:=grownCap_ge w m 0 e;have hcm:=grownCap_le_maxLen w m 0 e (by unfold maxLen;omega);have hz2:=LR.cOks (ρ:=ρ) (hZ t _ ht);have hlr:(List.replicate m zz).length=m:=xg0;refine kk _ _ ⟨(w.heap.size,grownCap w m 0 e - m),fun τ _ hτ=>?_,⟨rfl,rfl,rfl,by simp,fun k hk _=>heap_alloc_old w.drew _ hk⟩,xc4 _,_,heap_alloc_new w.drew _,fun τ hτ _=>?_⟩
  ·rw [hlr];have:=VR.mkSl (o:=0) (n:=m) (c:=m) hτ;rw [show m + (w.heap.size,grownCap w m 0 e - m).2=grownCap w m 0 e from by simp only;omega] at this;exact this
  ·have hfl:(List.replicate m zz).flatten.length=m * sz:=by rw [f5 (size:=sz) (fun r hr=>by rw [xj9 hr,hsz]),xg0]
   refine ⟨List.replicate m zz,_,RR.rep (LR.cOks (hZ t _ ht)) m,rfl,by rw [hlr];simp only;omega,by rw [hlr];simp only;omega,?_,?_,fun r hr=>by rw [xj9 hr,hsz],fun r hr=>by rw [xj9 hr];exact h1,fun h=>by cases h⟩
   ·rw [<- xf2,xk0,xk0,a2c hzl hsz hs0,a2c hzl hsz hs0,xe8,List.nil_append,xd4,hfl,hlr];rw [f5 (size:=sz) (fun r hr=>by rw [xj9 hr,hsz]),xg0,<- Nat.add_mul]
   ·rw [xk0,xk0,a2c hzl hsz hs0,xe8,List.nil_append,hlr,<- hfl,List.take_left'];rfl
theorem a1l {k x:Value} {b:Bool} (h:a87 k x=some b):(b=true ↔ x=k):=by
 unfold a87 at h
 split at h
 ·cases h;simp [eq_comm]
 ·cases h;simp [eq_comm]
 ·cases h
theorem a1r {k:Value}:∀ {es:List (Value×Value)} {v:Value},a1c k es=some (some v)->(k,v) ∈ es
 |[],_,h=>by cases h
 |(x,u)::r,v,h=>by
  unfold a1c at h
  split at h
  ·rename_i hk
   cases h
   rw [(a1l hk).1 rfl];exact xb4
  ·exact xb5 _ (a1r h)
  ·cases h
theorem a05 {k:Value}:∀ {es:List (Value×Value)},a1c k es=some none->∀ p ∈ es,p.1≠k
 |[],_=>by simp
 |(x,u)::r,h=>by
  unfold a1c at h
  split at h
  ·cases h
  ·rename_i hk;intro p hp;rcases xb3.1 hp with rfl|hp
   ·exact fun e=>by have:=(a1l hk).2 e;cases this
   ·exact a05 h p hp
  ·cases h
theorem a2H {k v:Value}:∀ {es:List (Value×Value)},(∀ p ∈ es,p.1≠k)->a5Q k v es=es++[(k,v)]
 |[],_=>rfl
 |(x,u)::r,h=>by
  unfold a5Q
  split
  ·rename_i hk;exact (h _ xb4 ((a1l hk).1 rfl)).elim
  ·rw [a2H fun p hp=>h p (xb5 _ hp)];rfl
theorem a3U {k v:Value}:∀ {es:List (Value×Value)} {j:Nat} {u:Value},(es.map (·.1)).Nodup->es[j]?=some (k,u)->(∃ w,a1c k es=some (some w))->a5Q k v es=es.set j (k,v)
 |[],_,_,_,h,_=>by simp at h
 |(x,w)::r,j,u,hn,h,hf=>by
  obtain ⟨w',hf⟩:=hf;unfold a1c at hf;unfold a5Q;rw [xa9,List.nodup_cons] at hn
  split at hf
  ·rename_i hk;rw [hk];have hx:=(a1l hk).1 rfl
   cases j with
   |zero=>rfl
   |succ j=>
    have:k ∈ r.map (·.1):=xg1.2 ⟨(k,u),xc0 (by simpa using h),rfl⟩;subst hx;exact (hn.1 this).elim
  ·rename_i hk;rw [hk]
   cases j with
   |zero=>
    simp at h;have:=(a1l hk).2 h.1
    cases this
   |succ j=>
    dsimp only;rw [a3U hn.2 (by simpa using h) ⟨w',hf⟩];rfl
  ·cases hf
theorem R2.at_ {es L:List (Value×Value)} (h:R2 ρ es L) {j:Nat} {k v:Value} (hj:es[j]?=some (k,v)):∃ u,L[j]?=some (k,u)/\VR ρ v u:=by
 obtain ⟨h1,h2⟩:=h;obtain ⟨u,hu,hv⟩:=h2.get (i:=j) (v:=v) (by rw [xf7,hj];rfl);rw [xf7] at hu;obtain ⟨p,hp,e⟩:=xh4.1 hu;have h3:(L.map (·.1))[j]?=some k:=by rw [h1,xf7,hj];rfl
 rw [xf7,hp] at h3;simp only [xf8,Option.some.injEq] at h3;exact ⟨u,by rw [hp];congr 1;exact Prod.ext h3 e,hv⟩
theorem R2.at' {es L:List (Value×Value)} (h:R2 ρ es L) {j:Nat} {k u:Value} (hj:L[j]?=some (k,u)):∃ v,es[j]?=some (k,v):=by
 obtain ⟨h1,h2⟩:=h;have h3:(es.map (·.1))[j]?=some k:=by rw [<- h1,xf7,hj];rfl
 rw [xf7] at h3;obtain ⟨p,hp,e⟩:=xh4.1 h3;exact ⟨p.2,by rw [hp,<- e]⟩
theorem R2.len {es L:List (Value×Value)} (h:R2 ρ es L):L.length=es.length:=by
 have:=congrArg List.length h.1
 simpa using this
theorem R2.set {es L:List (Value×Value)} (h:R2 ρ es L) {j:Nat} {k v u:Value} (hv:VR ρ v u):R2 ρ (es.set j (k,v)) (L.set j (k,u)):=by
 refine ⟨by rw [List.map_set,List.map_set,h.1],?_⟩;rw [List.map_set,List.map_set];exact h.2.set j hv
theorem R2.snoc {es L:List (Value×Value)} (h:R2 ρ es L) {k v u:Value} (hv:VR ρ v u):R2 ρ (es++[(k,v)]) (L++[(k,u)]):=by
 refine ⟨by rw [xj0,xj0,h.1];rfl,?_⟩;rw [xj0,xj0];exact h.2.app (LR.cons hv LR.nil)
theorem a7O (hT:TOk P T) (hI:Inv P w0 ρ H w) {t:TypeId} {k:Value} {es:List (Value×Value)} (h:a32 T H t i k=some es):d4 H i=some (.smap t es)/\∃ x arr c Kt Et D L,ρ i=some x/\w.heap[x.1]?=some (.map arr c)/\P.underlying t=some (.map Kt Et)/\P.underlying Kt=some D/\MapG D arr L/\R2 ρ es L/\IsKey D k/\(∀ p ∈ es,(∃ n,p.1=.int .i64 n)\/∃ s,p.1=.string s)/\((∃ n,k=.int .i64 n)\/∃ s,k=.string s):=by
 unfold a32 at h
 split at h
 ·rename_i t' es' hi;obtain ⟨h1,h2⟩:=a8 h
  cases h2
  rw [xb6] at h1;obtain ⟨h1,h2⟩:=h1;obtain rfl:=xa8 h1;refine ⟨hi,?_⟩;obtain ⟨x,ob,g1,g2,g3,_⟩:=hI.held _ _ hi;obtain ⟨arr,c,Kt,Et,D,L,e1,e2,rfl,e4,e5,e6⟩:=g3;refine ⟨x,arr,c,Kt,Et,D,L,g1,g2,e1,e2,e4,e5,?_,e6,?_⟩
  ·unfold sKO at h2
   split at h2
   ·rename_i K _ _ _ ht;obtain ⟨Tb,hTb,hget⟩:=hT.tabs [t,K];obtain ⟨_,hu,_⟩:=hTb.sc (hget t _ (by simp) ht);rw [e1] at hu
    cases hu
    split at h2
    ·rename_i hk;obtain ⟨_,hu,_⟩:=hTb.sc (hget _ _ (by simp) hk);rw [e2] at hu
     cases hu
     rfl
    ·rename_i hk;obtain ⟨_,hu,_⟩:=hTb.sc (hget _ _ (by simp) hk);rw [e2] at hu
     cases hu
     exact trivial
    ·cases h2
   ·cases h2
  ·unfold sKO at h2
   split at h2
   ·split at h2
    ·exact xc6 ⟨_,rfl⟩
    ·exact xc3 ⟨_,rfl⟩
    ·cases h2
   ·cases h2
 ·cases h
theorem VR.key {k u:Value} (hk:(∃ n,k=.int .i64 n)\/∃ s,k=.string s) (h:VR ρ k u):u=k:=by
 rcases hk with ⟨n,rfl⟩|⟨s,rfl⟩
 ·exact VR.int h
 ·exact VR.str h
theorem a9Z (hT:TOk P T) {ez:List (Nat×Value)} (hE:a77 P ez) {t:TypeId} {ok:Bool} {y z:Operand} {m k:Value} {r:Option Value×SH×Nat} (hy:sEv E y=some m) (hz:sEv E z=some k) (h:a7s T ez H n t ok m k=some r):Snd P (.lookup t y z ok) E H n r:=by
 unfold a7s at h
 split at h
 ·rename_i i
  split at h
  ·rename_i es hm
   split at h
   ·rename_i v hf
    cases h
    refine Snd.of_gets fun {w0 w ρ N ds a} ha hI=>?_;obtain ⟨hi,x,arr,c,Kt,Et,D,L,g1,g2,e1,e2,e4,e5,e6,_,e7⟩:=a7O hT hI hm;obtain ⟨v1,hv1,gy⟩:=ha.ev hy;obtain ⟨x',hx,rfl⟩:=VR.mp hv1;rw [g1] at hx;cases hx;obtain ⟨v2,hv2,gz⟩:=ha.ev hz;rw [VR.key e7 hv2] at gz;obtain ⟨j,hj⟩:=xc8.1 (a1r hf);obtain ⟨u,hu,huv⟩:=e5.at_ hj;have hh:Asr.holds w (.obj x.1 (.map arr c)):=⟨g2,rfl⟩;refine ⟨_,?_,fun _ _ _ _=>b0r (St.self hh) e1 e2 gy gz (i:=0) rfl e4 e6 (xc0 hu) ok⟩
    cases ok
    ·exact huv
    ·exact VR.mkTup (LR.cons huv (LR.cOks rfl))
   ·rename_i hf;obtain ⟨z0,hz0,rfl⟩:=xh4.1 h;refine Snd.of_gets fun {w0 w ρ N ds a} ha hI=>?_;obtain ⟨hi,x,arr,c,Kt,Et,D,L,g1,g2,e1,e2,e4,e5,e6,_,e7⟩:=a7O hT hI hm;obtain ⟨v1,hv1,gy⟩:=ha.ev hy;obtain ⟨x',hx,rfl⟩:=VR.mp hv1;rw [g1] at hx;cases hx;obtain ⟨v2,hv2,gz⟩:=ha.ev hz;rw [VR.key e7 hv2] at gz;have hh:Asr.holds w (.obj x.1 (.map arr c)):=⟨g2,rfl⟩;obtain ⟨hz1,hz2⟩:=hE t z0 hz0 Kt Et e1;refine ⟨_,?_,fun _ _ _ _=>a9g (St.self hh) e1 e2 hz1 gy gz (i:=0) rfl e4 e6 (fun v hv=>?_) ok⟩
    ·cases ok
     ·exact hz2 ρ
     ·exact VR.mkTup (LR.cons (hz2 ρ) (LR.cOks rfl))
    ·obtain ⟨j,hj⟩:=xc8.1 hv;obtain ⟨v',hv'⟩:=e5.at' hj;exact a05 hf _ (xc0 hv') rfl
   ·cases h
  ·cases h
 ·cases h
theorem a9E (hT:TOk P T) {t:TypeId} {y z u:Operand} {m k v:Value} {r:Option Value×SH×Nat} (hy:sEv E y=some m) (hz:sEv E z=some k) (hu:sEv E u=some v) (h:a65 T H n t m k v=some r):Snd P (.mapUpdate t y z u) E H n r:=by
 unfold a65 at h
 split at h
 ·rename_i i
  split at h
  ·rename_i es hm
   split at h
   ·rename_i fo hf
    cases h
    have hi:d4 H i=some (.smap t es):=by
     unfold a32 at hm
     split at hm
     ·rename_i hi;obtain ⟨h1,h2⟩:=a8 hm
      cases h2
      rw [xb6] at h1;rw [xa8 h1.1];exact hi
     ·cases hm
    refine Snd.of_upd hi fun {w0 w ρ N ds a x ob} ha hI hx hob hf' dst ty pos after=>?_;obtain ⟨_,x',arr,c,Kt,Et,D,L,g1,g2,e1,e2,e4,e5,e6,e8,e7⟩:=a7O hT hI hm;rw [hx] at g1;cases g1;obtain ⟨v1,hv1,gy⟩:=ha.ev hy;obtain ⟨x',hx',rfl⟩:=VR.mp hv1;rw [hx] at hx';cases hx';obtain ⟨v2,hv2,gz⟩:=ha.ev hz;rw [VR.key e7 hv2] at gz;obtain ⟨v3,hv3,gu⟩:=ha.ev hu;have hh:Asr.holds w (.obj x.1 (.map arr c)):=⟨g2,rfl⟩;intro b hB K Q kk
    cases fo with
    |none=>
     have hmiss:=a05 hf;refine b0O (St.self hh) e1 e2 gy gz gu (i:=0) rfl e4 e6 (fun v hv=>?_) b hB K Q fun u' w' ⟨es',c',hG,hS⟩=>kk u' w' ⟨trivial,hS.grown1 rfl,_,(hS.at_ (i:=0) rfl).1,?_⟩
     ·obtain ⟨j,hj⟩:=xc8.1 hv;obtain ⟨v',hv'⟩:=e5.at' hj;exact hmiss _ (xc0 hv') rfl
     ·rw [a2H hmiss];refine ⟨es',c',Kt,Et,D,_,e1,e2,rfl,hG,e5.snoc hv3,fun p hp=>?_⟩;rcases xd1.1 hp with hp|hp
      ·exact e8 p hp
      ·rw [xh6.1 hp];exact e7
    |some w1=>
     obtain ⟨j,hj⟩:=xc8.1 (a1r hf);obtain ⟨u0,hu0,_⟩:=e5.at_ hj;refine b0k (St.self hh) e1 e2 gy gz gu (i:=0) rfl e4 e6 (xc0 hu0) b hB K Q fun u' w' ⟨es',c',j2,u2,hj2,hG,hS⟩=>kk u' w' ⟨trivial,hS.grown1 rfl,_,(hS.at_ (i:=0) rfl).1,?_⟩;obtain ⟨v',hv'⟩:=e5.at' hj2;have hnd:(es.map (·.1)).Nodup:=by rw [<- e5.1];exact e4.once
     rw [a3U hnd hv' ⟨w1,hf⟩];refine ⟨es',c',Kt,Et,D,_,e1,e2,rfl,hG,e5.set hv3,fun p hp=>?_⟩;rcases xi7 hp with hp|hp
     ·exact e8 p hp
     ·rw [hp];exact e7
   ·cases h
  ·cases h
 ·cases h
theorem b0f {t:TypeId} {y:Operand} {v:Value} {r:Option Value×SH×Nat} (hy:sEv E y=some v) (h:a7T H n t v=some r):Snd P (.call { callee:=.builtin .len,args:=#[y],argTypes:=#[t] }) E H n r:=by
 unfold a7T at h
 split at h
 ·rename_i i
  split at h
  ·rename_i t' es hi;obtain ⟨h1,h2⟩:=a8 h
   cases h2
   obtain rfl:=xa8 h1;refine Snd.of_gets fun {w0 w ρ N ds a} ha hI=>?_;obtain ⟨v1,hv1,gy⟩:=ha.ev hy;obtain ⟨x',hx,rfl⟩:=VR.mp hv1;obtain ⟨x,ob,g1,g2,g3,_⟩:=hI.held _ _ hi;rw [hx] at g1;cases g1;obtain ⟨arr,c,Kt,Et,D,L,e1,e2,rfl,e4,e5,e6⟩:=g3;have hh:Asr.holds w (.obj x'.1 (.map arr c)):=⟨g2,rfl⟩;refine ⟨_,VR.cOk rfl,fun dst ty pos after b hB K Q kk=>a6p (St.self hh) e1 gy (i:=0) rfl b hB K Q fun v' w' hv=>kk v' w' ⟨?_,hv.2⟩⟩;rw [hv.1,e4.size,e5.len]
  ·cases h
 ·cases h
theorem b1J (hT:TOk P T) {t K:TypeId} {Et:TypeId} {s:Nat} {z:Value} {tk:TI} (ht:T.get t=some (.sc (.map K Et) s z)) (hk:T.get K=some tk):Snd P (.makeMap t none) E H n (some (.map (some n)),x9 H n (.smap t []),n + 1) :=
 Snd.of_new fun {w0 w ρ N ds a} ha hI dst ty pos after=>by
  obtain ⟨Tb,hTb,hget⟩:=hT.tabs [t,K];obtain ⟨_,hu,_⟩:=hTb.sc (hget t _ (by simp) ht);obtain ⟨D,hD⟩:=hTb.und (hget K _ (by simp) hk);intro b hB K' Q kk;refine a5Y (St.start _) b hB K' Q fun u' w' ⟨g,e,hS⟩=>kk u' w' ⟨(g,0),fun τ _ hτ=>by rw [e];exact VR.mkMap hτ,hS.drop.grown0,a7a hS rfl,_,(hS.at_ (i:=0) rfl).1,fun τ _ _=>⟨#[],0,K,Et,D,[],hu,hD,rfl,MapG.nil D,⟨rfl,LR.nil⟩,by simp⟩⟩
end
end Go.Proofs.YtejnpppejalhfadGreat
namespace Go.Proofs.YtejnpppejalhfadGreat
set_option maxRecDepth 100000
set_option maxHeartbeats 8000000
open Go.RowKit Go.Sort
section
variable {P:Program} {T:TT} {q:EqT} {w0 w w':World} {ρ σ:Ren} {N:Nat} {ds:List Deferred} {a:Act} {E:Fr} {H:SH} {n:Nat} {x:Nat×Nat} {i:Nat}
theorem b1m (hT:TOk P T) {t:TypeId} {y:Operand} {lo hi mx:Option Operand} {r:Option Value×SH×Nat} (h:b0H T E H n t y lo hi mx=some r):Snd P (.slice t y lo hi mx) E H n r:=by
 unfold b0H at h
 split at h
 ·rename_i ht hy hlo;obtain ⟨h1,h2⟩:=a8 h
  cases h2
  have h1:=xe5 h1;obtain ⟨Tb,hTb,hget⟩:=hT.tabs [t];refine Snd.of_runs fun {ρ N ds a} ha=>?_;obtain ⟨v1,hv1,gy⟩:=ha.ev hy;obtain ⟨x,hx,rfl⟩:=VR.sl hv1
  cases lo with
  |none=>cases hlo
  |some l=>
   obtain ⟨v,hv,e⟩:=xh4.1 (show (sEv E l).map some=_ from hlo)
   cases e
   obtain ⟨v2,hv2,gl⟩:=ha.ev hv;rw [VR.int hv2] at gl;exact ⟨_,trivial,fun _ _ _ _=>a4L hTb (hget t _ (by simp) ht) gy gl rfl h1 a ha.full _⟩
 ·cases h
theorem a67 {sz:Nat} {u:Value} {rows:List (List Value)} (h:a0R H sz u=some rows):∃ p m c,u=.slice p m c:=by
 unfold a0R at h
 split at h
 ·exact ⟨_,_,_,rfl⟩
 ·exact ⟨_,_,_,rfl⟩
 ·exact ⟨_,_,_,rfl⟩
 ·cases h
theorem b1e (hT:TOk P T) (hZ:ZOk T) {t t':TypeId} {y z:Operand} {s u:Value} {r:Option Value×SH×Nat} (hy:sEv E y=some s) (hz:sEv E z=some u) (h:a44 T H n t t' s u=some r):Snd P (.call { callee:=.builtin .append,args:=#[y,z],argTypes:=#[t,t'] }) E H n r:=by
 unfold a44 at h
 split at h
 ·rename_i e sz eb ag zz ht;rcases a1d h with ⟨h1,g⟩|⟨_,g⟩
  ·clear h;obtain rfl:=xa8 h1
   split at g
   ·rename_i news hr;have hu:=a67 hr;unfold a5u at g
    split at g
    ·rename_i p m c
     split at g
     ·obtain ⟨h2,g2⟩:=a8 g
      cases g2
      exact b0C hT ht hy hz hr (xe5 h2)
     ·rename_i n0 nr;obtain ⟨h2,g2⟩:=a8 g;clear g;have h2:=xe5 h2;have hne:n0::nr≠[]:=by simp
      generalize n0::nr=news at g2 h2 hr hne
      split at g2
      ·obtain ⟨h3,g3⟩:=a8 g2
       cases g3
       rw [xb6] at h3;obtain rfl:=xa8 h3.1;obtain rfl:=xa8 h3.2;exact a8w hT ht hy hz hu hr hne (by simpa using h2)
      ·rename_i i;unfold a9J at g2
       split at g2
       ·rename_i e' sz' rows cap ub hi;obtain ⟨h3,g3⟩:=a8 g2;clear g2;rw [xb6] at h3;obtain rfl:=xa8 h3.1;obtain rfl:=xa8 h3.2;rcases a1d g3 with ⟨h4,g4⟩|⟨_,g4⟩
        ·clear g3
         cases g4
         rw [xb6] at h4;obtain rfl:=xa8 h4.1;obtain rfl:=xa8 h4.2;exact a88 hT ht hi hy hz hu hr hne h2
        ·clear g3;obtain ⟨h4,g5⟩:=a8 g4
         cases g5
         rw [xb6] at h4;exact b0B hT ht hi hy hz hu hr hne (xe5 h4.1) (xe5 h4.2)
       ·cases g2
      ·cases g2
    ·cases g
   ·cases g
  ·clear h
   split at g
   ·rename_i s2 z2 m ht';unfold a9F at g
    split at g
    ·obtain ⟨h2,g2⟩:=a8 g
     cases g2
     simp only [xb6] at h2;exact b0V hT hZ ht ht' hy hz (by simpa [xb0] using h2.1) (xe5 h2.2.1) h2.2.2
    ·cases g
   ·cases g
 ·cases h
theorem b1y (hT:TOk P T) (hZ:ZOk T) {b:Builtin} {args:Array Operand} {ats:Array TypeId} {r:Option Value×SH×Nat} (h:b0F T E H n b args.toList ats.toList=some r):Snd P (.call { callee:=.builtin b,args:=args,argTypes:=ats }) E H n r:=by
 unfold b0F at h
 split at h
 ·rename_i x y t t' h1 h2;obtain rfl:=a6X h1;obtain rfl:=a6X h2
  split at h
  ·rename_i s u hx hy;exact b1e hT hZ hx hy h
  ·cases h
 ·rename_i x y t t' h1 h2;obtain rfl:=a6X h1;obtain rfl:=a6X h2
  split at h
  ·rename_i s u hx hy;exact a90 hT hx hy h
  ·cases h
 ·rename_i x t h1 h2;obtain rfl:=a6g h1;obtain rfl:=a6g h2
  split at h
  ·rename_i v hx;exact b0f hx h
  ·cases h
 ·cases h
theorem b1s (hT:TOk P T) {t:TypeId} {y z u:Operand} {m k v:Value} {r:Option Value×SH×Nat} (hy:sEv E y=some m) (hz:sEv E z=some k) (hu:sEv E u=some v) (h:a65 T H n t m k v=some r):Snd P (.insert t y z u) E H n r:=by
 have h2:=a9E hT hy hz hu h;exact h2
theorem b1I (hT:TOk P T) (hZ:ZOk T) {ez:List (Nat×Value)} (hE:a77 P ez) {op:Op} {r:Option Value×SH×Nat} (h:sOp T ez E H n op=some r):Snd P op E H n r:=by
 unfold sOp at h
 split at h
 ·split at h
  ·rename_i p hx;obtain ⟨v,hv,rfl⟩:=xh4.1 h;exact b0p hT hx hv
  ·cases h
 ·split at h
  ·rename_i p v hx hy;obtain ⟨H',hv,rfl⟩:=xh4.1 h;exact a8n hT hx hy hv
  ·cases h
 ·split at h
  ·rename_i v hx
   split at h
   ·rename_i L hL
    cases h
    exact b1u hx hL
   ·cases h
  ·cases h
 ·split at h
  ·rename_i ti ht
   cases h
   exact a8j hT hZ ht
  ·cases h
 ·exact b1G hT h
 ·exact b1K hT hZ h
 ·rename_i c;obtain ⟨cl,args,ats⟩:=c
  split at h
  ·rename_i b hb;dsimp only at hb h;subst hb;exact b1y hT hZ h
  ·cases h
 ·exact b1o hT h
 ·split at h
  ·rename_i ht
   split at h
   ·rename_i hk
    cases h
    exact b1J hT ht hk
   ·cases h
  ·cases h
 ·split at h
  ·rename_i m k hx hy;exact a9Z hT hE hx hy h
  ·cases h
 ·split at h
  ·rename_i m k v hx hy hz;exact a9E hT hx hy hz h
  ·cases h
 ·split at h
  ·rename_i m k v hx hy hz;exact b1s hT hx hy hz h
  ·cases h
 ·exact b1m hT h
 ·split at h
  ·rename_i ht hx
   cases h
   exact a8l hT hx ⟨_,_,ht⟩
  ·cases h
 ·exact b0J h
 ·cases h
end
section
variable {P:Program} {ops:Array Oper} {Q:Exit->Act->World->Prop}
abbrev Ea:=List (Nat×(World->Prop))
def o7 (ops:Array Oper) (j:Nat) (L:Ea):Ea:=L.filter fun p=>!t2 ops j p.1
def wpT (P:Program) (ops:Array Oper) (Q:Exit->Act->World->Prop):Nat->Ea->Array Bool->Act->World->Prop
 |0,_,li,a,w=>Region.ready .any ops li=[]/\Q .normal a w
 |f + 1,L,li,a,w=>(Region.ready .any ops li=[]->Q .normal a w)/\∀ j ∈ Region.ready .any ops li,wpOp P ops Q j (fun a' w'=>(∀ p ∈ o7 ops j L,p.2 w')/\wpT P ops Q f (o7 ops j L) (li.setIfInBounds j true) a' w') a w
theorem a5m:∀ (f:Nat) (L:Ea) (li:Array Bool) (a:Act) (w:World),wpT P ops Q f L li a w->wpAny P .any ops Q f li a w
 |0,_,_,_,_,h=>h
 |f + 1,L,_,_,_,h=>⟨h.1,fun i hi=>wpOp_mono (fun a' w' h'=>a5m f _ _ a' w' h'.2) (h.2 i hi)⟩
theorem a1R:∀ (f:Nat) {L L':Ea} {li:Array Bool} {a:Act} {w:World},(∀ p ∈ L',p ∈ L)->wpT P ops Q f L li a w->wpT P ops Q f L' li a w
 |0,_,_,_,_,_,_,h=>h
 |f + 1,L,L',_,_,_,hs,h=>⟨h.1,fun i hi=>wpOp_mono (fun a' w' h'=>by
   have hk:∀ p ∈ o7 ops i L',p ∈ o7 ops i L:=fun p hp=>by
    have:=xh2.1 hp;exact xh2.2 ⟨hs p this.1,this.2⟩
   exact ⟨fun p hp=>h'.1 p (hk p hp),a1R f hk h'.2⟩) (h.2 i hi)⟩
theorem a1Y {i:Nat} {oi:Oper} {v:Value} {S:World->Prop} (hi:ops[i]?=some oi) (hsel:∀ (j:Nat) (o:Oper) cs b,ops[j]?=some o->o.op≠.select cs b)
  (hQ:∀ c a w,Q (.panic c) (a.put oi.dst v) w->Q (.panic c) a w) :
  ∀ (fuel:Nat) (L:Ea) (li:Array Bool) (a:Act) (w:World),
   (∀ j oj,ops[j]?=some oj->j≠i->li.getD j true=false->(∀ e ∈ oj.after,Region.binds .any e=true->e.on≠i)->oi.apart ops oj=true) ->
   i ∈ Region.ready .any ops li->YieldsIf P ops S oi v a->S w->(∀ p ∈ L,p.2 w) ->
   wpT P ops Q fuel ((i,S)::L) (li.setIfInBounds i true) (a.put oi.dst v) w->wpT P ops Q (fuel + 1) L li a w:=by
 intro fuel;have step:∀ (li:Array Bool) (j:Nat),i ∈ Region.ready .any ops li->j ∈ Region.ready .any ops li->∀ oj,ops[j]?=some oj->∀ e ∈ oj.after,Region.binds .any e=true->e.on≠i:=by
  intro li j hr hj oj hoj e he hb heq;obtain ⟨_,o,ho,hall⟩:=mem_ready.1 hj;rw [hoj] at ho
  cases ho
  have h1:=hall e he hb;have h0:=(mem_ready.1 hr).1;rw [heq] at h1;rcases xg7 i li.size with h'|h'
  ·simp [h'] at h0 h1;rw [h0] at h1;cases h1
  ·simp [Array.getElem?_eq_none h'] at h1
 have nowait:∀ (li:Array Bool) (j:Nat),i ∈ Region.ready .any ops li->j ∈ Region.ready .any ops li->t2 ops j i=false:=fun li j hr hj=>by
  cases e:t2 ops j i with
  |false=>rfl
  |true=>
   obtain ⟨oq,hoq,e',he,hb,heq⟩:=a68 e;exact (step li j hr hj oq hoq e' he hb heq).elim
 induction fuel with
 |zero=>
  intro L li a w _ hr hy hS hL H;refine ⟨fun h=>(by rw [h] at hr;cases hr),fun j hj=>?_⟩;by_cases hji:j=i
  ·subst hji;exact hy.wpOp hi hS ⟨fun p hp=>hL p (xh2.1 hp).1,H⟩
  ·have:=ready_mono hj hji;rw [H.1] at this
   cases this
 |succ fuel ih=>
  intro L li a w hfree hr hy hS hL H;refine ⟨fun h=>(by rw [h] at hr;cases hr),fun j hj=>?_⟩;by_cases hji:j=i
  ·subst hji;exact hy.wpOp hi hS ⟨fun p hp=>hL p (xh2.1 hp).1,a1R _ (fun p hp=>xb5 _ (xh2.1 hp).1) H⟩
  ·have hnw:=nowait li j hr hj;have h1:=H.2 j (ready_mono hj hji);obtain ⟨hjun,oj,hoj,_⟩:=mem_ready.1 hj;have h2:=wpOp_putIf hoj (hfree j oj hoj hji hjun (step li j hr hj oj hoj)) (fun cs b=>hsel i oi cs b hi) (fun cs b=>hsel j oj cs b hoj) hQ hy h1;have hfree':∀ k ok,ops[k]?=some ok->k≠i->(li.setIfInBounds j true).getD k true=false ->
     (∀ e ∈ ok.after,Region.binds .any e=true->e.on≠i)->oi.apart ops ok=true:=fun k ok hk hki hun hno=>by
    refine hfree k ok hk hki ?_ hno;by_cases hjk:j=k
    ·subst hjk;exact hjun
    ·rw [getD_set_ne true hjk] at hun;exact hun
   have hkeep:o7 ops j ((i,S)::L)=(i,S)::o7 ops j L:=by
    unfold o7;rw [List.filter_cons,hnw];rfl
   refine wpOp_mono (fun a' w' h3=>?_) h2;obtain ⟨h4,h5,h6⟩:=h3;rw [hkeep] at h5 h6;refine ⟨fun p hp=>h5 p (xb5 _ hp),ih (o7 ops j L) (li.setIfInBounds j true) a' w' hfree' (ready_mono hr (Ne.symm hji)) h4 (h5 _ xb4) (fun p hp=>h5 p (xb5 _ hp)) ?_⟩;rw [Array.setIfInBounds_comm _ _ hji];exact h6
end
def PQ (Q:Exit->Act->World->Prop):Prop:=∀ c (a:Act) w d v,Q (.panic c) (a.put d v) w->Q (.panic c) a w
def v9 (P:Program) (call:a19):Prop:=∀ g vs H n v H' n',call g vs H n=.ok (v,H',n')->n<=n'/\∀ {w0 w:World} {ρ:Ren} {hi:Nat} {us:List Value},LR ρ vs us->Inv P w0 ρ H w->Fsh ρ n hi->n'<=hi->Fn P g us w (fun u w'=>∃ σ,Stp ρ σ n n'/\VR σ v u/\Inv P w0 σ H' w')
def IOk (P:Program) (I:List (Nat×List (String×Nat))):Prop:=∀ t ms,d4 I t=some ms->P.concrete t=true/\∀ name g,a9n ms name=some g->a7m P t name g=true
structure COk (P:Program) (C:Cx):Prop where
 T:TOk P C.T
 Z:ZOk C.T
 q:QOk P C.q
 ez:a77 P C.ez
 I:IOk P C.I
section
variable {P:Program} {C:Cx} {call:a19} {w0 w w':World} {ρ σ:Ren} {N:Nat} {ds:List Deferred} {a:Act} {E E':Fr} {H H':SH} {n n':Nat} {Q:Exit->Act->World->Prop}
theorem a4d {o:Oper} {K:Act->World->Prop} (h:Oper.wp P ⟨o.dst,o.op,o.type,o.pos,o.after,none⟩ a w K Q):o.wp P a w K Q:=h
theorem a5t (hC:COk P C) {op:Op} {pos:String} {r:Option Value×SH×Nat} (h:a8A C op pos E H n=.ok r):Snd P op E H n r:=by
 unfold a8A at h
 split at h
 ·rename_i v hv
  cases h
  exact Snd.of_yl fun ha=>a7K hC.T hC.Z hC.q ha hv
 ·split at h
  ·rename_i r' hr
   cases h
   exact b1I hC.T hC.Z hC.ez hr
  ·cases h
theorem a7j (hc:v9 P call) {f:Operand} {args:Array Operand} {ats:Array TypeId} {pos:String} {r:Option Value×SH×Nat} (h:b0y call pos E H n f args.toList=.ok r):Snd P (.call { callee:=.value f,args:=args,argTypes:=ats }) E H n r:=by
 unfold b0y at h
 split at h
 ·rename_i g first caps vs hf hv
  split at h
  ·rename_i v r' hr
   cases h
   obtain ⟨H',n'⟩:=r';obtain ⟨hle,hs⟩:=hc g _ H n v H' n' hr;refine ⟨hle,fun {w0 w ρ N ds a hi} ha hI hF hn dst ty pos after K Q kk=>?_⟩;obtain ⟨u,hu,gf⟩:=ha.ev hf;obtain ⟨us,hus,gv⟩:=ha.evs hv;obtain ⟨first',caps',rfl,h1,h2⟩:=VR.fun_ (a:=first.toList) (b:=caps.toList) hu;refine a3x gf gv (hs ((h1.app hus).app h2) hI hF hn) a ha.full K Q fun v' w' ⟨σ,hσ,hv',hI'⟩=>kk v' w' σ hσ hv' hI'
  ·cases h
 ·cases h
theorem VR.iface_ {t:TypeId} {v u:Value} (h:VR ρ (.iface t v) u):∃ u',u=.iface t u'/\VR ρ v u':=by
 unfold VR m8 at h;obtain ⟨u',h1,h2⟩:=xh4.1 h;exact ⟨u',h2.symm,h1⟩
theorem a9a (hC:COk P C) (hc:v9 P call) {f:Operand} {name:String} {args:Array Operand} {ats:Array TypeId} {pos:String} {r:Option Value×SH×Nat} (h:b0g C call pos E H n f name args.toList=.ok r):Snd P (.call { callee:=.invoke f name,args:=args,argTypes:=ats }) E H n r:=by
 unfold b0g at h
 split at h
 ·rename_i t u vs hf hv
  split at h
  ·rename_i ms hms
   split at h
   ·rename_i g hg
    split at h
    ·rename_i v r' hr
     cases h
     obtain ⟨H',n'⟩:=r';obtain ⟨hle,hs⟩:=hc g _ H n v H' n' hr;refine ⟨hle,fun {w0 w ρ N ds a hi} ha hI hF hn dst ty pos after K Q kk=>?_⟩;obtain ⟨x,hx,gf⟩:=ha.ev hf;obtain ⟨us,hus,gv⟩:=ha.evs hv;obtain ⟨u',rfl,hu'⟩:=VR.iface_ hx;refine a6V gf gv ((hC.I t ms hms).2 name g hg) (hs (LR.cons hu' hus) hI hF hn) a ha.full K Q fun v' w' ⟨σ,hσ,hv',hI'⟩=>kk v' w' σ hσ hv' hI'
    ·cases h
   ·cases h
  ·cases h
 ·cases h
theorem a8z (hC:COk P C) {t:TypeId} {x:Operand} {pos:String} {r:Option Value×SH×Nat} (h:a95 C pos E H n t x=.ok r):Snd P (.makeInterface t x) E H n r:=by
 unfold a95 at h
 split at h
 ·rename_i ms v hms hx
  cases h
  refine Snd.of_yl fun ha=>?_;obtain ⟨u,hu,gx⟩:=ha.ev hx;refine ⟨.iface t u,by unfold VR m8;rw [show m8 _ v=some u from hu];rfl,fun dst ty pos after w=>?_⟩;simp only [execOp,ha.full.ev gx,Sem.run_bind,run_makeInterface w t u (hC.I t ms hms).1,Result.andThen_ok,Sem.run_pure]
 ·cases h
theorem a2a (hC:COk P C) (hc:v9 P call) {op:Op} {pos:String} {r:Option Value×SH×Nat} (h:a2J C call op pos E H n=.ok r):Snd P op E H n r:=by
 unfold a2J at h
 split at h
 ·rename_i c;obtain ⟨cl,args,ats⟩:=c
  split at h
  ·rename_i f hf;dsimp only at hf h;subst hf;exact a7j hc h
  ·rename_i f name hf;dsimp only at hf h;subst hf;exact a9a hC hc h
  ·exact a5t hC h
 ·exact a8z hC h
 ·exact a5t hC h
theorem x7 {ops:Array Oper} {o:Oper} {b:Bool} (ha:HasR ρ N ds a E) (h:a17 ops.toList E o=some b):Region.wanted o (yielded ops a.tmps)=b:=by
 unfold a17 at h
 split at h
 ·rename_i hg
  cases h
  simp [Region.wanted,hg]
 ·rename_i j wb hg;rw [n9] at h
  split at h
  ·rename_i oj hj;have hj:ops[j]?=some oj:=by simpa using hj
   split at h
   ·rename_i dj hdj
    split at h
    ·rename_i c hb
     cases h
     obtain ⟨u,hu,hat⟩:=ha.at_ dj _ hb;rw [VR.bool hu] at hat;have hy:yielded ops a.tmps j=some c:=by simp [yielded,hj,hdj,hat]
     simp only [Region.wanted,hg,hy]
     cases c <;> cases wb <;> rfl
    ·rename_i v hne hb
     cases h
     obtain ⟨u,hu,hat⟩:=ha.at_ dj _ hb;have hy:yielded ops a.tmps j=none:=by
      simp only [yielded,hj,hdj,hat,Option.bind_some]
      cases u with
      |bool c=>
       exfalso;unfold VR m8 at hu
       split at hu
       all_goals first
        |(cases hu;exact hne _ rfl)
        |(obtain ⟨_,_,hu⟩:=xh4.1 hu;cases hu;done)
        |(obtain ⟨_,_,hu⟩:=xj3.1 hu;obtain ⟨_,_,hu⟩:=xh4.1 hu;cases hu;done)
        |(cases hu;done)
      |_=>rfl
     simp only [Region.wanted,hg,hy];rfl
    ·cases h
   ·cases h
  ·cases h
def a4a (N:Nat) (o:Oper):Bool:=match o.dst with
 |some d=>Nat.blt d N
 |none=>true
theorem a1q {o:Oper} (h:a4a N o=true):∀ k,o.dst=some k->k < N:=fun k hk=>by
 unfold a4a at h;rw [hk] at h
 simpa [xb0] using h
theorem VR.undef:VR ρ Go.undef Go.undef:=VR.mkTup LR.nil
theorem a1m (hC:COk P C) (hc:v9 P call) {ops:Array Oper}:∀ {l:List Oper} {E:Fr} {H:SH} {n:Nat},l.all (a4a N)=true->a2Y C call ops.toList l E H n=.ok (E',H',n')->n<=n'/\∀ {w0 w:World} {ρ:Ren} {ds:List Deferred} {a:Act} {hi:Nat},HasR ρ N ds a E->Inv P w0 ρ H w->Fsh ρ n hi->n'<=hi->(∀ a' w' σ,Stp ρ σ n n'->HasR σ N ds a' E'->Inv P w0 σ H' w'->Q .normal a' w')->wpList P ops Q l a w
 |[],E,H,n,_,h=>by
  cases h
  exact ⟨xc4 _,fun ha hI _ _ k=>k _ _ _ (Stp.refl _ _ _) ha hI⟩
 |o::r,E,H,n,hd,h=>by
  simp only [xi4,xb6] at hd;rw [show a2Y C call ops.toList (o::r) E H n=(match a17 ops.toList E o with
   |some true=>match a2J C call o.op o.pos E H n with
    |.ok (v,H',n')=>a2Y C call ops.toList r (a0a E o.dst v) H' n'
    |.no p=>.no p
   |some false=>a2Y C call ops.toList r (a0a E o.dst (some undef)) H n
   | none => .no "guard") from rfl] at h
  split at h
  ·rename_i hw
   split at h
   ·rename_i v H1 n1 hr;obtain ⟨h1,h2⟩:=a2a hC hc hr;obtain ⟨h3,h4⟩:=a1m hC hc hd.2 h;refine ⟨xc5 h1 h3,fun {w0 w ρ ds a hi} ha hI hF hn k=>?_⟩;unfold wpList;rw [xd6 (x7 ha hw)];exact xc6 (a4d (h2 ha hI hF (xc5 h3 hn) _ _ _ _ _ _ fun u w1 σ hσ hu hI1=>h4 ((ha.mono hσ.le).putE o.dst (a1q hd.1) hu) hI1 (hF.step hσ h1) hn fun a' w' τ hτ ha' hI'=>k a' w' τ (hσ.trans hτ h1 h3) ha' hI'))
   ·cases h
  ·rename_i hw;obtain ⟨h3,h4⟩:=a1m hC hc hd.2 h;refine ⟨h3,fun {w0 w ρ ds a hi} ha hI hF hn k=>?_⟩;unfold wpList;rw [xd7 (by rw [x7 ha hw];simp)];exact h4 (ha.putE o.dst (a1q hd.1) VR.undef) hI hF hn k
  ·cases h
end
def a38:Pl->List Nat
 |.alt i _ _ more=>i::a38 more
 |_=>[]
noncomputable def plB (ops:Array Oper) (p:Pl):(Nat->Array Bool->Bool)×(Nat->Array Bool->Bool):=@Pl.rec (fun _=>(Nat->Array Bool->Bool)×(Nat->Array Bool->Bool))
 (fun _ li=>(Region.ready .any ops li).isEmpty,fun _ _=>false)
 (fun _ _=>false,fun _ _=>true)
 (fun i _ k=>(fun f li=>match f with
  |0=>false
  |f + 1=>Nat.blt i ops.size && (Region.free .any ops li i && ((Region.ready .any ops li).contains i && k.1 f (li.setIfInBounds i true))),fun _ _=>false))
 (fun i dr _ k=>(fun f li=>match f with
  |0=>false
  |f + 1=>(Region.ready .any ops li).all (Nat.beq i) && ((Region.ready .any ops li).contains i && (dr.all (t2 ops i) && k.1 f (li.setIfInBounds i true))),fun _ _=>false))
 (fun _ _ k=>(k.1,fun _ _=>false))
 (fun i dr p more k m=>(fun f li=>match f with
  |0=>false
  |f + 1=>(Region.ready .any ops li).all (fun j=>(i::a38 more).any (Nat.beq j)) && ((Region.ready .any ops li).contains i && (Nat.blt i ops.size && (!li.getD i true && (dr.all (t2 ops i) && (k.1 f (li.setIfInBounds i true) && m.2 f li))))),
  fun f li=>Nat.blt i ops.size && (!li.getD i true && (dr.all (t2 ops i) && (k.1 f (li.setIfInBounds i true) && m.2 f li))))) p
section
variable {P:Program} {C:Cx} {call:a19} {w0 w w':World} {ρ σ:Ren} {N:Nat} {ds:List Deferred} {a:Act} {E E':Fr} {H H':SH} {n n':Nat} {Q:Exit->Act->World->Prop} {ops:Array Oper}
inductive EL (P:Program) (ρ:Ren) (w:World):a0r->Ea->Prop where
 |nil:EL P ρ w [] []
 |cons {i:Nat} {t:TypeId} {pv v:Value} {p:Addr} {u:Value} {L:a0r} {M:Ea} (hp:VR ρ pv (.pointer (some p))) (hv:VR ρ v u) (hl:Ld P t p u w) (h:EL P ρ w L M):EL P ρ w ((i,t,pv,v)::L) ((i,fun w=>Ld P t p u w)::M)
 |triv {i:Nat} {L:a0r} {M:Ea} (h:EL P ρ w L M):EL P ρ w L ((i,fun _=>True)::M)
theorem EL.all {L:a0r} {M:Ea} (h:EL P ρ w L M):∀ p ∈ M,p.2 w:=by
 induction h with
 |nil=>simp
 |cons _ _ hl _ ih=>
  intro p hp;rcases xb3.1 hp with rfl|hp
  ·exact hl
  ·exact ih p hp
 |triv _ ih=>
  intro p hp;rcases xb3.1 hp with rfl|hp
  ·trivial
  ·exact ih p hp
mutual
theorem a04:∀ (k:Nat) {a b:Value},vEq k a b=true->a=b
 |0,_,_,h=>by cases h
 |k + 1,a,b,h=>by
  unfold vEq at h
  split at h
  ·simp at h;rw [h]
  ·rw [xb6] at h;rw [a6B h.1,xi8 h.2]
  ·rw [xi8 h]
  ·rfl
  ·rw [xb6] at h;rw [xa8 h.1,xa8 h.2]
  ·rw [xb6] at h;rw [xa8 h.1,xa8 h.2]
  ·simp only [xb6] at h;rw [xa8 h.1,xa8 h.2.1,xa8 h.2.2.1,xa8 h.2.2.2]
  ·rfl
  ·rw [xa8 h]
  ·rfl
  ·simp only [xb6] at h;rw [xa8 h.1,a0j k h.2.1,a0j k h.2.2]
  ·rfl
  ·rw [xb6] at h;rw [xa8 h.1,a04 k h.2]
  ·rw [a0j k h]
  ·rw [a0j k h]
  ·cases h
theorem a0j:∀ (k:Nat) {a b:List Value},a3s k a b=true->a=b
 |0,_,_,h=>by cases h
 |k + 1,a,b,h=>by
  unfold a3s at h
  split at h
  ·rename_i e;cases e
  ·rfl
  ·rename_i e
   cases e
   rw [xb6] at h;rw [a04 _ h.1,a0j _ h.2]
  ·cases h
end
theorem a4f:∀ {a b:List (List Value)},a5s a b=true->a=b
 |[],[],_=>rfl
 |a::l,b::r,h=>by
  unfold a5s at h;rw [xb6] at h;rw [a0j _ h.1,a4f h.2]
 |[],_::_,h=>by cases h
 |_::_,[],h=>by cases h
theorem a5b:∀ {a b:List (Value×Value)},a84 a b=true->a=b
 |[],[],_=>rfl
 |(a,c)::l,(b,d)::r,h=>by
  unfold a84 at h;simp only [xb6] at h;rw [a04 _ h.1,a04 _ h.2.1,a5b h.2.2]
 |[],_::_,h=>by cases h
 |_::_,[],h=>by cases h
theorem a8u {a b:SA} (h:b0q a b=true):a=b:=by
 unfold b0q at h
 split at h
 ·rw [a0j _ h]
 ·simp only [xb6,beq_iff_eq] at h;rw [xa8 h.1,xa8 h.2.1,xa8 h.2.2.1,h.2.2.2.1,a4f h.2.2.2.2]
 ·rw [xb6] at h;rw [xa8 h.1,a5b h.2]
 ·rw [xb6] at h;rw [xa8 h.1,xi8 h.2]
 ·cases h
theorem a76:∀ {a b:SH},hEq a b=true->a=b
 |[],[],_=>rfl
 |(i,a)::l,(j,b)::r,h=>by
  unfold hEq at h;simp only [xb6] at h;rw [xa8 h.1,a8u h.2.1,a76 h.2.2]
 |[],_::_,h=>by cases h
 |_::_,[],h=>by cases h
theorem a22 {E1 E2:Fr}:∀ {l:Fr},a2V E1 E2 l=true->∀ d v,(d,v) ∈ l->∃ u,d4 E1 d=some u/\d4 E2 d=some u
 |[],_,d,v,h=>by cases h
 |(d',v')::r,h,d,v,hm=>by
  unfold a2V at h;rw [xb6] at h;rcases xb3.1 hm with e|hm
  ·cases e
   have h1:=h.1
   split at h1
   ·rename_i u u' e1 e2;exact ⟨u,e1,by rw [e2,a04 _ h1]⟩
   ·cases h1
  ·exact a22 h.2 d v hm
theorem HasR.same {E1 E2:Fr} (h:HasR ρ N ds a E2) (he:a2V E1 E2 E1=true):HasR ρ N ds a E1:=⟨h.size,h.defers,fun t v ht=>by
 obtain ⟨u,e1,e2⟩:=a22 he t v (a0G ht);rw [ht] at e1
 cases e1
 exact h.at_ t v e2⟩
theorem EL.still (hT:TOk P C.T) {L:a0r} {M:Ea} {j:Nat} {dr:List Nat} (h:EL P ρ w L M) (hd:dr.all (t2 ops j)=true) (hs:a0B C.T H' (z9 dr L)=true) (hI:Inv P w0 σ H' w') (hle:Rle ρ σ):∃ M',EL P σ w' (z9 dr L) M'/\∀ p ∈ o7 ops j M,p ∈ M':=by
 induction h with
 |nil=>exact ⟨[],EL.nil,fun p hp=>by simp [o7] at hp⟩
 |@triv i L M h ih=>
  obtain ⟨M',h1,h2⟩:=ih hs;refine ⟨_,EL.triv (i:=i) h1,fun q hq=>?_⟩;obtain ⟨hq1,hq2⟩:=xh2.1 hq;rcases xb3.1 hq1 with rfl|hq1
  ·exact xb4
  ·exact xb5 _ (h2 q (xh2.2 ⟨hq1,hq2⟩))
 |@cons i t pv v p u L M hp hv hl h ih=>
  unfold z9 at hs |-;rw [List.filter_cons] at hs |-
  cases e:dr.any (Nat.beq i) with
  |true=>
   simp only [e,Bool.not_true,Bool.false_eq_true,if_false] at hs |-;obtain ⟨M',h1,h2⟩:=ih hs;refine ⟨M',h1,fun q hq=>?_⟩;obtain ⟨hq1,hq2⟩:=xh2.1 hq;rcases xb3.1 hq1 with rfl|hq1
   ·obtain ⟨k,hk,hki⟩:=xi9.1 e;obtain rfl:=xa8 hki;have:=xb7.1 hd _ hk;rw [this] at hq2
    cases hq2
   ·exact h2 q (xh2.2 ⟨hq1,hq2⟩)
  |false=>
   simp only [e,Bool.not_false,if_true] at hs |-;unfold a0B at hs;rw [xb6] at hs;obtain ⟨M',h1,h2⟩:=ih hs.2;have hs1:=hs.1
   split at hs1
   ·rename_i u' hu';obtain rfl:=a04 _ hs1;obtain ⟨b,o,x,e1,e2,e3⟩:=a3e hT hI hu' (hp.mono hle)
    cases e1
    obtain rfl:=VR.fn (hv.mono hle) e2;refine ⟨_,EL.cons (hp.mono hle) (hv.mono hle) e3 h1,fun q hq=>?_⟩;obtain ⟨hq1,hq2⟩:=xh2.1 hq;rcases xb3.1 hq1 with rfl|hq1
    ·exact xb4
    ·exact xb5 _ (h2 q (xh2.2 ⟨hq1,hq2⟩))
   ·cases hs1
theorem EL.mono {L:a0r} {M:Ea} (h:EL P ρ w L M) (hle:Rle ρ σ):EL P σ w L M:=by
 induction h with
 |nil=>exact EL.nil
 |cons hp hv hl _ ih=>exact EL.cons (hp.mono hle) (hv.mono hle) hl ih
 |triv _ ih=>exact EL.triv ih
theorem Stp.join {τ:Ren} {x y m0:Nat} (h:Stp ρ σ x y) (h2:Stp σ τ m0 n') (hx:m0<=x) (hy:y<=n'):Stp ρ τ m0 n' :=
 ⟨h.le.trans h2.le,fun j hj=>(h2.only j hj).trans (h.only j (by omega))⟩
structure PS (P:Program) (w0:World) (ρ:Ren) (N:Nat) (ds:List Deferred) (a:Act) (E:Fr) (H:SH) (w:World) (n hi b z:Nat) (li:Array Bool) (L:a0r) (M:Ea) (size m0:Nat):Prop where
 ha:HasR ρ N ds a E
 hI:Inv P w0 ρ H w
 hF:Fsh ρ n hi
 hG:∀ j,j < size->li.getD j true=false->Fsh ρ (b + z * j) (b + z * (j + 1))
 hb:m0<=b
 hbn:b + z * size<=n
 hL:EL P ρ w L M
theorem a2Q {li:Array Bool} {i j:Nat} (h:(li.setIfInBounds i true).getD j true=false):li.getD j true=false/\j≠i:=by
 by_cases e:i=j
 ·subst e;rcases xg7 i li.size with h'|h'
  ·simp [h'] at h
  ·simp [Array.getElem?_eq_none (show (li.setIfInBounds i true).size<=i by simpa using h')] at h
 ·rw [getD_set_ne true e] at h;exact ⟨h,Ne.symm e⟩
theorem b1A {z i j s:Nat} (h:i < j) (hj:j<=s):z * (i + 1)<=z * j/\z * j<=z * s:=⟨xf1 z h,xf1 z hj⟩
theorem PS.next {hi b z m0 i x n1:Nat} {li:Array Bool} {L:a0r} {M:Ea} {dr:List Nat} {v:Option Value} {u:Value} {o:Oper} (hT:TOk P C.T) (h:PS P w0 ρ N ds a E H w n hi b z li L M ops.size m0) (hd:a4a N o=true) (hσ:Stp ρ σ x n1) (hu:OR σ v u) (hI:Inv P w0 σ H' w') (hdr:dr.all (t2 ops i)=true) (hst:a0B C.T H' (z9 dr L)=true)
  (hx:(x=n/\n'=n1)\/(x=b + z * i/\n1<=b + z * (i + 1)/\i < ops.size/\n'=n)) (hle:x<=n1) :
  ∃ M',(∀ p ∈ o7 ops i M,p ∈ M')/\PS P w0 σ N ds (a.put o.dst u) (a0a E o.dst v) H' w' n' hi b z (li.setIfInBounds i true) (z9 dr L) M' ops.size m0:=by
 obtain ⟨M',h1,h2⟩:=h.hL.still hT hdr hst hI hσ.le;refine ⟨M',h2,(h.ha.mono hσ.le).putE o.dst (a1q hd) hu,hI,fun j hj1 hj2=>?_,fun j hj hl k hk1 hk2=>?_,h.hb,?_,h1⟩
 ·rcases hx with ⟨rfl,rfl⟩|⟨rfl,hx,hi',rfl⟩
  ·exact (hσ.only j (xc3 hj1)).trans (h.hF j (by omega) hj2)
  ·have:z * (i + 1)<=z * ops.size:=xf1 z hi';have:=h.hbn;exact (hσ.only j (xc3 (by omega))).trans (h.hF j (by omega) hj2)
 ·obtain ⟨hl,hne⟩:=a2Q hl;have h0:=h.hG j hj hl k hk1 hk2;have hj2:z * (j + 1)<=z * ops.size:=xf1 z hj;have:=h.hbn;rcases hx with ⟨rfl,rfl⟩|⟨rfl,hx,hi',rfl⟩
  ·exact (hσ.only k (xc6 (by omega))).trans h0
  ·rcases Nat.lt_or_gt_of_ne hne with hlt|hlt
   ·have:=(b1A (z:=z) (s:=ops.size) hlt (by omega)).1;exact (hσ.only k (xc6 (by omega))).trans h0
   ·have:=(b1A (z:=z) (s:=ops.size) hlt (by omega)).1;exact (hσ.only k (xc3 (by omega))).trans h0
 ·have:=h.hbn;rcases hx with ⟨rfl,rfl⟩|⟨rfl,hx,hi',rfl⟩ <;> omega
theorem a5h {i:Nat} {o:Oper} {b:Bool} {K:Act->World->Prop} (hi:ops[i]?=some o) (hw:Region.wanted o (yielded ops a.tmps)=b) (h1:b=true->Oper.wp P ⟨o.dst,o.op,o.type,o.pos,o.after,none⟩ a w K Q) (h2:b=false->K (a.put o.dst undef) w):wpOp P ops Q i K a w:=by
 unfold wpOp;simp only [hi]
 cases b with
 |true=>rw [xd6 hw];exact xc6 (a4d (h1 rfl))
 |false=>rw [xd7 (by rw [hw];simp)];exact h2 rfl
theorem b0G (hC:COk P C) (hc:v9 P call) (hQ:PQ Q) (hsel:Region.noSelect ops=true) (hd:ops.toList.all (a4a N)=true) (p:Pl) :
  (∀ f li b z L E H n E' H' n',(plB ops p).1 f li=true->xPl C call ops.toList p b z L E H n=.ok (E',H',n')->n<=n'/\∀ {w0 w:World} {ρ:Ren} {ds:List Deferred} {a:Act} {hi m0:Nat} {M:Ea},PS P w0 ρ N ds a E H w n hi b z li L M ops.size m0->n'<=hi->(∀ a' w' σ,Stp ρ σ m0 n'->HasR σ N ds a' E'->Inv P w0 σ H' w'->Q .normal a' w')->wpT P ops Q f M li a w) /\
  (∀ f li b z L E H n E' H' n',(plB ops p).2 f li=true->xPl C call ops.toList p b z L E H n=.ok (E',H',n')->n<=n'/\∀ {w0 w:World} {ρ:Ren} {ds:List Deferred} {a:Act} {hi m0:Nat} {M:Ea},PS P w0 ρ N ds a E H w n hi b z li L M ops.size m0->n'<=hi->(∀ a' w' σ,Stp ρ σ m0 n'->HasR σ N ds a' E'->Inv P w0 σ H' w'->Q .normal a' w')->∀ j ∈ a38 p,wpOp P ops Q j (fun a' w'=>(∀ q ∈ o7 ops j M,q.2 w')/\wpT P ops Q f (o7 ops j M) (li.setIfInBounds j true) a' w') a w):=by
 have hdo:∀ {i:Nat} {o:Oper},ops[i]?=some o->a4a N o=true:=fun {i o} hi=>xb7.1 hd o (by
  have:ops.toList[i]?=some o:=by simpa using hi
  exact xc0 this)
 induction p with
 |nil=>
  refine ⟨fun f li b z L E H n E' H' n' hp h=>?_,fun f li b z L E H n E' H' n' hp h=>by cases hp⟩
  cases h
  have hr:Region.ready .any ops li=[]:=List.isEmpty_iff.1 hp;refine ⟨xc4 _,fun hS hn k=>?_⟩;have hq:=k _ _ _ (Stp.refl _ _ _) hS.ha hS.hI
  cases f with
  |zero=>exact ⟨hr,hq⟩
  |succ f=>exact ⟨fun _=>hq,by rw [hr];simp⟩
 |stop=>
  exact ⟨fun f li b z L E H n E' H' n' hp h=>(by cases hp),fun f li b z L E H n E' H' n' hp h=>by cases h⟩
 |take i p ih=>
  refine ⟨fun f li b z L E H n E' H' n' hp h=>?_,fun f li b z L E H n E' H' n' hp h=>by cases hp⟩
  cases f with
  |zero=>cases hp
  |succ f=>
  replace hp:(Nat.blt i ops.size && (Region.free .any ops li i && ((Region.ready .any ops li).contains i && (plB ops p).1 f (li.setIfInBounds i true))))=true:=hp;simp only [xb6] at hp;obtain ⟨hp1,hp2,hp3,hp4⟩:=hp;replace h:a6Q C ops.toList i (xPl C call ops.toList p) b z L E H n=.ok (E',H',n'):=h;unfold a6Q at h;rw [n9] at h
  split at h
  ·rename_i o ho;have ho:ops[i]?=some o:=by simpa using ho
   have hQ':∀ v c (a:Act) w,Q (.panic c) (a.put o.dst v) w->Q (.panic c) a w:=fun v c a w=>hQ c a w o.dst v;have hsp:=Region.noSelect_spec hsel;have hrm:i ∈ Region.ready .any ops li:=by simpa using hp3
   have G:∀ {z:Nat} {ρ:Ren},(∀ j,j < ops.size->li.getD j true=false->Fsh ρ (b + z * j) (b + z * (j + 1)))->∀ j,j < ops.size->(li.setIfInBounds i true).getD j true=false->Fsh ρ (b + z * j) (b + z * (j + 1)):=fun hG j hj hl=>hG j hj (a2Q hl).1
   split at h
   ·rename_i hw;obtain ⟨h1,h2⟩:=ih.1 f _ _ _ _ _ _ _ _ _ _ hp4 h;refine ⟨h1,fun {w0 w ρ ds a hi m0 M} hS hn k=>?_⟩;refine a1Y (S:=fun _=>True) ho hsp (hQ' undef) f M li a w (Region.free_spec ho hp2) hrm (xc3 ⟨x7 hS.ha hw,rfl⟩) trivial hS.hL.all ?_;exact h2 ⟨hS.ha.putE o.dst (a1q (hdo ho)) VR.undef,hS.hI,hS.hF,G hS.hG,hS.hb,hS.hbn,EL.triv hS.hL⟩ hn k
   ·rename_i hw
    split at h
    ·rename_i t x hop
     split at h
     ·rename_i pv hx
      split at h
      ·rename_i v hv;obtain ⟨h1,h2⟩:=ih.1 f _ _ _ _ _ _ _ _ _ _ hp4 h;refine ⟨h1,fun {w0 w ρ ds a hi m0 M} hS hn k=>?_⟩;obtain ⟨p',hp',gx⟩:=hS.ha.ev hx;obtain ⟨bb,oo,u,rfl,hu,hl⟩:=a3e hC.T hS.hI hv hp';refine a1Y (S:=fun w=>Ld P t ⟨bb,oo,none⟩ u w) ho hsp (hQ' u) f M li a w (Region.free_spec ho hp2) hrm (xc6 ⟨x7 hS.ha hw,fun w2 hw2=>?_⟩) hl hS.hL.all ?_
       ·have hw2:(loadVar t ⟨bb,oo,none⟩).run P w2=.ok u w2:=hw2;obtain ⟨dst,op,ty,pos,after,g⟩:=o;dsimp only at hop;subst hop;simp only [execOp,hS.ha.full.ev gx,Instr.loadAt,Instr.sureAddr,Sem.run_bind,Sem.run_pure,Result.andThen_ok,hw2]
       ·exact h2 ⟨hS.ha.putE o.dst (a1q (hdo ho)) (v:=some v) hu,hS.hI,hS.hF,G hS.hG,hS.hb,hS.hbn,EL.cons hp' hu hl hS.hL⟩ hn k
      ·cases h
     ·cases h
    ·split at h
     ·rename_i v hv;obtain ⟨h1,h2⟩:=ih.1 f _ _ _ _ _ _ _ _ _ _ hp4 h;refine ⟨h1,fun {w0 w ρ ds a hi m0 M} hS hn k=>?_⟩;obtain ⟨u,hu,hr⟩:=a7K hC.T hC.Z hC.q hS.ha hv;refine a1Y (S:=fun _=>True) ho hsp (hQ' u) f M li a w (Region.free_spec ho hp2) hrm (xc6 ⟨x7 hS.ha hw,fun w2 _=>hr o.dst o.type o.pos o.after w2⟩) trivial hS.hL.all ?_;exact h2 ⟨hS.ha.putE o.dst (a1q (hdo ho)) (v:=some v) hu,hS.hI,hS.hF,G hS.hG,hS.hb,hS.hbn,EL.triv hS.hL⟩ hn k
     ·cases h
   ·cases h
  ·cases h
 |one i dr p ih=>
  refine ⟨fun f li b z L E H n E' H' n' hp h=>?_,fun f li b z L E H n E' H' n' hp h=>by cases hp⟩
  cases f with
  |zero=>cases hp
  |succ f=>
  replace hp:((Region.ready .any ops li).all (Nat.beq i) && ((Region.ready .any ops li).contains i && (dr.all (t2 ops i) && (plB ops p).1 f (li.setIfInBounds i true))))=true:=hp;simp only [xb6] at hp;obtain ⟨hp1,hp2,hp3,hp4⟩:=hp;replace h:a91 C call ops.toList i dr (xPl C call ops.toList p) b z L E H n=.ok (E',H',n'):=h;unfold a91 at h;rw [n9] at h
  split at h
  ·rename_i o ho;have ho:ops[i]?=some o:=by simpa using ho
   split at h
   ·rename_i wb hw
    split at h
    ·rename_i v H1 n1 hr;have key:n<=n1/\(wb=true->Snd P o.op E H n (v,H1,n1))/\(wb=false->v=some undef/\H1=H/\n1=n):=by
      cases wb with
      |true=>
       have:=a2a hC hc hr;exact ⟨this.1,fun _=>this,fun h=>by cases h⟩
      |false=>cases hr;exact ⟨xc4 _,(fun h=>by cases h),fun _=>⟨rfl,rfl,rfl⟩⟩
     cases hst:a0B C.T H1 (z9 dr L) with
     |false=>rw [hst] at h;cases h
     |true=>
     rw [hst] at h;obtain ⟨h1,h2⟩:=ih.1 f _ _ _ _ _ _ _ _ _ _ hp4 h;refine ⟨xc5 key.1 h1,fun {w0 w ρ ds a hi m0 M} hS hn k=>⟨fun h0=>(by rw [h0] at hp2;cases hp2),fun j hj=>?_⟩⟩;obtain rfl:=xa8 (xb7.1 hp1 j hj);have fin:∀ u w' σ,Stp ρ σ n n1->OR σ v u->Inv P w0 σ H1 w'->(∀ q ∈ o7 ops i M,q.2 w')/\wpT P ops Q f (o7 ops i M) (li.setIfInBounds i true) (a.put o.dst u) w':=fun u w' σ hσ hu hI=>by
      obtain ⟨M',h3,h4⟩:=hS.next hC.T (hdo ho) hσ hu hI hp3 hst (xc6 ⟨rfl,rfl⟩) key.1;have hm:m0<=n:=by have:=hS.hb;have:=hS.hbn;omega
      exact ⟨fun q hq=>h4.hL.all q (h3 q hq),a1R f h3 (h2 h4 hn fun a' w' τ hτ ha' hI'=>k a' w' τ (hσ.join hτ hm h1) ha' hI')⟩
     refine a5h ho (x7 hS.ha hw) (fun e=>(key.2.1 e).2 hS.ha hS.hI hS.hF (xc5 h1 hn) _ _ _ _ _ _ fin) fun e=>?_;obtain ⟨rfl,rfl,rfl⟩:=key.2.2 e;exact fin _ _ ρ (Stp.refl _ _ _) VR.undef hS.hI
    ·cases h
   ·cases h
  ·cases h
 |grp wd p ih=>
  refine ⟨fun f li b z L E H n E' H' n' hp h=>?_,fun f li b z L E H n E' H' n' hp h=>by cases hp⟩;replace h:xPl C call ops.toList p n wd L E H (n + wd * ops.toList.length)=.ok (E',H',n'):=h;obtain ⟨h1,h2⟩:=ih.1 f _ _ _ _ _ _ _ _ _ _ hp h;rw [xf2] at h1 h2;refine ⟨by omega,fun {w0 w ρ ds a hi m0 M} hS hn k=>h2 ⟨hS.ha,hS.hI,fun j hj1 hj2=>hS.hF j (by omega) hj2,fun j hj hl q hq1 hq2=>?_,?_,xc4 _,hS.hL⟩ hn k⟩
  ·have:wd * (j + 1)<=wd * ops.size:=xf1 wd hj;exact hS.hF q (by omega) (by omega)
  ·have:=hS.hb;have:=hS.hbn;omega
 |alt i dr p more ih im=>
  have chain:∀ f li b z L E H n E' H' n',(Nat.blt i ops.size && (!li.getD i true && (dr.all (t2 ops i) && ((plB ops p).1 f (li.setIfInBounds i true) && (plB ops more).2 f li))))=true->xPl C call ops.toList (.alt i dr p more) b z L E H n=.ok (E',H',n')->n<=n'/\∀ {w0 w:World} {ρ:Ren} {ds:List Deferred} {a:Act} {hi m0:Nat} {M:Ea},PS P w0 ρ N ds a E H w n hi b z li L M ops.size m0->n'<=hi->(∀ a' w' σ,Stp ρ σ m0 n'->HasR σ N ds a' E'->Inv P w0 σ H' w'->Q .normal a' w')->∀ j ∈ a38 (.alt i dr p more),wpOp P ops Q j (fun a' w'=>(∀ q ∈ o7 ops j M,q.2 w')/\wpT P ops Q f (o7 ops j M) (li.setIfInBounds j true) a' w') a w:=by
   intro f li b z L E H n E' H' n' hp h;simp only [xb6,xb8] at hp;obtain ⟨hp1,hp2,hp3,hp4,hp5⟩:=hp;have hp1:i < ops.size:=by simpa [xb0] using hp1
   replace h:a96 C call ops.toList i dr (xPl C call ops.toList p) more.isStop (xPl C call ops.toList more) b z L E H n=.ok (E',H',n'):=h;unfold a96 at h;rw [n9] at h
   split at h
   ·rename_i o ho;have ho:ops[i]?=some o:=by simpa using ho
    split at h
    ·rename_i wb hw
     split at h
     ·rename_i v H1 n1 hr;have key:b + z * i<=n1/\(wb=true->Snd P o.op E H (b + z * i) (v,H1,n1))/\(wb=false->v=some undef/\H1=H/\n1=b + z * i):=by
       cases wb with
       |true=>
        have:=a2a hC hc hr;exact ⟨this.1,fun _=>this,fun h=>by cases h⟩
       |false=>cases hr;exact ⟨xc4 _,(fun h=>by cases h),fun _=>⟨rfl,rfl,rfl⟩⟩
      cases hst:(Nat.ble n1 (b + z * (i + 1)) && a0B C.T H1 (z9 dr L)) with
      |false=>rw [hst] at h;cases h
      |true=>
      rw [hst] at h;rw [xb6] at hst;obtain ⟨hst1,hst2⟩:=hst;have hst1:=xe5 hst1;have first:∀ {E1:Fr} {H2:SH} {n2:Nat},xPl C call ops.toList p b z (z9 dr L) (a0a E o.dst v) H1 n=.ok (E1,H2,n2)->n<=n2/\∀ {w0 w:World} {ρ:Ren} {ds:List Deferred} {a:Act} {hi m0:Nat} {M:Ea},PS P w0 ρ N ds a E H w n hi b z li L M ops.size m0->n2<=hi->(∀ a' w' σ,Stp ρ σ m0 n2->HasR σ N ds a' E1->Inv P w0 σ H2 w'->Q .normal a' w')->wpOp P ops Q i (fun a' w'=>(∀ q ∈ o7 ops i M,q.2 w')/\wpT P ops Q f (o7 ops i M) (li.setIfInBounds i true) a' w') a w:=by
       intro E1 H2 n2 hx;obtain ⟨h1,h2⟩:=ih.1 f _ _ _ _ _ _ _ _ _ _ hp4 hx;refine ⟨h1,fun {w0 w ρ ds a hi m0 M} hS hn k=>?_⟩;have fin:∀ u w' σ,Stp ρ σ (b + z * i) n1->OR σ v u->Inv P w0 σ H1 w'->(∀ q ∈ o7 ops i M,q.2 w')/\wpT P ops Q f (o7 ops i M) (li.setIfInBounds i true) (a.put o.dst u) w':=fun u w' σ hσ hu hI=>by
        obtain ⟨M',h3,h4⟩:=hS.next hC.T (hdo ho) hσ hu hI hp3 hst2 (xc3 ⟨rfl,hst1,hp1,rfl⟩) key.1;have hm:m0<=b + z * i:=by have:=hS.hb;omega
        have hz:z * (i + 1)<=z * ops.size:=xf1 z hp1;have:=hS.hbn;exact ⟨fun q hq=>h4.hL.all q (h3 q hq),a1R f h3 (h2 h4 hn fun a' w' τ hτ ha' hI'=>k a' w' τ (hσ.join hτ hm (by omega)) ha' hI')⟩
       refine a5h ho (x7 hS.ha hw) (fun e=>(key.2.1 e).2 hS.ha hS.hI (hi:=b + z * (i + 1)) (hS.hG i hp1 hp2) hst1 _ _ _ _ _ _ fin) fun e=>?_;obtain ⟨rfl,rfl,rfl⟩:=key.2.2 e;exact fin _ _ ρ (Stp.refl _ _ _) VR.undef hS.hI
      cases hl:more.isStop with
      |true=>
       rw [hl] at h;obtain ⟨h1,h2⟩:=first h;refine ⟨h1,fun {w0 w ρ ds a hi m0 M} hS hn k j hj=>?_⟩;have he:a38 more=[]:=by cases more <;> first|rfl|cases hl
       rcases xb3.1 (show j ∈ i::a38 more from hj) with rfl|hj
       ·exact h2 hS hn k
       ·rw [he] at hj;cases hj
      |false=>
       rw [hl] at h;dsimp only [cond_true,cond_false] at h
       split at h
       ·rename_i E1 H1' n1' E2 H2 n2 hx1 hx2
        cases hs:(a2V E1 E2 E1 && (hEq H1' H2 && Nat.beq n1' n2)) with
        |false=>rw [hs] at h;cases h
        |true=>
        rw [hs] at h
        cases h
        simp only [xb6] at hs;obtain ⟨hs1,hs2,hs3⟩:=hs;obtain rfl:=a76 hs2;obtain rfl:=xa8 hs3;obtain ⟨h1,h2⟩:=first hx1;obtain ⟨h3,h4⟩:=im.2 f _ _ _ _ _ _ _ _ _ _ hp5 hx2;refine ⟨h1,fun {w0 w ρ ds a hi m0 M} hS hn k j hj=>?_⟩;rcases xb3.1 (show j ∈ i::a38 more from hj) with rfl|hj
        ·exact h2 hS hn k
        ·exact h4 hS hn (fun a' w' σ hσ ha' hI'=>k a' w' σ hσ (ha'.same hs1) hI') j hj
       ·cases h
       ·cases h
     ·cases h
    ·cases h
   ·cases h
  refine ⟨fun f li b z L E H n E' H' n' hp h=>?_,fun f li b z L E H n E' H' n' hp h=>chain f li b z L E H n E' H' n' hp h⟩
  cases f with
  |zero=>cases hp
  |succ f=>
  replace hp:((Region.ready .any ops li).all (fun j=>(i::a38 more).any (Nat.beq j)) && ((Region.ready .any ops li).contains i && (Nat.blt i ops.size && (!li.getD i true && (dr.all (t2 ops i) && ((plB ops p).1 f (li.setIfInBounds i true) && (plB ops more).2 f li))))))=true:=hp;rw [xb6,xb6] at hp;obtain ⟨hp1,hp2,hp3⟩:=hp;obtain ⟨h1,h2⟩:=chain f li b z L E H n E' H' n' hp3 h;refine ⟨h1,fun {w0 w ρ ds a hi m0 M} hS hn k=>⟨fun h0=>(by rw [h0] at hp2;cases hp2),fun j hj=>h2 hS hn k j ?_⟩⟩;obtain ⟨q,hq,hqj⟩:=xi9.1 (xb7.1 hp1 j hj);rw [xa8 hqj];exact hq
end
end Go.Proofs.YtejnpppejalhfadGreat
