/- Texts that the proof stands on, one behind the other: PlRun12, PlRun13, PlRun14, Ke36, Ke37, PlRun15, LawEmpty, Op1, OpA, OpK, OpR. -/
import Derived.Deep.Slices
import Derived.OpenShut
import Derived.WideShapes
import Derived.ProofKit
import Derived.Test.YtejnpppejalhfacPKernelEmpty15
/- An entry let go: what comes is right; what each other page tells. -/
namespace Go.Proofs.Ytejnpppejalhfac
open Go.RowKit Go.Sort
structure b6o (K K':Ker) (sp:Nat) (page:Int):Prop where
 right:Right K'
 sheets:K'.sheets=K.sheets
 nfr:K'.frames.length=K.frames.length
 nsl:K'.slots.length=K.slots.length
 nsp:K'.spaces.length=K.spaces.length
 ar:∀ i,l9 K' i=l9 K i
 live:∀ i,(u7 K' i).live=(u7 K i).live
 peek:∀ i p,¬(i=sp∧p=page)→t7 K' i p=t7 K i p
theorem a9r {A B:List En} {e:En} (h:Rises (n9 (A++e::B))):Rises (n9 (A++B))∧∀ x ∈ A++B,x.page≠e.page:=by
 unfold n9 at h ⊢
 rw [List.map_append,List.map_cons] at h
 rw [List.map_append]
 unfold Rises at h ⊢
 rw [List.pairwise_append,List.pairwise_cons] at h
 obtain ⟨h1,⟨h2,h3⟩,h4⟩:=h
 refine ⟨List.pairwise_append.2 ⟨h1,h3,fun a ha b hb=>h4 a ha b (List.mem_cons_of_mem _ hb)⟩,fun x hx=>?_⟩
 rcases List.mem_append.1 hx with hx|hx
 ·have:=h4 x.page (List.mem_map.2 ⟨x,hx,rfl⟩) e.page List.mem_cons_self
  omega
 ·have:=h2 x.page (List.mem_map.2 ⟨x,hx,rfl⟩)
  omega
theorem a9O {A B:List En} {e:En} {p:Int} (hp:p≠e.page):o0 (A++B) p=o0 (A++e::B) p:=by
 unfold o0
 rw [List.find?_append,List.find?_append,List.find?_cons,decide_eq_false (fun h=>hp h.symm)]
theorem b4C {K:Ker} {e:En} {b:Nat} (hb:e.at_=(b:Nat)) (hl:e.kind=1→b < K.frames.length) (i:Nat):l7 (a0c K e).frames i=if e.kind=1∧b=i then a2o (l7 K.frames i) else l7 K.frames i:=by
 unfold a0c
 by_cases hk:e.kind=1
 ·rw [if_pos hk]
  show l7 (K.frames.set e.at_.toNat (a2o (l7 K.frames e.at_.toNat))) i=_
  rw [hb,Int.toNat_natCast,a1w]
  by_cases e2:b=i
  ·subst e2
   rw [if_pos ⟨rfl,hl hk⟩,if_pos ⟨hk,rfl⟩]
  ·rw [if_neg (fun h=>e2 h.1),if_neg (fun h=>e2 h.2)]
 ·rw [if_neg hk,if_neg (fun h=>hk h.1)]
theorem b3S {K:Ker} {e:En} {b:Nat} (hb:e.at_=(b:Nat)) (hl:e.kind≠1→b < K.slots.length) (i:Nat):a0g (a0c K e).slots i=if e.kind≠1∧b=i then a2p (a0g K.slots i) else a0g K.slots i:=by
 unfold a0c
 by_cases hk:e.kind=1
 ·rw [if_pos hk,if_neg (fun h=>h.1 hk)]
 ·rw [if_neg hk]
  show a0g (K.slots.set e.at_.toNat (a2p (a0g K.slots e.at_.toNat))) i=_
  rw [hb,Int.toNat_natCast,a33]
  by_cases e2:b=i
  ·subst e2
   rw [if_pos ⟨rfl,hl hk⟩,if_pos ⟨hk,rfl⟩]
  ·rw [if_neg (fun h=>e2 h.1),if_neg (fun h=>e2 h.2)]
theorem b3j (K:Ker) (e:En):(a0c K e).frames.length=K.frames.length∧(a0c K e).slots.length=K.slots.length∧(a0c K e).sheets=K.sheets∧(a0c K e).spaces=K.spaces∧(a0c K e).hand=K.hand:=by
 unfold a0c
 split
 ·exact ⟨List.length_set,rfl,rfl,rfl,rfl⟩
 ·exact ⟨rfl,List.length_set,rfl,rfl,rfl⟩
def rmK (K:Ker) (sp:Nat) (s':Sc) (e:En):Ker:=⟨K.sheets,(a0c K e).frames,(a0c K e).slots,K.spaces.set sp s',K.hand⟩
theorem b5L {K:Ker} {sp:Nat} {s:Sc} {A B:List En} {e:En} (h:Right K) (hs:K.spaces[sp]?=some s) (hE:s.entries=A++e::B):b6o K (rmK K sp ⟨s.live,s.areas,A++B⟩ e) sp e.page:=by
 have hsc:=a0x.1 (h.spaces s (List.mem_of_getElem? hs))
 have hse:=x7 hs
 obtain ⟨s',hs'⟩:∃ s':Sc,s'=⟨s.live,s.areas,A++B⟩:=⟨_,rfl⟩
 rw [← hs']
 have hrs:=hsc.rises
 rw [hE] at hrs
 obtain ⟨hr1,hr2⟩:=a9r hrs
 have heM:e ∈ s.entries:=by rw [hE];exact List.mem_append_right _ List.mem_cons_self
 have hin:=(h.ent hs heM).2
 obtain ⟨b,hb,hb1,hb2,hk12⟩:∃ b:Nat,e.at_=(b:Nat)∧(e.kind=1→b < K.frames.length)∧(e.kind≠1→b < K.slots.length)∧(e.kind=1∨e.kind=2):=by
  rcases hin with ⟨k,b,hb,hl⟩|⟨k,b,hb,hl⟩
  ·exact ⟨b,hb,fun _=>hl,fun h=>absurd k h,Or.inl k⟩
  ·exact ⟨b,hb,fun h=>by omega,fun _=>hl,Or.inr k⟩
 obtain ⟨M,hMd⟩:∃ M:Int→Int→List Nm,M=fun k a=>nmL s k a (A++B)++m8 (K.spaces.eraseIdx sp) k a:=⟨_,rfl⟩
 have hM:∀ k a,(m8 K.spaces k a).Perm (nmL s k a [e]++M k a):=fun k a=>by
  refine (a04 (s':=s') hs k a).2.trans ?_
  rw [hMd]
  dsimp only
  rw [← List.append_assoc,← a7O]
  refine List.Perm.append_right _ (a5x ?_)
  rw [hE]
  exact List.perm_middle
 have hM':∀ k a,(m8 (K.spaces.set sp s') k a).Perm (M k a):=fun k a=>by
  refine (a04 (s':=s') hs k a).1.trans ?_
  rw [hMd]
  have:nm1 s' k a=nmL s k a (A++B):=by rw [hs'];rfl
  rw [this]
 have hscs:∀ i,u7 (rmK K sp s' e) i=if i=sp then s' else u7 K i:=fun i=>by
  unfold u7 rmK
  show ((K.spaces.set sp s')[i]?).getD sc0=_
  rw [List.getElem?_set]
  by_cases e:sp=i
  ·subst e;rw [if_pos rfl,if_pos (j3 hs),if_pos rfl];rfl
  ·rw [if_neg e,if_neg (fun hh=>e hh.symm)]
 have har:∀ i,l9 (rmK K sp s' e) i=l9 K i:=fun i=>by
  unfold l9
  rw [hscs]
  by_cases e:i=sp
  ·subst e;rw [if_pos rfl,hse,hs']
  ·rw [if_neg e]
 have hlv:∀ i,(u7 (rmK K sp s' e) i).live=(u7 K i).live:=fun i=>by
  rw [hscs]
  by_cases e:i=sp
  ·subst e;rw [if_pos rfl,hse,hs']
  ·rw [if_neg e]
 have hen:∀ i p,¬(i=sp∧p=e.page)→o0 (l5 (rmK K sp s' e) i) p=o0 (l5 K i) p:=fun i p hno=>by
  unfold l5
  rw [hscs]
  by_cases e2:i=sp
  ·subst e2
   rw [if_pos rfl,hse,hs',hE]
   exact a9O (fun h=>hno ⟨rfl,h⟩)
  ·rw [if_neg e2]
 have hfr:∀ i,l7 (rmK K sp s' e).frames i=if e.kind=1∧b=i then a2o (l7 K.frames i) else l7 K.frames i:=b4C hb hb1
 have hsl:∀ i,a0g (rmK K sp s' e).slots i=if e.kind≠1∧b=i then a2p (a0g K.slots i) else a0g K.slots i:=b3S hb hb2
 obtain ⟨hlf,hls,-,-,-⟩:=b3j K e
 have hN1:∀ i:Nat,e.kind=1∧b=i→(m8 K.spaces 1 (i:Nat)).Perm (a0H s e::M 1 (i:Nat)):=fun i ⟨h1,h2⟩=>by
  refine (hM 1 (i:Nat)).trans ?_
  rw [a3u [] ⟨h1,by rw [hb,h2]⟩]
  exact List.Perm.refl _
 have hN2:∀ i:Nat,e.kind≠1∧b=i→(m8 K.spaces 2 (i:Nat)).Perm (a0H s e::M 2 (i:Nat)):=fun i ⟨h1,h2⟩=>by
  refine (hM 2 (i:Nat)).trans ?_
  rw [a3u [] ⟨by omega,by rw [hb,h2]⟩]
  exact List.Perm.refl _
 have hNo:∀ (k:Int) (i:Nat),¬(e.kind=k∧b=i)→(m8 K.spaces k (i:Nat)).Perm (M k (i:Nat)):=fun k i hno=>by
  refine (hM k (i:Nat)).trans ?_
  rw [a6i [] (fun hh=>hno ⟨hh.1,by have:=hh.2;rw [hb] at this;omega⟩)]
  exact List.Perm.refl _
 have hdata:∀ (x:En),(x.kind=1∨x.kind=2)→(∃ c:Nat,x.at_=(c:Nat)∧(x.kind=1→c < K.frames.length)∧(x.kind=2→c < K.slots.length))→M x.kind x.at_≠[]→v8 (rmK K sp s' e) x=v8 K x:=by
  rintro x hk ⟨c,hc,hc1,hc2⟩ hne
  unfold v8
  rcases hk with hk|hk
  ·rw [if_pos hk,if_pos hk,hc,Int.toNat_natCast,hfr]
   rw [hk,hc] at hne
   by_cases hw:e.kind=1∧b=c
   ·rw [if_pos hw]
    have hbo:=(h.fr c _ (List.getElem?_eq_getElem (hc1 hk))).perm (hN1 c hw)
    rw [q8 (List.getElem?_eq_getElem (hc1 hk))]
    cases hMb:M 1 (c:Nat) with
    |nil=>exact absurd hMb hne
    |cons m N=>
     rw [hMb] at hbo
     exact a73 hbo
   ·rw [if_neg hw]
  ·rw [if_neg (by omega),if_neg (by omega),hc,Int.toNat_natCast,hsl]
   rw [hk,hc] at hne
   by_cases hw:e.kind≠1∧b=c
   ·rw [if_pos hw]
    have hbo:=(h.sl c _ (List.getElem?_eq_getElem (hc2 hk))).perm (hN2 c hw)
    rw [a0B (List.getElem?_eq_getElem (hc2 hk))]
    cases hMb:M 2 (c:Nat) with
    |nil=>exact absurd hMb hne
    |cons m N=>
     rw [hMb] at hbo
     exact a6R hbo
   ·rw [if_neg hw]
 have hcnt:=h.cnt
 have hhand:=h.hand
 refine ⟨⟨?_,h.rise,?_,fun x hx=>?_,?_,fun i g hg=>?_,fun i g hg=>?_⟩,rfl,hlf,hls,List.length_set,har,hlv,fun i p hno=>?_⟩
 ·show 3≤(a0c K e).frames.length∧(a0c K e).frames.length≤64∧(a0c K e).slots.length≤512∧1≤(K.spaces.set sp s').length∧(K.spaces.set sp s').length≤4∧K.sheets.length≤255
  rw [hlf,hls,List.length_set]
  exact hcnt
 ·show 0≤K.hand∧K.hand < ((a0c K e).frames.length:Int)
  rw [hlf]
  exact hhand
 ·show z6 K.sheets (a0c K e).frames.length (a0c K e).slots.length x=true
  rw [hlf,hls]
  have hx:x ∈ K.spaces.set sp s':=hx
  rcases List.mem_or_eq_of_mem_set hx with hx|rfl
  ·exact h.spaces x hx
  ·rw [a0x,hs']
   refine ⟨fun hl=>?_,hsc.ar,hsc.pages,fun x hx=>?_,hr1⟩
   ·have:=(hsc.dead hl).2
    rw [hE] at this
    simp at this
   ·refine hsc.ents x ?_
    rw [hE]
    rcases List.mem_append.1 hx with hx|hx
    ·exact List.mem_append_left _ hx
    ·exact List.mem_append_right _ (List.mem_cons_of_mem _ hx)
 ·show r9 (K.spaces.set sp s')≤((a0c K e).slots.length:Int)
  rw [hls]
  have:r9 (K.spaces.set sp s')=r9 K.spaces:=by
   unfold r9
   rw [List.map_set,hs']
   congr 1
   refine List.ext_getElem? fun j=>?_
   rw [List.getElem?_set]
   by_cases e:sp=j
   ·subst e
    rw [if_pos rfl,List.length_map,if_pos (j3 hs),List.getElem?_map,hs]
    rfl
   ·rw [if_neg e]
  rw [this]
  exact h.room
 ·have hg:(a0c K e).frames[i]?=some g:=hg
  have hil:i < K.frames.length:=by have:=j3 hg;omega
  have hgi:=List.getElem?_eq_getElem hil
  have hge:=hfr i
  rw [show l7 (rmK K sp s' e).frames i=g from q8 hg,q8 hgi] at hge
  show FmOk K.sheets g (m8 (K.spaces.set sp s') 1 (i:Nat))
  by_cases hw:e.kind=1∧b=i
  ·rw [if_pos hw] at hge
   rw [hge]
   exact ((h.fr i _ hgi).perm (hN1 i hw)).dec.perm (hM' 1 i).symm
  ·rw [if_neg hw] at hge
   rw [hge]
   exact (h.fr i _ hgi).perm ((hNo 1 i hw).trans (hM' 1 i).symm)
 ·have hg:(a0c K e).slots[i]?=some g:=hg
  have hil:i < K.slots.length:=by have:=j3 hg;omega
  have hgi:=List.getElem?_eq_getElem hil
  have hge:=hsl i
  rw [show a0g (rmK K sp s' e).slots i=g from a0B hg,a0B hgi] at hge
  show SwOk g (m8 (K.spaces.set sp s') 2 (i:Nat))
  by_cases hw:e.kind≠1∧b=i
  ·rw [if_pos hw] at hge
   rw [hge]
   exact ((h.sl i _ hgi).perm (hN2 i hw)).dec.perm (hM' 2 i).symm
  ·rw [if_neg hw] at hge
   rw [hge]
   exact (h.sl i _ hgi).perm ((hNo 2 i (fun hh=>hw ⟨by omega,hh.2⟩)).trans (hM' 2 i).symm)
 ·unfold t7
  rw [hen i p hno]
  cases hx:o0 (l5 K i) p with
  |none=>exact a1y (hs:=by exact rfl) (ha:=har i) p
  |some x=>
   show v8 _ x=v8 K x
   obtain ⟨hx1,hx2⟩:=z0 hx
   cases hi:K.spaces[i]? with
   |none=>unfold l5 at hx1;rw [a3t hi] at hx1;cases hx1
   |some t=>
    unfold l5 at hx1
    rw [x7 hi] at hx1
    have hin:=(h.ent hi hx1).2
    have hk:x.kind=1∨x.kind=2:=by rcases hin with ⟨a,-⟩|⟨a,-⟩ <;> omega
    refine hdata x hk ?_ ?_
    ·rcases hin with ⟨a,b,c,d⟩|⟨a,b,c,d⟩
     ·exact ⟨b,c,fun _=>d,fun hh=>by omega⟩
     ·exact ⟨b,c,fun hh=>by omega,fun _=>d⟩
    ·rw [hMd]
     intro hnil
     obtain ⟨h1,h2⟩:=List.append_eq_nil_iff.1 hnil
     by_cases e2:i=sp
     ·subst e2
      rw [hs] at hi
      cases hi
      have hxR:x ∈ A++B:=by
       rw [hE] at hx1
       rcases List.mem_append.1 hx1 with h4|h4
       ·exact List.mem_append_left _ h4
       ·rcases List.mem_cons.1 h4 with rfl|h4
        ·exact absurd ⟨rfl,hx2.symm⟩ hno
        ·exact List.mem_append_right _ h4
      have:a0H s x ∈ nmL s x.kind x.at_ (A++B):=List.mem_map.2 ⟨x,List.mem_filter.2 ⟨hxR,by simp⟩,rfl⟩
      rw [h1] at this
      cases this
     ·have hte:t ∈ K.spaces.eraseIdx sp:=List.mem_eraseIdx_iff_getElem?.2 ⟨i,e2,hi⟩
      have:a0H t x ∈ m8 (K.spaces.eraseIdx sp) x.kind x.at_:=by
       rw [a0a,List.mem_flatMap]
       exact ⟨t,hte,List.mem_map.2 ⟨x,List.mem_filter.2 ⟨hx1,by simp⟩,rfl⟩⟩
      rw [h2] at this
      cases this
end Go.Proofs.Ytejnpppejalhfac
/- Entries forgotten, a space dropped. -/
namespace Go.Proofs.Ytejnpppejalhfac
open Go.RowKit Go.Sort
def b5d (fr:List Fm) (sl:List Sw):Prop:=(∀ f ∈ fr,0≤f.refs∧f.refs≤100000)∧∀ f ∈ sl,0≤f.refs∧f.refs≤100000
structure b6i (K K':Ker) (sp:Nat) (P:Int→Prop):Prop where
 right:Right K'
 sheets:K'.sheets=K.sheets
 nfr:K'.frames.length=K.frames.length
 nsl:K'.slots.length=K.slots.length
 nsp:K'.spaces.length=K.spaces.length
 ar:∀ i,l9 K' i=l9 K i
 live:∀ i,(u7 K' i).live=(u7 K i).live
 peek:∀ i p,¬(i=sp∧P p)→t7 K' i p=t7 K i p
theorem b08 {K1 K2:Ker} (h1:K1.frames=K2.frames) (h2:K1.slots=K2.slots) (e:En):(a0c K1 e).frames=(a0c K2 e).frames∧(a0c K1 e).slots=(a0c K2 e).slots:=by
 unfold a0c
 split
 ·exact ⟨by dsimp only;rw [h1],h2⟩
 ·exact ⟨h1,by dsimp only;rw [h2]⟩
theorem a6x:∀ (l:List En) {K1 K2:Ker},K1.frames=K2.frames→K1.slots=K2.slots→(l.foldl a0c K1).frames=(l.foldl a0c K2).frames∧(l.foldl a0c K1).slots=(l.foldl a0c K2).slots
 |[],_,_,h1,h2=>⟨h1,h2⟩
 |e::l,_,_,h1,h2=>by
  obtain ⟨a,b⟩:=b08 h1 h2 e
  exact a6x l a b
def fgK (K:Ker) (sp:Nat) (s:Sc) (p:En→Bool) (D R:List En):Ker:=⟨K.sheets,((R.filter p).foldl a0c K).frames,((R.filter p).foldl a0c K).slots,K.spaces.set sp ⟨s.live,s.areas,D++R.filter fun e=>!p e⟩,K.hand⟩
theorem b2d {α:Type} {l:List α} {i:Nat} {x:α} (h:l[i]?=some x):l.set i x=l:=by
 refine List.ext_getElem? fun j=>?_
 rw [List.getElem?_set]
 by_cases e:i=j
 ·subst e;rw [if_pos rfl,if_pos (j3 h),h]
 ·rw [if_neg e]
theorem a92 (p:En→Bool) {sp:Nat}:∀ (R:List En) {K:Ker} {s:Sc} {D:List En},Right K→K.spaces[sp]?=some s→s.entries=D++R→b6i K (fgK K sp s p D R) sp (fun q=>∃ e ∈ R,p e=true∧e.page=q)∧∀ j,b5d (((R.take j).filter p).foldl a0c K).frames (((R.take j).filter p).foldl a0c K).slots
 |[],K,s,D,h,hs,hE=>by
  have e:fgK K sp s p D []=K:=by
   unfold fgK
   have:(⟨s.live,s.areas,D++List.filter (fun e=>!p e) []⟩:Sc)=s:=by
    rw [List.filter_nil,← hE]
   rw [this,b2d hs]
   rfl
  rw [e]
  refine ⟨⟨h,rfl,rfl,rfl,rfl,fun _=>rfl,fun _=>rfl,fun _ _ _=>rfl⟩,fun j=>?_⟩
  rw [List.take_nil]
  exact a3s h
 |e::R,K,s,D,h,hs,hE=>by
  by_cases hp:p e=true
  ·have h1:=b5L h hs hE
   have hs1:(rmK K sp ⟨s.live,s.areas,D++R⟩ e).spaces[sp]?=some ⟨s.live,s.areas,D++R⟩:=by
    show (K.spaces.set sp _)[sp]?=_
    rw [List.getElem?_set,if_pos rfl,if_pos (j3 hs)]
   obtain ⟨h2,h3⟩:=a92 p R (s:=⟨s.live,s.areas,D++R⟩) (D:=D) h1.right hs1 rfl
   have hc:=fun l=>a6x l (K1:=rmK K sp ⟨s.live,s.areas,D++R⟩ e) (K2:=a0c K e) rfl rfl
   have eK:fgK (rmK K sp ⟨s.live,s.areas,D++R⟩ e) sp ⟨s.live,s.areas,D++R⟩ p D R=fgK K sp s p D (e::R):=by
    unfold fgK
    rw [List.filter_cons_of_pos hp,List.filter_cons_of_neg (by simp [hp]),List.foldl_cons,(hc _).1,(hc _).2]
    show Ker.mk _ _ _ ((K.spaces.set sp _).set sp _) _=_
    rw [List.set_set]
    rfl
   rw [eK] at h2
   refine ⟨⟨h2.right,h2.sheets.trans h1.sheets,h2.nfr.trans h1.nfr,h2.nsl.trans h1.nsl,h2.nsp.trans h1.nsp,fun i=>(h2.ar i).trans (h1.ar i),fun i=>(h2.live i).trans (h1.live i),fun i q hno=>?_⟩,fun j=>?_⟩
   ·rw [h2.peek i q (fun hh=>hno ⟨hh.1,by obtain ⟨x,hx,h4⟩:=hh.2;exact ⟨x,List.mem_cons_of_mem _ hx,h4⟩⟩),h1.peek i q (fun hh=>hno ⟨hh.1,e,List.mem_cons_self,hp,hh.2.symm⟩)]
   ·cases j with
    |zero=>exact a3s h
    |succ j=>
     rw [List.take_succ_cons,List.filter_cons_of_pos hp,List.foldl_cons,← (hc _).1,← (hc _).2]
     exact h3 j
  ·have hp':p e=false:=by simpa using hp
   obtain ⟨h2,h3⟩:=a92 p R (D:=D++[e]) h hs (by rw [hE,List.append_assoc];rfl)
   have eK:fgK K sp s p (D++[e]) R=fgK K sp s p D (e::R):=by
    unfold fgK
    rw [List.filter_cons_of_neg hp,List.filter_cons_of_pos (by simp [hp']),List.append_assoc]
    rfl
   rw [eK] at h2
   refine ⟨⟨h2.right,h2.sheets,h2.nfr,h2.nsl,h2.nsp,h2.ar,h2.live,fun i q hno=>h2.peek i q (fun hh=>hno ⟨hh.1,by obtain ⟨x,hx,h4⟩:=hh.2;exact ⟨x,List.mem_cons_of_mem _ hx,h4⟩⟩)⟩,fun j=>?_⟩
   cases j with
   |zero=>exact a3s h
   |succ j=>
    rw [List.take_succ_cons,List.filter_cons_of_neg hp]
    exact h3 j
def a4l (K:Ker) (sp:Nat) (p:En→Bool):Ker:=fgK K sp (u7 K sp) p [] (l5 K sp)
def a3g (K:Ker) (sp:Nat):Ker:=a69 (a4l K sp fun _=>true) sp sc0
theorem b4w {K:Ker} {sp:Nat} (h:Right K) (hsp:sp < K.spaces.length):Right (a3g K sp)∧(∀ i,u7 (a3g K sp) i=if i=sp then sc0 else u7 K i)∧(a3g K sp).spaces.length=K.spaces.length∧(a3g K sp).frames.length=K.frames.length∧(a3g K sp).slots.length=K.slots.length∧(∀ i,i≠sp→l9 (a3g K sp) i=l9 K i)∧∀ i p,i≠sp→t7 (a3g K sp) i p=t7 K i p:=by
 have hs:=List.getElem?_eq_getElem hsp
 obtain ⟨hf,-⟩:=a92 (fun _=>true) (l5 K sp) (D:=[]) h hs (by unfold l5;rw [x7 hs];rfl)
 obtain ⟨F,hF⟩:∃ F,F=a4l K sp fun _=>true:=⟨_,rfl⟩
 have hF2:fgK K sp K.spaces[sp] (fun _=>true) [] (l5 K sp)=F:=by rw [hF];unfold a4l;rw [x7 hs]
 rw [hF2] at hf
 have hFs:F.spaces[sp]?=some ⟨K.spaces[sp].live,K.spaces[sp].areas,[]⟩:=by
  rw [← hF2]
  show (K.spaces.set sp _)[sp]?=_
  rw [List.getElem?_set,if_pos rfl,if_pos hsp]
  simp
 unfold a3g
 rw [← hF]
 have hr:=hf.right
 have hnm:∀ k a,(m8 (F.spaces.set sp sc0) k a).Perm (m8 F.spaces k a):=fun k a=>by
  refine (a04 (s':=sc0) hFs k a).1.trans ((a04 (s':=sc0) hFs k a).2.trans ?_).symm
  exact List.Perm.refl _
 have hscF:∀ i,u7 (a69 F sp sc0) i=if i=sp then sc0 else u7 F i:=fun i=>by
  unfold u7 a69
  show ((F.spaces.set sp sc0)[i]?).getD sc0=_
  rw [List.getElem?_set]
  by_cases e:sp=i
  ·subst e;rw [if_pos rfl,if_pos (j3 hFs),if_pos rfl];rfl
  ·rw [if_neg e,if_neg (fun hh=>e hh.symm)]
 have hscK:∀ i,i≠sp→u7 F i=u7 K i:=fun i hi=>by
  rw [← hF2]
  unfold u7
  show ((K.spaces.set sp _)[i]?).getD sc0=_
  rw [List.getElem?_set,if_neg (fun hh=>hi hh.symm)]
 have hroom:r9 (F.spaces.set sp sc0)≤r9 F.spaces:=by
  have hnn:=(a2z (hr.spaces _ (List.mem_of_getElem? hFs))).2.1
  have e:∀ (l:List Sc) (i:Nat) (s:Sc),l[i]?=some s→r9 (l.set i sc0)=r9 l - y6 s.areas:=by
   intro l
   induction l with
   |nil=>intro i s h;simp at h
   |cons a l ih=>
    intro i s h
    cases i with
    |zero=>
     have:a=s:=by simpa using h
     subst this
     show r9 (sc0::l)=r9 (a::l) - y6 a.areas
     unfold r9
     simp only [List.map_cons,List.sum_cons]
     have:y6 sc0.areas=0:=rfl
     omega
    |succ i=>
     have h2:=ih i s (by simpa using h)
     show r9 (a::l.set i sc0)=r9 (a::l) - y6 s.areas
     unfold r9 at h2 ⊢
     simp only [List.map_cons,List.sum_cons]
     omega
  rw [e _ _ _ hFs]
  omega
 refine ⟨⟨?_,hr.rise,hr.hand,fun x hx=>?_,Int.le_trans hroom hr.room,fun i f hi=>(hr.fr i f hi).perm (hnm 1 i).symm,fun i f hi=>(hr.sl i f hi).perm (hnm 2 i).symm⟩,fun i=>?_,?_,hf.nfr,hf.nsl,fun i hi=>?_,fun i q hi=>?_⟩
 ·show 3≤F.frames.length∧F.frames.length≤64∧F.slots.length≤512∧1≤(F.spaces.set sp sc0).length∧(F.spaces.set sp sc0).length≤4∧F.sheets.length≤255
  rw [List.length_set]
  exact hr.cnt
 ·rcases List.mem_or_eq_of_mem_set hx with hx|rfl
  ·exact hr.spaces x hx
  ·rw [a0x]
   exact ⟨fun _=>⟨rfl,rfl⟩,rfl,rfl,(fun _ h=>by cases h),List.Pairwise.nil⟩
 ·rw [hscF]
  by_cases e:i=sp
  ·rw [if_pos e,if_pos e]
  ·rw [if_neg e,if_neg e,hscK i e]
 ·show (F.spaces.set sp sc0).length=_
  rw [List.length_set,hf.nsp]
 ·unfold l9
  rw [hscF,if_neg hi,hscK i hi]
 ·rw [← hf.peek i q (fun hh=>hi hh.1)]
  unfold t7 l5
  rw [hscF,if_neg hi]
  cases o0 (u7 F i).entries q with
  |none=>exact a1y (hs:=by exact rfl) (ha:=by unfold l9;rw [hscF,if_neg hi]) q
  |some x=>rfl
end Go.Proofs.Ytejnpppejalhfac
/- A space forked. -/
namespace Go.Proofs.Ytejnpppejalhfac
open Go.RowKit Go.Sort
def b52 (f:Fm) (n:Int):Fm:=⟨f.data,f.refs + n,f.dirty,f.seen⟩
def b5O (f:Sw) (n:Int):Sw:=⟨f.data,f.refs + n⟩
theorem a5z {α:Type} {N M:List α} (hs:∀ n ∈ M,n ∈ N) (h:N=[]):M=[]:=by
 cases M with
 |nil=>rfl
 |cons a l=>
  have:=hs a List.mem_cons_self
  rw [h] at this
  cases this
theorem FmOk.add {sh:List Sh} {f:Fm} {N M:List Nm} (h:FmOk sh f N) (hs:∀ n ∈ M,n ∈ N):FmOk sh (b52 f (M.length:Nat)) (N++M):=by
 have hm:∀ n ∈ N++M,n ∈ N:=fun n hn=>by
  rcases List.mem_append.1 hn with hn|hn
  ·exact hn
  ·exact hs n hn
 refine ⟨?_,fun hn=>?_,fun hn=>h.len (fun h0=>hn (by rw [h0,a5z hs h0];rfl)),fun n hn m hm2=>h.same n (hm n hn) m (hm m hm2),fun n hn=>h.data n (hm n hn)⟩
 ·show f.refs + _=_
  rw [h.refs,List.length_append]
  omega
 ·obtain ⟨h1,h2⟩:=List.append_eq_nil_iff.1 hn
  rw [h2,h.nil h1]
  rfl
theorem SwOk.add {f:Sw} {N M:List Nm} (h:SwOk f N) (hs:∀ n ∈ M,n ∈ N):SwOk (b5O f (M.length:Nat)) (N++M):=by
 have hm:∀ n ∈ N++M,n ∈ N:=fun n hn=>by
  rcases List.mem_append.1 hn with hn|hn
  ·exact hn
  ·exact hs n hn
 refine ⟨?_,fun hn=>?_,fun hn=>h.len (fun h0=>hn (by rw [h0,a5z hs h0];rfl)),fun n hn m hm2=>h.same n (hm n hn) m (hm m hm2)⟩
 ·show f.refs + _=_
  rw [h.refs,List.length_append]
  omega
 ·obtain ⟨h1,h2⟩:=List.append_eq_nil_iff.1 hn
  rw [h2,h.nil h1]
  rfl
end Go.Proofs.Ytejnpppejalhfac
/- (*kernel.work).forget. -/
namespace Go.Proofs.Ytejnpppejalhfac
open Go.RowKit Go.Sort
def a1O (k:KV) (p:En→Bool) (l:List En):KV:=(l.filter p).foldl a1G k
def fgV (k:KV) (sp:Nat) (x:Sp) (p:En→Bool) (ve:Value):KV:={ a1O k p x.s.entries with sp:=k.sp.set sp ⟨⟨x.s.live,x.s.areas,x.s.entries.filter fun e=>!p e⟩,x.va,ve⟩ }
structure a5g (k k':KV):Prop where
 sh:k'.sh=k.sh
 sp:k'.sp=k.sp
 hand:k'.hand=k.hand
 vsh:k'.vsh=k.vsh
 vfr:k'.vfr=k.vfr
 vsl:k'.vsl=k.vsl
 vsp:k'.vsp=k.vsp
theorem b0B (k:KV) (e:En):a5g k (a1G k e):=by
 unfold a1G
 split <;> exact ⟨rfl,rfl,rfl,rfl,rfl,rfl,rfl⟩
theorem a2y:∀ (l:List En) (k:KV),a5g k (l.foldl a1G k)
 |[],_=>⟨rfl,rfl,rfl,rfl,rfl,rfl,rfl⟩
 |e::l,k=>by
  have h:=b0B k e
  have h2:=a2y l (a1G k e)
  exact ⟨h2.sh.trans h.sh,h2.sp.trans h.sp,h2.hand.trans h.hand,h2.vsh.trans h.vsh,h2.vfr.trans h.vfr,h2.vsl.trans h.vsl,h2.vsp.trans h.vsp⟩
theorem a9T:∀ (l:List En) (k:KV),(l.foldl a1G k).K=l.foldl a0c k.K
 |[],_=>rfl
 |e::l,k=>by rw [List.foldl_cons,a9T l,b3l];rfl
theorem KRo.letS {F:Nat→Prop} {w:World} {k k':KV} (h:KRo F w k) (s:a5g k k'):KRo F w k':=⟨by rw [s.sh,s.vsh];exact h.sh,by rw [s.sp];exact h.ar⟩
theorem b0J {l:List En} {i:Nat} {e:En} (h:l[i]?=some e) (k:KV) (p:En→Bool):a1O k p (l.take (i + 1))=if p e=true then a1G (a1O k p (l.take i)) e else a1O k p (l.take i):=by
 unfold a1O
 rw [List.take_add_one,h,Option.toList_some,List.filter_append]
 by_cases hp:p e=true
 ·rw [if_pos hp,List.filter_cons_of_pos hp,List.filter_nil,List.foldl_append];rfl
 ·rw [if_neg hp,List.filter_cons_of_neg hp,List.filter_nil,List.append_nil]
set_option maxRecDepth 100000 in
set_option maxHeartbeats 8000000 in
theorem b1D {F:Nat→Prop} {w0 w:World} {Γ:List Asr} {g:Nat} {k:KV} {sp:Nat} {vh:Value} {held:List Nat} (hS0:St F w0 w (wkS g k sp vh held++Γ)) (hR0:KRo (fps (wkS g k sp vh held)) w k) {x:Sp} (hx:k.sp[sp]?=some x) {p:En→Bool} {kf:FuncId} {caps:List Value}
  (hf:∀ e ∈ x.s.entries,∀ w' Γ',St (fps (wkS g k sp vh held)) w w' Γ'→Fn Try.prog kf ([.agg (enC e).toArray]++caps) w' (RBf (.bool (p e)) w')) (hE:∀ i e,x.s.entries[i]?=some e→p e=true→a67 (a1O k p (x.s.entries.take i)) e) :
  Fn Try.prog 22 [.pointer (some ⟨g,0,none⟩),.func (.func kf) #[] caps.toArray] w (fun v w'=>v=.tuple #[]∧∃ ve,St (fps (wkS g k sp vh held)) w w' (wkS g (fgV k sp x p ve) sp vh held)):=by
 have hS:=St.startM hS0
 have hR:=hR0
 generalize fps (wkS g k sp vh held)=G at hS hR hf ⊢
 clear hR0 hS0
 have hxm:=List.mem_of_getElem? hx
 obtain ⟨bs,os,cs,hvsp⟩:=(WkV.of (Γ:=[]) (by rw [List.append_nil];exact hS) hR).ker.sp.form1 hx
 have hel:x.s.entries.length≤9223372036854775807:=by
  have:=((WkV.of (Γ:=[]) (by rw [List.append_nil];exact hS) hR).ker.spv x hxm).en.bound
  omega
 have hsm:∀ l,a5g k (a1O k p l):=fun l=>a2y _ k
 have hV:∀ l w1 Γ1,St G w w1 (wkS g (a1O k p l) sp vh held++Γ1)→WkV w1 g (a1O k p l) sp vh held:=fun l w1 Γ1 h=>WkV.of h (hR.letS (hsm l))
 have hspc:=fun l w1 Γ1 (h:St G w w1 (wkS g (a1O k p l) sp vh held++Γ1))=>a08 (hV l w1 Γ1 h) (by rw [(hsm l).sp];exact j3 hx)
 have e9:∀ l,a1c (a1O k p l).vsp (sp * 3)=.pointer (some ⟨bs,os + sp * 3,none⟩):=fun l=>by rw [(hsm l).vsp,hvsp];rfl
 simp only [e9] at hspc
 have hrowS:=j9 (f:=spC) hx
 unfold spC at hrowS
 have hspV:∀ l w1 Γ1,St G w w1 (wkS g (a1O k p l) sp vh held++Γ1)→Sl nF w1 3 (.slice (some ⟨bs,os,none⟩) k.sp.length cs) (k.sp.map fun q=>[.bool q.s.live,q.va,q.ve]):=fun l w1 Γ1 h=>by
  have:=(hV l w1 Γ1 h).ker.sp
  rw [(hsm l).vsp,(hsm l).sp,hvsp] at this
  exact this
 have hEn:∀ l w1 Γ1,St G w w1 (wkS g (a1O k p l) sp vh held++Γ1)→Sl nF w1 3 x.ve (x.s.entries.map enC):=fun l w1 Γ1 h=>((hV l w1 Γ1 h).ker.spv x (by rw [(hsm l).sp];exact hxm)).en
 obtain ⟨pe,ce,hve⟩:=((WkV.of (Γ:=[]) (by rw [List.append_nil];exact hS) hR).ker.spv x hxm).en.len
 rw [hve] at hrowS hEn
 replace hS:St G w w (wkS g (a1O k p []) sp vh held++[]):=by rw [List.append_nil];exact hS
 refine j0 (fn:=Try.f22) ⟨Try.func22,by kernel_rfl,by kernel_rfl⟩ (by exact rfl) Try.ntmps22 (by exact rfl) ?_
 repeat' (first|(((with_reducible apply d6 c8);exact rfl;exact rfl))|(first|(with_reducible first|apply d8|apply c9|apply d7|apply d5|apply e7))|((with_reducible apply e8);exact rfl;exact rfl;exact hspc _ _ _ hS;exact rfl;rintro _ w' ⟨rfl,hS'⟩;replace hS:=hS.transA hS';simp only [k7] at hS;clear hS')|((with_reducible apply d9);exact rfl;(((with_reducible apply Loads.sl c8);exact rfl;exact (hspV _ _ _ hS).cel hrowS rfl));exact rfl))
 refine o6 (F:=G) (w0:=w) (X:=Nat) (fun i=>[(14,.int .i64 (i:Nat))]) [0,1,4,12,13] rfl (fun i=>wkS g (a1O k p (x.s.entries.take i)) sp vh held) (fun i=>i≤x.s.entries.length) (fun i=>x.s.entries.length - i) 0 (by repeat (first|exact Fr.sub_nil _|(apply Fr.sub_cons;exact rfl))) (Nat.zero_le _) hS ?_
 clear hS
 intro i w1 hi hS
 dsimp only [List.cons_append,List.nil_append] at hi ⊢
 by_cases hlt:i < x.s.entries.length
 ·have hdl:decide ((i:Int) < (x.s.entries.length:Int))=true:=decide_eq_true (by omega)
  obtain ⟨e,he⟩:=l8 (l:=x.s.entries) (i:=i) (by omega)
  obtain ⟨b,off,rfl,-⟩:=(hEn _ _ _ hS).at_ hlt
  have hrowE:=j9 (f:=enC) he
  have hnx:=b0J he k p
  have hem:=List.mem_of_getElem? he
  have hwh:=fun w' Γ' h=>hf e hem w' Γ' h
  unfold enC at hrowE hwh
  cases hp:p e with
  |true=>
   rw [hp] at hwh hnx
   rw [if_pos rfl] at hnx
   have hlet:=fun w1 Γ1 (h:St G w w1 (wkS g (a1O k p (x.s.entries.take i)) sp vh held++Γ1))=>b0n h (hE i e he hp)
   unfold enC at hlet
   repeat' (first|(first|((with_reducible apply d6 c8);exact rfl;exact rfl)|((with_reducible apply d9);exact rfl;(((with_reducible apply Loads.st c8);exact rfl;((exact hS.blkR 0 rfl));exact rfl));exact rfl)|((with_reducible apply p8 c8);(iterate 3 exact rfl);((exact rfl));((omega));exact rfl)|((with_reducible apply j7 hS c8);(iterate 3 exact rfl);intro g w' hS';clear hS;have hS:=hS';clear hS')|(((with_reducible apply i7 hS c8 (i:=0));(iterate 8 exact rfl);((exact (rfl:_=[_,_,_])));intro w' hS';simp only [List.set] at hS';clear hS;have hS:=hS';clear hS')))|(first|(with_reducible first|apply d8|apply c9|apply d7|apply d5|apply g8|apply e7))|(((with_reducible apply k9);exact rfl;first|exact rfl|assumption))|((with_reducible apply d9);exact rfl;((with_reducible apply Loads.st c8);exact rfl;exact ((hEn _ _ _ hS).rng hrowE);exact rfl);exact rfl)|((with_reducible apply e8);exact rfl;exact rfl;exact hwh _ _ hS;exact rfl;rintro _ w' ⟨rfl,hS'⟩;(replace hS:=hS.trans hS');simp only [List.nil_append] at hS;clear hS'))
   rw [List.append_nil] at hS
   replace hS:=hS.perm (List.perm_append_singleton _ _).symm
   refine e8 (first:=[]) (caps:=[]) rfl rfl (hlet _ _ hS) rfl ?_
   rintro _ w2 ⟨rfl,h2⟩
   replace hS:=(St.transM hS h2).perm (List.perm_append_singleton _ _)
   clear h2
   repeat' (first|(first|((with_reducible apply m0);exact rfl;exact rfl;omega;omega;exact rfl)|((with_reducible apply d6 c8);exact rfl;exact rfl))|(first|(with_reducible first|apply c9|apply d7|apply d5|apply k8)))
   refine m6 (i + 1) (by repeat (first|exact Fr.sub_nil _|(apply Fr.sub_cons;exact rfl))) (by omega) ?_ (by omega)
   rw [hnx,List.append_nil]
   exact hS.drop
  |false=>
   rw [hp] at hwh hnx
   rw [if_neg (by simp)] at hnx
   repeat' (first|(first|((with_reducible apply m0);exact rfl;exact rfl;omega;omega;exact rfl)|((with_reducible apply d6 c8);exact rfl;exact rfl)|((with_reducible apply d9);exact rfl;(((with_reducible apply Loads.st c8);exact rfl;((exact hS.blkR 0 rfl));exact rfl));exact rfl)|((with_reducible apply p8 c8);(iterate 3 exact rfl);((exact rfl));((omega));exact rfl)|((with_reducible apply j7 hS c8);(iterate 3 exact rfl);intro g w' hS';clear hS;have hS:=hS';clear hS')|(((with_reducible apply i7 hS c8 (i:=0));(iterate 8 exact rfl);((exact (rfl:_=[_,_,_])));intro w' hS';simp only [List.set] at hS';clear hS;have hS:=hS';clear hS')))|(first|(with_reducible first|apply d8|apply c9|apply d7|apply d5|apply g8|apply e7|apply k8))|(first|((with_reducible apply k9);exact rfl;(assumption))|((with_reducible apply l6);exact rfl;(exact rfl)))|((with_reducible apply d9);exact rfl;((with_reducible apply Loads.st c8);exact rfl;exact ((hEn _ _ _ hS).rng hrowE);exact rfl);exact rfl)|((with_reducible apply e8);exact rfl;exact rfl;exact hwh _ _ hS;exact rfl;rintro _ w' ⟨rfl,hS'⟩;(replace hS:=hS.trans hS');simp only [List.nil_append] at hS;clear hS'))
   refine m6 (i + 1) (by repeat (first|exact Fr.sub_nil _|(apply Fr.sub_cons;exact rfl))) (by omega) ?_ (by omega)
   rw [hnx]
   exact hS.drop
 ·have hdl:decide ((i:Int) < (x.s.entries.length:Int))=false:=decide_eq_false (by omega)
  obtain rfl:i=x.s.entries.length:=by omega
  rw [List.take_length] at hS
  repeat' (first|(((with_reducible apply d6 c8);exact rfl;exact rfl))|(first|(with_reducible first|apply d8|apply c9|apply d7|apply d5|apply n5|apply j4|apply i9))|(((with_reducible apply l6);exact rfl;(assumption)))|((with_reducible apply d9);exact rfl;(((with_reducible apply Loads.sl c8);exact rfl;exact (hspV _ _ _ hS).cel hrowS rfl));exact rfl))
  have hsf:=hsm x.s.entries
  have hfg:∀ ve,fgV k sp x p ve={ a1O k p x.s.entries with sp:=k.sp.set sp ⟨⟨x.s.live,x.s.areas,x.s.entries.filter fun e=>!p e⟩,x.va,ve⟩ }:=fun ve=>rfl
  simp only [hfg]
  generalize a1O k p x.s.entries=k1 at hS hsf ⊢
  obtain ⟨sh,fr,sl,sps,hand,vsh,vfr,vsl,vsp⟩:=k
  obtain ⟨b1,b2,b3,b4,b5,b6,b7,b8,b9⟩:=k1
  obtain ⟨c1,c2,c3,c4,c5,c6,c7⟩:=hsf
  dsimp only at c1 c2 c3 c4 c5 c6 c7 hvsp hx hrowS
  subst c1 c2 c3 c4 c5 c6 c7
  subst hvsp
  rw [List.append_nil] at hS
  unfold wkS wkB hdA frA slA a2n at hS
  dsimp only at hS
  have hos:os=0:=by
   obtain ⟨gg,hgg⟩:=hS.rowSome 4 rfl (Nat.lt_of_le_of_lt (Nat.zero_le _) (j3 hx))
   injection hgg with hgg
   injection hgg
  subst hos
  replace hS:=hS.pullE 5 hx rfl
  simp only [List.take_succ_cons,List.take_zero,k7] at hS
  unfold a0k at hS
  rw [hve] at hS
  have hdel:=a72 (v:=.slice pe x.s.entries.length ce) (l:=x.s.entries) (p:=p) (k:=kf) (caps:=caps) hS (fun e he w' Γ' h=>hf e he w' _ (St.transM (Θ:=[enA (.slice pe x.s.entries.length ce) x.s.entries]) hS h))
  refine e8 (first:=[]) (caps:=[]) rfl rfl hdel rfl ?_
  clear hdel
  rintro _ w2 ⟨q,c,rfl,h2⟩
  replace hS:=St.transM (Θ:=[enA (.slice pe x.s.entries.length ce) x.s.entries]) hS h2
  clear h2
  unfold enA at hS
  dsimp only [List.cons_append,List.nil_append] at hS
  have e1:(b4.map spC).set sp (t8 [.bool x.s.live,x.va,.slice pe x.s.entries.length ce] 2 [.slice q (x.s.entries.filter fun e=>!p e).length c])=(b4.set sp ⟨⟨x.s.live,x.s.areas,x.s.entries.filter fun e=>!p e⟩,x.va,.slice q (x.s.entries.filter fun e=>!p e).length c⟩).map spC:=by rw [List.map_set];rfl
  repeat' (first|(((with_reducible apply d6 c8);exact rfl;exact rfl))|((with_reducible apply d7))|((with_reducible apply a0i hS c8 (i:=5));(iterate 4 exact rfl);assumption;(iterate 5 exact rfl);intro w' hS';simp only [List.set] at hS';clear hS;have hS:=hS';clear hS'))
  rw [e1] at hS
  (apply a11);(repeat ((exact ResL.nil)))
  refine ⟨rfl,.slice q (x.s.entries.filter fun e=>!p e).length c,?_⟩
  replace hS:=St.pushE (y:=⟨⟨x.s.live,x.s.areas,x.s.entries.filter fun e=>!p e⟩,x.va,.slice q (x.s.entries.filter fun e=>!p e).length c⟩) hS 5 hx rfl
  simp only [List.take_succ_cons,List.take_zero,k7] at hS
  unfold wkS wkB hdA frA slA a2n
  exact hS
end Go.Proofs.Ytejnpppejalhfac
/- kernel.Drop. -/
namespace Go.Proofs.Ytejnpppejalhfac
open Go.RowKit Go.Sort
def a8g (K:Ker) (space:Int):Ker:=if a0n K space=0 then a3g K space.toNat else a6s
theorem b2Z (e:En) (w:World):Fn Try.prog 23 [.agg (enC e).toArray] w (RBf (.bool true) w):=by
 unfold enC
 refine j0 (fn:=Try.f23) ⟨Try.func23,by kernel_rfl,by kernel_rfl⟩ (by exact rfl) Try.ntmps23 (by exact rfl) ?_
 have hS:=St.start w
 repeat' (first|(first|((with_reducible apply d6 c8);exact rfl;exact rfl)|((with_reducible apply p7 hS);(iterate 3 exact rfl);intro g w' hS';clear hS;have hS:=hS';clear hS'))|(first|(with_reducible first|apply d8|apply c9|apply d7|apply d5|apply j5)))
 (apply j6);(repeat (first|exact ResL.nil|(apply ResL.tmp;exact rfl)))
 exact ⟨rfl,hS.sub (List.nil_sublist _)⟩
theorem a8u:∀ (l:List En) (k:KV),(l.foldl a1G k).fr.length=k.fr.length∧(l.foldl a1G k).sl.length=k.sl.length
 |[],_=>⟨rfl,rfl⟩
 |e::l,k=>by
  obtain ⟨h1,h2⟩:=a8u l (a1G k e)
  have h:=b4I k e
  exact ⟨h1.trans h.2.2.1,h2.trans h.2.2.2⟩
theorem b5c {k:KV} (hr:Right k.K) {sp:Nat} {x:Sp} (hx:k.sp[sp]?=some x) (p:En→Bool) (i:Nat) (e:En) (he:x.s.entries[i]?=some e):a67 (a1O k p (x.s.entries.take i)) e:=by
 have h0:=a5V hr hx (List.mem_of_getElem? he)
 obtain ⟨-,hb⟩:=a92 p x.s.entries (D:=[]) hr (a0V hx) rfl
 have hbi:=hb i
 obtain ⟨l1,l2⟩:=a8u ((x.s.entries.take i).filter p) k
 have eK:=a9T ((x.s.entries.take i).filter p) k
 have e1:(a1O k p (x.s.entries.take i)).fr=(((x.s.entries.take i).filter p).foldl a0c k.K).frames:=congrArg Ker.frames eK
 have e2:(a1O k p (x.s.entries.take i)).sl=(((x.s.entries.take i).filter p).foldl a0c k.K).slots:=congrArg Ker.slots eK
 refine ⟨?_,by rw [e1];exact hbi.1,by rw [e2];exact hbi.2⟩
 have:=h0.names
 unfold a1O
 rw [l1,l2]
 exact this
theorem b27 {k:KV} {sp:Nat} {x:Sp} (hx:k.sp[sp]?=some x) (p:En→Bool) (ve:Value):x8 (fgV k sp x p ve)=x8 k:=by
 have h:=a2y (x.s.entries.filter p) k
 unfold x8 fgV a1O
 dsimp only
 rw [h.vsh,h.sh]
 have e:(k.sp.set sp ⟨⟨x.s.live,x.s.areas,x.s.entries.filter fun e=>!p e⟩,x.va,ve⟩).map a3j=k.sp.map a3j:=a4h hx rfl
 rw [e]
theorem b51 {k:KV} {sp:Nat} {x:Sp} (hx:k.sp[sp]?=some x) (p:En→Bool) (ve:Value):(fgV k sp x p ve).K=a4l k.K sp p:=by
 have h:=a2y (x.s.entries.filter p) k
 have e:=a9T (x.s.entries.filter p) k
 have hsp:=x7 (a0V hx)
 have he:l5 k.K sp=x.s.entries:=by unfold l5;rw [hsp]
 unfold fgV a4l fgK a1O
 rw [he,hsp,← e]
 generalize (x.s.entries.filter p).foldl a1G k=k1 at h ⊢
 obtain ⟨b1,b2,b3,b4,b5,b6,b7,b8,b9⟩:=k1
 obtain ⟨c1,c2,c3,c4,c5,c6,c7⟩:=h
 dsimp only at c1 c2 c3 c4 c5 c6 c7
 subst c1 c2 c3
 unfold KV.K
 dsimp only
 rw [List.map_set]
 rfl
theorem a8U {α:Type} {e a S:α} {X E E' F A A':List α} (hE:E.Perm (e::E')) (hA:A.Perm (a::A')):(X++(E++(S::(F++A)))).Perm (a::e::(X++(E'++(S::(F++A'))))):=by
 refine ((hE.append ((hA.append_left F).cons S)).append_left X).trans ?_
 have h1:(S::(F++a::A')).Perm (a::(S::(F++A'))):=(List.Perm.cons S List.perm_middle).trans (List.Perm.swap _ _ _)
 refine ((h1.append_left (e::E')).append_left X).trans ?_
 refine (List.perm_middle.append_left X).trans ?_
 refine List.perm_middle.trans (List.Perm.cons _ ?_)
 exact List.perm_middle
theorem a2w {α β:Type} (f:α→β):∀ {l:List α} {i:Nat} {x:α},l[i]?=some x→(l.map f).Perm (f x::(l.eraseIdx i).map f)
 |[],_,_,h=>by simp at h
 |a::l,0,x,h=>by
  have:a=x:=by simpa using h
  subst this
  exact List.Perm.refl _
 |a::l,i + 1,x,h=>((a2w f (l:=l) (i:=i) (by simpa using h)).cons _).trans (List.Perm.swap _ _ _)
set_option maxRecDepth 100000 in
set_option maxHeartbeats 8000000 in
theorem b4c {w:World} {k:KV} (hK:KerV w k) (space:Int):Fn Try.prog 8 [.agg (kvC k).toArray,.int .i64 space] w (fun v w'=>∃ k',v=.tuple #[.agg (kvC k').toArray,.int .i64 (a0n k.K space)]∧k'.K=a8g k.K space∧Came w w' k'):=by
 have hbeg:=fun w1 (h:KerV w1 k)=>a4i h space
 have hK0:=hK
 obtain ⟨sh,fr,sl,sps,hand,vsh,vfr,vsl,vsp⟩:=k
 obtain ⟨k1,k2,k3,k4,k5⟩:=hK
 dsimp only at k1 k2 k3 k4 k5
 obtain ⟨p1,c1,rfl⟩:=k1.sl.len
 obtain ⟨p2,c2,rfl⟩:=k2.len
 obtain ⟨p3,c3,rfl⟩:=k3.len
 obtain ⟨p4,c4,rfl⟩:=k4.len
 generalize hKK:KV.K ⟨sh,fr,sl,sps,hand,.slice p1 sh.length c1,.slice p2 fr.length c2,.slice p3 sl.length c3,.slice p4 sps.length c4⟩=K at hbeg ⊢
 have hpre:∀ w1 Γ1,St nF w w1 Γ1→KerV w1 ⟨sh,fr,sl,sps,hand,.slice p1 sh.length c1,.slice p2 fr.length c2,.slice p3 sl.length c3,.slice p4 sps.length c4⟩:=fun w1 Γ1 h=>hK0.now h
 unfold kvC at hbeg ⊢
 dsimp only at hbeg ⊢
 refine j0 (fn:=Try.f8) ⟨Try.func8,by kernel_rfl,by kernel_rfl⟩ (by exact rfl) Try.ntmps8 (by exact rfl) ?_
 have hS:=St.start w
 repeat' (first|(first|((with_reducible apply d6 c8);exact rfl;exact rfl)|((with_reducible apply d9);exact rfl;(((with_reducible apply Loads.st c8);exact rfl;((exact hS.blkR 1 rfl));exact rfl));exact rfl)|((with_reducible apply p7 hS);(iterate 3 exact rfl);intro g w' hS';clear hS;have hS:=hS';clear hS')|((with_reducible apply j7 hS c8);(iterate 3 exact rfl);intro g w' hS';clear hS;have hS:=hS';clear hS'))|(first|(with_reducible first|apply d8|apply c9|apply d7|apply d5)))
 rename_i g2 _
 refine e8 rfl rfl (hbeg _ (hpre _ _ hS)) rfl ?_
 clear hbeg
 rintro v w2 (⟨he,rfl,hS'⟩|⟨gw,sp,k',he,hsp,rfl,hk',hS'⟩)
 ·replace hS:=hS.transA hS'
  simp only [k7] at hS
  have hd:decide (a0n K space=0)=false:=decide_eq_false he
  repeat' (first|(first|((with_reducible apply d6 c8);exact rfl;exact rfl)|((with_reducible apply n7 c8);exact rfl;exact rfl;((exact (rfl:_=some [_,_,_,_,_])));exact rfl)|(((with_reducible apply i7 hS c8 (i:=0));(iterate 8 exact rfl);((exact (rfl:_=[_,_,_,_,_])));intro w' hS';simp only [List.set] at hS';clear hS;have hS:=hS';clear hS')))|(first|(with_reducible first|apply d8|apply c9|apply d7|apply d5|apply j5|apply e6))|(((with_reducible apply a1e);exact rfl;all_goals (intro hb hp;try (exfalso;omega)))))
  (apply s9);(repeat (first|exact ResL.nil|(apply ResL.tmp;exact rfl)|(apply ResL.cell;exact rfl;(((with_reducible apply Loads.st c8);exact rfl;((exact hS.blkR 0 rfl));exact rfl)))))
  exact ⟨kv0,rfl,by unfold a8g;rw [if_neg he];rfl,Or.inl ⟨rfl,hS.sub (List.nil_sublist _)⟩⟩
 have hKR:a8g K space=a3g K sp:=by unfold a8g;rw [if_pos he,hsp,Int.toNat_natCast]
 rw [hKR,he]
 obtain ⟨hr,sp2,hsp2,hspl,hlv⟩:=a3Y he
 obtain rfl:sp=sp2:=by omega
 replace hS:=hS.trans hS'
 clear hS' hKR he hpre hK0 k1 k2 k3 k4 k5 hKK
 rw [List.append_assoc] at hS
 subst hk'
 obtain ⟨x,hx⟩:∃ x,k'.sp[sp]?=some x:=by
  have:k'.K.spaces.length=k'.sp.length:=List.length_map _
  exact l8 (by omega)
 have hfo:=b1D (p:=fun _=>true) (kf:=23) (caps:=[]) hS (KRo.own hS) hx (fun e _ w' _ _=>b2Z e w') (fun i e he _=>b5c hr hx _ i e he)
 have hV0:=WkV.own hS
 repeat' (first|(((with_reducible apply d6 c8);exact rfl;exact rfl))|(first|(with_reducible first|apply d8|apply c9|apply d7|apply d5|apply g8))|(((with_reducible apply l6);exact rfl;(exact rfl))))
 refine e8 (first:=[]) (caps:=[]) rfl rfl hfo rfl ?_
 clear hfo
 rintro _ w3 ⟨rfl,ve,h2⟩
 replace hS:=St.transM hS h2
 clear h2
 have hsf:=a2y (x.s.entries.filter fun _=>true) k'
 have hrA:=b27 hx (fun _=>true) ve
 rw [← hrA] at hS
 have hx2:(fgV k' sp x (fun _=>true) ve).sp[sp]?=some ⟨⟨x.s.live,x.s.areas,x.s.entries.filter fun e=>!true⟩,x.va,ve⟩:=by
  show (k'.sp.set sp _)[sp]?=_
  rw [List.getElem?_set,if_pos rfl,if_pos (j3 hx)]
 have hdK:a3g k'.K sp={ (fgV k' sp x (fun _=>true) ve).K with spaces:=(fgV k' sp x (fun _=>true) ve).K.spaces.set sp sc0 }:=by
  rw [b51 hx]
  rfl
 rw [hdK]
 clear hdK hrA hsf
 generalize fgV k' sp x (fun _=>true) ve=kd at hS hx2 ⊢
 have hV:=WkV.own hS
 obtain ⟨bs,os,cs,hvsp⟩:=hV.ker.sp.form1 hx2
 obtain ⟨sh',fr',sl',sps',hand',vsh',vfr',vsl',vsp'⟩:=kd
 dsimp only at hvsp hx2
 subst hvsp
 obtain ⟨q1,d1,rfl⟩:∃ p c,vsh'=.slice p sh'.length c:=hV.ker.sh.sl.len
 obtain ⟨q2,d2,rfl⟩:∃ p c,vfr'=.slice p fr'.length c:=hV.ker.fr.len
 obtain ⟨q3,d3,rfl⟩:∃ p c,vsl'=.slice p sl'.length c:=hV.ker.sl.len
 have hspc:=a08 hV (j3 hx2)
 unfold a1c at hspc
 dsimp only at hspc
 rw [← List.append_assoc] at hS
 replace hS:=hS.perm List.perm_append_comm
 dsimp only [List.cons_append,List.nil_append] at hS
 have hrowS:=j9 (f:=spC) hx2
 unfold spC at hrowS
 repeat' (first|(first|((with_reducible apply d6 c8);exact rfl;exact rfl)|((with_reducible apply n7 c8);exact rfl;exact rfl;((exact (rfl:_=some [_,_,_])));exact rfl))|(first|(with_reducible first|apply d8|apply c9|apply d7|apply d5))|((with_reducible apply e8);exact rfl;exact rfl;exact hspc;exact rfl;rintro _ w' ⟨rfl,hS'⟩;replace hS:=hS.transA hS';simp only [k7] at hS;clear hS'))
 unfold wkS wkB hdA frA slA a2n at hS
 dsimp only [List.cons_append,List.nil_append] at hS
 have hos:os=0:=by
  obtain ⟨gg,hgg⟩:=hS.rowSome 6 rfl (Nat.lt_of_le_of_lt (Nat.zero_le _) (j3 hx2))
  injection hgg with hgg
  injection hgg
 subst hos
 dsimp only at hrowS
 have e1:(sps'.map spC).set sp (t8 [.bool x.s.live,x.va,ve] 0 [.bool false,.slice none 0 0,.slice none 0 0])=(sps'.set sp ⟨sc0,.slice none 0 0,.slice none 0 0⟩).map spC:=by rw [List.map_set];rfl
 repeat' (first|(((with_reducible apply d6 c8);exact rfl;exact rfl))|(first|(with_reducible first|apply d8|apply c9|apply d7|apply d5))|((with_reducible apply a0p hS c8 (i:=6));(iterate 4 exact rfl);assumption;(iterate 5 exact rfl);intro w' hS';simp only [List.set] at hS';clear hS;have hS:=hS';clear hS'))
 rw [e1] at hS
 repeat' (first|(first|((with_reducible apply d6 c8);exact rfl;exact rfl)|(((with_reducible apply i7 hS c8 (i:=0));(iterate 8 exact rfl);((exact (rfl:_=[_,_,_,_,_])));intro w' hS';simp only [List.set] at hS';clear hS;have hS:=hS';clear hS')))|(first|(with_reducible first|apply d7|apply d5|apply j5))|((with_reducible apply d9);exact rfl;((with_reducible apply Loads.st c8);exact rfl;exact (hS.blkRk 2 0 5 rfl);exact rfl);exact rfl))
 (apply s9);(repeat (first|exact ResL.nil|(apply ResL.tmp;exact rfl)|(apply ResL.cell;exact rfl;(((with_reducible apply Loads.st c8);exact rfl;((exact hS.blkR 0 rfl));exact rfl)))))
 refine ⟨⟨sh',fr',sl',sps'.set sp ⟨sc0,.slice none 0 0,.slice none 0 0⟩,hand',.slice q1 sh'.length d1,.slice q2 fr'.length d2,.slice q3 sl'.length d3,.slice (some ⟨bs,0,none⟩) sps'.length cs⟩,rfl,?_,Or.inr ?_⟩
 ·unfold KV.K
  dsimp only
  rw [List.map_set]
 ·have h1:=hS.sub (.cons _ (.cons _ (.cons _ (.cons _ (.refl _)))))
  have h2:=h1.perm (a8U (X:=[_,_,_]) (a2w a0k hx2) (a2w a3j hx2))
  have h3:=(h2.drop.drop.addNil 55 3).addNil 71 4
  have hz:(sps'.set sp ⟨sc0,.slice none 0 0,.slice none 0 0⟩)[sp]?=some ⟨sc0,.slice none 0 0,.slice none 0 0⟩:=by rw [List.getElem?_set,if_pos rfl,if_pos (j3 hx2)]
  have hE:=a2w a0k hz
  have hA:=a2w a3j hz
  rw [a1Q] at hE hA
  exact h3.perm (a8U (X:=[_,_,_]) hE hA).symm
end Go.Proofs.Ytejnpppejalhfac
/- A forked space has what the other one has; dropping it leaves the others; all dropped, all is free. -/
namespace Go.Proofs.Ytejnpppejalhfac
open Go.RowKit Go.Sort
theorem b2j {K:Ker} (h:Right K) {i:Nat} (hi:i < K.spaces.length):a0n K (i:Nat)=if (u7 K i).live=true then 0 else 6:=by
 unfold a0n
 rw [if_pos (a1m.2 h),Int.toNat_natCast]
 by_cases hl:(u7 K i).live=true
 ·rw [if_pos hl,if_pos ⟨by omega,by omega,hl⟩]
 ·rw [if_neg hl,if_neg (fun hh=>hl hh.2.2)]
theorem b2O {K:Ker} (h:Right K) (hd:∀ i,i < K.spaces.length→(u7 K i).live=false):(∀ f ∈ K.frames,f.refs=0)∧∀ s ∈ K.slots,s.refs=0:=by
 have hn:∀ k a,m8 K.spaces k a=[]:=fun k a=>by
  rw [a0a,List.flatMap_eq_nil_iff]
  intro s hs
  obtain ⟨i,hi⟩:=List.mem_iff_getElem?.1 hs
  have hl:=hd i (j3 hi)
  rw [x7 hi] at hl
  have:=((a0x.1 (h.spaces s hs)).dead hl).2
  unfold nm1
  rw [this]
  rfl
 refine ⟨fun f hf=>?_,fun s hs=>?_⟩
 ·obtain ⟨i,hi⟩:=List.mem_iff_getElem?.1 hf
  have:=(h.fr i f hi).refs
  rw [hn] at this
  exact this
 ·obtain ⟨i,hi⟩:=List.mem_iff_getElem?.1 hs
  have:=(h.sl i s hi).refs
  rw [hn] at this
  exact this
end Go.Proofs.Ytejnpppejalhfac
/- foliantlaw.KernelEmpty. -/
namespace Go.Proofs.Ytejnpppejalhfac
open Go.RowKit Go.Sort
set_option maxRecDepth 100000 in
set_option maxHeartbeats 8000000 in
theorem a5N {w:World} {k:KV} (hK:KerV w k):Fn Try.prog 4 [.agg (kvC k).toArray] w (RBf (.bool true) w):=by
 have hbg:=a5J
 have hck:=fun w1 (h:KerV w1 k)=>a28 h
 have hK0:=hK
 by_cases hc0:a0Y k.K=0
 rotate_left
 ·obtain ⟨sh,fr,sl,sps,hand,vsh,vfr,vsl,vsp⟩:=k
  obtain ⟨k1,k2,k3,k4,k5⟩:=hK
  dsimp only at k1 k2 k3 k4 k5
  obtain ⟨p1,c1,rfl⟩:=k1.sl.len
  obtain ⟨p2,c2,rfl⟩:=k2.len
  obtain ⟨p3,c3,rfl⟩:=k3.len
  obtain ⟨p4,c4,rfl⟩:=k4.len
  have hd:decide (a0Y (KV.K ⟨sh,fr,sl,sps,hand,.slice p1 sh.length c1,.slice p2 fr.length c2,.slice p3 sl.length c3,.slice p4 sps.length c4⟩)=0)=false:=decide_eq_false hc0
  unfold kvC at hck ⊢
  dsimp only at hck ⊢
  refine j0 (fn:=Try.f4) ⟨Try.func4,by kernel_rfl,by kernel_rfl⟩ (by exact rfl) Try.ntmps4 (by exact rfl) ?_
  have hS:=St.start w
  repeat' (first|(first|((with_reducible apply d6 c8);exact rfl;exact rfl)|((with_reducible apply d9);exact rfl;(((with_reducible apply Loads.st c8);exact rfl;((exact hS.blkR 0 rfl));exact rfl));exact rfl)|((with_reducible apply p7 hS);(iterate 3 exact rfl);intro g w' hS';clear hS;have hS:=hS';clear hS'))|(first|(with_reducible first|apply d8|apply c9|apply d7|apply d5|apply j5|apply e6))|(((with_reducible apply a1e);exact rfl;all_goals (intro hb hp;try (exfalso;omega))))|((with_reducible apply e8);exact rfl;exact rfl;exact hck _ (hK0.now hS);exact rfl;rintro _ w' ⟨rfl,hS'⟩;replace hS:=hS.transA hS';simp only [k7] at hS;clear hS')|((with_reducible apply e8);exact rfl;exact rfl;exact hbg _;exact rfl;rintro _ w' ⟨rfl,hS'⟩;replace hS:=hS.transA hS';simp only [k7] at hS;clear hS'))
  (apply j6);(repeat (first|exact ResL.nil|(apply ResL.tmp;exact rfl)))
  exact ⟨rfl,hS.sub (List.nil_sublist _)⟩
 have hr:=a1m.1 hc0
 obtain ⟨sh,fr,sl,sps,hand,vsh,vfr,vsl,vsp⟩:=k
 obtain ⟨k1,k2,k3,k4,k5⟩:=hK
 dsimp only at k1 k2 k3 k4 k5
 obtain ⟨p1,c1,rfl⟩:=k1.sl.len
 obtain ⟨p2,c2,rfl⟩:=k2.len
 obtain ⟨p3,c3,rfl⟩:=k3.len
 obtain ⟨p4,c4,rfl⟩:=k4.len
 rw [hc0] at hck
 unfold kvC at hck ⊢
 dsimp only at hck ⊢
 have hn:sps.length≤4:=by have:=hr.cnt;have e:(KV.K ⟨sh,fr,sl,sps,hand,.slice p1 sh.length c1,.slice p2 fr.length c2,.slice p3 sl.length c3,.slice p4 sps.length c4⟩).spaces.length=sps.length:=List.length_map _;omega
 refine j0 (fn:=Try.f4) ⟨Try.func4,by kernel_rfl,by kernel_rfl⟩ (by exact rfl) Try.ntmps4 (by exact rfl) ?_
 have hS:=St.start w
 repeat' (first|(first|((with_reducible apply d6 c8);exact rfl;exact rfl)|((with_reducible apply d9);exact rfl;(((with_reducible apply Loads.st c8);exact rfl;((exact hS.blkR 0 rfl));exact rfl));exact rfl)|((with_reducible apply p7 hS);(iterate 3 exact rfl);intro g w' hS';clear hS;have hS:=hS';clear hS'))|(first|(with_reducible first|apply d8|apply c9|apply d7|apply d5|apply g8|apply e7))|(((with_reducible apply l6);exact rfl;(exact rfl)))|((with_reducible apply e8);exact rfl;exact rfl;exact hck _ (hK0.now hS);exact rfl;rintro _ w' ⟨rfl,hS'⟩;replace hS:=hS.transA hS';simp only [k7] at hS;clear hS'))
 refine o6 (F:=nF) (w0:=w) (X:=Nat×KV×List Asr) (fun x=>[(3,.int .i64 (x.1:Nat))]) [1] rfl (fun x=>.blk g (kvC x.2.1)::x.2.2) (fun x=>(∀ w1,St nF w w1 (.blk g (kvC x.2.1)::x.2.2)→KerV w1 x.2.1)∧Right x.2.1.K∧x.2.1.sp.length=sps.length∧x.1≤sps.length∧∀ i,i < x.1→(u7 x.2.1.K i).live=false) (fun x=>sps.length - x.1) (0,⟨sh,fr,sl,sps,hand,.slice p1 sh.length c1,.slice p2 fr.length c2,.slice p3 sl.length c3,.slice p4 sps.length c4⟩,[]) (by repeat (first|exact Fr.sub_nil _|(apply Fr.sub_cons;exact rfl))) ⟨fun w1 h=>hK0.now h,hr,rfl,Nat.zero_le _,fun i h=>by omega⟩ hS ?_
 clear hS
 rintro ⟨i,k',Θ⟩ w1 ⟨hV,hr',hlen,hi,hdead⟩ hS
 dsimp only [List.cons_append,List.nil_append] at hV hr' hlen hi hdead hS ⊢
 rw [List.append_nil] at hS
 have hKV:=hV _ hS
 obtain ⟨sh5,fr5,sl5,sps5,hand5,vsh5,vfr5,vsl5,vsp5⟩:=k'
 obtain ⟨m1,m2,m3,m4,m5⟩:=hKV
 dsimp only at m1 m2 m3 m4 hlen
 obtain ⟨x1,y1,rfl⟩:=m1.sl.len
 obtain ⟨x2,y2,rfl⟩:=m2.len
 obtain ⟨x3,y3,rfl⟩:=m3.len
 obtain ⟨x4,y4,rfl⟩:=m4.len
 unfold kvC at hS hV
 dsimp only at hS hV
 have hspv:=fun w1 h=>(hV w1 h).sp
 dsimp only at hspv
 by_cases hlt:i < sps5.length
 ·have hdl:decide ((i:Int) < (sps5.length:Int))=true:=decide_eq_true (by omega)
  obtain ⟨x,hx⟩:=l8 (l:=sps5) (i:=i) (by omega)
  obtain ⟨bs,os,rfl,-⟩:=m4.at_ hlt
  have hrowS:=j9 (f:=spC) hx
  unfold spC at hrowS
  have hsc:=x7 (a0V (k:=⟨sh5,fr5,sl5,sps5,hand5,.slice x1 sh5.length y1,.slice x2 fr5.length y2,.slice x3 sl5.length y3,.slice (some ⟨bs,os,none⟩) sps5.length y4⟩) hx)
  by_cases hl:x.s.live=true
  ·have hi2:i < (KV.K ⟨sh5,fr5,sl5,sps5,hand5,.slice x1 sh5.length y1,.slice x2 fr5.length y2,.slice x3 sl5.length y3,.slice (some ⟨bs,os,none⟩) sps5.length y4⟩).spaces.length:=by
    show i < (sps5.map (·.s)).length
    rw [List.length_map];exact hlt
   have hlv:=b2j hr' hi2
   rw [if_pos (by rw [hsc];exact hl)] at hlv
   obtain ⟨d1,d2,d3,-,-,-,-⟩:=b4w hr' hi2
   rw [hl] at hrowS
   have hdr:=b4c (hV _ hS) ((i:Nat):Int)
   unfold a8g at hdr
   rw [hlv,if_pos rfl,Int.toNat_natCast] at hdr
   unfold kvC at hdr
   dsimp only at hdr
   repeat' (first|(first|((with_reducible apply d6 c8);exact rfl;exact rfl)|((with_reducible apply d9);exact rfl;(first|((with_reducible apply Loads.sl c8);exact rfl;((exact hS.blkC 0 rfl rfl)))|((with_reducible apply Loads.st c8);exact rfl;((exact hS.blkR 0 rfl));exact rfl));exact rfl)|((with_reducible apply p8 c8);(iterate 3 exact rfl);((exact rfl));((omega));exact rfl))|(first|(with_reducible first|apply d8|apply c9|apply d7|apply d5|apply g8|apply e7))|(first|((with_reducible apply k9);exact rfl;(assumption))|((with_reducible apply l6);exact rfl;(exact rfl)))|((with_reducible apply d9);exact rfl;(((with_reducible apply Loads.sc c8);exact rfl;exact (hspv _ hS).cel0 hrowS rfl));exact rfl))
   refine e8 rfl rfl hdr rfl ?_
   clear hdr
   rintro v w3 ⟨kd,rfl,hkd,hc⟩
   rw [← hkd] at d1 d2 d3
   have hO:=hc.own (n:=kd.K.frames.length - 1) (by have:=d1.cnt;omega)
   replace hS:=hS.sub (.cons_cons _ (List.nil_sublist _))
   replace hS:=(hS.trans hO).perm List.perm_append_comm
   dsimp only [List.cons_append,List.nil_append] at hS
   have hVd:KerV _ kd:=KerV.own (Γ:=[]) (by rw [List.append_nil];exact hO)
   clear hc hO
   have hld:kd.sp.length=sps.length:=by
    have e1:kd.K.spaces.length=kd.sp.length:=List.length_map _
    have e2:(KV.K ⟨sh5,fr5,sl5,sps5,hand5,.slice x1 sh5.length y1,.slice x2 fr5.length y2,.slice x3 sl5.length y3,.slice (some ⟨bs,os,none⟩) sps5.length y4⟩).spaces.length=sps5.length:=List.length_map _
    omega
   have hdd:∀ j,j < i + 1→(u7 kd.K j).live=false:=fun j hj=>by
    rw [d2]
    by_cases e:j=i
    ·rw [if_pos e];rfl
    ·rw [if_neg e];exact hdead j (by omega)
   obtain ⟨sh6,fr6,sl6,sps6,hand6,vsh6,vfr6,vsl6,vsp6⟩:=kd
   obtain ⟨hV1,hV2,hV3,hV4,hV5⟩:=hVd
   dsimp only at hV1 hV2 hV3 hV4 hV5
   obtain ⟨r1,z1,rfl⟩:=hV1.sl.len
   obtain ⟨r2,z2,rfl⟩:=hV2.len
   obtain ⟨r3,z3,rfl⟩:=hV3.len
   obtain ⟨r4,z4,rfl⟩:=hV4.len
   clear hV1 hV2 hV3 hV4 hV5
   repeat' (first|(first|((with_reducible apply m0);exact rfl;exact rfl;omega;omega;exact rfl)|((with_reducible apply d6 c8);exact rfl;exact rfl)|(((with_reducible apply i7 hS c8 (i:=0));(iterate 8 exact rfl);((exact (rfl:_=[_,_,_,_,_])));intro w' hS';simp only [List.set] at hS';clear hS;have hS:=hS';clear hS')))|(first|(with_reducible first|apply d8|apply c9|apply d7|apply d5|apply g8|apply k8))|(((with_reducible apply l6);exact rfl;(exact rfl))))
   refine m6 (i + 1,⟨sh6,fr6,sl6,sps6,hand6,.slice r1 sh6.length z1,.slice r2 fr6.length z2,.slice r3 sl6.length z3,.slice r4 sps6.length z4⟩,a9S ⟨sh6,fr6,sl6,sps6,hand6,.slice r1 sh6.length z1,.slice r2 fr6.length z2,.slice r3 sl6.length z3,.slice r4 sps6.length z4⟩) (by repeat (first|exact Fr.sub_nil _|(apply Fr.sub_cons;exact rfl))) ⟨fun w1 h=>KerV.own (h.perm (List.perm_append_comm (l₁:=[_]))),d1,hld,by omega,hdd⟩ ?_ (by dsimp only;omega)
   dsimp only
   rw [List.append_nil]
   exact hS
  ·have hl':x.s.live=false:=by simpa using hl
   rw [hl'] at hrowS
   repeat' (first|(first|((with_reducible apply m0);exact rfl;exact rfl;omega;omega;exact rfl)|((with_reducible apply d6 c8);exact rfl;exact rfl)|((with_reducible apply d9);exact rfl;(((with_reducible apply Loads.sl c8);exact rfl;((exact hS.blkC 0 rfl rfl))));exact rfl)|((with_reducible apply p8 c8);(iterate 3 exact rfl);((exact rfl));((omega));exact rfl))|(first|(with_reducible first|apply d8|apply c9|apply d7|apply d5|apply g8|apply e7|apply n5|apply j4|apply i9))|(((with_reducible apply k9);exact rfl;first|exact rfl|assumption))|((with_reducible apply d9);exact rfl;(((with_reducible apply Loads.sc c8);exact rfl;exact (hspv _ hS).cel0 hrowS rfl));exact rfl))
   refine m6 (i + 1,⟨sh5,fr5,sl5,sps5,hand5,.slice x1 sh5.length y1,.slice x2 fr5.length y2,.slice x3 sl5.length y3,.slice (some ⟨bs,os,none⟩) sps5.length y4⟩,Θ) (by repeat (first|exact Fr.sub_nil _|(apply Fr.sub_cons;exact rfl))) ⟨hV,hr',hlen,by omega,fun j hj=>?_⟩ ?_ (by dsimp only;omega)
   ·by_cases e:j=i
    ·rw [e,hsc];exact hl'
    ·exact hdead j (by omega)
   ·dsimp only
    rw [List.append_nil]
    exact hS
 ·have hdl:decide ((i:Int) < (sps5.length:Int))=false:=decide_eq_false (by omega)
  repeat' (first|(first|((with_reducible apply d6 c8);exact rfl;exact rfl)|((with_reducible apply d9);exact rfl;(((with_reducible apply Loads.sl c8);exact rfl;((exact hS.blkC 0 rfl rfl))));exact rfl))|(first|(with_reducible first|apply d8|apply c9|apply d7|apply d5|apply e7|apply n5|apply j4|apply i9))|(((with_reducible apply l6);exact rfl;(assumption))))
  obtain ⟨hz1,hz2⟩:=b2O hr' (fun j hj=>hdead j (by
   have e2:(KV.K ⟨sh5,fr5,sl5,sps5,hand5,.slice x1 sh5.length y1,.slice x2 fr5.length y2,.slice x3 sl5.length y3,.slice x4 sps5.length y4⟩).spaces.length=sps5.length:=List.length_map _
   omega))
  have hf64:fr5.length≤64:=hr'.cnt.2.1
  have hs512:sl5.length≤512:=hr'.cnt.2.2.1
  have hfrv:=fun w1 h=>(hV w1 h).fr
  have hslv:=fun w1 h=>(hV w1 h).sl
  have hck2:=fun w1 h=>a28 (hV w1 h)
  rw [a1m.2 hr'] at hck2
  unfold kvC at hck2
  dsimp only at hfrv hslv hck2
  refine o6 (F:=nF) (w0:=w) (X:=Nat) (fun j=>[(5,.int .i64 (j:Nat))]) [1] rfl (fun _=>[]) (fun j=>j≤fr5.length) (fun j=>fr5.length - j) 0 (by repeat (first|exact Fr.sub_nil _|(apply Fr.sub_cons;exact rfl))) (Nat.zero_le _) hS ?_
  clear hS
  intro j w2 hj hS
  dsimp only [List.cons_append,List.nil_append] at hS ⊢
  by_cases hlt2:j < fr5.length
  ·have hdl2:decide ((j:Int) < (fr5.length:Int))=true:=decide_eq_true (by omega)
   obtain ⟨f,hf⟩:=l8 (l:=fr5) (i:=j) (by omega)
   obtain ⟨bf,of_,rfl,-⟩:=m2.at_ hlt2
   have hrowF:=j9 (f:=fmC) hf
   unfold fmC at hrowF
   rw [hz1 f (List.mem_of_getElem? hf)] at hrowF
   repeat' (first|(first|((with_reducible apply m0);exact rfl;exact rfl;omega;omega;exact rfl)|((with_reducible apply d6 c8);exact rfl;exact rfl)|((with_reducible apply d9);exact rfl;(((with_reducible apply Loads.sl c8);exact rfl;((exact hS.blkC 0 rfl rfl))));exact rfl)|((with_reducible apply p8 c8);(iterate 3 exact rfl);((exact rfl));((omega));exact rfl))|(first|(with_reducible first|apply d8|apply c9|apply d7|apply d5|apply g8|apply e7|apply k8))|(first|((with_reducible apply k9);exact rfl;(assumption))|((with_reducible apply l6);exact rfl;(exact rfl)))|((with_reducible apply d9);exact rfl;(((with_reducible apply Loads.sc c8);exact rfl;exact (hfrv _ hS).cel hrowF rfl));exact rfl))
   exact m6 (j + 1) (by repeat (first|exact Fr.sub_nil _|(apply Fr.sub_cons;exact rfl))) (by omega) hS (by omega)
  have hdl2:decide ((j:Int) < (fr5.length:Int))=false:=decide_eq_false (by omega)
  repeat' (first|(first|((with_reducible apply d6 c8);exact rfl;exact rfl)|((with_reducible apply d9);exact rfl;(((with_reducible apply Loads.sl c8);exact rfl;((exact hS.blkC 0 rfl rfl))));exact rfl))|(first|(with_reducible first|apply d8|apply c9|apply d7|apply d5|apply e7|apply n5|apply j4|apply i9))|(((with_reducible apply l6);exact rfl;(assumption))))
  refine o6 (F:=nF) (w0:=w) (X:=Nat) (fun j=>[(6,.int .i64 (j:Nat))]) [1] rfl (fun _=>[]) (fun j=>j≤sl5.length) (fun j=>sl5.length - j) 0 (by repeat (first|exact Fr.sub_nil _|(apply Fr.sub_cons;exact rfl))) (Nat.zero_le _) hS ?_
  clear hS
  intro m w4 hm hS
  dsimp only [List.cons_append,List.nil_append] at hS ⊢
  by_cases hlt3:m < sl5.length
  ·have hdl3:decide ((m:Int) < (sl5.length:Int))=true:=decide_eq_true (by omega)
   obtain ⟨f,hf⟩:=l8 (l:=sl5) (i:=m) (by omega)
   obtain ⟨bf,of_,rfl,-⟩:=m3.at_ hlt3
   have hrowF:=j9 (f:=swC) hf
   unfold swC at hrowF
   rw [hz2 f (List.mem_of_getElem? hf)] at hrowF
   repeat' (first|(first|((with_reducible apply m0);exact rfl;exact rfl;omega;omega;exact rfl)|((with_reducible apply d6 c8);exact rfl;exact rfl)|((with_reducible apply d9);exact rfl;(((with_reducible apply Loads.sl c8);exact rfl;((exact hS.blkC 0 rfl rfl))));exact rfl)|((with_reducible apply p8 c8);(iterate 3 exact rfl);((exact rfl));((omega));exact rfl))|(first|(with_reducible first|apply d8|apply c9|apply d7|apply d5|apply g8|apply e7|apply k8))|(first|((with_reducible apply k9);exact rfl;(assumption))|((with_reducible apply l6);exact rfl;(exact rfl)))|((with_reducible apply d9);exact rfl;(((with_reducible apply Loads.sc c8);exact rfl;exact (hslv _ hS).cel hrowF rfl));exact rfl))
   exact m6 (m + 1) (by repeat (first|exact Fr.sub_nil _|(apply Fr.sub_cons;exact rfl))) (by omega) hS (by omega)
  have hdl3:decide ((m:Int) < (sl5.length:Int))=false:=decide_eq_false (by omega)
  repeat' (first|(first|((with_reducible apply d6 c8);exact rfl;exact rfl)|((with_reducible apply d9);exact rfl;(first|((with_reducible apply Loads.sl c8);exact rfl;((exact hS.blkC 0 rfl rfl)))|((with_reducible apply Loads.st c8);exact rfl;((exact hS.blkR 0 rfl));exact rfl));exact rfl)|(first|((with_reducible apply p9);(iterate 4 exact rfl);(exact rfl))|((with_reducible apply m9);exact rfl;((exact rfl));exact rfl;exact rfl)))|(first|(with_reducible first|apply d8|apply c9|apply d7|apply d5|apply n5|apply j5|apply j4|apply i9))|(((with_reducible apply l6);exact rfl;(assumption)))|((with_reducible apply e8);exact rfl;exact rfl;exact hbg _;exact rfl;rintro _ w' ⟨rfl,hS'⟩;replace hS:=hS.transA hS';simp only [k7] at hS;clear hS')|((with_reducible apply e8);exact rfl;exact rfl;exact hck2 _ hS;exact rfl;rintro _ w' ⟨rfl,hS'⟩;replace hS:=hS.transA hS';simp only [k7] at hS;clear hS'))
  (apply j6);(repeat (first|exact ResL.nil|(apply ResL.tmp;exact rfl)))
  exact ⟨rfl,hS.sub (List.nil_sublist _)⟩
end Go.Proofs.Ytejnpppejalhfac
/- Arguments that are slices, opened: what their elements' cells are. -/
namespace Go.Proofs.Ytejnpppejalhfac
open Go.ChangeShapes Go.WideShapes Go.ChangeAt Go.RowKit Go.Deep
def a93 {α:Type} (R:α→List Value→Prop) (xs:List α) (rows:List (List Value)):Prop:=rows.length=xs.length∧∀ (i:Nat) (x:α) (r:List Value),xs[i]?=some x→rows[i]?=some r→R x r
section
variable {H:Type} {enc:TypeId×Value→H} {P:Program} {w:World} {base:Nat} {spare:Nat→Bool} {held:Bool}
theorem b3B {α:Type} [Inhabited α] {t e:TypeId} {fuel sz:Nat} {cs:List Value} {y:DataW H×List MemPlace} (ht:P.underlying t=some (.slice e)) (hsz:P.cellsOf e=sz) (hpos:0 < sz) (R:α→List Value→Prop) (hR1:∀ x r,R x r→r.all (·.oneCell')=true)
  (hR:∀ (n:Nat) (cs':List Value) (z:DataW H×List MemPlace),cs'.length=sz→DataW.trod enc P w base spare held n e cs'=some z→∃ x:α,R x cs') (h:DataW.trod enc P w base spare held fuel t cs=some y) :
  ∃ v xs rows,cs=[v]∧Sl nF w sz v rows∧a93 R xs rows∧v.oneCell'=true:=by
 rcases open_slice ht h with ⟨rfl,_⟩|⟨a,len,cap,m,n,D,Pl,rfl,hb,hl,hm,hmm,_,hx⟩
 ·exact ⟨_,[],[],rfl,Or.inl ⟨_,_,rfl,rfl⟩,⟨rfl,fun i x r h=>by simp at h⟩,rfl⟩
 ·have hlm:len≤m:=by rw [hmm];split <;> omega
  rw [hsz] at hx
  have key:∀ i,∃ r x,i < len→w.cells? base (a.add (i * sz)) sz=some r∧R x r∧r.length=sz:=fun i=>by
   by_cases hi:i < len
   ·obtain ⟨cs',h1,h2⟩:=hx i (by omega)
    have hl:=(World.cells?_some h1).2.1
    obtain ⟨x,hr⟩:=hR n cs' _ hl h2
    exact ⟨cs',x,fun _=>⟨h1,hr,hl⟩⟩
   ·exact ⟨[],default,fun h=>(hi h).elim⟩
  obtain ⟨r,hr⟩:=Classical.axiomOfChoice key
  obtain ⟨x,hr⟩:=Classical.axiomOfChoice hr
  refine ⟨_,(List.range len).map x,(List.range len).map r,rfl,?_,⟨by simp,fun i y r' h1 h2=>?_⟩,rfl⟩
  ·by_cases h0:len=0
   ·subst h0;exact Or.inl ⟨_,_,rfl,rfl⟩
   ·obtain ⟨b,off,spot⟩:=a
    have hcell:∀ i,i < len→∀ j,j < sz→w.cell? (((⟨b,off,spot⟩:Addr).add (i * sz)).add j)=(r i)[j]?:=fun i hi j hj=>(World.cells?_some (hr i hi).1).2.2 j hj
    have h00:=hcell 0 (by omega) 0 hpos
    obtain ⟨u0,hu0⟩:∃ u,(r 0)[0]?=some u:=⟨(r 0)[0]'(by rw [(hr 0 (by omega)).2.2];exact hpos),by simp⟩
    rw [hu0] at h00
    simp only [Nat.zero_mul,Addr.add,if_true] at h00
    have hspot:spot=none:=by
     cases spot with
     |none=>rfl
     |some s=>simp [World.cell?] at h00;split at h00 <;> simp at h00
    subst hspot
    have hbl:=World.block_lt_of_cell? w _ h00
    refine Or.inr ⟨b,off,cap,by simp,by simpa using hl,hm,⟨hbl,id,fun r' hr'=>?_,fun r' hr'=>?_,fun k r' hk j u hj=>?_⟩⟩
    ·obtain ⟨i,hi,rfl⟩:=List.mem_map.1 hr'
     exact (hr i (by simpa using hi)).2.2
    ·obtain ⟨i,hi,rfl⟩:=List.mem_map.1 hr'
     exact hR1 _ _ (hr i (by simpa using hi)).2.1
    ·have hk':k < len:=by have:=j3 hk;simpa using this
     simp [hk'] at hk
     subst hk
     have hjl:j < sz:=by have:=j3 hj;rwa [(hr k hk').2.2] at this
     have:=hcell k hk' j hjl
     rw [hj] at this
     rwa [Addr.add_mid,Addr.add_mid] at this
  ·have hi:i < len:=by have:=j3 h1;simpa using this
   simp [hi] at h1 h2
   subst h1 h2
   exact (hr i hi).2.1
end
end Go.Proofs.Ytejnpppejalhfac
/- A slice of areas that came in. -/
namespace Go.Proofs.Ytejnpppejalhfac
open Go.ChangeShapes Go.WideShapes Go.ChangeAt Go.RowKit
section
variable {H:Type} {enc:TypeId×Value→H} {W:World} {base b0:Nat} {sp:Nat→Bool} {held:Bool}
theorem cI {n:Nat} {t:TypeId} {c:Value} {o:Option (DataW H×List MemPlace)} (ht:(Try.prog).underlying t=some (.int .i64)) (h:DataW.trod enc Try.prog W base sp held n t [c]=o) (ho:o.isSome=true):∃ k:Int,c=.int .i64 k∧(Lit.int .i64 k).wf=true:=by
 obtain ⟨x,hx⟩:=Option.isSome_iff_exists.1 ho
 obtain ⟨k,hk,_,hw⟩:=DataW.trod_int ht (h.trans hx)
 simp only [List.cons.injEq,and_true] at hk
 exact ⟨k,hk,hw⟩
theorem cB {n:Nat} {t:TypeId} {c:Value} {o:Option (DataW H×List MemPlace)} (ht:(Try.prog).underlying t=some .bool) (h:DataW.trod enc Try.prog W base sp held n t [c]=o) (ho:o.isSome=true):∃ b:Bool,c=.bool b:=by
 obtain ⟨x,hx⟩:=Option.isSome_iff_exists.1 ho
 obtain ⟨b,hb,_⟩:=DataW.trod_bool ht (h.trans hx)
 simp only [List.cons.injEq,and_true] at hb
 exact ⟨b,hb⟩
theorem cS {n:Nat} {t:TypeId} {c:Value} {o:Option (DataW H×List MemPlace)} (ht:(Try.prog).underlying t=some .string) (h:DataW.trod enc Try.prog W base sp held n t [c]=o) (ho:o.isSome=true):∃ l:List UInt8,c=.string ⟨l.toArray⟩∧l.length≤maxLen:=by
 obtain ⟨x,hx⟩:=Option.isSome_iff_exists.1 ho
 obtain ⟨s,hs,_,hl⟩:=DataW.trod_string ht (h.trans hx)
 simp only [List.cons.injEq,and_true] at hs
 obtain ⟨⟨l⟩⟩:=s
 exact ⟨l,hs,by simpa [ByteArray.size] using hl⟩
theorem gS {α:Type} {l:List α} {i:Nat} (h:i < l.length):(l[i]?).isSome=true:=by simp [h]
theorem a3X:(Try.prog).cellsOf 3=1:=by kernel_rfl
theorem a7t:(Try.prog).cellsOf 4=1:=by kernel_rfl
theorem a3y:(Try.prog).cellsOf 9=1:=by kernel_rfl
theorem b4a:(Try.prog).cellsOf 71=4:=by kernel_rfl
instance:Inhabited Ar:=⟨⟨0,0,0,false⟩⟩
set_option maxRecDepth 100000 in
theorem b1F {n:Nat} {cs:List Value} {z:DataW H×List MemPlace} (hl:cs.length=4) (h:DataW.trod enc Try.prog W base sp held n 71 cs=some z):∃ a:Ar,cs=arC a:=by
 match cs,hl with
 |[c0,c1,c2,c3],_=>
  obtain ⟨xs,n,_,_,_,hl,hf⟩:=DataW.trod_struct Try.underlying71 h
  have f0:=hf 0 _ rfl
  have f1:=hf 1 _ rfl
  have f2:=hf 2 _ rfl
  have f3:=hf 3 _ rfl
  simp only [List.getElem_toArray,List.getElem_cons_zero,List.getElem_cons_succ,a3X,a7t,List.drop_succ_cons,List.drop_zero,List.take_succ_cons,List.take_zero] at f0 f1 f2 f3
  have hl:xs.length=4:=hl
  obtain ⟨k0,rfl,_⟩:=cI Try.underlying3 f0 (gS (by omega))
  obtain ⟨k1,rfl,_⟩:=cI Try.underlying3 f1 (gS (by omega))
  obtain ⟨k2,rfl,_⟩:=cI Try.underlying3 f2 (gS (by omega))
  obtain ⟨k3,rfl⟩:=cB Try.underlying4 f3 (gS (by omega))
  exact ⟨⟨k0,k1,k2,k3⟩,rfl⟩
end
end Go.Proofs.Ytejnpppejalhfac
/- What was linked, and a sheet, that came in. -/
namespace Go.Proofs.Ytejnpppejalhfac
open Go.ChangeShapes Go.WideShapes Go.ChangeAt Go.RowKit
section
variable {H:Type} {enc:TypeId×Value→H} {W:World} {base b0:Nat} {sp:Nat→Bool} {held:Bool}
instance:Inhabited Fx:=⟨⟨0,[]⟩⟩
instance:Inhabited Sh:=⟨⟨0,[],[]⟩⟩
theorem b46:(Try.prog).cellsOf 100=2:=by kernel_rfl
theorem b2u:(Try.prog).cellsOf 97=3:=by kernel_rfl
theorem b1M:(Try.prog).cellsOf 95=1:=by kernel_rfl
theorem b3f:(Try.prog).cellsOf 38=1:=by kernel_rfl
theorem b1v:(Try.prog).cellsOf 22=1:=by kernel_rfl
theorem a8d {α:Type} {f:α→List Value} {G:α→Prop} {xs:List α} {rows:List (List Value)} (h:a93 (fun a r=>r=f a∧G a) xs rows):rows=xs.map f∧∀ x ∈ xs,G x:=by
 obtain ⟨h1,h2⟩:=h
 refine ⟨?_,fun x hx=>?_⟩
 ·apply List.ext_getElem?
  intro i
  rw [List.getElem?_map]
  by_cases hi:i < xs.length
  ·rw [List.getElem?_eq_getElem hi,List.getElem?_eq_getElem (by omega)]
   simp only [Option.map_some,Option.some.injEq]
   exact (h2 i _ _ (List.getElem?_eq_getElem hi) (List.getElem?_eq_getElem (by omega))).1
  ·rw [List.getElem?_eq_none (by omega),List.getElem?_eq_none (by omega)];rfl
 ·obtain ⟨i,hi⟩:=List.mem_iff_getElem?.1 hx
  have hl:=j3 hi
  exact (h2 i x _ hi (List.getElem?_eq_getElem (by rw [h1];exact hl))).2
theorem cc1 {c v:Value} (h:[c]=[v]):c=v:=by simpa using h
set_option maxRecDepth 100000 in
theorem b2y {n:Nat} {cs:List Value} {z:DataW H×List MemPlace} (hl:cs.length=2) (h:DataW.trod enc Try.prog W base sp held n 100 cs=some z):∃ f:Fx,cs=fxC f:=by
 match cs,hl with
 |[c0,c1],_=>
  obtain ⟨xs,n,_,_,_,hl,hf⟩:=DataW.trod_struct Try.underlying100 h
  have f0:=hf 0 _ rfl
  have f1:=hf 1 _ rfl
  simp only [List.getElem_toArray,List.getElem_cons_zero,List.getElem_cons_succ,a3X,a3y,List.drop_succ_cons,List.drop_zero,List.take_succ_cons,List.take_zero] at f0 f1
  have hl:xs.length=2:=hl
  obtain ⟨k0,rfl,_⟩:=cI Try.underlying3 f0 (gS (by omega))
  obtain ⟨l1,rfl,_⟩:=cS Try.underlying9 f1 (gS (by omega))
  exact ⟨⟨k0,l1⟩,rfl⟩
theorem a1W {α:Type} [Inhabited α] {n:Nat} {t e sz:Nat} {c:Value} {o:Option (DataW H×List MemPlace)} (ht:(Try.prog).underlying t=some (.slice e)) (hsz:(Try.prog).cellsOf e=sz) (hpos:0 < sz) (f:α→List Value) (G:α→Prop) (h1:∀ x,(f x).all (·.oneCell')=true∨¬ G x)
  (hR:∀ (n:Nat) (cs':List Value) (z:DataW H×List MemPlace),cs'.length=sz→DataW.trod enc Try.prog W base sp held n e cs'=some z→∃ x:α,cs'=f x∧G x) (h:DataW.trod enc Try.prog W base sp held n t [c]=o) (ho:o.isSome=true):∃ xs:List α,Sl nF W sz c (xs.map f)∧(∀ x ∈ xs,G x)∧c.oneCell'=true:=by
 obtain ⟨x,hx⟩:=Option.isSome_iff_exists.1 ho
 obtain ⟨v,xs,rows,hv,hsl,hra,hone⟩:=b3B ht hsz hpos (fun (a:α) r=>r=f a∧G a) (fun x r h=>by
  obtain ⟨rfl,hg⟩:=h
  rcases h1 x with h|h
  ·exact h
  ·exact absurd hg h) (fun n cs' z hl hz=>hR n cs' z hl hz) (h.trans hx)
 obtain rfl:=cc1 hv
 obtain ⟨rfl,hg⟩:=a8d hra
 exact ⟨xs,hsl,hg,hone⟩
set_option maxRecDepth 100000 in
theorem a8I {n:Nat} {cs:List Value} {z:DataW H×List MemPlace} (hl:cs.length=3) (h:DataW.trod enc Try.prog W base sp held n 97 cs=some z):∃ x:Sh×Value,cs=shC x.1 x.2∧ShV W x.1 x.2∧x.2.oneCell'=true:=by
 match cs,hl with
 |[c0,c1,c2],_=>
  obtain ⟨xs,n,_,_,_,hl,hf⟩:=DataW.trod_struct Try.underlying97 h
  have f0:=hf 0 _ rfl
  have f1:=hf 1 _ rfl
  have f2:=hf 2 _ rfl
  simp only [List.getElem_toArray,List.getElem_cons_zero,List.getElem_cons_succ,a3X,a3y,b1M,List.drop_succ_cons,List.drop_zero,List.take_succ_cons,List.take_zero] at f0 f1 f2
  have hl:xs.length=3:=hl
  obtain ⟨k0,rfl,_⟩:=cI Try.underlying3 f0 (gS (by omega))
  obtain ⟨l1,rfl,_⟩:=cS Try.underlying9 f1 (gS (by omega))
  obtain ⟨fs,h2,_,h3⟩:=a1W Try.underlying95 b46 (by decide) fxC (fun _=>True) (fun x=>Or.inl rfl) (fun _ _ _ hl hz=>by obtain ⟨f,hf⟩:=b2y hl hz;exact ⟨f,hf,trivial⟩) f2 (gS (by omega))
  exact ⟨(⟨k0,l1,fs⟩,c2),rfl,h2,h3⟩
end
end Go.Proofs.Ytejnpppejalhfac
/- A kernel that came in. -/
namespace Go.Proofs.Ytejnpppejalhfac
open Go.ChangeShapes Go.WideShapes Go.ChangeAt Go.RowKit
section
variable {H:Type} {enc:TypeId×Value→H} {W:World} {base b0:Nat} {sp:Nat→Bool} {held:Bool}
instance:Inhabited Fm:=⟨fm0⟩
instance:Inhabited Sw:=⟨sw0⟩
instance:Inhabited En:=⟨⟨0,0,0⟩⟩
instance:Inhabited Sp:=⟨⟨⟨false,[],[]⟩,.bool false,.bool false⟩⟩
theorem b2g:(Try.prog).cellsOf 43=4:=by kernel_rfl
theorem b3A:(Try.prog).cellsOf 45=2:=by kernel_rfl
theorem b3m:(Try.prog).cellsOf 41=3:=by kernel_rfl
theorem b1I:(Try.prog).cellsOf 55=3:=by kernel_rfl
theorem b1q:(Try.prog).cellsOf 27=5:=by kernel_rfl
theorem b09:(Try.prog).cellsOf 23=1:=by kernel_rfl
theorem b2i:(Try.prog).cellsOf 24=1:=by kernel_rfl
theorem b1g:(Try.prog).cellsOf 25=1:=by kernel_rfl
theorem a82:(Try.prog).cellsOf 39=1:=by kernel_rfl
set_option maxRecDepth 100000 in
theorem a9b {n:Nat} {cs:List Value} {z:DataW H×List MemPlace} (hl:cs.length=3) (h:DataW.trod enc Try.prog W base sp held n 55 cs=some z):∃ e:En,cs=enC e:=by
 match cs,hl with
 |[c0,c1,c2],_=>
  obtain ⟨xs,n,_,_,_,hl,hf⟩:=DataW.trod_struct Try.underlying55 h
  have f0:=hf 0 _ rfl
  have f1:=hf 1 _ rfl
  have f2:=hf 2 _ rfl
  simp only [List.getElem_toArray,List.getElem_cons_zero,List.getElem_cons_succ,a3X,List.drop_succ_cons,List.drop_zero,List.take_succ_cons,List.take_zero] at f0 f1 f2
  have hl:xs.length=3:=hl
  obtain ⟨k0,rfl,_⟩:=cI Try.underlying3 f0 (gS (by omega))
  obtain ⟨k1,rfl,_⟩:=cI Try.underlying3 f1 (gS (by omega))
  obtain ⟨k2,rfl,_⟩:=cI Try.underlying3 f2 (gS (by omega))
  exact ⟨⟨k0,k1,k2⟩,rfl⟩
set_option maxRecDepth 100000 in
theorem a9C {n:Nat} {cs:List Value} {z:DataW H×List MemPlace} (hl:cs.length=4) (h:DataW.trod enc Try.prog W base sp held n 43 cs=some z):∃ f:Fm,cs=fmC f:=by
 match cs,hl with
 |[c0,c1,c2,c3],_=>
  obtain ⟨xs,n,_,_,_,hl,hf⟩:=DataW.trod_struct Try.underlying43 h
  have f0:=hf 0 _ rfl
  have f1:=hf 1 _ rfl
  have f2:=hf 2 _ rfl
  have f3:=hf 3 _ rfl
  simp only [List.getElem_toArray,List.getElem_cons_zero,List.getElem_cons_succ,a3X,a3y,a7t,List.drop_succ_cons,List.drop_zero,List.take_succ_cons,List.take_zero] at f0 f1 f2 f3
  have hl:xs.length=4:=hl
  obtain ⟨l0,rfl,_⟩:=cS Try.underlying9 f0 (gS (by omega))
  obtain ⟨k1,rfl,_⟩:=cI Try.underlying3 f1 (gS (by omega))
  obtain ⟨b2,rfl⟩:=cB Try.underlying4 f2 (gS (by omega))
  obtain ⟨b3,rfl⟩:=cB Try.underlying4 f3 (gS (by omega))
  exact ⟨⟨l0,k1,b2,b3⟩,rfl⟩
set_option maxRecDepth 100000 in
theorem b0W {n:Nat} {cs:List Value} {z:DataW H×List MemPlace} (hl:cs.length=2) (h:DataW.trod enc Try.prog W base sp held n 45 cs=some z):∃ s:Sw,cs=swC s:=by
 match cs,hl with
 |[c0,c1],_=>
  obtain ⟨xs,n,_,_,_,hl,hf⟩:=DataW.trod_struct Try.underlying45 h
  have f0:=hf 0 _ rfl
  have f1:=hf 1 _ rfl
  simp only [List.getElem_toArray,List.getElem_cons_zero,List.getElem_cons_succ,a3X,a3y,List.drop_succ_cons,List.drop_zero,List.take_succ_cons,List.take_zero] at f0 f1
  have hl:xs.length=2:=hl
  obtain ⟨l0,rfl,_⟩:=cS Try.underlying9 f0 (gS (by omega))
  obtain ⟨k1,rfl,_⟩:=cI Try.underlying3 f1 (gS (by omega))
  exact ⟨⟨l0,k1⟩,rfl⟩
set_option maxRecDepth 100000 in
theorem a9d {n:Nat} {cs:List Value} {z:DataW H×List MemPlace} (hl:cs.length=3) (h:DataW.trod enc Try.prog W base sp held n 41 cs=some z):∃ x:Sp,cs=spC x∧SpV W x∧x.va.oneCell'=true∧x.ve.oneCell'=true:=by
 match cs,hl with
 |[c0,c1,c2],_=>
  obtain ⟨xs,n,_,_,_,hl,hf⟩:=DataW.trod_struct Try.underlying41 h
  have f0:=hf 0 _ rfl
  have f1:=hf 1 _ rfl
  have f2:=hf 2 _ rfl
  simp only [List.getElem_toArray,List.getElem_cons_zero,List.getElem_cons_succ,a7t,b3f,a82,List.drop_succ_cons,List.drop_zero,List.take_succ_cons,List.take_zero] at f0 f1 f2
  have hl:xs.length=3:=hl
  obtain ⟨b0,rfl⟩:=cB Try.underlying4 f0 (gS (by omega))
  obtain ⟨A,h1,_,o1⟩:=a1W Try.underlying38 b4a (by decide) arC (fun _=>True) (fun x=>Or.inl rfl) (fun _ _ _ hl hz=>by obtain ⟨f,hf⟩:=b1F hl hz;exact ⟨f,hf,trivial⟩) f1 (gS (by omega))
  obtain ⟨E,h2,_,o2⟩:=a1W Try.underlying39 b1I (by decide) enC (fun _=>True) (fun x=>Or.inl rfl) (fun _ _ _ hl hz=>by obtain ⟨f,hf⟩:=a9b hl hz;exact ⟨f,hf,trivial⟩) f2 (gS (by omega))
  exact ⟨⟨⟨b0,A,E⟩,c1,c2⟩,rfl,⟨h1,h2⟩,o1,o2⟩
set_option maxRecDepth 100000 in
theorem a7k {n:Nat} {cs:List Value} {z:DataW H×List MemPlace} (hl:cs.length=5) (h:DataW.trod enc Try.prog W base sp held n 27 cs=some z):∃ k:KV,cs=kvC k∧KerV W k:=by
 match cs,hl with
 |[c0,c1,c2,c3,c4],_=>
  obtain ⟨xs,n,_,_,_,hl,hf⟩:=DataW.trod_struct Try.underlying27 h
  have f0:=hf 0 _ rfl
  have f1:=hf 1 _ rfl
  have f2:=hf 2 _ rfl
  have f3:=hf 3 _ rfl
  have f4:=hf 4 _ rfl
  simp only [List.getElem_toArray,List.getElem_cons_zero,List.getElem_cons_succ,a3X,b1v,b09,b2i,b1g,List.drop_succ_cons,List.drop_zero,List.take_succ_cons,List.take_zero] at f0 f1 f2 f3 f4
  have hl:xs.length=5:=hl
  obtain ⟨Lp,h3,h4,_⟩:=a1W (α:=Sh×Value) Try.underlying22 b2u (by decide) (fun x=>shC x.1 x.2) (fun x=>ShV W x.1 x.2∧x.2.oneCell'=true) (fun x=>by
   by_cases hx:x.2.oneCell'=true
   ·left
    unfold shC
    simp only [List.all_cons,List.all_nil,Bool.and_true,hx]
    rfl
   ·exact Or.inr fun h=>hx h.2) (fun _ _ _ hl hz=>by obtain ⟨x,hx,h2,h3⟩:=a8I hl hz;exact ⟨x,hx,h2,h3⟩) f0 (gS (by omega))
  obtain ⟨F,h5,_,_⟩:=a1W Try.underlying23 b2g (by decide) fmC (fun _=>True) (fun x=>Or.inl rfl) (fun _ _ _ hl hz=>by obtain ⟨f,hf⟩:=a9C hl hz;exact ⟨f,hf,trivial⟩) f1 (gS (by omega))
  obtain ⟨S,h6,_,_⟩:=a1W Try.underlying24 b3A (by decide) swC (fun _=>True) (fun x=>Or.inl rfl) (fun _ _ _ hl hz=>by obtain ⟨f,hf⟩:=b0W hl hz;exact ⟨f,hf,trivial⟩) f2 (gS (by omega))
  obtain ⟨X,h7,h8,_⟩:=a1W (α:=Sp) Try.underlying25 b3m (by decide) spC (fun x=>SpV W x∧x.va.oneCell'=true∧x.ve.oneCell'=true) (fun x=>by
   by_cases hx:x.va.oneCell'=true∧x.ve.oneCell'=true
   ·left
    unfold spC
    simp only [List.all_cons,List.all_nil,Bool.and_true,hx.1,hx.2]
    rfl
   ·exact Or.inr fun h=>hx h.2) (fun _ _ _ hl hz=>by obtain ⟨x,hx,h2,h3⟩:=a9d hl hz;exact ⟨x,hx,h2,h3⟩) f3 (gS (by omega))
  obtain ⟨k4,rfl,_⟩:=cI Try.underlying3 f4 (gS (by omega))
  exact ⟨⟨Lp,F,S,X,k4,c0,c1,c2,c3⟩,rfl,⟨⟨h3,fun p hp=>(h4 p hp).1⟩,h5,h6,h7,fun p hp=>(h8 p hp).1⟩⟩
set_option maxRecDepth 100000 in
theorem a79 {v:Value} {d:DataW H} {ps:List MemPlace} (hval:Value.okWide Try.prog W .any b0 27 v) (h:DataW.Trod enc Try.prog W base sp held 27 v d ps):∃ k:KV,v=.agg (kvC k).toArray∧KerV W k:=by
 obtain ⟨cs,rfl,hsz⟩:=okWide_struct Try.underlying27 hval
 obtain ⟨fuel,hf⟩:=h
 have hc:(Value.agg cs).cells=cs:=rfl
 rw [hc] at hf
 have hlen:cs.toList.length=5:=by rw [Array.length_toList,hsz,b1q]
 obtain ⟨k,h1,h2⟩:=a7k hlen hf
 exact ⟨k,by rw [← h1,Array.toArray_toList],h2⟩
end
end Go.Proofs.Ytejnpppejalhfac
