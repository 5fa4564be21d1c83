/- Texts that the proof stands on, one behind the other: PlRun12, PlRun13, PlRun14, Ke36, Ke37, PlRun15, LawApart, Op1, OpA, OpK, OpR. -/
import Derived.Deep.Slices
import Derived.OpenShut
import Derived.WideShapes
import Derived.ProofKit
import Derived.Test.YtejnpppejalhfacPKernelApart15
/- An entry let go: what comes is right; what each other page tells. -/
namespace Go.Proofs.Ytejnpppejalhfac
open Go.RowKit Go.Sort
structure b6D (K K':Ker) (sp:Nat) (page:Int):Prop where
 right:Right K'
 sheets:K'.sheets=K.sheets
 nfr:K'.frames.length=K.frames.length
 nsl:K'.slots.length=K.slots.length
 nsp:K'.spaces.length=K.spaces.length
 ar:∀ i,l9 K' i=l9 K i
 live:∀ i,(s8 K' i).live=(s8 K i).live
 peek:∀ i p,¬(i=sp∧p=page)→t0 K' i p=t0 K i p
theorem a98 {A B:List En} {e:En} (h:Rises (o6 (A++e::B))):Rises (o6 (A++B))∧∀ x ∈ A++B,x.page≠e.page:=by
 unfold o6 at h ⊢
 rw [List.map_append,List.map_cons] at h
 rw [List.map_append]
 unfold Rises at h ⊢
 rw [List.pairwise_append,List.pairwise_cons] at h
 obtain ⟨h1,⟨h2,h3⟩,h4⟩:=h
 refine ⟨List.pairwise_append.2 ⟨h1,h3,fun a ha b hb=>h4 a ha b (List.mem_cons_of_mem _ hb)⟩,fun x hx=>?_⟩
 rcases List.mem_append.1 hx with hx|hx
 ·have:=h4 x.page (List.mem_map.2 ⟨x,hx,rfl⟩) e.page List.mem_cons_self
  omega
 ·have:=h2 x.page (List.mem_map.2 ⟨x,hx,rfl⟩)
  omega
theorem a9S {A B:List En} {e:En} {p:Int} (hp:p≠e.page):o7 (A++B) p=o7 (A++e::B) p:=by
 unfold o7
 rw [List.find?_append,List.find?_append,List.find?_cons,decide_eq_false (fun h=>hp h.symm)]
theorem b4d {K:Ker} {e:En} {b:Nat} (hb:e.at_=(b:Nat)) (hl:e.kind=1→b < K.frames.length) (i:Nat):m0 (a0g K e).frames i=if e.kind=1∧b=i then a2F (m0 K.frames i) else m0 K.frames i:=by
 unfold a0g
 by_cases hk:e.kind=1
 ·rw [if_pos hk]
  show m0 (K.frames.set e.at_.toNat (a2F (m0 K.frames e.at_.toNat))) i=_
  rw [hb,Int.toNat_natCast,a1j]
  by_cases e2:b=i
  ·subst e2
   rw [if_pos ⟨rfl,hl hk⟩,if_pos ⟨hk,rfl⟩]
  ·rw [if_neg (fun h=>e2 h.1),if_neg (fun h=>e2 h.2)]
 ·rw [if_neg hk,if_neg (fun h=>hk h.1)]
theorem b4Z {K:Ker} {e:En} {b:Nat} (hb:e.at_=(b:Nat)) (hl:e.kind≠1→b < K.slots.length) (i:Nat):a0f (a0g K e).slots i=if e.kind≠1∧b=i then a2u (a0f K.slots i) else a0f K.slots i:=by
 unfold a0g
 by_cases hk:e.kind=1
 ·rw [if_pos hk,if_neg (fun h=>h.1 hk)]
 ·rw [if_neg hk]
  show a0f (K.slots.set e.at_.toNat (a2u (a0f K.slots e.at_.toNat))) i=_
  rw [hb,Int.toNat_natCast,a3w]
  by_cases e2:b=i
  ·subst e2
   rw [if_pos ⟨rfl,hl hk⟩,if_pos ⟨hk,rfl⟩]
  ·rw [if_neg (fun h=>e2 h.1),if_neg (fun h=>e2 h.2)]
theorem b3c (K:Ker) (e:En):(a0g K e).frames.length=K.frames.length∧(a0g K e).slots.length=K.slots.length∧(a0g K e).sheets=K.sheets∧(a0g K e).spaces=K.spaces∧(a0g K e).hand=K.hand:=by
 unfold a0g
 split
 ·exact ⟨List.length_set,rfl,rfl,rfl,rfl⟩
 ·exact ⟨rfl,List.length_set,rfl,rfl,rfl⟩
def rmK (K:Ker) (sp:Nat) (s':Sc) (e:En):Ker:=⟨K.sheets,(a0g K e).frames,(a0g K e).slots,K.spaces.set sp s',K.hand⟩
theorem b6i {K:Ker} {sp:Nat} {s:Sc} {A B:List En} {e:En} (h:Right K) (hs:K.spaces[sp]?=some s) (hE:s.entries=A++e::B):b6D K (rmK K sp ⟨s.live,s.areas,A++B⟩ e) sp e.page:=by
 have hsc:=a0J.1 (h.spaces s (List.mem_of_getElem? hs))
 have hse:=y0 hs
 obtain ⟨s',hs'⟩:∃ s':Sc,s'=⟨s.live,s.areas,A++B⟩:=⟨_,rfl⟩
 rw [← hs']
 have hrs:=hsc.rises
 rw [hE] at hrs
 obtain ⟨hr1,hr2⟩:=a98 hrs
 have heM:e ∈ s.entries:=by rw [hE];exact List.mem_append_right _ List.mem_cons_self
 have hin:=(h.ent hs heM).2
 obtain ⟨b,hb,hb1,hb2,hk12⟩:∃ b:Nat,e.at_=(b:Nat)∧(e.kind=1→b < K.frames.length)∧(e.kind≠1→b < K.slots.length)∧(e.kind=1∨e.kind=2):=by
  rcases hin with ⟨k,b,hb,hl⟩|⟨k,b,hb,hl⟩
  ·exact ⟨b,hb,fun _=>hl,fun h=>absurd k h,Or.inl k⟩
  ·exact ⟨b,hb,fun h=>by omega,fun _=>hl,Or.inr k⟩
 obtain ⟨M,hMd⟩:∃ M:Int→Int→List Nm,M=fun k a=>nmL s k a (A++B)++n0 (K.spaces.eraseIdx sp) k a:=⟨_,rfl⟩
 have hM:∀ k a,(n0 K.spaces k a).Perm (nmL s k a [e]++M k a):=fun k a=>by
  refine (a1a (s':=s') hs k a).2.trans ?_
  rw [hMd]
  dsimp only
  rw [← List.append_assoc,← a7y]
  refine List.Perm.append_right _ (a5H ?_)
  rw [hE]
  exact List.perm_middle
 have hM':∀ k a,(n0 (K.spaces.set sp s') k a).Perm (M k a):=fun k a=>by
  refine (a1a (s':=s') hs k a).1.trans ?_
  rw [hMd]
  have:nm1 s' k a=nmL s k a (A++B):=by rw [hs'];rfl
  rw [this]
 have hscs:∀ i,s8 (rmK K sp s' e) i=if i=sp then s' else s8 K i:=fun i=>by
  unfold s8 rmK
  show ((K.spaces.set sp s')[i]?).getD sc0=_
  rw [List.getElem?_set]
  by_cases e:sp=i
  ·subst e;rw [if_pos rfl,if_pos (j6 hs),if_pos rfl];rfl
  ·rw [if_neg e,if_neg (fun hh=>e hh.symm)]
 have har:∀ i,l9 (rmK K sp s' e) i=l9 K i:=fun i=>by
  unfold l9
  rw [hscs]
  by_cases e:i=sp
  ·subst e;rw [if_pos rfl,hse,hs']
  ·rw [if_neg e]
 have hlv:∀ i,(s8 (rmK K sp s' e) i).live=(s8 K i).live:=fun i=>by
  rw [hscs]
  by_cases e:i=sp
  ·subst e;rw [if_pos rfl,hse,hs']
  ·rw [if_neg e]
 have hen:∀ i p,¬(i=sp∧p=e.page)→o7 (l7 (rmK K sp s' e) i) p=o7 (l7 K i) p:=fun i p hno=>by
  unfold l7
  rw [hscs]
  by_cases e2:i=sp
  ·subst e2
   rw [if_pos rfl,hse,hs',hE]
   exact a9S (fun h=>hno ⟨rfl,h⟩)
  ·rw [if_neg e2]
 have hfr:∀ i,m0 (rmK K sp s' e).frames i=if e.kind=1∧b=i then a2F (m0 K.frames i) else m0 K.frames i:=b4d hb hb1
 have hsl:∀ i,a0f (rmK K sp s' e).slots i=if e.kind≠1∧b=i then a2u (a0f K.slots i) else a0f K.slots i:=b4Z hb hb2
 obtain ⟨hlf,hls,-,-,-⟩:=b3c K e
 have hN1:∀ i:Nat,e.kind=1∧b=i→(n0 K.spaces 1 (i:Nat)).Perm (a0K s e::M 1 (i:Nat)):=fun i ⟨h1,h2⟩=>by
  refine (hM 1 (i:Nat)).trans ?_
  rw [a3D [] ⟨h1,by rw [hb,h2]⟩]
  exact List.Perm.refl _
 have hN2:∀ i:Nat,e.kind≠1∧b=i→(n0 K.spaces 2 (i:Nat)).Perm (a0K s e::M 2 (i:Nat)):=fun i ⟨h1,h2⟩=>by
  refine (hM 2 (i:Nat)).trans ?_
  rw [a3D [] ⟨by omega,by rw [hb,h2]⟩]
  exact List.Perm.refl _
 have hNo:∀ (k:Int) (i:Nat),¬(e.kind=k∧b=i)→(n0 K.spaces k (i:Nat)).Perm (M k (i:Nat)):=fun k i hno=>by
  refine (hM k (i:Nat)).trans ?_
  rw [a6a [] (fun hh=>hno ⟨hh.1,by have:=hh.2;rw [hb] at this;omega⟩)]
  exact List.Perm.refl _
 have hdata:∀ (x:En),(x.kind=1∨x.kind=2)→(∃ c:Nat,x.at_=(c:Nat)∧(x.kind=1→c < K.frames.length)∧(x.kind=2→c < K.slots.length))→M x.kind x.at_≠[]→v5 (rmK K sp s' e) x=v5 K x:=by
  rintro x hk ⟨c,hc,hc1,hc2⟩ hne
  unfold v5
  rcases hk with hk|hk
  ·rw [if_pos hk,if_pos hk,hc,Int.toNat_natCast,hfr]
   rw [hk,hc] at hne
   by_cases hw:e.kind=1∧b=c
   ·rw [if_pos hw]
    have hbo:=(h.fr c _ (List.getElem?_eq_getElem (hc1 hk))).perm (hN1 c hw)
    rw [q8 (List.getElem?_eq_getElem (hc1 hk))]
    cases hMb:M 1 (c:Nat) with
    |nil=>exact absurd hMb hne
    |cons m N=>
     rw [hMb] at hbo
     exact a9a hbo
   ·rw [if_neg hw]
  ·rw [if_neg (by omega),if_neg (by omega),hc,Int.toNat_natCast,hsl]
   rw [hk,hc] at hne
   by_cases hw:e.kind≠1∧b=c
   ·rw [if_pos hw]
    have hbo:=(h.sl c _ (List.getElem?_eq_getElem (hc2 hk))).perm (hN2 c hw)
    rw [a0t (List.getElem?_eq_getElem (hc2 hk))]
    cases hMb:M 2 (c:Nat) with
    |nil=>exact absurd hMb hne
    |cons m N=>
     rw [hMb] at hbo
     exact a6N hbo
   ·rw [if_neg hw]
 have hcnt:=h.cnt
 have hhand:=h.hand
 refine ⟨⟨?_,h.rise,?_,fun x hx=>?_,?_,fun i g hg=>?_,fun i g hg=>?_⟩,rfl,hlf,hls,List.length_set,har,hlv,fun i p hno=>?_⟩
 ·show 3≤(a0g K e).frames.length∧(a0g K e).frames.length≤64∧(a0g K e).slots.length≤512∧1≤(K.spaces.set sp s').length∧(K.spaces.set sp s').length≤4∧K.sheets.length≤255
  rw [hlf,hls,List.length_set]
  exact hcnt
 ·show 0≤K.hand∧K.hand < ((a0g K e).frames.length:Int)
  rw [hlf]
  exact hhand
 ·show z8 K.sheets (a0g K e).frames.length (a0g K e).slots.length x=true
  rw [hlf,hls]
  have hx:x ∈ K.spaces.set sp s':=hx
  rcases List.mem_or_eq_of_mem_set hx with hx|rfl
  ·exact h.spaces x hx
  ·rw [a0J,hs']
   refine ⟨fun hl=>?_,hsc.ar,hsc.pages,fun x hx=>?_,hr1⟩
   ·have:=(hsc.dead hl).2
    rw [hE] at this
    simp at this
   ·refine hsc.ents x ?_
    rw [hE]
    rcases List.mem_append.1 hx with hx|hx
    ·exact List.mem_append_left _ hx
    ·exact List.mem_append_right _ (List.mem_cons_of_mem _ hx)
 ·show s7 (K.spaces.set sp s')≤((a0g K e).slots.length:Int)
  rw [hls]
  have:s7 (K.spaces.set sp s')=s7 K.spaces:=by
   unfold s7
   rw [List.map_set,hs']
   congr 1
   refine List.ext_getElem? fun j=>?_
   rw [List.getElem?_set]
   by_cases e:sp=j
   ·subst e
    rw [if_pos rfl,List.length_map,if_pos (j6 hs),List.getElem?_map,hs]
    rfl
   ·rw [if_neg e]
  rw [this]
  exact h.room
 ·have hg:(a0g K e).frames[i]?=some g:=hg
  have hil:i < K.frames.length:=by have:=j6 hg;omega
  have hgi:=List.getElem?_eq_getElem hil
  have hge:=hfr i
  rw [show m0 (rmK K sp s' e).frames i=g from q8 hg,q8 hgi] at hge
  show FmOk K.sheets g (n0 (K.spaces.set sp s') 1 (i:Nat))
  by_cases hw:e.kind=1∧b=i
  ·rw [if_pos hw] at hge
   rw [hge]
   exact ((h.fr i _ hgi).perm (hN1 i hw)).dec.perm (hM' 1 i).symm
  ·rw [if_neg hw] at hge
   rw [hge]
   exact (h.fr i _ hgi).perm ((hNo 1 i hw).trans (hM' 1 i).symm)
 ·have hg:(a0g K e).slots[i]?=some g:=hg
  have hil:i < K.slots.length:=by have:=j6 hg;omega
  have hgi:=List.getElem?_eq_getElem hil
  have hge:=hsl i
  rw [show a0f (rmK K sp s' e).slots i=g from a0t hg,a0t hgi] at hge
  show SwOk g (n0 (K.spaces.set sp s') 2 (i:Nat))
  by_cases hw:e.kind≠1∧b=i
  ·rw [if_pos hw] at hge
   rw [hge]
   exact ((h.sl i _ hgi).perm (hN2 i hw)).dec.perm (hM' 2 i).symm
  ·rw [if_neg hw] at hge
   rw [hge]
   exact (h.sl i _ hgi).perm ((hNo 2 i (fun hh=>hw ⟨by omega,hh.2⟩)).trans (hM' 2 i).symm)
 ·unfold t0
  rw [hen i p hno]
  cases hx:o7 (l7 K i) p with
  |none=>exact a1D (hs:=by exact rfl) (ha:=har i) p
  |some x=>
   show v5 _ x=v5 K x
   obtain ⟨hx1,hx2⟩:=z7 hx
   cases hi:K.spaces[i]? with
   |none=>unfold l7 at hx1;rw [a3K hi] at hx1;cases hx1
   |some t=>
    unfold l7 at hx1
    rw [y0 hi] at hx1
    have hin:=(h.ent hi hx1).2
    have hk:x.kind=1∨x.kind=2:=by rcases hin with ⟨a,-⟩|⟨a,-⟩ <;> omega
    refine hdata x hk ?_ ?_
    ·rcases hin with ⟨a,b,c,d⟩|⟨a,b,c,d⟩
     ·exact ⟨b,c,fun _=>d,fun hh=>by omega⟩
     ·exact ⟨b,c,fun hh=>by omega,fun _=>d⟩
    ·rw [hMd]
     intro hnil
     obtain ⟨h1,h2⟩:=List.append_eq_nil_iff.1 hnil
     by_cases e2:i=sp
     ·subst e2
      rw [hs] at hi
      cases hi
      have hxR:x ∈ A++B:=by
       rw [hE] at hx1
       rcases List.mem_append.1 hx1 with h4|h4
       ·exact List.mem_append_left _ h4
       ·rcases List.mem_cons.1 h4 with rfl|h4
        ·exact absurd ⟨rfl,hx2.symm⟩ hno
        ·exact List.mem_append_right _ h4
      have:a0K s x ∈ nmL s x.kind x.at_ (A++B):=List.mem_map.2 ⟨x,List.mem_filter.2 ⟨hxR,by simp⟩,rfl⟩
      rw [h1] at this
      cases this
     ·have hte:t ∈ K.spaces.eraseIdx sp:=List.mem_eraseIdx_iff_getElem?.2 ⟨i,e2,hi⟩
      have:a0K t x ∈ n0 (K.spaces.eraseIdx sp) x.kind x.at_:=by
       rw [z0,List.mem_flatMap]
       exact ⟨t,hte,List.mem_map.2 ⟨x,List.mem_filter.2 ⟨hx1,by simp⟩,rfl⟩⟩
      rw [h2] at this
      cases this
end Go.Proofs.Ytejnpppejalhfac
/- Entries forgotten, a space dropped. -/
namespace Go.Proofs.Ytejnpppejalhfac
open Go.RowKit Go.Sort
def b5v (fr:List Fm) (sl:List Sw):Prop:=(∀ f ∈ fr,0≤f.refs∧f.refs≤100000)∧∀ f ∈ sl,0≤f.refs∧f.refs≤100000
structure b6G (K K':Ker) (sp:Nat) (P:Int→Prop):Prop where
 right:Right K'
 sheets:K'.sheets=K.sheets
 nfr:K'.frames.length=K.frames.length
 nsl:K'.slots.length=K.slots.length
 nsp:K'.spaces.length=K.spaces.length
 ar:∀ i,l9 K' i=l9 K i
 live:∀ i,(s8 K' i).live=(s8 K i).live
 peek:∀ i p,¬(i=sp∧P p)→t0 K' i p=t0 K i p
theorem b1M {K1 K2:Ker} (h1:K1.frames=K2.frames) (h2:K1.slots=K2.slots) (e:En):(a0g K1 e).frames=(a0g K2 e).frames∧(a0g K1 e).slots=(a0g K2 e).slots:=by
 unfold a0g
 split
 ·exact ⟨by dsimp only;rw [h1],h2⟩
 ·exact ⟨h1,by dsimp only;rw [h2]⟩
theorem a7x:∀ (l:List En) {K1 K2:Ker},K1.frames=K2.frames→K1.slots=K2.slots→(l.foldl a0g K1).frames=(l.foldl a0g K2).frames∧(l.foldl a0g K1).slots=(l.foldl a0g K2).slots
 |[],_,_,h1,h2=>⟨h1,h2⟩
 |e::l,_,_,h1,h2=>by
  obtain ⟨a,b⟩:=b1M h1 h2 e
  exact a7x l a b
def fgK (K:Ker) (sp:Nat) (s:Sc) (p:En→Bool) (D R:List En):Ker:=⟨K.sheets,((R.filter p).foldl a0g K).frames,((R.filter p).foldl a0g K).slots,K.spaces.set sp ⟨s.live,s.areas,D++R.filter fun e=>!p e⟩,K.hand⟩
theorem b3w {α:Type} {l:List α} {i:Nat} {x:α} (h:l[i]?=some x):l.set i x=l:=by
 refine List.ext_getElem? fun j=>?_
 rw [List.getElem?_set]
 by_cases e:i=j
 ·subst e;rw [if_pos rfl,if_pos (j6 h),h]
 ·rw [if_neg e]
theorem b0J (p:En→Bool) {sp:Nat}:∀ (R:List En) {K:Ker} {s:Sc} {D:List En},Right K→K.spaces[sp]?=some s→s.entries=D++R→b6G K (fgK K sp s p D R) sp (fun q=>∃ e ∈ R,p e=true∧e.page=q)∧∀ j,b5v (((R.take j).filter p).foldl a0g K).frames (((R.take j).filter p).foldl a0g K).slots
 |[],K,s,D,h,hs,hE=>by
  have e:fgK K sp s p D []=K:=by
   unfold fgK
   have:(⟨s.live,s.areas,D++List.filter (fun e=>!p e) []⟩:Sc)=s:=by
    rw [List.filter_nil,← hE]
   rw [this,b3w hs]
   rfl
  rw [e]
  refine ⟨⟨h,rfl,rfl,rfl,rfl,fun _=>rfl,fun _=>rfl,fun _ _ _=>rfl⟩,fun j=>?_⟩
  rw [List.take_nil]
  exact a3F h
 |e::R,K,s,D,h,hs,hE=>by
  by_cases hp:p e=true
  ·have h1:=b6i h hs hE
   have hs1:(rmK K sp ⟨s.live,s.areas,D++R⟩ e).spaces[sp]?=some ⟨s.live,s.areas,D++R⟩:=by
    show (K.spaces.set sp _)[sp]?=_
    rw [List.getElem?_set,if_pos rfl,if_pos (j6 hs)]
   obtain ⟨h2,h3⟩:=b0J p R (s:=⟨s.live,s.areas,D++R⟩) (D:=D) h1.right hs1 rfl
   have hc:=fun l=>a7x l (K1:=rmK K sp ⟨s.live,s.areas,D++R⟩ e) (K2:=a0g K e) rfl rfl
   have eK:fgK (rmK K sp ⟨s.live,s.areas,D++R⟩ e) sp ⟨s.live,s.areas,D++R⟩ p D R=fgK K sp s p D (e::R):=by
    unfold fgK
    rw [List.filter_cons_of_pos hp,List.filter_cons_of_neg (by simp [hp]),List.foldl_cons,(hc _).1,(hc _).2]
    show Ker.mk _ _ _ ((K.spaces.set sp _).set sp _) _=_
    rw [List.set_set]
    rfl
   rw [eK] at h2
   refine ⟨⟨h2.right,h2.sheets.trans h1.sheets,h2.nfr.trans h1.nfr,h2.nsl.trans h1.nsl,h2.nsp.trans h1.nsp,fun i=>(h2.ar i).trans (h1.ar i),fun i=>(h2.live i).trans (h1.live i),fun i q hno=>?_⟩,fun j=>?_⟩
   ·rw [h2.peek i q (fun hh=>hno ⟨hh.1,by obtain ⟨x,hx,h4⟩:=hh.2;exact ⟨x,List.mem_cons_of_mem _ hx,h4⟩⟩),h1.peek i q (fun hh=>hno ⟨hh.1,e,List.mem_cons_self,hp,hh.2.symm⟩)]
   ·cases j with
    |zero=>exact a3F h
    |succ j=>
     rw [List.take_succ_cons,List.filter_cons_of_pos hp,List.foldl_cons,← (hc _).1,← (hc _).2]
     exact h3 j
  ·have hp':p e=false:=by simpa using hp
   obtain ⟨h2,h3⟩:=b0J p R (D:=D++[e]) h hs (by rw [hE,List.append_assoc];rfl)
   have eK:fgK K sp s p (D++[e]) R=fgK K sp s p D (e::R):=by
    unfold fgK
    rw [List.filter_cons_of_neg hp,List.filter_cons_of_pos (by simp [hp']),List.append_assoc]
    rfl
   rw [eK] at h2
   refine ⟨⟨h2.right,h2.sheets,h2.nfr,h2.nsl,h2.nsp,h2.ar,h2.live,fun i q hno=>h2.peek i q (fun hh=>hno ⟨hh.1,by obtain ⟨x,hx,h4⟩:=hh.2;exact ⟨x,List.mem_cons_of_mem _ hx,h4⟩⟩)⟩,fun j=>?_⟩
   cases j with
   |zero=>exact a3F h
   |succ j=>
    rw [List.take_succ_cons,List.filter_cons_of_neg hp]
    exact h3 j
def a4F (K:Ker) (sp:Nat) (p:En→Bool):Ker:=fgK K sp (s8 K sp) p [] (l7 K sp)
def a2k (K:Ker) (sp:Nat):Ker:=a7j (a4F K sp fun _=>true) sp sc0
theorem b4h {K:Ker} {sp:Nat} (h:Right K) (hsp:sp < K.spaces.length):Right (a2k K sp)∧(∀ i,s8 (a2k K sp) i=if i=sp then sc0 else s8 K i)∧(a2k K sp).spaces.length=K.spaces.length∧(a2k K sp).frames.length=K.frames.length∧(a2k K sp).slots.length=K.slots.length∧(∀ i,i≠sp→l9 (a2k K sp) i=l9 K i)∧∀ i p,i≠sp→t0 (a2k K sp) i p=t0 K i p:=by
 have hs:=List.getElem?_eq_getElem hsp
 obtain ⟨hf,-⟩:=b0J (fun _=>true) (l7 K sp) (D:=[]) h hs (by unfold l7;rw [y0 hs];rfl)
 obtain ⟨F,hF⟩:∃ F,F=a4F K sp fun _=>true:=⟨_,rfl⟩
 have hF2:fgK K sp K.spaces[sp] (fun _=>true) [] (l7 K sp)=F:=by rw [hF];unfold a4F;rw [y0 hs]
 rw [hF2] at hf
 have hFs:F.spaces[sp]?=some ⟨K.spaces[sp].live,K.spaces[sp].areas,[]⟩:=by
  rw [← hF2]
  show (K.spaces.set sp _)[sp]?=_
  rw [List.getElem?_set,if_pos rfl,if_pos hsp]
  simp
 unfold a2k
 rw [← hF]
 have hr:=hf.right
 have hnm:∀ k a,(n0 (F.spaces.set sp sc0) k a).Perm (n0 F.spaces k a):=fun k a=>by
  refine (a1a (s':=sc0) hFs k a).1.trans ((a1a (s':=sc0) hFs k a).2.trans ?_).symm
  exact List.Perm.refl _
 have hscF:∀ i,s8 (a7j F sp sc0) i=if i=sp then sc0 else s8 F i:=fun i=>by
  unfold s8 a7j
  show ((F.spaces.set sp sc0)[i]?).getD sc0=_
  rw [List.getElem?_set]
  by_cases e:sp=i
  ·subst e;rw [if_pos rfl,if_pos (j6 hFs),if_pos rfl];rfl
  ·rw [if_neg e,if_neg (fun hh=>e hh.symm)]
 have hscK:∀ i,i≠sp→s8 F i=s8 K i:=fun i hi=>by
  rw [← hF2]
  unfold s8
  show ((K.spaces.set sp _)[i]?).getD sc0=_
  rw [List.getElem?_set,if_neg (fun hh=>hi hh.symm)]
 have hroom:s7 (F.spaces.set sp sc0)≤s7 F.spaces:=by
  have hnn:=(a2v (hr.spaces _ (List.mem_of_getElem? hFs))).2.1
  have e:∀ (l:List Sc) (i:Nat) (s:Sc),l[i]?=some s→s7 (l.set i sc0)=s7 l - y6 s.areas:=by
   intro l
   induction l with
   |nil=>intro i s h;simp at h
   |cons a l ih=>
    intro i s h
    cases i with
    |zero=>
     have:a=s:=by simpa using h
     subst this
     show s7 (sc0::l)=s7 (a::l) - y6 a.areas
     unfold s7
     simp only [List.map_cons,List.sum_cons]
     have:y6 sc0.areas=0:=rfl
     omega
    |succ i=>
     have h2:=ih i s (by simpa using h)
     show s7 (a::l.set i sc0)=s7 (a::l) - y6 s.areas
     unfold s7 at h2 ⊢
     simp only [List.map_cons,List.sum_cons]
     omega
  rw [e _ _ _ hFs]
  omega
 refine ⟨⟨?_,hr.rise,hr.hand,fun x hx=>?_,Int.le_trans hroom hr.room,fun i f hi=>(hr.fr i f hi).perm (hnm 1 i).symm,fun i f hi=>(hr.sl i f hi).perm (hnm 2 i).symm⟩,fun i=>?_,?_,hf.nfr,hf.nsl,fun i hi=>?_,fun i q hi=>?_⟩
 ·show 3≤F.frames.length∧F.frames.length≤64∧F.slots.length≤512∧1≤(F.spaces.set sp sc0).length∧(F.spaces.set sp sc0).length≤4∧F.sheets.length≤255
  rw [List.length_set]
  exact hr.cnt
 ·rcases List.mem_or_eq_of_mem_set hx with hx|rfl
  ·exact hr.spaces x hx
  ·rw [a0J]
   exact ⟨fun _=>⟨rfl,rfl⟩,rfl,rfl,(fun _ h=>by cases h),List.Pairwise.nil⟩
 ·rw [hscF]
  by_cases e:i=sp
  ·rw [if_pos e,if_pos e]
  ·rw [if_neg e,if_neg e,hscK i e]
 ·show (F.spaces.set sp sc0).length=_
  rw [List.length_set,hf.nsp]
 ·unfold l9
  rw [hscF,if_neg hi,hscK i hi]
 ·rw [← hf.peek i q (fun hh=>hi hh.1)]
  unfold t0 l7
  rw [hscF,if_neg hi]
  cases o7 (s8 F i).entries q with
  |none=>exact a1D (hs:=by exact rfl) (ha:=by unfold l9;rw [hscF,if_neg hi]) q
  |some x=>rfl
end Go.Proofs.Ytejnpppejalhfac
/- A space forked. -/
namespace Go.Proofs.Ytejnpppejalhfac
open Go.RowKit Go.Sort
def a9D (k:Int) (i:Nat) (l:List En):Int:=(((l.filter fun e:En=>decide (e.kind=k∧e.at_=((i:Nat):Int))).length:Nat):Int)
theorem a6Q (k:Int) (i:Nat) (e:En) (l:List En):a9D k i (e::l)=(if e.kind=k∧e.at_=(i:Nat) then 1 else 0) + a9D k i l:=by
 unfold a9D
 rw [List.filter_cons]
 by_cases h:e.kind=k∧e.at_=(i:Nat)
 ·rw [if_pos (by simpa using h),if_pos h,List.length_cons];omega
 ·rw [if_neg (by simpa using h),if_neg h];omega
def b6a (nf ns:Nat) (e:En):Prop:=(e.kind=1∧∃ j:Nat,e.at_=(j:Nat)∧j < nf)∨(e.kind=2∧∃ j:Nat,e.at_=(j:Nat)∧j < ns)
def a8w (f:Fm) (n:Int):Fm:=⟨f.data,f.refs + n,f.dirty,f.seen⟩
def a8F (f:Sw) (n:Int):Sw:=⟨f.data,f.refs + n⟩
theorem a99 (f:Fm):a8w f 0=f:=by unfold a8w;rw [Int.add_zero]
theorem a9s (f:Sw):a8F f 0=f:=by unfold a8F;rw [Int.add_zero]
structure b6k (K K':Ker) (l:List En):Prop where
 sheets:K'.sheets=K.sheets
 spaces:K'.spaces=K.spaces
 hand:K'.hand=K.hand
 nfr:K'.frames.length=K.frames.length
 nsl:K'.slots.length=K.slots.length
 fr:∀ i,i < K.frames.length→m0 K'.frames i=a8w (m0 K.frames i) (a9D 1 i l)
 sl:∀ i,i < K.slots.length→a0f K'.slots i=a8F (a0f K.slots i) (a9D 2 i l)
theorem a8S:∀ (l:List En) {K:Ker},(∀ e ∈ l,b6a K.frames.length K.slots.length e)→b6k K (l.foldl a39 K) l
 |[],K,_=>⟨rfl,rfl,rfl,rfl,rfl,fun i _=>(a99 _).symm,fun i _=>(a9s _).symm⟩
 |e::l,K,h=>by
  have hin:=h e List.mem_cons_self
  have hlen:(a39 K e).frames.length=K.frames.length∧(a39 K e).slots.length=K.slots.length∧(a39 K e).sheets=K.sheets∧(a39 K e).spaces=K.spaces∧(a39 K e).hand=K.hand:=by
   unfold a39
   split
   ·exact ⟨List.length_set,rfl,rfl,rfl,rfl⟩
   ·exact ⟨rfl,List.length_set,rfl,rfl,rfl⟩
  obtain ⟨n1,n2,n3,n4,n5⟩:=hlen
  have ih:=a8S l (K:=a39 K e) (fun x hx=>by rw [n1,n2];exact h x (List.mem_cons_of_mem _ hx))
  rw [List.foldl_cons]
  refine ⟨ih.sheets.trans n3,ih.spaces.trans n4,ih.hand.trans n5,ih.nfr.trans n1,ih.nsl.trans n2,fun i hi=>?_,fun i hi=>?_⟩
  ·rw [ih.fr i (by rw [n1];exact hi),a6Q]
   unfold a39
   rcases hin with ⟨hk,j,hj,hjl⟩|⟨hk,j,hj,hjl⟩
   ·rw [if_pos hk]
    dsimp only
    rw [hj,Int.toNat_natCast,a1j]
    by_cases e2:j=i
    ·subst e2
     rw [if_pos ⟨rfl,hjl⟩,if_pos ⟨hk,rfl⟩]
     unfold a8w a7r
     dsimp only
     rw [Int.add_assoc]
    ·rw [if_neg (fun hh=>e2 hh.1),if_neg (fun hh=>e2 (by have:=hh.2;omega)),Int.zero_add]
   ·rw [if_neg (by omega),if_neg (fun hh=>by omega),Int.zero_add]
  ·rw [ih.sl i (by rw [n2];exact hi),a6Q]
   unfold a39
   rcases hin with ⟨hk,j,hj,hjl⟩|⟨hk,j,hj,hjl⟩
   ·rw [if_pos hk,if_neg (fun hh=>by omega),Int.zero_add]
   ·rw [if_neg (by omega)]
    dsimp only
    rw [hj,Int.toNat_natCast,a3w]
    by_cases e2:j=i
    ·subst e2
     rw [if_pos ⟨rfl,hjl⟩,if_pos ⟨hk,rfl⟩]
     unfold a8F a6T
     dsimp only
     rw [Int.add_assoc]
    ·rw [if_neg (fun hh=>e2 hh.1),if_neg (fun hh=>e2 (by have:=hh.2;omega)),Int.zero_add]
theorem b0q (s:Sc) (k:Int) (i:Nat):((nm1 s k (i:Nat)).length:Int)=a9D k i s.entries:=by unfold nm1 a9D;rw [List.length_map]
theorem a5a (L:List Sc) (s:Sc) (k a:Int):n0 (L++[s]) k a=n0 L k a++nm1 s k a:=by
 rw [z0,z0,List.flatMap_append,List.flatMap_cons,List.flatMap_nil,List.append_nil]
theorem b0R {L:List Sc} {s:Sc} (h:s ∈ L) (k a:Int):∀ n ∈ nm1 s k a,n ∈ n0 L k a:=fun n hn=>by
 rw [z0,List.mem_flatMap]
 exact ⟨s,h,hn⟩
theorem a6r {α:Type} {N M:List α} (hs:∀ n ∈ M,n ∈ N) (h:N=[]):M=[]:=by
 cases M with
 |nil=>rfl
 |cons a l=>
  have:=hs a List.mem_cons_self
  rw [h] at this
  cases this
theorem FmOk.add {sh:List Sh} {f:Fm} {N M:List Nm} (h:FmOk sh f N) (hs:∀ n ∈ M,n ∈ N):FmOk sh (a8w f (M.length:Nat)) (N++M):=by
 have hm:∀ n ∈ N++M,n ∈ N:=fun n hn=>by
  rcases List.mem_append.1 hn with hn|hn
  ·exact hn
  ·exact hs n hn
 refine ⟨?_,fun hn=>?_,fun hn=>h.len (fun h0=>hn (by rw [h0,a6r hs h0];rfl)),fun n hn m hm2=>h.same n (hm n hn) m (hm m hm2),fun n hn=>h.data n (hm n hn)⟩
 ·show f.refs + _=_
  rw [h.refs,List.length_append]
  omega
 ·obtain ⟨h1,h2⟩:=List.append_eq_nil_iff.1 hn
  rw [h2,h.nil h1]
  rfl
theorem SwOk.add {f:Sw} {N M:List Nm} (h:SwOk f N) (hs:∀ n ∈ M,n ∈ N):SwOk (a8F f (M.length:Nat)) (N++M):=by
 have hm:∀ n ∈ N++M,n ∈ N:=fun n hn=>by
  rcases List.mem_append.1 hn with hn|hn
  ·exact hn
  ·exact hs n hn
 refine ⟨?_,fun hn=>?_,fun hn=>h.len (fun h0=>hn (by rw [h0,a6r hs h0];rfl)),fun n hn m hm2=>h.same n (hm n hn) m (hm m hm2)⟩
 ·show f.refs + _=_
  rw [h.refs,List.length_append]
  omega
 ·obtain ⟨h1,h2⟩:=List.append_eq_nil_iff.1 hn
  rw [h2,h.nil h1]
  rfl
structure b5G (K K':Ker) (sp:Nat):Prop where
 right:Right K'
 sheets:K'.sheets=K.sheets
 nfr:K'.frames.length=K.frames.length
 nsl:K'.slots.length=K.slots.length
 spaces:K'.spaces=K.spaces++[s8 K sp]
 old:∀ i p,i < K.spaces.length→t0 K' i p=t0 K i p
 new:∀ p,t0 K' K.spaces.length p=t0 K sp p
theorem b4w {K:Ker} {sp:Nat} {s:Sc} (h:Right K) (hs:K.spaces[sp]?=some s) (h4:K.spaces.length≠4) (hroom:s7 K.spaces + y6 s.areas≤K.slots.length):b5G K (a5Z K sp) sp:=by
 have hse:=y0 hs
 have hsm:=List.mem_of_getElem? hs
 have hent:l7 K sp=s.entries:=by unfold l7;rw [hse]
 have hI:=a8S s.entries (K:=K) (fun e he=>(h.ent hs he).2)
 generalize hK1:s.entries.foldl a39 K=K1 at hI
 have hF:a5Z K sp=⟨K1.sheets,K1.frames,K1.slots,K1.spaces++[s],K1.hand⟩:=by unfold a5Z;rw [hent,hK1,hse]
 rw [hF]
 obtain ⟨i1,i2,i3,i4,i5,i6,i7⟩:=hI
 have hdat:∀ t,t ∈ K.spaces→∀ x ∈ t.entries,v5 ⟨K1.sheets,K1.frames,K1.slots,K1.spaces++[s],K1.hand⟩ x=v5 K x:=fun t ht x hx=>by
  obtain ⟨i,hi⟩:=List.mem_iff_getElem?.1 ht
  have hin:=(h.ent hi hx).2
  unfold v5
  rcases hin with ⟨hk,j,hj,hjl⟩|⟨hk,j,hj,hjl⟩
  ·rw [if_pos hk,if_pos hk,hj,Int.toNat_natCast]
   show (m0 K1.frames j).data=_
   rw [i6 j hjl]
   rfl
  ·rw [if_neg (by omega),if_neg (by omega),hj,Int.toNat_natCast]
   show (a0f K1.slots j).data=_
   rw [i7 j hjl]
   rfl
 have hsc1:∀ i,i < K.spaces.length→s8 ⟨K1.sheets,K1.frames,K1.slots,K1.spaces++[s],K1.hand⟩ i=s8 K i:=fun i hi=>by
  unfold s8
  show ((K1.spaces++[s])[i]?).getD sc0=_
  rw [i2,List.getElem?_append_left hi]
 have hsc2:s8 ⟨K1.sheets,K1.frames,K1.slots,K1.spaces++[s],K1.hand⟩ K.spaces.length=s:=by
  unfold s8
  show ((K1.spaces++[s])[K.spaces.length]?).getD sc0=_
  rw [i2,List.getElem?_append_right (Nat.le_refl _),Nat.sub_self]
  rfl
 have hpk:∀ i i' p t,s8 ⟨K1.sheets,K1.frames,K1.slots,K1.spaces++[s],K1.hand⟩ i=t→s8 K i'=t→t ∈ K.spaces→t0 ⟨K1.sheets,K1.frames,K1.slots,K1.spaces++[s],K1.hand⟩ i p=t0 K i' p:=fun i i' p t e1 e2 ht=>by
  unfold t0 l7
  rw [e1,e2]
  cases hx:o7 t.entries p with
  |none=>
   show a0B _ i p=a0B K i' p
   unfold a0B zAt l9
   rw [e1,e2]
   show (a01 K1.sheets _ _).getD []=_
   rw [i1]
  |some x=>exact hdat t ht x (z7 hx).1
 refine ⟨⟨?_,?_,?_,fun x hx=>?_,?_,fun i f hf=>?_,fun i f hf=>?_⟩,i1,i4,i5,?_,fun i p hi=>?_,fun p=>?_⟩
 ·show 3≤K1.frames.length∧K1.frames.length≤64∧K1.slots.length≤512∧1≤(K1.spaces++[s]).length∧(K1.spaces++[s]).length≤4∧K1.sheets.length≤255
  rw [i4,i5,i2,i1,List.length_append,List.length_singleton]
  have:=h.cnt
  omega
 ·show a0S 0 K1.sheets=true
  rw [i1];exact h.rise
 ·show 0≤K1.hand∧K1.hand < (K1.frames.length:Int)
  rw [i3,i4];exact h.hand
 ·show z8 K1.sheets K1.frames.length K1.slots.length x=true
  rw [i1,i4,i5]
  have hx:x ∈ K1.spaces++[s]:=hx
  rw [i2] at hx
  rcases List.mem_append.1 hx with hx|hx
  ·exact h.spaces x hx
  ·rw [List.mem_singleton] at hx
   subst hx
   exact h.spaces _ hsm
 ·show s7 (K1.spaces++[s])≤(K1.slots.length:Int)
  rw [i2,i5,a4b]
  exact hroom
 ·have hf:K1.frames[i]?=some f:=hf
  have hil:i < K.frames.length:=by have:=j6 hf;omega
  show FmOk K1.sheets f (n0 (K1.spaces++[s]) 1 (i:Nat))
  rw [i1,i2,a5a]
  have e:=i6 i hil
  rw [q8 hf,← b0q,q8 (List.getElem?_eq_getElem hil)] at e
  rw [e]
  exact (h.fr i _ (List.getElem?_eq_getElem hil)).add (b0R hsm 1 (i:Nat))
 ·have hf:K1.slots[i]?=some f:=hf
  have hil:i < K.slots.length:=by have:=j6 hf;omega
  show SwOk f (n0 (K1.spaces++[s]) 2 (i:Nat))
  rw [i2,a5a]
  have e:=i7 i hil
  rw [a0t hf,← b0q,a0t (List.getElem?_eq_getElem hil)] at e
  rw [e]
  exact (h.sl i _ (List.getElem?_eq_getElem hil)).add (b0R hsm 2 (i:Nat))
 ·show K1.spaces++[s]=_
  rw [i2,hse]
 ·exact hpk i i p _ (hsc1 i hi) rfl (by unfold s8;rw [List.getElem?_eq_getElem hi];exact List.getElem_mem hi)
 ·exact hpk K.spaces.length sp p s hsc2 hse hsm
end Go.Proofs.Ytejnpppejalhfac
/- (*kernel.work).forget. -/
namespace Go.Proofs.Ytejnpppejalhfac
open Go.RowKit Go.Sort
def a1U (k:KV) (p:En→Bool) (l:List En):KV:=(l.filter p).foldl a1L k
def fgV (k:KV) (sp:Nat) (x:Sp) (p:En→Bool) (ve:Value):KV:={ a1U k p x.s.entries with sp:=k.sp.set sp ⟨⟨x.s.live,x.s.areas,x.s.entries.filter fun e=>!p e⟩,x.va,ve⟩ }
structure a5o (k k':KV):Prop where
 sh:k'.sh=k.sh
 sp:k'.sp=k.sp
 hand:k'.hand=k.hand
 vsh:k'.vsh=k.vsh
 vfr:k'.vfr=k.vfr
 vsl:k'.vsl=k.vsl
 vsp:k'.vsp=k.vsp
theorem b1S (k:KV) (e:En):a5o k (a1L k e):=by
 unfold a1L
 split <;> exact ⟨rfl,rfl,rfl,rfl,rfl,rfl,rfl⟩
theorem a2G:∀ (l:List En) (k:KV),a5o k (l.foldl a1L k)
 |[],_=>⟨rfl,rfl,rfl,rfl,rfl,rfl,rfl⟩
 |e::l,k=>by
  have h:=b1S k e
  have h2:=a2G l (a1L k e)
  exact ⟨h2.sh.trans h.sh,h2.sp.trans h.sp,h2.hand.trans h.hand,h2.vsh.trans h.vsh,h2.vfr.trans h.vfr,h2.vsl.trans h.vsl,h2.vsp.trans h.vsp⟩
theorem a9p:∀ (l:List En) (k:KV),(l.foldl a1L k).K=l.foldl a0g k.K
 |[],_=>rfl
 |e::l,k=>by rw [List.foldl_cons,a9p l,b3d];rfl
theorem KRo.letS {F:Nat→Prop} {w:World} {k k':KV} (h:KRo F w k) (s:a5o k k'):KRo F w k':=⟨by rw [s.sh,s.vsh];exact h.sh,by rw [s.sp];exact h.ar⟩
theorem b13 {l:List En} {i:Nat} {e:En} (h:l[i]?=some e) (k:KV) (p:En→Bool):a1U k p (l.take (i + 1))=if p e=true then a1L (a1U k p (l.take i)) e else a1U k p (l.take i):=by
 unfold a1U
 rw [List.take_add_one,h,Option.toList_some,List.filter_append]
 by_cases hp:p e=true
 ·rw [if_pos hp,List.filter_cons_of_pos hp,List.filter_nil,List.foldl_append];rfl
 ·rw [if_neg hp,List.filter_cons_of_neg hp,List.filter_nil,List.append_nil]
set_option maxRecDepth 100000 in
set_option maxHeartbeats 8000000 in
theorem b1W {F:Nat→Prop} {w0 w:World} {Γ:List Asr} {g:Nat} {k:KV} {sp:Nat} {vh:Value} {held:List Nat} (hS0:St F w0 w (wkS g k sp vh held++Γ)) (hR0:KRo (fps (wkS g k sp vh held)) w k) {x:Sp} (hx:k.sp[sp]?=some x) {p:En→Bool} {kf:FuncId} {caps:List Value}
  (hf:∀ e ∈ x.s.entries,∀ w' Γ',St (fps (wkS g k sp vh held)) w w' Γ'→Fn Try.prog kf ([.agg (enC e).toArray]++caps) w' (RBf (.bool (p e)) w')) (hE:∀ i e,x.s.entries[i]?=some e→p e=true→a6Z (a1U k p (x.s.entries.take i)) e) :
  Fn Try.prog 22 [.pointer (some ⟨g,0,none⟩),.func (.func kf) #[] caps.toArray] w (fun v w'=>v=.tuple #[]∧∃ ve,St (fps (wkS g k sp vh held)) w w' (wkS g (fgV k sp x p ve) sp vh held)):=by
 have hS:=St.startM hS0
 have hR:=hR0
 generalize fps (wkS g k sp vh held)=G at hS hR hf ⊢
 clear hR0 hS0
 have hxm:=List.mem_of_getElem? hx
 obtain ⟨bs,os,cs,hvsp⟩:=(WkV.of (Γ:=[]) (by rw [List.append_nil];exact hS) hR).ker.sp.form1 hx
 have hel:x.s.entries.length≤9223372036854775807:=by
  have:=((WkV.of (Γ:=[]) (by rw [List.append_nil];exact hS) hR).ker.spv x hxm).en.bound
  omega
 have hsm:∀ l,a5o k (a1U k p l):=fun l=>a2G _ k
 have hV:∀ l w1 Γ1,St G w w1 (wkS g (a1U k p l) sp vh held++Γ1)→WkV w1 g (a1U k p l) sp vh held:=fun l w1 Γ1 h=>WkV.of h (hR.letS (hsm l))
 have hspc:=fun l w1 Γ1 (h:St G w w1 (wkS g (a1U k p l) sp vh held++Γ1))=>a1b (hV l w1 Γ1 h) (by rw [(hsm l).sp];exact j6 hx)
 have e9:∀ l,a1k (a1U k p l).vsp (sp * 3)=.pointer (some ⟨bs,os + sp * 3,none⟩):=fun l=>by rw [(hsm l).vsp,hvsp];rfl
 simp only [e9] at hspc
 have hrowS:=k8 (f:=spC) hx
 unfold spC at hrowS
 have hspV:∀ l w1 Γ1,St G w w1 (wkS g (a1U k p l) sp vh held++Γ1)→Sl nF w1 3 (.slice (some ⟨bs,os,none⟩) k.sp.length cs) (k.sp.map fun q=>[.bool q.s.live,q.va,q.ve]):=fun l w1 Γ1 h=>by
  have:=(hV l w1 Γ1 h).ker.sp
  rw [(hsm l).vsp,(hsm l).sp,hvsp] at this
  exact this
 have hEn:∀ l w1 Γ1,St G w w1 (wkS g (a1U k p l) sp vh held++Γ1)→Sl nF w1 3 x.ve (x.s.entries.map enC):=fun l w1 Γ1 h=>((hV l w1 Γ1 h).ker.spv x (by rw [(hsm l).sp];exact hxm)).en
 obtain ⟨pe,ce,hve⟩:=((WkV.of (Γ:=[]) (by rw [List.append_nil];exact hS) hR).ker.spv x hxm).en.len
 rw [hve] at hrowS hEn
 replace hS:St G w w (wkS g (a1U k p []) sp vh held++[]):=by rw [List.append_nil];exact hS
 refine j4 (fn:=Try.f22) ⟨Try.func22,by kernel_rfl,by kernel_rfl⟩ (by exact rfl) Try.ntmps22 (by exact rfl) ?_
 repeat' (first|(((with_reducible apply d8 c8);exact rfl;exact rfl))|(first|(with_reducible first|apply e6|apply c9|apply d9|apply d5|apply g8))|((with_reducible apply i9);exact rfl;exact rfl;exact hspc _ _ _ hS;exact rfl;rintro _ w' ⟨rfl,hS'⟩;replace hS:=hS.transA hS';simp only [l4] at hS;clear hS')|((with_reducible apply e7);exact rfl;(((with_reducible apply Loads.sl c8);exact rfl;exact (hspV _ _ _ hS).cel hrowS rfl));exact rfl))
 refine p8 (F:=G) (w0:=w) (X:=Nat) (fun i=>[(14,.int .i64 (i:Nat))]) [0,1,4,12,13] rfl (fun i=>wkS g (a1U k p (x.s.entries.take i)) sp vh held) (fun i=>i≤x.s.entries.length) (fun i=>x.s.entries.length - i) 0 (by repeat (first|exact Fr.sub_nil _|(apply Fr.sub_cons;exact rfl))) (Nat.zero_le _) hS ?_
 clear hS
 intro i w1 hi hS
 dsimp only [List.cons_append,List.nil_append] at hi ⊢
 by_cases hlt:i < x.s.entries.length
 ·have hdl:decide ((i:Int) < (x.s.entries.length:Int))=true:=decide_eq_true (by omega)
  obtain ⟨e,he⟩:=m6 (l:=x.s.entries) (i:=i) (by omega)
  obtain ⟨b,off,rfl,-⟩:=(hEn _ _ _ hS).at_ hlt
  have hrowE:=k8 (f:=enC) he
  have hnx:=b13 he k p
  have hem:=List.mem_of_getElem? he
  have hwh:=fun w' Γ' h=>hf e hem w' Γ' h
  unfold enC at hrowE hwh
  cases hp:p e with
  |true=>
   rw [hp] at hwh hnx
   rw [if_pos rfl] at hnx
   have hlet:=fun w1 Γ1 (h:St G w w1 (wkS g (a1U k p (x.s.entries.take i)) sp vh held++Γ1))=>b0w h (hE i e he hp)
   unfold enC at hlet
   repeat' (first|(first|((with_reducible apply d8 c8);exact rfl;exact rfl)|((with_reducible apply e7);exact rfl;(((with_reducible apply Loads.st c8);exact rfl;((exact hS.blkR 0 rfl));exact rfl));exact rfl)|((with_reducible apply q9 c8);(iterate 3 exact rfl);((exact rfl));((omega));exact rfl)|((with_reducible apply j7 hS c8);(iterate 3 exact rfl);intro g w' hS';clear hS;have hS:=hS';clear hS')|(((with_reducible apply j0 hS c8 (i:=0));(iterate 8 exact rfl);((exact (rfl:_=[_,_,_])));intro w' hS';simp only [List.set] at hS';clear hS;have hS:=hS';clear hS')))|(first|(with_reducible first|apply e6|apply c9|apply d9|apply d5|apply j3|apply g8))|(((with_reducible apply l8);exact rfl;first|exact rfl|assumption))|((with_reducible apply e7);exact rfl;((with_reducible apply Loads.st c8);exact rfl;exact ((hEn _ _ _ hS).rng hrowE);exact rfl);exact rfl)|((with_reducible apply i9);exact rfl;exact rfl;exact hwh _ _ hS;exact rfl;rintro _ w' ⟨rfl,hS'⟩;(replace hS:=hS.trans hS');simp only [List.nil_append] at hS;clear hS'))
   rw [List.append_nil] at hS
   replace hS:=hS.perm (List.perm_append_singleton _ _).symm
   refine i9 (first:=[]) (caps:=[]) rfl rfl (hlet _ _ hS) rfl ?_
   rintro _ w2 ⟨rfl,h2⟩
   replace hS:=(St.transM hS h2).perm (List.perm_append_singleton _ _)
   clear h2
   repeat' (first|(first|((with_reducible apply m7);exact rfl;exact rfl;omega;omega;exact rfl)|((with_reducible apply d8 c8);exact rfl;exact rfl))|(first|(with_reducible first|apply c9|apply d9|apply d5|apply l5)))
   refine m9 (i + 1) (by repeat (first|exact Fr.sub_nil _|(apply Fr.sub_cons;exact rfl))) (by omega) ?_ (by omega)
   rw [hnx,List.append_nil]
   exact hS.drop
  |false=>
   rw [hp] at hwh hnx
   rw [if_neg (by simp)] at hnx
   repeat' (first|(first|((with_reducible apply m7);exact rfl;exact rfl;omega;omega;exact rfl)|((with_reducible apply d8 c8);exact rfl;exact rfl)|((with_reducible apply e7);exact rfl;(((with_reducible apply Loads.st c8);exact rfl;((exact hS.blkR 0 rfl));exact rfl));exact rfl)|((with_reducible apply q9 c8);(iterate 3 exact rfl);((exact rfl));((omega));exact rfl)|((with_reducible apply j7 hS c8);(iterate 3 exact rfl);intro g w' hS';clear hS;have hS:=hS';clear hS')|(((with_reducible apply j0 hS c8 (i:=0));(iterate 8 exact rfl);((exact (rfl:_=[_,_,_])));intro w' hS';simp only [List.set] at hS';clear hS;have hS:=hS';clear hS')))|(first|(with_reducible first|apply e6|apply c9|apply d9|apply d5|apply j3|apply g8|apply l5))|(first|((with_reducible apply l8);exact rfl;(assumption))|((with_reducible apply m5);exact rfl;(exact rfl)))|((with_reducible apply e7);exact rfl;((with_reducible apply Loads.st c8);exact rfl;exact ((hEn _ _ _ hS).rng hrowE);exact rfl);exact rfl)|((with_reducible apply i9);exact rfl;exact rfl;exact hwh _ _ hS;exact rfl;rintro _ w' ⟨rfl,hS'⟩;(replace hS:=hS.trans hS');simp only [List.nil_append] at hS;clear hS'))
   refine m9 (i + 1) (by repeat (first|exact Fr.sub_nil _|(apply Fr.sub_cons;exact rfl))) (by omega) ?_ (by omega)
   rw [hnx]
   exact hS.drop
 ·have hdl:decide ((i:Int) < (x.s.entries.length:Int))=false:=decide_eq_false (by omega)
  obtain rfl:i=x.s.entries.length:=by omega
  rw [List.take_length] at hS
  repeat' (first|(((with_reducible apply d8 c8);exact rfl;exact rfl))|(first|(with_reducible first|apply e6|apply c9|apply d9|apply d5|apply o0|apply j9|apply j5))|(((with_reducible apply m5);exact rfl;(assumption)))|((with_reducible apply e7);exact rfl;(((with_reducible apply Loads.sl c8);exact rfl;exact (hspV _ _ _ hS).cel hrowS rfl));exact rfl))
  have hsf:=hsm x.s.entries
  have hfg:∀ ve,fgV k sp x p ve={ a1U k p x.s.entries with sp:=k.sp.set sp ⟨⟨x.s.live,x.s.areas,x.s.entries.filter fun e=>!p e⟩,x.va,ve⟩ }:=fun ve=>rfl
  simp only [hfg]
  generalize a1U k p x.s.entries=k1 at hS hsf ⊢
  obtain ⟨sh,fr,sl,sps,hand,vsh,vfr,vsl,vsp⟩:=k
  obtain ⟨b1,b2,b3,b4,b5,b6,b7,b8,b9⟩:=k1
  obtain ⟨c1,c2,c3,c4,c5,c6,c7⟩:=hsf
  dsimp only at c1 c2 c3 c4 c5 c6 c7 hvsp hx hrowS
  subst c1 c2 c3 c4 c5 c6 c7
  subst hvsp
  rw [List.append_nil] at hS
  unfold wkS wkB hdA frA slA a2r at hS
  dsimp only at hS
  have hos:os=0:=by
   obtain ⟨gg,hgg⟩:=hS.rowSome 4 rfl (Nat.lt_of_le_of_lt (Nat.zero_le _) (j6 hx))
   injection hgg with hgg
   injection hgg
  subst hos
  replace hS:=hS.pullE 5 hx rfl
  simp only [List.take_succ_cons,List.take_zero,l4] at hS
  unfold a0n at hS
  rw [hve] at hS
  have hdel:=a8P (v:=.slice pe x.s.entries.length ce) (l:=x.s.entries) (p:=p) (k:=kf) (caps:=caps) hS (fun e he w' Γ' h=>hf e he w' _ (St.transM (Θ:=[enA (.slice pe x.s.entries.length ce) x.s.entries]) hS h))
  refine i9 (first:=[]) (caps:=[]) rfl rfl hdel rfl ?_
  clear hdel
  rintro _ w2 ⟨q,c,rfl,h2⟩
  replace hS:=St.transM (Θ:=[enA (.slice pe x.s.entries.length ce) x.s.entries]) hS h2
  clear h2
  unfold enA at hS
  dsimp only [List.cons_append,List.nil_append] at hS
  have e1:(b4.map spC).set sp (v6 [.bool x.s.live,x.va,.slice pe x.s.entries.length ce] 2 [.slice q (x.s.entries.filter fun e=>!p e).length c])=(b4.set sp ⟨⟨x.s.live,x.s.areas,x.s.entries.filter fun e=>!p e⟩,x.va,.slice q (x.s.entries.filter fun e=>!p e).length c⟩).map spC:=by rw [List.map_set];rfl
  repeat' (first|(((with_reducible apply d8 c8);exact rfl;exact rfl))|((with_reducible apply d9))|((with_reducible apply a0m hS c8 (i:=5));(iterate 4 exact rfl);assumption;(iterate 5 exact rfl);intro w' hS';simp only [List.set] at hS';clear hS;have hS:=hS';clear hS'))
  rw [e1] at hS
  (apply a10);(repeat ((exact ResL.nil)))
  refine ⟨rfl,.slice q (x.s.entries.filter fun e=>!p e).length c,?_⟩
  replace hS:=St.pushE (y:=⟨⟨x.s.live,x.s.areas,x.s.entries.filter fun e=>!p e⟩,x.va,.slice q (x.s.entries.filter fun e=>!p e).length c⟩) hS 5 hx rfl
  simp only [List.take_succ_cons,List.take_zero,l4] at hS
  unfold wkS wkB hdA frA slA a2r
  exact hS
end Go.Proofs.Ytejnpppejalhfac
/- kernel.Drop. -/
namespace Go.Proofs.Ytejnpppejalhfac
open Go.RowKit Go.Sort
def a3n (K:Ker) (space:Int):Ker:=if a0i K space=0 then a2k K space.toNat else a6J
theorem b3b (e:En) (w:World):Fn Try.prog 23 [.agg (enC e).toArray] w (RBf (.bool true) w):=by
 unfold enC
 refine j4 (fn:=Try.f23) ⟨Try.func23,by kernel_rfl,by kernel_rfl⟩ (by exact rfl) Try.ntmps23 (by exact rfl) ?_
 have hS:=St.start w
 repeat' (first|(first|((with_reducible apply d8 c8);exact rfl;exact rfl)|((with_reducible apply q7 hS);(iterate 3 exact rfl);intro g w' hS';clear hS;have hS:=hS';clear hS'))|(first|(with_reducible first|apply e6|apply c9|apply d9|apply d5|apply j8)))
 (apply k6);(repeat (first|exact ResL.nil|(apply ResL.tmp;exact rfl)))
 exact ⟨rfl,hS.sub (List.nil_sublist _)⟩
theorem a8n:∀ (l:List En) (k:KV),(l.foldl a1L k).fr.length=k.fr.length∧(l.foldl a1L k).sl.length=k.sl.length
 |[],_=>⟨rfl,rfl⟩
 |e::l,k=>by
  obtain ⟨h1,h2⟩:=a8n l (a1L k e)
  have h:=b4u k e
  exact ⟨h1.trans h.2.2.1,h2.trans h.2.2.2⟩
theorem b5F {k:KV} (hr:Right k.K) {sp:Nat} {x:Sp} (hx:k.sp[sp]?=some x) (p:En→Bool) (i:Nat) (e:En) (he:x.s.entries[i]?=some e):a6Z (a1U k p (x.s.entries.take i)) e:=by
 have h0:=a6c hr hx (List.mem_of_getElem? he)
 obtain ⟨-,hb⟩:=b0J p x.s.entries (D:=[]) hr (a02 hx) rfl
 have hbi:=hb i
 obtain ⟨l1,l2⟩:=a8n ((x.s.entries.take i).filter p) k
 have eK:=a9p ((x.s.entries.take i).filter p) k
 have e1:(a1U k p (x.s.entries.take i)).fr=(((x.s.entries.take i).filter p).foldl a0g k.K).frames:=congrArg Ker.frames eK
 have e2:(a1U k p (x.s.entries.take i)).sl=(((x.s.entries.take i).filter p).foldl a0g k.K).slots:=congrArg Ker.slots eK
 refine ⟨?_,by rw [e1];exact hbi.1,by rw [e2];exact hbi.2⟩
 have:=h0.names
 unfold a1U
 rw [l1,l2]
 exact this
theorem b3p {k:KV} {sp:Nat} {x:Sp} (hx:k.sp[sp]?=some x) (p:En→Bool) (ve:Value):y7 (fgV k sp x p ve)=y7 k:=by
 have h:=a2G (x.s.entries.filter p) k
 unfold y7 fgV a1U
 dsimp only
 rw [h.vsh,h.sh]
 have e:(k.sp.set sp ⟨⟨x.s.live,x.s.areas,x.s.entries.filter fun e=>!p e⟩,x.va,ve⟩).map a3r=k.sp.map a3r:=a4t hx rfl
 rw [e]
theorem b57 {k:KV} {sp:Nat} {x:Sp} (hx:k.sp[sp]?=some x) (p:En→Bool) (ve:Value):(fgV k sp x p ve).K=a4F k.K sp p:=by
 have h:=a2G (x.s.entries.filter p) k
 have e:=a9p (x.s.entries.filter p) k
 have hsp:=y0 (a02 hx)
 have he:l7 k.K sp=x.s.entries:=by unfold l7;rw [hsp]
 unfold fgV a4F fgK a1U
 rw [he,hsp,← e]
 generalize (x.s.entries.filter p).foldl a1L k=k1 at h ⊢
 obtain ⟨b1,b2,b3,b4,b5,b6,b7,b8,b9⟩:=k1
 obtain ⟨c1,c2,c3,c4,c5,c6,c7⟩:=h
 dsimp only at c1 c2 c3 c4 c5 c6 c7
 subst c1 c2 c3
 unfold KV.K
 dsimp only
 rw [List.map_set]
 rfl
theorem a8x {α:Type} {e a S:α} {X E E' F A A':List α} (hE:E.Perm (e::E')) (hA:A.Perm (a::A')):(X++(E++(S::(F++A)))).Perm (a::e::(X++(E'++(S::(F++A'))))):=by
 refine ((hE.append ((hA.append_left F).cons S)).append_left X).trans ?_
 have h1:(S::(F++a::A')).Perm (a::(S::(F++A'))):=(List.Perm.cons S List.perm_middle).trans (List.Perm.swap _ _ _)
 refine ((h1.append_left (e::E')).append_left X).trans ?_
 refine (List.perm_middle.append_left X).trans ?_
 refine List.perm_middle.trans (List.Perm.cons _ ?_)
 exact List.perm_middle
theorem a2H {α β:Type} (f:α→β):∀ {l:List α} {i:Nat} {x:α},l[i]?=some x→(l.map f).Perm (f x::(l.eraseIdx i).map f)
 |[],_,_,h=>by simp at h
 |a::l,0,x,h=>by
  have:a=x:=by simpa using h
  subst this
  exact List.Perm.refl _
 |a::l,i + 1,x,h=>((a2H f (l:=l) (i:=i) (by simpa using h)).cons _).trans (List.Perm.swap _ _ _)
set_option maxRecDepth 100000 in
set_option maxHeartbeats 8000000 in
theorem b4W {w:World} {k:KV} (hK:KerV w k) (space:Int):Fn Try.prog 8 [.agg (kvC k).toArray,.int .i64 space] w (fun v w'=>∃ k',v=.tuple #[.agg (kvC k').toArray,.int .i64 (a0i k.K space)]∧k'.K=a3n k.K space∧Came w w' k'):=by
 have hbeg:=fun w1 (h:KerV w1 k)=>a4H h space
 have hK0:=hK
 obtain ⟨sh,fr,sl,sps,hand,vsh,vfr,vsl,vsp⟩:=k
 obtain ⟨k1,k2,k3,k4,k5⟩:=hK
 dsimp only at k1 k2 k3 k4 k5
 obtain ⟨p1,c1,rfl⟩:=k1.sl.len
 obtain ⟨p2,c2,rfl⟩:=k2.len
 obtain ⟨p3,c3,rfl⟩:=k3.len
 obtain ⟨p4,c4,rfl⟩:=k4.len
 generalize hKK:KV.K ⟨sh,fr,sl,sps,hand,.slice p1 sh.length c1,.slice p2 fr.length c2,.slice p3 sl.length c3,.slice p4 sps.length c4⟩=K at hbeg ⊢
 have hpre:∀ w1 Γ1,St nF w w1 Γ1→KerV w1 ⟨sh,fr,sl,sps,hand,.slice p1 sh.length c1,.slice p2 fr.length c2,.slice p3 sl.length c3,.slice p4 sps.length c4⟩:=fun w1 Γ1 h=>hK0.now h
 unfold kvC at hbeg ⊢
 dsimp only at hbeg ⊢
 refine j4 (fn:=Try.f8) ⟨Try.func8,by kernel_rfl,by kernel_rfl⟩ (by exact rfl) Try.ntmps8 (by exact rfl) ?_
 have hS:=St.start w
 repeat' (first|(first|((with_reducible apply d8 c8);exact rfl;exact rfl)|((with_reducible apply e7);exact rfl;(((with_reducible apply Loads.st c8);exact rfl;((exact hS.blkR 1 rfl));exact rfl));exact rfl)|((with_reducible apply q7 hS);(iterate 3 exact rfl);intro g w' hS';clear hS;have hS:=hS';clear hS')|((with_reducible apply j7 hS c8);(iterate 3 exact rfl);intro g w' hS';clear hS;have hS:=hS';clear hS'))|(first|(with_reducible first|apply e6|apply c9|apply d9|apply d5)))
 rename_i g2 _
 refine i9 rfl rfl (hbeg _ (hpre _ _ hS)) rfl ?_
 clear hbeg
 rintro v w2 (⟨he,rfl,hS'⟩|⟨gw,sp,k',he,hsp,rfl,hk',hS'⟩)
 ·replace hS:=hS.transA hS'
  simp only [l4] at hS
  have hd:decide (a0i K space=0)=false:=decide_eq_false he
  repeat' (first|(first|((with_reducible apply d8 c8);exact rfl;exact rfl)|((with_reducible apply n9 c8);exact rfl;exact rfl;((exact (rfl:_=some [_,_,_,_,_])));exact rfl)|(((with_reducible apply j0 hS c8 (i:=0));(iterate 8 exact rfl);((exact (rfl:_=[_,_,_,_,_])));intro w' hS';simp only [List.set] at hS';clear hS;have hS:=hS';clear hS')))|(first|(with_reducible first|apply e6|apply c9|apply d9|apply d5|apply j8|apply e8))|(((with_reducible apply a1h);exact rfl;all_goals (intro hb hp;try (exfalso;omega)))))
  (apply t7);(repeat (first|exact ResL.nil|(apply ResL.tmp;exact rfl)|(apply ResL.cell;exact rfl;(((with_reducible apply Loads.st c8);exact rfl;((exact hS.blkR 0 rfl));exact rfl)))))
  exact ⟨kv0,rfl,by unfold a3n;rw [if_neg he];rfl,Or.inl ⟨rfl,hS.sub (List.nil_sublist _)⟩⟩
 have hKR:a3n K space=a2k K sp:=by unfold a3n;rw [if_pos he,hsp,Int.toNat_natCast]
 rw [hKR,he]
 obtain ⟨hr,sp2,hsp2,hspl,hlv⟩:=a2L he
 obtain rfl:sp=sp2:=by omega
 replace hS:=hS.trans hS'
 clear hS' hKR he hpre hK0 k1 k2 k3 k4 k5 hKK
 rw [List.append_assoc] at hS
 subst hk'
 obtain ⟨x,hx⟩:∃ x,k'.sp[sp]?=some x:=by
  have:k'.K.spaces.length=k'.sp.length:=List.length_map _
  exact m6 (by omega)
 have hfo:=b1W (p:=fun _=>true) (kf:=23) (caps:=[]) hS (KRo.own hS) hx (fun e _ w' _ _=>b3b e w') (fun i e he _=>b5F hr hx _ i e he)
 have hV0:=WkV.own hS
 repeat' (first|(((with_reducible apply d8 c8);exact rfl;exact rfl))|(first|(with_reducible first|apply e6|apply c9|apply d9|apply d5|apply j3))|(((with_reducible apply m5);exact rfl;(exact rfl))))
 refine i9 (first:=[]) (caps:=[]) rfl rfl hfo rfl ?_
 clear hfo
 rintro _ w3 ⟨rfl,ve,h2⟩
 replace hS:=St.transM hS h2
 clear h2
 have hsf:=a2G (x.s.entries.filter fun _=>true) k'
 have hrA:=b3p hx (fun _=>true) ve
 rw [← hrA] at hS
 have hx2:(fgV k' sp x (fun _=>true) ve).sp[sp]?=some ⟨⟨x.s.live,x.s.areas,x.s.entries.filter fun e=>!true⟩,x.va,ve⟩:=by
  show (k'.sp.set sp _)[sp]?=_
  rw [List.getElem?_set,if_pos rfl,if_pos (j6 hx)]
 have hdK:a2k k'.K sp={ (fgV k' sp x (fun _=>true) ve).K with spaces:=(fgV k' sp x (fun _=>true) ve).K.spaces.set sp sc0 }:=by
  rw [b57 hx]
  rfl
 rw [hdK]
 clear hdK hrA hsf
 generalize fgV k' sp x (fun _=>true) ve=kd at hS hx2 ⊢
 have hV:=WkV.own hS
 obtain ⟨bs,os,cs,hvsp⟩:=hV.ker.sp.form1 hx2
 obtain ⟨sh',fr',sl',sps',hand',vsh',vfr',vsl',vsp'⟩:=kd
 dsimp only at hvsp hx2
 subst hvsp
 obtain ⟨q1,d1,rfl⟩:∃ p c,vsh'=.slice p sh'.length c:=hV.ker.sh.sl.len
 obtain ⟨q2,d2,rfl⟩:∃ p c,vfr'=.slice p fr'.length c:=hV.ker.fr.len
 obtain ⟨q3,d3,rfl⟩:∃ p c,vsl'=.slice p sl'.length c:=hV.ker.sl.len
 have hspc:=a1b hV (j6 hx2)
 unfold a1k at hspc
 dsimp only at hspc
 rw [← List.append_assoc] at hS
 replace hS:=hS.perm List.perm_append_comm
 dsimp only [List.cons_append,List.nil_append] at hS
 have hrowS:=k8 (f:=spC) hx2
 unfold spC at hrowS
 repeat' (first|(first|((with_reducible apply d8 c8);exact rfl;exact rfl)|((with_reducible apply n9 c8);exact rfl;exact rfl;((exact (rfl:_=some [_,_,_])));exact rfl))|(first|(with_reducible first|apply e6|apply c9|apply d9|apply d5))|((with_reducible apply i9);exact rfl;exact rfl;exact hspc;exact rfl;rintro _ w' ⟨rfl,hS'⟩;replace hS:=hS.transA hS';simp only [l4] at hS;clear hS'))
 unfold wkS wkB hdA frA slA a2r at hS
 dsimp only [List.cons_append,List.nil_append] at hS
 have hos:os=0:=by
  obtain ⟨gg,hgg⟩:=hS.rowSome 6 rfl (Nat.lt_of_le_of_lt (Nat.zero_le _) (j6 hx2))
  injection hgg with hgg
  injection hgg
 subst hos
 dsimp only at hrowS
 have e1:(sps'.map spC).set sp (v6 [.bool x.s.live,x.va,ve] 0 [.bool false,.slice none 0 0,.slice none 0 0])=(sps'.set sp ⟨sc0,.slice none 0 0,.slice none 0 0⟩).map spC:=by rw [List.map_set];rfl
 repeat' (first|(((with_reducible apply d8 c8);exact rfl;exact rfl))|(first|(with_reducible first|apply e6|apply c9|apply d9|apply d5))|((with_reducible apply a0s hS c8 (i:=6));(iterate 4 exact rfl);assumption;(iterate 5 exact rfl);intro w' hS';simp only [List.set] at hS';clear hS;have hS:=hS';clear hS'))
 rw [e1] at hS
 repeat' (first|(first|((with_reducible apply d8 c8);exact rfl;exact rfl)|(((with_reducible apply j0 hS c8 (i:=0));(iterate 8 exact rfl);((exact (rfl:_=[_,_,_,_,_])));intro w' hS';simp only [List.set] at hS';clear hS;have hS:=hS';clear hS')))|(first|(with_reducible first|apply d9|apply d5|apply j8))|((with_reducible apply e7);exact rfl;((with_reducible apply Loads.st c8);exact rfl;exact (hS.blkRk 2 0 5 rfl);exact rfl);exact rfl))
 (apply t7);(repeat (first|exact ResL.nil|(apply ResL.tmp;exact rfl)|(apply ResL.cell;exact rfl;(((with_reducible apply Loads.st c8);exact rfl;((exact hS.blkR 0 rfl));exact rfl)))))
 refine ⟨⟨sh',fr',sl',sps'.set sp ⟨sc0,.slice none 0 0,.slice none 0 0⟩,hand',.slice q1 sh'.length d1,.slice q2 fr'.length d2,.slice q3 sl'.length d3,.slice (some ⟨bs,0,none⟩) sps'.length cs⟩,rfl,?_,Or.inr ?_⟩
 ·unfold KV.K
  dsimp only
  rw [List.map_set]
 ·have h1:=hS.sub (.cons _ (.cons _ (.cons _ (.cons _ (.refl _)))))
  have h2:=h1.perm (a8x (X:=[_,_,_]) (a2H a0n hx2) (a2H a3r hx2))
  have h3:=(h2.drop.drop.addNil 55 3).addNil 71 4
  have hz:(sps'.set sp ⟨sc0,.slice none 0 0,.slice none 0 0⟩)[sp]?=some ⟨sc0,.slice none 0 0,.slice none 0 0⟩:=by rw [List.getElem?_set,if_pos rfl,if_pos (j6 hx2)]
  have hE:=a2H a0n hz
  have hA:=a2H a3r hz
  rw [a1X] at hE hA
  exact h3.perm (a8x (X:=[_,_,_]) hE hA).symm
end Go.Proofs.Ytejnpppejalhfac
/- A forked space has what the other one has; dropping it leaves the others; all dropped, all is free. -/
namespace Go.Proofs.Ytejnpppejalhfac
open Go.RowKit Go.Sort
theorem a5T {K:Ker} (h:Right K) {i:Nat} (hi:i < K.spaces.length):a0i K (i:Nat)=if (s8 K i).live=true then 0 else 6:=by
 unfold a0i
 rw [if_pos (a1m.2 h),Int.toNat_natCast]
 by_cases hl:(s8 K i).live=true
 ·rw [if_pos hl,if_pos ⟨by omega,by omega,hl⟩]
 ·rw [if_neg hl,if_neg (fun hh=>hl hh.2.2)]
theorem a8d {K:Ker} (h:Right K) {i:Nat} (hi:i < K.spaces.length) (hl:(s8 K i).live=true) (p:Int):a1l K (i:Nat) p=if (v9 (l9 K i) p).isSome=true then 0 else 6:=by
 unfold a1l
 rw [a5T h hi,if_pos hl,if_pos rfl,Int.toNat_natCast]
theorem b0r {K K':Ker} (h:Right K) (h':Right K') {i i':Nat} (hi:i < K.spaces.length) (hi':i' < K'.spaces.length) (hl:(s8 K i).live=true) (hsc:(s8 K' i').live=(s8 K i).live) (har:l9 K' i'=l9 K i) (p:Int) (hp:t0 K' i' p=t0 K i p):a1l K' (i':Nat) p=a1l K (i:Nat) p∧a2W K' (i':Nat) p=a2W K (i:Nat) p:=by
 have e:a1l K' (i':Nat) p=a1l K (i:Nat) p:=by
  rw [a8d h hi hl,a8d h' hi' (by rw [hsc];exact hl),har]
 refine ⟨e,?_⟩
 unfold a2W
 rw [e,Int.toNat_natCast,Int.toNat_natCast,hp]
structure b4A (K:Ker) (space page:Int):Prop where
 right:Right K
 rightA:Right (a0Z K space)
 live:a0i (a0Z K space) space=0
 rightB:Right (a3n (a0Z K space) space)
 eA:a1l (a0Z K space) (a3l K space) page=a1l K space page
 dA:a2W (a0Z K space) (a3l K space) page=a2W K space page
 eB:a1l (a3n (a0Z K space) space) (a3l K space) page=a1l K space page
 dB:a2W (a3n (a0Z K space) space) (a3l K space) page=a2W K space page
 gone:a1l (a3n (a0Z K space) space) space page=6
theorem b2t {K:Ker} {space:Int} (h:a3O K space=0) (page:Int):b4A K space page:=by
 have hR:a0Z K space=a5Z K space.toNat:=by unfold a0Z;rw [if_pos h]
 have hN:a3l K space=(K.spaces.length:Nat):=by unfold a3l;rw [if_pos h]
 unfold a3O at h
 by_cases hl:a0i K space=0
 rotate_left
 ·rw [if_neg hl] at h;exact absurd h hl
 rw [if_pos hl] at h
 by_cases h4:K.spaces.length=4
 ·rw [if_pos h4] at h;cases h
 rw [if_neg h4] at h
 by_cases h5:(K.slots.length:Int) < s7 K.spaces + y6 (l9 K space.toNat)
 ·rw [if_pos h5] at h;cases h
 obtain ⟨hr,sp,rfl,hspl,hlv⟩:=a2L hl
 rw [Int.toNat_natCast] at h5 hR
 have hs:=List.getElem?_eq_getElem hspl
 have hse:=y0 hs
 have har:l9 K sp=K.spaces[sp].areas:=by unfold l9;rw [hse]
 have hf:=b4w hr hs h4 (by rw [har] at h5;omega)
 rw [← hR] at hf
 have hlenA:(a0Z K (sp:Nat)).spaces.length=K.spaces.length + 1:=by rw [hf.spaces,List.length_append,List.length_singleton]
 have hA1:s8 (a0Z K (sp:Nat)) sp=s8 K sp:=by
  unfold s8
  rw [hf.spaces,List.getElem?_append_left hspl]
 have hA2:s8 (a0Z K (sp:Nat)) K.spaces.length=s8 K sp:=by
  unfold s8
  rw [hf.spaces,List.getElem?_append_right (Nat.le_refl _),Nat.sub_self]
  rfl
 have hlA:a0i (a0Z K (sp:Nat)) (sp:Nat)=0:=by
  rw [a5T hf.right (by omega),if_pos (by rw [hA1];exact hlv)]
 obtain ⟨d1,d2,d3,-,-,d6,d7⟩:=b4h (sp:=sp) hf.right (by omega)
 have hD:a3n (a0Z K (sp:Nat)) (sp:Nat)=a2k (a0Z K (sp:Nat)) sp:=by unfold a3n;rw [if_pos hlA,Int.toNat_natCast]
 have hne:K.spaces.length≠sp:=by omega
 have hpA:=b0r hr hf.right hspl (i':=K.spaces.length) (by omega) hlv (by rw [hA2]) (by unfold l9;rw [hA2]) page (hf.new page)
 have hB2:s8 (a2k (a0Z K (sp:Nat)) sp) K.spaces.length=s8 K sp:=by rw [d2,if_neg hne,hA2]
 have hpB:=b0r hr d1 hspl (i':=K.spaces.length) (by omega) hlv (by rw [hB2]) (by unfold l9;rw [hB2]) page ((d7 _ page hne).trans (hf.new page))
 refine ⟨hr,hf.right,hlA,?_,?_,?_,?_,?_,?_⟩
 ·rw [hD];exact d1
 ·rw [hN];exact hpA.1
 ·rw [hN];exact hpA.2
 ·rw [hD,hN];exact hpB.1
 ·rw [hD,hN];exact hpB.2
 ·rw [hD]
  have e:a0i (a2k (a0Z K (sp:Nat)) sp) (sp:Nat)=6:=by
   rw [a5T d1 (by omega),d2,if_pos rfl]
   rfl
  unfold a1l
  rw [e,if_neg (by omega)]
end Go.Proofs.Ytejnpppejalhfac
/- foliantlaw.KernelApart. -/
namespace Go.Proofs.Ytejnpppejalhfac
open Go.RowKit Go.Sort
set_option maxRecDepth 100000 in
set_option maxHeartbeats 8000000 in
theorem a6i {w:World} {k:KV} (hK:KerV w k) (space page:Int):Fn Try.prog 3 [.agg (kvC k).toArray,.int .i64 space,.int .i64 page] w (RBf (.bool true) w):=by
 have hre:=fun w1 (h:KerV w1 k)=>b0i h space
 have hpk:=fun w1 (h:KerV w1 k)=>a4G h space page
 have hbg:=a57
 have hK0:=hK
 obtain ⟨sh,fr,sl,sps,hand,vsh,vfr,vsl,vsp⟩:=k
 obtain ⟨k1,k2,k3,k4,k5⟩:=hK
 dsimp only at k1 k2 k3 k4 k5
 obtain ⟨p1,c1,rfl⟩:=k1.sl.len
 obtain ⟨p2,c2,rfl⟩:=k2.len
 obtain ⟨p3,c3,rfl⟩:=k3.len
 obtain ⟨p4,c4,rfl⟩:=k4.len
 generalize hKK:KV.K ⟨sh,fr,sl,sps,hand,.slice p1 sh.length c1,.slice p2 fr.length c2,.slice p3 sl.length c3,.slice p4 sps.length c4⟩=K at hre hpk
 have hpre:∀ w1 Γ1,St nF w w1 Γ1→KerV w1 ⟨sh,fr,sl,sps,hand,.slice p1 sh.length c1,.slice p2 fr.length c2,.slice p3 sl.length c3,.slice p4 sps.length c4⟩:=fun w1 Γ1 h=>hK0.now h
 unfold kvC at hre hpk ⊢
 dsimp only at hre hpk ⊢
 refine j4 (fn:=Try.f3) ⟨Try.func3,by kernel_rfl,by kernel_rfl⟩ (by exact rfl) Try.ntmps3 (by exact rfl) ?_
 have hS:=St.start w
 repeat' (first|(first|((with_reducible apply d8 c8);exact rfl;exact rfl)|((with_reducible apply e7);exact rfl;(((with_reducible apply Loads.st c8);exact rfl;((exact hS.blkR 0 rfl));exact rfl));exact rfl)|((with_reducible apply q7 hS);(iterate 3 exact rfl);intro g w' hS';clear hS;have hS:=hS';clear hS'))|(first|(with_reducible first|apply e6|apply c9|apply d9|apply d5)))
 refine i9 rfl rfl (hre _ (hpre _ _ hS)) rfl ?_
 clear hre
 rintro v w2 ⟨ka,rfl,hka,hc⟩
 by_cases hok:a3O K space=0
 rotate_left
 ·have hV:=hc.V
  replace hS:=hS.transA hc.st
  simp only [l4] at hS
  clear hc hka
  obtain ⟨sh5,fr5,sl5,sps5,hand5,vsh5,vfr5,vsl5,vsp5⟩:=ka
  obtain ⟨hV1,hV2,hV3,hV4,hV5⟩:=hV
  dsimp only at hV1 hV2 hV3 hV4 hV5
  obtain ⟨x1,y1,rfl⟩:=hV1.sl.len
  obtain ⟨x2,y2,rfl⟩:=hV2.len
  obtain ⟨x3,y3,rfl⟩:=hV3.len
  obtain ⟨x4,y4,rfl⟩:=hV4.len
  clear hV1 hV2 hV3 hV4 hV5
  have hd:decide (a3O K space=0)=false:=decide_eq_false hok
  repeat' (first|(first|((with_reducible apply d8 c8);exact rfl;exact rfl)|((with_reducible apply j7 hS c8);(iterate 3 exact rfl);intro g w' hS';clear hS;have hS:=hS';clear hS')|(((with_reducible apply j0 hS c8 (i:=0));(iterate 8 exact rfl);((exact (rfl:_=[_,_,_,_,_])));intro w' hS';simp only [List.set] at hS';clear hS;have hS:=hS';clear hS')))|(first|(with_reducible first|apply e6|apply c9|apply d9|apply d5|apply j8|apply e8))|(((with_reducible apply a1h);exact rfl;all_goals (intro hb hp;try (exfalso;omega))))|((with_reducible apply i9);exact rfl;exact rfl;exact hbg _;exact rfl;rintro _ w' ⟨rfl,hS'⟩;replace hS:=hS.transA hS';simp only [l4] at hS;clear hS'))
  (apply k6);(repeat (first|exact ResL.nil|(apply ResL.tmp;exact rfl)))
  exact ⟨rfl,hS.sub (List.nil_sublist _)⟩
 have H:=b2t hok page
 rw [hok]
 have hra:Right ka.K:=by rw [hka];exact H.rightA
 have hO:=hc.own (n:=ka.K.frames.length - 1) (by have:=hra.cnt;omega)
 replace hS:=(hS.trans hO).perm List.perm_append_comm
 dsimp only [List.cons_append,List.nil_append] at hS
 have hV:KerV _ ka:=KerV.own (Γ:=[]) (by rw [List.append_nil];exact hO)
 clear hc hO
 have hpka:=fun w1 (h:KerV w1 ka)=>a4G h (a3l K space) page
 have hcka:=fun w1 (h:KerV w1 ka)=>a3a h
 have hdr:=fun w1 (h:KerV w1 ka)=>b4W h space
 rw [a1m.2 hra] at hcka
 rw [hka,H.eA,H.dA] at hpka
 rw [hka,H.live] at hdr
 unfold kvC at hpka hcka hdr
 obtain ⟨sh5,fr5,sl5,sps5,hand5,vsh5,vfr5,vsl5,vsp5⟩:=ka
 obtain ⟨hV1,hV2,hV3,hV4,hV5⟩:=hV
 dsimp only at hV1 hV2 hV3 hV4 hV5
 obtain ⟨x1,y1,rfl⟩:=hV1.sl.len
 obtain ⟨x2,y2,rfl⟩:=hV2.len
 obtain ⟨x3,y3,rfl⟩:=hV3.len
 obtain ⟨x4,y4,rfl⟩:=hV4.len
 clear hV1 hV2 hV3 hV4 hV5
 dsimp only at hpka hcka hdr
 repeat' (first|(first|((with_reducible apply d8 c8);exact rfl;exact rfl)|((with_reducible apply e7);exact rfl;(((with_reducible apply Loads.st c8);exact rfl;(first|exact hS.blkR 0 rfl|exact hS.blkR 1 rfl);exact rfl));exact rfl)|((with_reducible apply j7 hS c8);(iterate 3 exact rfl);intro g w' hS';clear hS;have hS:=hS';clear hS')|(((with_reducible apply j0 hS c8 (i:=0));(iterate 8 exact rfl);((exact (rfl:_=[_,_,_,_,_])));intro w' hS';simp only [List.set] at hS';clear hS;have hS:=hS';clear hS')))|(first|(with_reducible first|apply e6|apply c9|apply d9|apply d5|apply j3))|(((with_reducible apply m5);exact rfl;(exact rfl)))|((with_reducible apply i9);exact rfl;exact rfl;exact hpk _ (hpre _ _ hS);exact rfl;rintro _ w' ⟨rfl,hS'⟩;replace hS:=hS.transA hS';simp only [l4] at hS;clear hS')|((with_reducible apply i9);exact rfl;exact rfl;exact hpka _ (KerV.own (hS.perm (List.perm_append_comm (l₁:=[_,_]))));exact rfl;rintro _ w' ⟨rfl,hS'⟩;replace hS:=hS.transA hS';simp only [l4] at hS;clear hS'))
 refine i9 rfl rfl (hdr _ (KerV.own (hS.perm (List.perm_append_comm (l₁:=[_,_]))))) rfl ?_
 clear hdr
 rintro v w3 ⟨kb,rfl,hkb,hc⟩
 have hrb:Right kb.K:=by rw [hkb];exact H.rightB
 have hO:=hc.own (n:=kb.K.frames.length - 1) (by have:=hrb.cnt;omega)
 replace hS:=(hS.trans hO).perm List.perm_append_comm
 dsimp only [List.cons_append,List.nil_append] at hS
 have hV:KerV _ kb:=KerV.own (Γ:=[]) (by rw [List.append_nil];exact hO)
 clear hc hO
 have hpkb:=fun w1 (h:KerV w1 kb)=>a4G h (a3l K space) page
 have hpkc:=fun w1 (h:KerV w1 kb)=>a4G h space page
 have hckb:=fun w1 (h:KerV w1 kb)=>a3a h
 rw [a1m.2 hrb] at hckb
 rw [hkb,H.eB,H.dB] at hpkb
 rw [hkb,H.gone] at hpkc
 generalize a2W (a3n (a0Z K space) space) space page=PX at hpkc
 unfold kvC at hpkb hpkc hckb
 obtain ⟨sh6,fr6,sl6,sps6,hand6,vsh6,vfr6,vsl6,vsp6⟩:=kb
 obtain ⟨hV1,hV2,hV3,hV4,hV5⟩:=hV
 dsimp only at hV1 hV2 hV3 hV4 hV5
 obtain ⟨r1,z1,rfl⟩:=hV1.sl.len
 obtain ⟨r2,z2,rfl⟩:=hV2.len
 obtain ⟨r3,z3,rfl⟩:=hV3.len
 obtain ⟨r4,z4,rfl⟩:=hV4.len
 clear hV1 hV2 hV3 hV4 hV5
 dsimp only at hpkb hpkc hckb
 generalize a1l K space page=PE at hpk hpka hpkb
 generalize a2W K space page=PD at hpk hpka hpkb
 have hd1:decide (PE=PE)=true:=decide_eq_true rfl
 have hd2:decide (PD=PD)=true:=decide_eq_true rfl
 have hKA:∀ {w1:World} {a b c:Asr} {kx ky:KV},St nF w w1 (a::b::c::(a3L kx++a3L ky))→KerV w1 kx:=fun {w1 a b c kx ky} h=>KerV.own (Γ:=a3L ky++[a,b,c]) (h.perm ((List.perm_append_comm (l₁:=[a,b,c]) (l₂:=a3L kx++a3L ky)).trans (List.Perm.of_eq (List.append_assoc _ _ _))))
 have hKB:∀ {w1:World} {a b c:Asr} {kx ky:KV},St nF w w1 (a::b::c::(a3L kx++a3L ky))→KerV w1 ky:=fun {w1 a b c kx ky} h=>KerV.own (Γ:=[a,b,c]++a3L kx) (h.perm (List.perm_append_comm (l₁:=[a,b,c]++a3L kx) (l₂:=a3L ky)))
 repeat' (first|(first|((with_reducible apply d8 c8);exact rfl;exact rfl)|((with_reducible apply e7);exact rfl;(((with_reducible apply Loads.st c8);exact rfl;((exact hS.blkR 0 rfl));exact rfl));exact rfl)|((with_reducible apply j7 hS c8);(iterate 3 exact rfl);intro g w' hS';clear hS;have hS:=hS';clear hS')|(((with_reducible apply j0 hS c8 (i:=0));(iterate 8 exact rfl);((exact (rfl:_=[_,_,_,_,_])));intro w' hS';simp only [List.set] at hS';clear hS;have hS:=hS';clear hS')))|(first|(with_reducible first|apply e6|apply c9|apply d9|apply d5)))
 repeat' (first|(first|((with_reducible apply d8 c8);exact rfl;exact rfl)|((with_reducible apply e7);exact rfl;(((with_reducible apply Loads.st c8);exact rfl;(first|exact hS.blkR 0 rfl|exact hS.blkR 1 rfl);exact rfl));exact rfl)|(first|((with_reducible apply r5);(iterate 4 exact rfl);first|exact rfl|assumption)|((with_reducible apply n6);exact rfl;(first|exact rfl|assumption);exact rfl;exact rfl)))|(first|(with_reducible first|apply e6|apply c9|apply d9|apply d5|apply j8))|((with_reducible apply i9);exact rfl;exact rfl;exact hpkb _ (hKB hS);exact rfl;rintro _ w' ⟨rfl,hS'⟩;replace hS:=hS.transA hS';simp only [l4] at hS;clear hS')|((with_reducible apply i9);exact rfl;exact rfl;exact hpkc _ (hKB hS);exact rfl;rintro _ w' ⟨rfl,hS'⟩;replace hS:=hS.transA hS';simp only [l4] at hS;clear hS')|((with_reducible apply i9);exact rfl;exact rfl;exact hbg _;exact rfl;rintro _ w' ⟨rfl,hS'⟩;replace hS:=hS.transA hS';simp only [l4] at hS;clear hS')|((with_reducible apply i9);exact rfl;exact rfl;exact hcka _ (hKA hS);exact rfl;rintro _ w' ⟨rfl,hS'⟩;replace hS:=hS.transA hS';simp only [l4] at hS;clear hS')|((with_reducible apply i9);exact rfl;exact rfl;exact hckb _ (hKB hS);exact rfl;rintro _ w' ⟨rfl,hS'⟩;replace hS:=hS.transA hS';simp only [l4] at hS;clear hS'))
 (apply k6);(repeat (first|exact ResL.nil|(apply ResL.tmp;exact rfl)))
 exact ⟨rfl,hS.sub (List.nil_sublist _)⟩
end Go.Proofs.Ytejnpppejalhfac
/- Arguments that are slices, opened: what their elements' cells are. -/
namespace Go.Proofs.Ytejnpppejalhfac
open Go.ChangeShapes Go.WideShapes Go.ChangeAt Go.RowKit Go.Deep
def b0L {α:Type} (R:α→List Value→Prop) (xs:List α) (rows:List (List Value)):Prop:=rows.length=xs.length∧∀ (i:Nat) (x:α) (r:List Value),xs[i]?=some x→rows[i]?=some r→R x r
section
variable {H:Type} {enc:TypeId×Value→H} {P:Program} {w:World} {base:Nat} {spare:Nat→Bool} {held:Bool}
theorem b4t {α:Type} [Inhabited α] {t e:TypeId} {fuel sz:Nat} {cs:List Value} {y:DataW H×List MemPlace} (ht:P.underlying t=some (.slice e)) (hsz:P.cellsOf e=sz) (hpos:0 < sz) (R:α→List Value→Prop) (hR1:∀ x r,R x r→r.all (·.oneCell')=true)
  (hR:∀ (n:Nat) (cs':List Value) (z:DataW H×List MemPlace),cs'.length=sz→DataW.trod enc P w base spare held n e cs'=some z→∃ x:α,R x cs') (h:DataW.trod enc P w base spare held fuel t cs=some y) :
  ∃ v xs rows,cs=[v]∧Sl nF w sz v rows∧b0L R xs rows∧v.oneCell'=true:=by
 rcases open_slice ht h with ⟨rfl,_⟩|⟨a,len,cap,m,n,D,Pl,rfl,hb,hl,hm,hmm,_,hx⟩
 ·exact ⟨_,[],[],rfl,Or.inl ⟨_,_,rfl,rfl⟩,⟨rfl,fun i x r h=>by simp at h⟩,rfl⟩
 ·have hlm:len≤m:=by rw [hmm];split <;> omega
  rw [hsz] at hx
  have key:∀ i,∃ r x,i < len→w.cells? base (a.add (i * sz)) sz=some r∧R x r∧r.length=sz:=fun i=>by
   by_cases hi:i < len
   ·obtain ⟨cs',h1,h2⟩:=hx i (by omega)
    have hl:=(World.cells?_some h1).2.1
    obtain ⟨x,hr⟩:=hR n cs' _ hl h2
    exact ⟨cs',x,fun _=>⟨h1,hr,hl⟩⟩
   ·exact ⟨[],default,fun h=>(hi h).elim⟩
  obtain ⟨r,hr⟩:=Classical.axiomOfChoice key
  obtain ⟨x,hr⟩:=Classical.axiomOfChoice hr
  refine ⟨_,(List.range len).map x,(List.range len).map r,rfl,?_,⟨by simp,fun i y r' h1 h2=>?_⟩,rfl⟩
  ·by_cases h0:len=0
   ·subst h0;exact Or.inl ⟨_,_,rfl,rfl⟩
   ·obtain ⟨b,off,spot⟩:=a
    have hcell:∀ i,i < len→∀ j,j < sz→w.cell? (((⟨b,off,spot⟩:Addr).add (i * sz)).add j)=(r i)[j]?:=fun i hi j hj=>(World.cells?_some (hr i hi).1).2.2 j hj
    have h00:=hcell 0 (by omega) 0 hpos
    obtain ⟨u0,hu0⟩:∃ u,(r 0)[0]?=some u:=⟨(r 0)[0]'(by rw [(hr 0 (by omega)).2.2];exact hpos),by simp⟩
    rw [hu0] at h00
    simp only [Nat.zero_mul,Addr.add,if_true] at h00
    have hspot:spot=none:=by
     cases spot with
     |none=>rfl
     |some s=>simp [World.cell?] at h00;split at h00 <;> simp at h00
    subst hspot
    have hbl:=World.block_lt_of_cell? w _ h00
    refine Or.inr ⟨b,off,cap,by simp,by simpa using hl,hm,⟨hbl,id,fun r' hr'=>?_,fun r' hr'=>?_,fun k r' hk j u hj=>?_⟩⟩
    ·obtain ⟨i,hi,rfl⟩:=List.mem_map.1 hr'
     exact (hr i (by simpa using hi)).2.2
    ·obtain ⟨i,hi,rfl⟩:=List.mem_map.1 hr'
     exact hR1 _ _ (hr i (by simpa using hi)).2.1
    ·have hk':k < len:=by have:=j6 hk;simpa using this
     simp [hk'] at hk
     subst hk
     have hjl:j < sz:=by have:=j6 hj;rwa [(hr k hk').2.2] at this
     have:=hcell k hk' j hjl
     rw [hj] at this
     rwa [Addr.add_mid,Addr.add_mid] at this
  ·have hi:i < len:=by have:=j6 h1;simpa using this
   simp [hi] at h1 h2
   subst h1 h2
   exact (hr i hi).2.1
end
end Go.Proofs.Ytejnpppejalhfac
/- A slice of areas that came in. -/
namespace Go.Proofs.Ytejnpppejalhfac
open Go.ChangeShapes Go.WideShapes Go.ChangeAt Go.RowKit
section
variable {H:Type} {enc:TypeId×Value→H} {W:World} {base b0:Nat} {sp:Nat→Bool} {held:Bool}
theorem cI {n:Nat} {t:TypeId} {c:Value} {o:Option (DataW H×List MemPlace)} (ht:(Try.prog).underlying t=some (.int .i64)) (h:DataW.trod enc Try.prog W base sp held n t [c]=o) (ho:o.isSome=true):∃ k:Int,c=.int .i64 k∧(Lit.int .i64 k).wf=true:=by
 obtain ⟨x,hx⟩:=Option.isSome_iff_exists.1 ho
 obtain ⟨k,hk,_,hw⟩:=DataW.trod_int ht (h.trans hx)
 simp only [List.cons.injEq,and_true] at hk
 exact ⟨k,hk,hw⟩
theorem cB {n:Nat} {t:TypeId} {c:Value} {o:Option (DataW H×List MemPlace)} (ht:(Try.prog).underlying t=some .bool) (h:DataW.trod enc Try.prog W base sp held n t [c]=o) (ho:o.isSome=true):∃ b:Bool,c=.bool b:=by
 obtain ⟨x,hx⟩:=Option.isSome_iff_exists.1 ho
 obtain ⟨b,hb,_⟩:=DataW.trod_bool ht (h.trans hx)
 simp only [List.cons.injEq,and_true] at hb
 exact ⟨b,hb⟩
theorem cS {n:Nat} {t:TypeId} {c:Value} {o:Option (DataW H×List MemPlace)} (ht:(Try.prog).underlying t=some .string) (h:DataW.trod enc Try.prog W base sp held n t [c]=o) (ho:o.isSome=true):∃ l:List UInt8,c=.string ⟨l.toArray⟩∧l.length≤maxLen:=by
 obtain ⟨x,hx⟩:=Option.isSome_iff_exists.1 ho
 obtain ⟨s,hs,_,hl⟩:=DataW.trod_string ht (h.trans hx)
 simp only [List.cons.injEq,and_true] at hs
 obtain ⟨⟨l⟩⟩:=s
 exact ⟨l,hs,by simpa [ByteArray.size] using hl⟩
theorem gS {α:Type} {l:List α} {i:Nat} (h:i < l.length):(l[i]?).isSome=true:=by simp [h]
theorem a3W:(Try.prog).cellsOf 3=1:=by kernel_rfl
theorem a79:(Try.prog).cellsOf 4=1:=by kernel_rfl
theorem a3H:(Try.prog).cellsOf 9=1:=by kernel_rfl
theorem b32:(Try.prog).cellsOf 71=4:=by kernel_rfl
instance:Inhabited Ar:=⟨⟨0,0,0,false⟩⟩
set_option maxRecDepth 100000 in
theorem b1Y {n:Nat} {cs:List Value} {z:DataW H×List MemPlace} (hl:cs.length=4) (h:DataW.trod enc Try.prog W base sp held n 71 cs=some z):∃ a:Ar,cs=arC a:=by
 match cs,hl with
 |[c0,c1,c2,c3],_=>
  obtain ⟨xs,n,_,_,_,hl,hf⟩:=DataW.trod_struct Try.underlying71 h
  have f0:=hf 0 _ rfl
  have f1:=hf 1 _ rfl
  have f2:=hf 2 _ rfl
  have f3:=hf 3 _ rfl
  simp only [List.getElem_toArray,List.getElem_cons_zero,List.getElem_cons_succ,a3W,a79,List.drop_succ_cons,List.drop_zero,List.take_succ_cons,List.take_zero] at f0 f1 f2 f3
  have hl:xs.length=4:=hl
  obtain ⟨k0,rfl,_⟩:=cI Try.underlying3 f0 (gS (by omega))
  obtain ⟨k1,rfl,_⟩:=cI Try.underlying3 f1 (gS (by omega))
  obtain ⟨k2,rfl,_⟩:=cI Try.underlying3 f2 (gS (by omega))
  obtain ⟨k3,rfl⟩:=cB Try.underlying4 f3 (gS (by omega))
  exact ⟨⟨k0,k1,k2,k3⟩,rfl⟩
end
end Go.Proofs.Ytejnpppejalhfac
/- What was linked, and a sheet, that came in. -/
namespace Go.Proofs.Ytejnpppejalhfac
open Go.ChangeShapes Go.WideShapes Go.ChangeAt Go.RowKit
section
variable {H:Type} {enc:TypeId×Value→H} {W:World} {base b0:Nat} {sp:Nat→Bool} {held:Bool}
instance:Inhabited Fx:=⟨⟨0,[]⟩⟩
instance:Inhabited Sh:=⟨⟨0,[],[]⟩⟩
theorem b5z:(Try.prog).cellsOf 100=2:=by kernel_rfl
theorem b2s:(Try.prog).cellsOf 97=3:=by kernel_rfl
theorem b17:(Try.prog).cellsOf 95=1:=by kernel_rfl
theorem b18:(Try.prog).cellsOf 38=1:=by kernel_rfl
theorem b0Y:(Try.prog).cellsOf 22=1:=by kernel_rfl
theorem a85 {α:Type} {f:α→List Value} {G:α→Prop} {xs:List α} {rows:List (List Value)} (h:b0L (fun a r=>r=f a∧G a) xs rows):rows=xs.map f∧∀ x ∈ xs,G x:=by
 obtain ⟨h1,h2⟩:=h
 refine ⟨?_,fun x hx=>?_⟩
 ·apply List.ext_getElem?
  intro i
  rw [List.getElem?_map]
  by_cases hi:i < xs.length
  ·rw [List.getElem?_eq_getElem hi,List.getElem?_eq_getElem (by omega)]
   simp only [Option.map_some,Option.some.injEq]
   exact (h2 i _ _ (List.getElem?_eq_getElem hi) (List.getElem?_eq_getElem (by omega))).1
  ·rw [List.getElem?_eq_none (by omega),List.getElem?_eq_none (by omega)];rfl
 ·obtain ⟨i,hi⟩:=List.mem_iff_getElem?.1 hx
  have hl:=j6 hi
  exact (h2 i x _ hi (List.getElem?_eq_getElem (by rw [h1];exact hl))).2
theorem cc1 {c v:Value} (h:[c]=[v]):c=v:=by simpa using h
set_option maxRecDepth 100000 in
theorem b2v {n:Nat} {cs:List Value} {z:DataW H×List MemPlace} (hl:cs.length=2) (h:DataW.trod enc Try.prog W base sp held n 100 cs=some z):∃ f:Fx,cs=fxC f:=by
 match cs,hl with
 |[c0,c1],_=>
  obtain ⟨xs,n,_,_,_,hl,hf⟩:=DataW.trod_struct Try.underlying100 h
  have f0:=hf 0 _ rfl
  have f1:=hf 1 _ rfl
  simp only [List.getElem_toArray,List.getElem_cons_zero,List.getElem_cons_succ,a3W,a3H,List.drop_succ_cons,List.drop_zero,List.take_succ_cons,List.take_zero] at f0 f1
  have hl:xs.length=2:=hl
  obtain ⟨k0,rfl,_⟩:=cI Try.underlying3 f0 (gS (by omega))
  obtain ⟨l1,rfl,_⟩:=cS Try.underlying9 f1 (gS (by omega))
  exact ⟨⟨k0,l1⟩,rfl⟩
theorem a1Z {α:Type} [Inhabited α] {n:Nat} {t e sz:Nat} {c:Value} {o:Option (DataW H×List MemPlace)} (ht:(Try.prog).underlying t=some (.slice e)) (hsz:(Try.prog).cellsOf e=sz) (hpos:0 < sz) (f:α→List Value) (G:α→Prop) (h1:∀ x,(f x).all (·.oneCell')=true∨¬ G x)
  (hR:∀ (n:Nat) (cs':List Value) (z:DataW H×List MemPlace),cs'.length=sz→DataW.trod enc Try.prog W base sp held n e cs'=some z→∃ x:α,cs'=f x∧G x) (h:DataW.trod enc Try.prog W base sp held n t [c]=o) (ho:o.isSome=true):∃ xs:List α,Sl nF W sz c (xs.map f)∧(∀ x ∈ xs,G x)∧c.oneCell'=true:=by
 obtain ⟨x,hx⟩:=Option.isSome_iff_exists.1 ho
 obtain ⟨v,xs,rows,hv,hsl,hra,hone⟩:=b4t ht hsz hpos (fun (a:α) r=>r=f a∧G a) (fun x r h=>by
  obtain ⟨rfl,hg⟩:=h
  rcases h1 x with h|h
  ·exact h
  ·exact absurd hg h) (fun n cs' z hl hz=>hR n cs' z hl hz) (h.trans hx)
 obtain rfl:=cc1 hv
 obtain ⟨rfl,hg⟩:=a85 hra
 exact ⟨xs,hsl,hg,hone⟩
set_option maxRecDepth 100000 in
theorem a83 {n:Nat} {cs:List Value} {z:DataW H×List MemPlace} (hl:cs.length=3) (h:DataW.trod enc Try.prog W base sp held n 97 cs=some z):∃ x:Sh×Value,cs=shC x.1 x.2∧ShV W x.1 x.2∧x.2.oneCell'=true:=by
 match cs,hl with
 |[c0,c1,c2],_=>
  obtain ⟨xs,n,_,_,_,hl,hf⟩:=DataW.trod_struct Try.underlying97 h
  have f0:=hf 0 _ rfl
  have f1:=hf 1 _ rfl
  have f2:=hf 2 _ rfl
  simp only [List.getElem_toArray,List.getElem_cons_zero,List.getElem_cons_succ,a3W,a3H,b17,List.drop_succ_cons,List.drop_zero,List.take_succ_cons,List.take_zero] at f0 f1 f2
  have hl:xs.length=3:=hl
  obtain ⟨k0,rfl,_⟩:=cI Try.underlying3 f0 (gS (by omega))
  obtain ⟨l1,rfl,_⟩:=cS Try.underlying9 f1 (gS (by omega))
  obtain ⟨fs,h2,_,h3⟩:=a1Z Try.underlying95 b5z (by decide) fxC (fun _=>True) (fun x=>Or.inl rfl) (fun _ _ _ hl hz=>by obtain ⟨f,hf⟩:=b2v hl hz;exact ⟨f,hf,trivial⟩) f2 (gS (by omega))
  exact ⟨(⟨k0,l1,fs⟩,c2),rfl,h2,h3⟩
end
end Go.Proofs.Ytejnpppejalhfac
/- A kernel that came in. -/
namespace Go.Proofs.Ytejnpppejalhfac
open Go.ChangeShapes Go.WideShapes Go.ChangeAt Go.RowKit
section
variable {H:Type} {enc:TypeId×Value→H} {W:World} {base b0:Nat} {sp:Nat→Bool} {held:Bool}
instance:Inhabited Fm:=⟨fm0⟩
instance:Inhabited Sw:=⟨sw0⟩
instance:Inhabited En:=⟨⟨0,0,0⟩⟩
instance:Inhabited Sp:=⟨⟨⟨false,[],[]⟩,.bool false,.bool false⟩⟩
theorem b3m:(Try.prog).cellsOf 43=4:=by kernel_rfl
theorem b4i:(Try.prog).cellsOf 45=2:=by kernel_rfl
theorem b3r:(Try.prog).cellsOf 41=3:=by kernel_rfl
theorem b2O:(Try.prog).cellsOf 55=3:=by kernel_rfl
theorem b1Z:(Try.prog).cellsOf 27=5:=by kernel_rfl
theorem b1w:(Try.prog).cellsOf 23=1:=by kernel_rfl
theorem b23:(Try.prog).cellsOf 24=1:=by kernel_rfl
theorem b1h:(Try.prog).cellsOf 25=1:=by kernel_rfl
theorem a9A:(Try.prog).cellsOf 39=1:=by kernel_rfl
set_option maxRecDepth 100000 in
theorem a9E {n:Nat} {cs:List Value} {z:DataW H×List MemPlace} (hl:cs.length=3) (h:DataW.trod enc Try.prog W base sp held n 55 cs=some z):∃ e:En,cs=enC e:=by
 match cs,hl with
 |[c0,c1,c2],_=>
  obtain ⟨xs,n,_,_,_,hl,hf⟩:=DataW.trod_struct Try.underlying55 h
  have f0:=hf 0 _ rfl
  have f1:=hf 1 _ rfl
  have f2:=hf 2 _ rfl
  simp only [List.getElem_toArray,List.getElem_cons_zero,List.getElem_cons_succ,a3W,List.drop_succ_cons,List.drop_zero,List.take_succ_cons,List.take_zero] at f0 f1 f2
  have hl:xs.length=3:=hl
  obtain ⟨k0,rfl,_⟩:=cI Try.underlying3 f0 (gS (by omega))
  obtain ⟨k1,rfl,_⟩:=cI Try.underlying3 f1 (gS (by omega))
  obtain ⟨k2,rfl,_⟩:=cI Try.underlying3 f2 (gS (by omega))
  exact ⟨⟨k0,k1,k2⟩,rfl⟩
set_option maxRecDepth 100000 in
theorem a9x {n:Nat} {cs:List Value} {z:DataW H×List MemPlace} (hl:cs.length=4) (h:DataW.trod enc Try.prog W base sp held n 43 cs=some z):∃ f:Fm,cs=fmC f:=by
 match cs,hl with
 |[c0,c1,c2,c3],_=>
  obtain ⟨xs,n,_,_,_,hl,hf⟩:=DataW.trod_struct Try.underlying43 h
  have f0:=hf 0 _ rfl
  have f1:=hf 1 _ rfl
  have f2:=hf 2 _ rfl
  have f3:=hf 3 _ rfl
  simp only [List.getElem_toArray,List.getElem_cons_zero,List.getElem_cons_succ,a3W,a3H,a79,List.drop_succ_cons,List.drop_zero,List.take_succ_cons,List.take_zero] at f0 f1 f2 f3
  have hl:xs.length=4:=hl
  obtain ⟨l0,rfl,_⟩:=cS Try.underlying9 f0 (gS (by omega))
  obtain ⟨k1,rfl,_⟩:=cI Try.underlying3 f1 (gS (by omega))
  obtain ⟨b2,rfl⟩:=cB Try.underlying4 f2 (gS (by omega))
  obtain ⟨b3,rfl⟩:=cB Try.underlying4 f3 (gS (by omega))
  exact ⟨⟨l0,k1,b2,b3⟩,rfl⟩
set_option maxRecDepth 100000 in
theorem b0W {n:Nat} {cs:List Value} {z:DataW H×List MemPlace} (hl:cs.length=2) (h:DataW.trod enc Try.prog W base sp held n 45 cs=some z):∃ s:Sw,cs=swC s:=by
 match cs,hl with
 |[c0,c1],_=>
  obtain ⟨xs,n,_,_,_,hl,hf⟩:=DataW.trod_struct Try.underlying45 h
  have f0:=hf 0 _ rfl
  have f1:=hf 1 _ rfl
  simp only [List.getElem_toArray,List.getElem_cons_zero,List.getElem_cons_succ,a3W,a3H,List.drop_succ_cons,List.drop_zero,List.take_succ_cons,List.take_zero] at f0 f1
  have hl:xs.length=2:=hl
  obtain ⟨l0,rfl,_⟩:=cS Try.underlying9 f0 (gS (by omega))
  obtain ⟨k1,rfl,_⟩:=cI Try.underlying3 f1 (gS (by omega))
  exact ⟨⟨l0,k1⟩,rfl⟩
set_option maxRecDepth 100000 in
theorem a9f {n:Nat} {cs:List Value} {z:DataW H×List MemPlace} (hl:cs.length=3) (h:DataW.trod enc Try.prog W base sp held n 41 cs=some z):∃ x:Sp,cs=spC x∧SpV W x∧x.va.oneCell'=true∧x.ve.oneCell'=true:=by
 match cs,hl with
 |[c0,c1,c2],_=>
  obtain ⟨xs,n,_,_,_,hl,hf⟩:=DataW.trod_struct Try.underlying41 h
  have f0:=hf 0 _ rfl
  have f1:=hf 1 _ rfl
  have f2:=hf 2 _ rfl
  simp only [List.getElem_toArray,List.getElem_cons_zero,List.getElem_cons_succ,a79,b18,a9A,List.drop_succ_cons,List.drop_zero,List.take_succ_cons,List.take_zero] at f0 f1 f2
  have hl:xs.length=3:=hl
  obtain ⟨b0,rfl⟩:=cB Try.underlying4 f0 (gS (by omega))
  obtain ⟨A,h1,_,o1⟩:=a1Z Try.underlying38 b32 (by decide) arC (fun _=>True) (fun x=>Or.inl rfl) (fun _ _ _ hl hz=>by obtain ⟨f,hf⟩:=b1Y hl hz;exact ⟨f,hf,trivial⟩) f1 (gS (by omega))
  obtain ⟨E,h2,_,o2⟩:=a1Z Try.underlying39 b2O (by decide) enC (fun _=>True) (fun x=>Or.inl rfl) (fun _ _ _ hl hz=>by obtain ⟨f,hf⟩:=a9E hl hz;exact ⟨f,hf,trivial⟩) f2 (gS (by omega))
  exact ⟨⟨⟨b0,A,E⟩,c1,c2⟩,rfl,⟨h1,h2⟩,o1,o2⟩
set_option maxRecDepth 100000 in
theorem a7X {n:Nat} {cs:List Value} {z:DataW H×List MemPlace} (hl:cs.length=5) (h:DataW.trod enc Try.prog W base sp held n 27 cs=some z):∃ k:KV,cs=kvC k∧KerV W k:=by
 match cs,hl with
 |[c0,c1,c2,c3,c4],_=>
  obtain ⟨xs,n,_,_,_,hl,hf⟩:=DataW.trod_struct Try.underlying27 h
  have f0:=hf 0 _ rfl
  have f1:=hf 1 _ rfl
  have f2:=hf 2 _ rfl
  have f3:=hf 3 _ rfl
  have f4:=hf 4 _ rfl
  simp only [List.getElem_toArray,List.getElem_cons_zero,List.getElem_cons_succ,a3W,b0Y,b1w,b23,b1h,List.drop_succ_cons,List.drop_zero,List.take_succ_cons,List.take_zero] at f0 f1 f2 f3 f4
  have hl:xs.length=5:=hl
  obtain ⟨Lp,h3,h4,_⟩:=a1Z (α:=Sh×Value) Try.underlying22 b2s (by decide) (fun x=>shC x.1 x.2) (fun x=>ShV W x.1 x.2∧x.2.oneCell'=true) (fun x=>by
   by_cases hx:x.2.oneCell'=true
   ·left
    unfold shC
    simp only [List.all_cons,List.all_nil,Bool.and_true,hx]
    rfl
   ·exact Or.inr fun h=>hx h.2) (fun _ _ _ hl hz=>by obtain ⟨x,hx,h2,h3⟩:=a83 hl hz;exact ⟨x,hx,h2,h3⟩) f0 (gS (by omega))
  obtain ⟨F,h5,_,_⟩:=a1Z Try.underlying23 b3m (by decide) fmC (fun _=>True) (fun x=>Or.inl rfl) (fun _ _ _ hl hz=>by obtain ⟨f,hf⟩:=a9x hl hz;exact ⟨f,hf,trivial⟩) f1 (gS (by omega))
  obtain ⟨S,h6,_,_⟩:=a1Z Try.underlying24 b4i (by decide) swC (fun _=>True) (fun x=>Or.inl rfl) (fun _ _ _ hl hz=>by obtain ⟨f,hf⟩:=b0W hl hz;exact ⟨f,hf,trivial⟩) f2 (gS (by omega))
  obtain ⟨X,h7,h8,_⟩:=a1Z (α:=Sp) Try.underlying25 b3r (by decide) spC (fun x=>SpV W x∧x.va.oneCell'=true∧x.ve.oneCell'=true) (fun x=>by
   by_cases hx:x.va.oneCell'=true∧x.ve.oneCell'=true
   ·left
    unfold spC
    simp only [List.all_cons,List.all_nil,Bool.and_true,hx.1,hx.2]
    rfl
   ·exact Or.inr fun h=>hx h.2) (fun _ _ _ hl hz=>by obtain ⟨x,hx,h2,h3⟩:=a9f hl hz;exact ⟨x,hx,h2,h3⟩) f3 (gS (by omega))
  obtain ⟨k4,rfl,_⟩:=cI Try.underlying3 f4 (gS (by omega))
  exact ⟨⟨Lp,F,S,X,k4,c0,c1,c2,c3⟩,rfl,⟨⟨h3,fun p hp=>(h4 p hp).1⟩,h5,h6,h7,fun p hp=>(h8 p hp).1⟩⟩
set_option maxRecDepth 100000 in
theorem a89 {v:Value} {d:DataW H} {ps:List MemPlace} (hval:Value.okWide Try.prog W .any b0 27 v) (h:DataW.Trod enc Try.prog W base sp held 27 v d ps):∃ k:KV,v=.agg (kvC k).toArray∧KerV W k:=by
 obtain ⟨cs,rfl,hsz⟩:=okWide_struct Try.underlying27 hval
 obtain ⟨fuel,hf⟩:=h
 have hc:(Value.agg cs).cells=cs:=rfl
 rw [hc] at hf
 have hlen:cs.toList.length=5:=by rw [Array.length_toList,hsz,b1Z]
 obtain ⟨k,h1,h2⟩:=a7X hlen hf
 exact ⟨k,by rw [← h1,Array.toArray_toList],h2⟩
end
end Go.Proofs.Ytejnpppejalhfac
