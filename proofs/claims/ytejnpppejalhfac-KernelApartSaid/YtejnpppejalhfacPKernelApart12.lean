/- Texts that the proof stands on, one behind the other: Ke33, Lk13, Ke34, Ke35, PlRun10, PlRun11, PlRun12, PlRun13, PlRun14, Ke36, Ke37, PlRun15, LawApart, Op1. -/
import Derived.Deep.Slices
import Derived.OpenShut
import Derived.WideShapes
import Derived.ProofKit
import Derived.Test.YtejnpppejalhfacPKernelApart11
/- kernel.Fork. -/
namespace Go.Proofs.Ytejnpppejalhfac
open Go.RowKit Go.Sort
def incFm (f:Fm):Fm:=⟨f.data,f.refs + 1,f.dirty,f.seen⟩
def incSw (s:Sw):Sw:=⟨s.data,s.refs + 1⟩
def incK (K:Ker) (e:En):Ker:=if e.kind=1 then ⟨K.sheets,K.frames.set e.at_.toNat (incFm (fmAt K.frames e.at_.toNat)),K.slots,K.spaces,K.hand⟩ else ⟨K.sheets,K.frames,K.slots.set e.at_.toNat (incSw (swAt K.slots e.at_.toNat)),K.spaces,K.hand⟩
def incV (k:KV) (e:En):KV:=if e.kind=1 then ⟨k.sh,k.fr.set e.at_.toNat (incFm (fmAt k.fr e.at_.toNat)),k.sl,k.sp,k.hand,k.vsh,k.vfr,k.vsl,k.vsp⟩ else ⟨k.sh,k.fr,k.sl.set e.at_.toNat (incSw (swAt k.sl e.at_.toNat)),k.sp,k.hand,k.vsh,k.vfr,k.vsl,k.vsp⟩
theorem room_nn:∀ {l:List Sc},(∀ s ∈ l,0≤sumN s.areas)→0≤roomI l
 |[],_=>Int.le_refl 0
 |s::l,h=>by
  have h1:=h s List.mem_cons_self
  have h2:=room_nn (l:=l) fun x hx=>h x (List.mem_cons_of_mem _ hx)
  have e:roomI (s::l)=sumN s.areas + roomI l:=by unfold roomI;simp
  omega
theorem incV_K (k:KV) (e:En):(incV k e).K=incK k.K e:=by
 unfold incV incK
 split <;> rfl
def forkK (K:Ker) (sp:Nat):Ker :=
 let K1:=(entsOf K sp).foldl incK K
 ⟨K1.sheets,K1.frames,K1.slots,K1.spaces++[scAt K sp],K1.hand⟩
def forkE (K:Ker) (space:Int):Int:=if liveE K space=0 then (if K.spaces.length=4 then 2 else if (K.slots.length:Int) < roomI K.spaces + sumN (areasOf K space.toNat) then 8 else 0) else liveE K space
def forkR (K:Ker) (space:Int):Ker:=if forkE K space=0 then forkK K space.toNat else ker0
def forkN (K:Ker) (space:Int):Int:=if forkE K space=0 then (K.spaces.length:Nat) else 0
theorem incFold_K (l:List En):∀ (k:KV),(l.foldl incV k).K=l.foldl incK k.K:=by
 induction l with
 |nil=>intro k;rfl
 |cons e l ih=>intro k;rw [List.foldl_cons,ih,incV_K];rfl
structure IncSame (k k':KV):Prop where
 sh:k'.sh=k.sh
 sp:k'.sp=k.sp
 hand:k'.hand=k.hand
 vsh:k'.vsh=k.vsh
 vfr:k'.vfr=k.vfr
 vsl:k'.vsl=k.vsl
 vsp:k'.vsp=k.vsp
 nfr:k'.fr.length=k.fr.length
 nsl:k'.sl.length=k.sl.length
theorem incV_same (k:KV) (e:En):IncSame k (incV k e):=by
 unfold incV
 split
 ·exact ⟨rfl,rfl,rfl,rfl,rfl,rfl,rfl,List.length_set,rfl⟩
 ·exact ⟨rfl,rfl,rfl,rfl,rfl,rfl,rfl,rfl,List.length_set⟩
theorem IncSame.trans {a b c:KV} (h:IncSame a b) (h2:IncSame b c):IncSame a c:=⟨h2.sh.trans h.sh,h2.sp.trans h.sp,h2.hand.trans h.hand,h2.vsh.trans h.vsh,h2.vfr.trans h.vfr,h2.vsl.trans h.vsl,h2.vsp.trans h.vsp,h2.nfr.trans h.nfr,h2.nsl.trans h.nsl⟩
def RefsB (k:KV) (b:Int):Prop:=(∀ f ∈ k.fr,0≤f.refs∧f.refs≤b)∧∀ f ∈ k.sl,0≤f.refs∧f.refs≤b
theorem RefsB.mono {k:KV} {b c:Int} (h:RefsB k b) (hbc:b≤c):RefsB k c:=⟨fun f hf=>by have:=h.1 f hf;omega,fun f hf=>by have:=h.2 f hf;omega⟩
theorem RefsB.inc {k:KV} {b:Int} (h:RefsB k b) (e:En) (hb:0≤b):RefsB (incV k e) (b + 1):=by
 have hf0:∀ i,0≤(fmAt k.fr i).refs∧(fmAt k.fr i).refs≤b:=fun i=>by
  cases hi:k.fr[i]? with
  |none=>
   have:fmAt k.fr i=fm0:=by unfold fmAt;rw [hi];rfl
   rw [this];exact ⟨Int.le_refl 0,hb⟩
  |some f=>rw [fmAt_eq hi];exact h.1 f (List.mem_of_getElem? hi)
 have hs0:∀ i,0≤(swAt k.sl i).refs∧(swAt k.sl i).refs≤b:=fun i=>by
  cases hi:k.sl[i]? with
  |none=>
   have:swAt k.sl i=sw0:=by unfold swAt;rw [hi];rfl
   rw [this];exact ⟨Int.le_refl 0,hb⟩
  |some f=>rw [swAt_eq hi];exact h.2 f (List.mem_of_getElem? hi)
 unfold incV
 split
 ·refine ⟨fun f hf=>?_,fun f hf=>by have:=h.2 f hf;omega⟩
  rcases List.mem_or_eq_of_mem_set hf with h1|h1
  ·have:=h.1 f h1;omega
  ·subst h1
   have:=hf0 e.at_.toNat
   show 0≤(fmAt k.fr e.at_.toNat).refs + 1∧(fmAt k.fr e.at_.toNat).refs + 1≤b + 1
   omega
 ·refine ⟨fun f hf=>by have:=h.1 f hf;omega,fun f hf=>?_⟩
  rcases List.mem_or_eq_of_mem_set hf with h1|h1
  ·have:=h.2 f h1;omega
  ·subst h1
   have:=hs0 e.at_.toNat
   show 0≤(swAt k.sl e.at_.toNat).refs + 1∧(swAt k.sl e.at_.toNat).refs + 1≤b + 1
   omega
theorem incFold_ok {k:KV} {b:Int} (h:RefsB k b) (hb:0≤b):∀ (l:List En),IncSame k (l.foldl incV k)∧RefsB (l.foldl incV k) (b + l.length):=by
 intro l
 induction l generalizing k b with
 |nil=>exact ⟨⟨rfl,rfl,rfl,rfl,rfl,rfl,rfl,rfl,rfl⟩,by rw [List.foldl_nil,List.length_nil];exact h.mono (by omega)⟩
 |cons e l ih=>
  rw [List.foldl_cons]
  obtain ⟨h1,h2⟩:=ih (h.inc e hb) (by omega)
  exact ⟨(incV_same k e).trans h1,h2.mono (by rw [List.length_cons];omega)⟩
theorem incFold_take {l:List En} {i:Nat} {e:En} (h:l[i]?=some e) (k:KV):(l.take (i + 1)).foldl incV k=incV ((l.take i).foldl incV k) e:=by
 rw [List.take_add_one,h,Option.toList_some,List.foldl_append,List.foldl_cons,List.foldl_nil]
theorem incV_1 {k:KV} {e:En} (h:e.kind=1):(incV k e).fr=k.fr.set e.at_.toNat (incFm (fmAt k.fr e.at_.toNat))∧(incV k e).sl=k.sl:=by
 unfold incV;rw [if_pos h];exact ⟨rfl,rfl⟩
theorem incV_2 {k:KV} {e:En} (h:e.kind≠1):(incV k e).sl=k.sl.set e.at_.toNat (incSw (swAt k.sl e.at_.toNat))∧(incV k e).fr=k.fr:=by
 unfold incV;rw [if_neg h];exact ⟨rfl,rfl⟩
theorem forkPerm2 {α:Type} {ar en fr sl sp S:α} {E X A:List α}:(ar::en::fr::sl::sp::(E++(S::(X++A)))).Perm (fr::sl::sp::((E++[en])++(S::(X++(A++[ar]))))):=by
 refine (List.perm_append_comm_assoc [ar,en] [fr,sl,sp] (E++(S::(X++A)))).trans ?_
 refine List.Perm.append_left [fr,sl,sp] ?_
 show (ar::(en::(E++(S::(X++A))))).Perm _
 refine (List.perm_append_singleton _ _).symm.trans ?_
 have e1:(en::(E++(S::(X++A))))++[ar]=en::(E++(S::(X++(A++[ar])))):=by simp
 have e2:(E++[en])++(S::(X++(A++[ar])))=E++en::(S::(X++(A++[ar]))):=by simp
 rw [e1]
 exact List.perm_middle.symm.trans (List.Perm.of_eq e2.symm)
theorem spA_sub:∀ {l:List Sp} {i:Nat} {p:Sp},l[i]?=some p→[arAp p,enAp p].Sublist (spA l)
 |[],_,_,h=>by simp at h
 |q::l,0,p,h=>by
  have:q=p:=by simpa using h
  subst this
  exact .cons_cons _ (.cons_cons _ (List.nil_sublist _))
 |q::l,i + 1,p,h=>.cons _ (.cons _ (spA_sub (l:=l) (i:=i) (by simpa using h)))
theorem forkPerm {g sp:Nat} {k:KV} {vh:Value} {held:List Nat} {a b:Asr} {R:List Asr}:(a::b::(wkS g k sp vh held++R)).Perm (frA k::slA k::a::b::.blk g (wkB k sp vh)::hdA vh held::spA0 k::(k.sp.map enAp++R)) :=
 (List.perm_middle (l₁:=[a,b,.blk g (wkB k sp vh),hdA vh held])).trans ((List.perm_middle (l₁:=[a,b,.blk g (wkB k sp vh),hdA vh held])).cons _)
set_option maxRecDepth 100000 in
set_option maxHeartbeats 8000000 in
theorem Fork_fn {w:World} {k:KV} (hK:KerV w k) (space:Int):Fn Try.prog 5 [.agg (kvC k).toArray,.int .i64 space] w (fun v w'=>∃ k',v=.tuple #[.agg (kvC k').toArray,.int .i64 (forkN k.K space),.int .i64 (forkE k.K space)]∧k'.K=forkR k.K space∧Came w w' k'):=by
 have hbeg:=fun w1 (h:KerV w1 k)=>begin_fn h space
 have hK0:=hK
 have hKown:Right k.K→∀ w1,KerV w1 k→Fn Try.prog 14 [.agg (kvC k).toArray] w1 (fun v w'=>∃ k':KV,v=.agg (kvC k').toArray∧k'.K=k.K∧St nF w1 w' (kA k')):=fun hr w1 h=>own_fn h (kv_bd hr)
 obtain ⟨RE,hRE⟩:∃ e,e=forkE k.K space:=⟨_,rfl⟩
 unfold forkR forkN
 rw [← hRE]
 unfold forkE at hRE
 obtain ⟨sh,fr,sl,sps,hand,vsh,vfr,vsl,vsp⟩:=k
 obtain ⟨k1,k2,k3,k4,k5⟩:=hK
 dsimp only at k1 k2 k3 k4 k5
 obtain ⟨p1,c1,rfl⟩:=k1.sl.len
 obtain ⟨p2,c2,rfl⟩:=k2.len
 obtain ⟨p3,c3,rfl⟩:=k3.len
 obtain ⟨p4,c4,rfl⟩:=k4.len
 have hlS:(KV.K ⟨sh,fr,sl,sps,hand,.slice p1 sh.length c1,.slice p2 fr.length c2,.slice p3 sl.length c3,.slice p4 sps.length c4⟩).spaces.length=sps.length:=List.length_map _
 have hlL:(KV.K ⟨sh,fr,sl,sps,hand,.slice p1 sh.length c1,.slice p2 fr.length c2,.slice p3 sl.length c3,.slice p4 sps.length c4⟩).slots.length=sl.length:=rfl
 generalize hKK:KV.K ⟨sh,fr,sl,sps,hand,.slice p1 sh.length c1,.slice p2 fr.length c2,.slice p3 sl.length c3,.slice p4 sps.length c4⟩=K at hbeg hRE hKown hlS hlL ⊢
 have hpre:∀ w1 Γ1,St nF w w1 Γ1→KerV w1 ⟨sh,fr,sl,sps,hand,.slice p1 sh.length c1,.slice p2 fr.length c2,.slice p3 sl.length c3,.slice p4 sps.length c4⟩:=fun w1 Γ1 h=>hK0.now h
 rw [hlS,hlL] at hRE
 rw [hlS]
 unfold kvC at hbeg hKown ⊢
 dsimp only at hbeg hKown ⊢
 have hno:∀ {w1 Γ1},St nF w w1 Γ1→∀ {e:Int},e≠0→∃ k':KV,Value.tuple #[.agg #[.slice none 0 0,.slice none 0 0,.slice none 0 0,.slice none 0 0,.int .i64 0],.int .i64 0,.int .i64 e]=.tuple #[.agg [k'.vsh,k'.vfr,k'.vsl,k'.vsp,.int .i64 k'.hand].toArray,.int .i64 (if e=0 then ((sps.length:Nat):Int) else 0),.int .i64 e]∧k'.K=(if e=0 then forkK K space.toNat else ker0)∧Came w w1 k':=by
  intro w1 Γ1 h e he
  exact ⟨kv0,by rw [if_neg he];rfl,by rw [if_neg he];rfl,Or.inl ⟨rfl,h.sub (List.nil_sublist _)⟩⟩
 refine yEn Try.func5 Try.ntmps5 ?_
 have hS:=St.start w
 repeat' (first|refine yO ?_|(refine yM ?_;clear hS;intro g w' hS))
 rename_i g2 _
 refine l_call rfl rfl (hbeg _ (hpre _ _ hS)) rfl ?_
 clear hbeg
 rintro v w2 (⟨he,rfl,hS'⟩|⟨gw,sp,k',he,hsp,rfl,hk',hS'⟩)
 ·replace hS:=hS.transA hS'
  simp only [appA] at hS
  rw [if_neg he] at hRE
  have hd:decide (liveE K space=0)=false:=decide_eq_false he
  rw [← hRE] at he hd ⊢
  repeat' (first|refine yO ?_|(refine yN ?_;clear hS;intro w' hS)|(refine yS ?_ ?_;all_goals (intro hb hp;try (exfalso;omega))))
  refine yR3 ?_
  exact hno hS he
 rw [if_pos he] at hRE
 replace hS:=hS.trans hS'
 clear hS'
 rw [List.append_assoc] at hS
 have hV0:=WkV.own hS
 obtain ⟨hr,sp2,hsp2,hspl,hlv⟩:=live_right he
 obtain rfl:sp=sp2:=by omega
 subst hsp
 rw [Int.toNat_natCast] at hRE hno ⊢
 subst hk'
 obtain ⟨x,hx⟩:∃ x,k'.sp[sp]?=some x:=by
  have:k'.K.spaces.length=k'.sp.length:=List.length_map _
  exact lt_get (by omega)
 have hxm:=List.mem_of_getElem? hx
 obtain ⟨hsc,hel⟩:=right_bd hr x.s (List.mem_of_getElem? (kv_sp hx))
 have hxA:areasOf k'.K sp=x.s.areas:=by unfold areasOf;rw [scAt_eq (kv_sp hx)]
 have hxe:entsOf k'.K sp=x.s.entries:=by unfold entsOf;rw [scAt_eq (kv_sp hx)]
 rw [hxA] at hRE
 have hsl3:k'.sp.length=sps.length:=by rw [← hlS];exact (List.length_map _).symm
 have hslL:k'.sl.length=sl.length:=hlL
 obtain ⟨bs,os,cs,hvsp⟩:=hV0.ker.sp.form1 hx
 obtain ⟨f0,hf0⟩:∃ f0,k'.fr[0]?=some f0:=lt_get (by have:=hr.cnt.1;have h9:k'.K.frames.length=k'.fr.length:=rfl;omega)
 obtain ⟨bf,of_,cf,hvfr⟩:=hV0.ker.fr.form1 hf0
 obtain ⟨psl,csl,hvsl⟩:=hV0.ker.sl.len
 have hxv:=hV0.ker.spv x hxm
 have hown:=hKown hr
 clear hKown
 have hcA:∀ p ∈ k'.sp,checkI p.s.areas=0:=fun p hp=>(right_bd hr p.s (List.mem_map.2 ⟨p,hp,rfl⟩)).1.ar
 have hroom:roomI (k'.sp.map (·.s))=roomI k'.K.spaces:=rfl
 have hsp4:=hr.cnt
 obtain ⟨sh',fr',sl',sps',hand',vsh',vfr',vsl',vsp'⟩:=k'
 dsimp only at hvsp hvfr hvsl hx hxm hf0 hsl3 hslL hcA hroom
 subst hvsp hvfr hvsl
 have hrowS:=map_get (f:=spC) hx
 unfold spC at hrowS
 have hback:∀ {w1 a b},St nF w w1 (a::b::(wkS gw (⟨sh',fr',sl',sps',hand',vsh',.slice (some ⟨bf,of_,none⟩) fr'.length cf,.slice psl sl'.length csl,.slice (some ⟨bs,os,none⟩) sps'.length cs⟩:KV) sp (.slice none 0 0) []++restA (⟨sh',fr',sl',sps',hand',vsh',.slice (some ⟨bf,of_,none⟩) fr'.length cf,.slice psl sl'.length csl,.slice (some ⟨bs,os,none⟩) sps'.length cs⟩:KV)))→St nF w w1 (wkS gw (⟨sh',fr',sl',sps',hand',vsh',.slice (some ⟨bf,of_,none⟩) fr'.length cf,.slice psl sl'.length csl,.slice (some ⟨bs,os,none⟩) sps'.length cs⟩:KV) sp (.slice none 0 0) []++(restA (⟨sh',fr',sl',sps',hand',vsh',.slice (some ⟨bf,of_,none⟩) fr'.length cf,.slice psl sl'.length csl,.slice (some ⟨bs,os,none⟩) sps'.length cs⟩:KV)++[a,b])):=fun h=>by
  rw [← List.append_assoc]
  exact h.perm (List.perm_append_comm (l₁:=[_,_]))
 have hspc:=fun w1 a b (h:St nF w w1 (a::b::(wkS gw (⟨sh',fr',sl',sps',hand',vsh',.slice (some ⟨bf,of_,none⟩) fr'.length cf,.slice psl sl'.length csl,.slice (some ⟨bs,os,none⟩) sps'.length cs⟩:KV) sp (.slice none 0 0) []++restA (⟨sh',fr',sl',sps',hand',vsh',.slice (some ⟨bf,of_,none⟩) fr'.length cf,.slice psl sl'.length csl,.slice (some ⟨bs,os,none⟩) sps'.length cs⟩:KV))))=>wspace_fn (WkV.own (hback h)) (lt_of_getE hx)
 have hspV:=fun w1 a b (h:St nF w w1 (a::b::(wkS gw (⟨sh',fr',sl',sps',hand',vsh',.slice (some ⟨bf,of_,none⟩) fr'.length cf,.slice psl sl'.length csl,.slice (some ⟨bs,os,none⟩) sps'.length cs⟩:KV) sp (.slice none 0 0) []++restA (⟨sh',fr',sl',sps',hand',vsh',.slice (some ⟨bf,of_,none⟩) fr'.length cf,.slice psl sl'.length csl,.slice (some ⟨bs,os,none⟩) sps'.length cs⟩:KV))))=>(WkV.own (hback h)).ker.sp
 have htot:=fun w1 a b (h:St nF w w1 (a::b::(wkS gw (⟨sh',fr',sl',sps',hand',vsh',.slice (some ⟨bf,of_,none⟩) fr'.length cf,.slice psl sl'.length csl,.slice (some ⟨bs,os,none⟩) sps'.length cs⟩:KV) sp (.slice none 0 0) []++restA (⟨sh',fr',sl',sps',hand',vsh',.slice (some ⟨bf,of_,none⟩) fr'.length cf,.slice psl sl'.length csl,.slice (some ⟨bs,os,none⟩) sps'.length cs⟩:KV))))=>Total_fn ((WkV.own (hback h)).ker.spv x hxm).ar
 have hroo:=fun w1 a b (h:St nF w w1 (a::b::(wkS gw (⟨sh',fr',sl',sps',hand',vsh',.slice (some ⟨bf,of_,none⟩) fr'.length cf,.slice psl sl'.length csl,.slice (some ⟨bs,os,none⟩) sps'.length cs⟩:KV) sp (.slice none 0 0) []++restA (⟨sh',fr',sl',sps',hand',vsh',.slice (some ⟨bf,of_,none⟩) fr'.length cf,.slice psl sl'.length csl,.slice (some ⟨bs,os,none⟩) sps'.length cs⟩:KV))))=>wroom_fn (WkV.own (hback h)) hcA (by rw [hsl3,← hlS];omega)
 dsimp only at hroo
 rw [hroom] at hroo
 unfold elemP at hspc
 dsimp only at hspc hspV
 rw [if_pos hsc.ar] at htot
 rw [← List.append_assoc] at hS
 replace hS:=hS.perm List.perm_append_comm
 dsimp only [List.cons_append,List.nil_append] at hS
 obtain ⟨hT0,hT1⟩:0≤sumN x.s.areas∧sumN x.s.areas≤70000:=(space_len (hr.spaces x.s (List.mem_of_getElem? (kv_sp hx)))).2
 have hR0:0≤roomI (⟨sh',fr',sl',sps',hand',vsh',.slice (some ⟨bf,of_,none⟩) fr'.length cf,.slice psl sl'.length csl,.slice (some ⟨bs,os,none⟩) sps'.length cs⟩:KV).K.spaces:=room_nn fun s hs=>(space_len (hr.spaces s hs)).2.1
 have hR1:roomI (⟨sh',fr',sl',sps',hand',vsh',.slice (some ⟨bf,of_,none⟩) fr'.length cf,.slice psl sl'.length csl,.slice (some ⟨bs,os,none⟩) sps'.length cs⟩:KV).K.spaces≤512:=by have:=hr.room;omega
 obtain ⟨pe,ce,hve⟩:=hxv.en.len
 rw [hve] at hrowS
 generalize hRm:roomI (⟨sh',fr',sl',sps',hand',vsh',.slice (some ⟨bf,of_,none⟩) fr'.length cf,.slice psl sl'.length csl,.slice (some ⟨bs,os,none⟩) sps'.length cs⟩:KV).K.spaces=R at hroo hRE hR0 hR1
 generalize hTm:sumN x.s.areas=T at htot hRE hT0 hT1
 have hd0:decide (liveE (⟨sh',fr',sl',sps',hand',vsh',.slice (some ⟨bf,of_,none⟩) fr'.length cf,.slice psl sl'.length csl,.slice (some ⟨bs,os,none⟩) sps'.length cs⟩:KV).K (sp:Nat)=0)=true:=decide_eq_true he
 by_cases h4:sps.length=4
 ·rw [if_pos h4] at hRE
  have hd:decide (((sps.length:Nat):Int)=4)=true:=decide_eq_true (by omega)
  rw [hRE]
  repeat' (first|refine yO ?_|(refine yN ?_;clear hS;intro w' hS))
  refine yR3 ?_
  exact hno hS (by omega)
 rw [if_neg h4] at hRE
 have hd:decide (((sps.length:Nat):Int)=4)=false:=decide_eq_false (by omega)
 by_cases h5:(sl.length:Int) < R + T
 ·rw [if_pos h5] at hRE
  have hd2:decide ((sl.length:Int) < R + T)=true:=decide_eq_true h5
  rw [hRE]
  repeat' ((refine yO ?_))
  (focus (refine yD ?_;(repeat' (first|refine yP ?_|(refine yF ?_;refine ⟨_,fun wd hd=>hroo _ _ _ hd,?_⟩)|(refine yF ?_;refine ⟨_,fun wd hd=>hspc _ _ _ hd,?_⟩)|((with_reducible apply d_load);exact rfl;(intro wd hd;replace hd:St _ _ wd _:=hd;(((with_reducible apply Loads.sl tabOk);exact rfl;exact (hspV _ _ _ hd).cel hrowS rfl)));exact rfl)|(refine yF ?_;refine ⟨_,fun wd hd=>htot _ _ _ hd,?_⟩)));all_goals (refine yZ ?_;clear hS;intro w' hS)))
  repeat' (first|refine yO ?_|(refine yN ?_;clear hS;intro w' hS))
  refine yR3 ?_
  exact hno hS (by omega)
 rw [if_neg h5] at hRE
 have hd2:decide ((sl.length:Int) < R + T)=false:=decide_eq_false h5
 repeat' ((refine yO ?_))
 (focus (refine yD ?_;(repeat' (first|refine yP ?_|(refine yF ?_;refine ⟨_,fun wd hd=>hroo _ _ _ hd,?_⟩)|(refine yF ?_;refine ⟨_,fun wd hd=>hspc _ _ _ hd,?_⟩)|((with_reducible apply d_load);exact rfl;(intro wd hd;replace hd:St _ _ wd _:=hd;(((with_reducible apply Loads.sl tabOk);exact rfl;exact (hspV _ _ _ hd).cel hrowS rfl)));exact rfl)|(refine yF ?_;refine ⟨_,fun wd hd=>htot _ _ _ hd,?_⟩)));all_goals (refine yZ ?_;clear hS;intro w' hS)))
 repeat' (first|refine yO ?_|(refine yC ?_;refine ⟨_,hspc _ _ _ hS,?_⟩;clear hS;intro w' hS)|(refine yC1 ?_;refine ⟨_,(hspV _ _ _ hS).cel hrowS rfl,?_⟩))
 obtain ⟨hrb1,hrb2⟩:=refs_bd hr
 have hfold:=fun i=>incFold_ok (k:=(⟨sh',fr',sl',sps',hand',vsh',.slice (some ⟨bf,of_,none⟩) fr'.length cf,.slice psl sl'.length csl,.slice (some ⟨bs,os,none⟩) sps'.length cs⟩:KV)) (b:=100000) ⟨hrb1,hrb2⟩ (by omega) (x.s.entries.take i)
 replace hS:=hS.perm forkPerm
 unfold frA slA at hS
 dsimp only at hS
 have hof:of_=0:=by
  obtain ⟨gg,hgg⟩:=hS.rowSome 0 rfl (lt_of_getE hf0)
  injection hgg with hgg
  injection hgg
 subst hof
 have hEn:∀ {w1 A B C D},St nF w w1 (A::B::C::D::.blk gw (wkB (⟨sh',fr',sl',sps',hand',vsh',.slice (some ⟨bf,0,none⟩) fr'.length cf,.slice psl sl'.length csl,.slice (some ⟨bs,os,none⟩) sps'.length cs⟩:KV) sp (.slice none 0 0))::hdA (.slice none 0 0) []::spA0 (⟨sh',fr',sl',sps',hand',vsh',.slice (some ⟨bf,0,none⟩) fr'.length cf,.slice psl sl'.length csl,.slice (some ⟨bs,os,none⟩) sps'.length cs⟩:KV)::((⟨sh',fr',sl',sps',hand',vsh',.slice (some ⟨bf,0,none⟩) fr'.length cf,.slice psl sl'.length csl,.slice (some ⟨bs,os,none⟩) sps'.length cs⟩:KV).sp.map enAp++restA (⟨sh',fr',sl',sps',hand',vsh',.slice (some ⟨bf,0,none⟩) fr'.length cf,.slice psl sl'.length csl,.slice (some ⟨bs,os,none⟩) sps'.length cs⟩:KV)))→Sl nF w1 3 (.slice pe x.s.entries.length ce) (x.s.entries.map enC):=fun h=>by
  rw [← hve]
  exact h.slMem (e:=55) (by
   refine List.mem_cons_of_mem _ (List.mem_cons_of_mem _ (List.mem_cons_of_mem _ (List.mem_cons_of_mem _ (List.mem_cons_of_mem _ (List.mem_cons_of_mem _ (List.mem_cons_of_mem _ (List.mem_append_left _ ?_)))))))
   exact List.mem_map.2 ⟨x,hxm,rfl⟩)
 refine c_loopK (F:=nF) (w0:=w) (X:=Nat) (fun i=>[(49,.int .i64 (i:Nat))]) [1,2,4,7,47,48] rfl (fun i=>[.row 43 4 (.slice (some ⟨bf,0,none⟩) fr'.length cf) (((x.s.entries.take i).foldl incV (⟨sh',fr',sl',sps',hand',vsh',.slice (some ⟨bf,0,none⟩) fr'.length cf,.slice psl sl'.length csl,.slice (some ⟨bs,os,none⟩) sps'.length cs⟩:KV)).fr.map fmC),.row 45 2 (.slice psl sl'.length csl) (((x.s.entries.take i).foldl incV (⟨sh',fr',sl',sps',hand',vsh',.slice (some ⟨bf,0,none⟩) fr'.length cf,.slice psl sl'.length csl,.slice (some ⟨bs,os,none⟩) sps'.length cs⟩:KV)).sl.map swC)]) (fun i=>i≤x.s.entries.length) (fun i=>x.s.entries.length - i) 0 (by exact zS) (Nat.zero_le _) hS ?_
 clear hS
 intro i w3 hi hS
 dsimp only [List.cons_append,List.nil_append] at hS ⊢
 obtain ⟨hsm,hrf⟩:=hfold i
 by_cases hlt:i < x.s.entries.length
 ·have hdl:decide ((i:Int) < (x.s.entries.length:Int))=true:=decide_eq_true (by omega)
  obtain ⟨e,he2⟩:=lt_get (l:=x.s.entries) (i:=i) (by omega)
  obtain ⟨b,off,rfl,-⟩:=(hEn hS).at_ hlt
  have hrowE:=map_get (f:=enC) he2
  unfold enC at hrowE
  have hnx:=incFold_take he2 (⟨sh',fr',sl',sps',hand',vsh',.slice (some ⟨bf,0,none⟩) fr'.length cf,.slice psl sl'.length csl,.slice (some ⟨bs,os,none⟩) sps'.length cs⟩:KV)
  obtain ⟨hnm,-,-⟩:=entOk_of hr hx (List.mem_of_getElem? he2)
  obtain ⟨epg,ekd,eat⟩:=e
  dsimp only at hnm hrowE
  have hln:(x.s.entries.take i).length≤255:=by rw [List.length_take];omega
  rcases hnm with ⟨hk,j,hj,hjl⟩|⟨hk,j,hj,hjl⟩
  ·subst hj
   have hdk:decide (ekd=1)=true:=decide_eq_true hk
   have hjl':j < fr'.length:=hjl
   obtain ⟨f1,hf1⟩:=lt_get (l:=((x.s.entries.take i).foldl incV (⟨sh',fr',sl',sps',hand',vsh',.slice (some ⟨bf,0,none⟩) fr'.length cf,.slice psl sl'.length csl,.slice (some ⟨bs,os,none⟩) sps'.length cs⟩:KV)).fr) (i:=j) (by rw [hsm.nfr];exact Int.ofNat_lt.2 hjl')
   have hrb:=hrf.1 f1 (List.mem_of_getElem? hf1)
   have hrowF:=map_get (f:=fmC) hf1
   unfold fmC at hrowF
   have hn1:((x.s.entries.take (i + 1)).foldl incV (⟨sh',fr',sl',sps',hand',vsh',.slice (some ⟨bf,0,none⟩) fr'.length cf,.slice psl sl'.length csl,.slice (some ⟨bs,os,none⟩) sps'.length cs⟩:KV)).fr=((x.s.entries.take i).foldl incV (⟨sh',fr',sl',sps',hand',vsh',.slice (some ⟨bf,0,none⟩) fr'.length cf,.slice psl sl'.length csl,.slice (some ⟨bs,os,none⟩) sps'.length cs⟩:KV)).fr.set j (incFm f1):=by
    rw [hnx,(incV_1 hk).1,Int.toNat_natCast,fmAt_eq hf1]
   have hn2:((x.s.entries.take (i + 1)).foldl incV (⟨sh',fr',sl',sps',hand',vsh',.slice (some ⟨bf,0,none⟩) fr'.length cf,.slice psl sl'.length csl,.slice (some ⟨bs,os,none⟩) sps'.length cs⟩:KV)).sl=((x.s.entries.take i).foldl incV (⟨sh',fr',sl',sps',hand',vsh',.slice (some ⟨bf,0,none⟩) fr'.length cf,.slice psl sl'.length csl,.slice (some ⟨bs,os,none⟩) sps'.length cs⟩:KV)).sl:=by
    rw [hnx,(incV_1 hk).2]
   generalize hFR:((x.s.entries.take i).foldl incV (⟨sh',fr',sl',sps',hand',vsh',.slice (some ⟨bf,0,none⟩) fr'.length cf,.slice psl sl'.length csl,.slice (some ⟨bs,os,none⟩) sps'.length cs⟩:KV)).fr=FR at *
   generalize hSL:((x.s.entries.take i).foldl incV (⟨sh',fr',sl',sps',hand',vsh',.slice (some ⟨bf,0,none⟩) fr'.length cf,.slice psl sl'.length csl,.slice (some ⟨bs,os,none⟩) sps'.length cs⟩:KV)).sl=SL at *
   have e1:(FR.map fmC).set j (setL [.string ⟨f1.data.toArray⟩,.int .i64 f1.refs,.bool f1.dirty,.bool f1.seen] 1 [.int .i64 (f1.refs + 1)])=(FR.set j (incFm f1)).map fmC:=by rw [List.map_set];rfl
   repeat' (first|refine yO ?_|(refine yM ?_;clear hS;intro g w' hS)|(refine yN ?_;clear hS;intro w' hS)|(refine yC2 ?_;refine ⟨_,(hEn hS).rng hrowE,rfl,?_⟩))
   (focus (refine yW (nn 13) ?_;(repeat' ((refine yP ?_)));all_goals (refine yZ ?_;clear hS;intro w' hS)))
   repeat' (first|refine yO ?_|(refine yT1 ?_;clear hS;intro w' hS))
   rw [e1] at hS
   refine q_loopK (i + 1) (by exact zS) (by omega) ?_ (by omega)
   dsimp only [List.cons_append,List.nil_append]
   rw [hn1,hn2]
   exact hS.drop
  ·subst hj
   have hdk:decide (ekd=1)=false:=decide_eq_false hk
   have hjl':j < sl'.length:=hjl
   obtain ⟨f1,hf1⟩:=lt_get (l:=((x.s.entries.take i).foldl incV (⟨sh',fr',sl',sps',hand',vsh',.slice (some ⟨bf,0,none⟩) fr'.length cf,.slice psl sl'.length csl,.slice (some ⟨bs,os,none⟩) sps'.length cs⟩:KV)).sl) (i:=j) (by rw [hsm.nsl];exact Int.ofNat_lt.2 hjl')
   have hrb:=hrf.2 f1 (List.mem_of_getElem? hf1)
   have hrowF:=map_get (f:=swC) hf1
   unfold swC at hrowF
   have hn1:((x.s.entries.take (i + 1)).foldl incV (⟨sh',fr',sl',sps',hand',vsh',.slice (some ⟨bf,0,none⟩) fr'.length cf,.slice psl sl'.length csl,.slice (some ⟨bs,os,none⟩) sps'.length cs⟩:KV)).sl=((x.s.entries.take i).foldl incV (⟨sh',fr',sl',sps',hand',vsh',.slice (some ⟨bf,0,none⟩) fr'.length cf,.slice psl sl'.length csl,.slice (some ⟨bs,os,none⟩) sps'.length cs⟩:KV)).sl.set j (incSw f1):=by
    rw [hnx,(incV_2 hk).1,Int.toNat_natCast,swAt_eq hf1]
   have hn2:((x.s.entries.take (i + 1)).foldl incV (⟨sh',fr',sl',sps',hand',vsh',.slice (some ⟨bf,0,none⟩) fr'.length cf,.slice psl sl'.length csl,.slice (some ⟨bs,os,none⟩) sps'.length cs⟩:KV)).fr=((x.s.entries.take i).foldl incV (⟨sh',fr',sl',sps',hand',vsh',.slice (some ⟨bf,0,none⟩) fr'.length cf,.slice psl sl'.length csl,.slice (some ⟨bs,os,none⟩) sps'.length cs⟩:KV)).fr:=by
    rw [hnx,(incV_2 hk).2]
   generalize hFR:((x.s.entries.take i).foldl incV (⟨sh',fr',sl',sps',hand',vsh',.slice (some ⟨bf,0,none⟩) fr'.length cf,.slice psl sl'.length csl,.slice (some ⟨bs,os,none⟩) sps'.length cs⟩:KV)).fr=FR at *
   generalize hSL:((x.s.entries.take i).foldl incV (⟨sh',fr',sl',sps',hand',vsh',.slice (some ⟨bf,0,none⟩) fr'.length cf,.slice psl sl'.length csl,.slice (some ⟨bs,os,none⟩) sps'.length cs⟩:KV)).sl=SL at *
   have e1:(SL.map swC).set j (setL [.string ⟨f1.data.toArray⟩,.int .i64 f1.refs] 1 [.int .i64 (f1.refs + 1)])=(SL.set j (incSw f1)).map swC:=by rw [List.map_set];rfl
   obtain ⟨gs,rfl⟩:=hS.rowSome 1 rfl (by omega)
   repeat' (first|refine yO ?_|(refine yM ?_;clear hS;intro g w' hS)|(refine yN ?_;clear hS;intro w' hS)|(refine yC2 ?_;refine ⟨_,(hEn hS).rng hrowE,rfl,?_⟩))
   (focus (refine yW (nn 13) ?_;(repeat' ((refine yP ?_)));all_goals (refine yZ ?_;clear hS;intro w' hS)))
   repeat' (first|refine yO ?_|(refine yT2 ?_;clear hS;intro w' hS))
   rw [e1] at hS
   refine q_loopK (i + 1) (by exact zS) (by omega) ?_ (by omega)
   dsimp only [List.cons_append,List.nil_append]
   rw [hn1,hn2]
   exact hS.drop
 ·have hdl:decide ((i:Int) < (x.s.entries.length:Int))=false:=decide_eq_false (by omega)
  obtain rfl:i=x.s.entries.length:=by omega
  rw [List.take_length] at hS hsm hrf
  repeat' ((refine yO ?_))
  clear hroo htot hspV hspc hback hEn
  obtain ⟨FRs,hFRs⟩:∃ F,F=(x.s.entries.foldl incV (⟨sh',fr',sl',sps',hand',vsh',.slice (some ⟨bf,0,none⟩) fr'.length cf,.slice psl sl'.length csl,.slice (some ⟨bs,os,none⟩) sps'.length cs⟩:KV)).fr:=⟨_,rfl⟩
  obtain ⟨SLs,hSLs⟩:∃ F,F=(x.s.entries.foldl incV (⟨sh',fr',sl',sps',hand',vsh',.slice (some ⟨bf,0,none⟩) fr'.length cf,.slice psl sl'.length csl,.slice (some ⟨bs,os,none⟩) sps'.length cs⟩:KV)).sl:=⟨_,rfl⟩
  rw [← hFRs,← hSLs] at hS
  have hos:os=0:=by
   obtain ⟨gg,hgg⟩:=hS.rowSome 6 rfl (Nat.lt_of_le_of_lt (Nat.zero_le _) (lt_of_getE hx))
   injection hgg with hgg
   injection hgg
  subst hos
  unfold spA0 wkB at hS
  dsimp only at hS
  refine c_till (fun w'=>St nF w w' [.blk g2 [.slice p1 sh.length c1,.slice p2 fr.length c2,.slice p3 sl.length c3,.slice p4 sps.length c4,.int .i64 hand],.blk gw [vsh',.slice (some ⟨bf,0,none⟩) fr'.length cf,.slice psl sl'.length csl,.slice (some ⟨bs,0,none⟩) sps'.length cs,.int .i64 hand',.int .i64 (sp:Nat),.slice none 0 0]]) 17 18 rfl hS (by kernel_rfl) ?_
  intro w4 hS'
  clear hS;have hS:=hS';clear hS'
  have hH:St nF w w4 [.blk g2 [.slice p1 sh.length c1,.slice p2 fr.length c2,.slice p3 sl.length c3,.slice p4 sps.length c4,.int .i64 hand],.blk gw [vsh',.slice (some ⟨bf,0,none⟩) fr'.length cf,.slice psl sl'.length csl,.slice (some ⟨bs,0,none⟩) sps'.length cs,.int .i64 hand',.int .i64 (sp:Nat),.slice none 0 0]]:=hS.sub (.cons _ (.cons _ (.cons _ (.cons_cons _ (.cons_cons _ (List.nil_sublist _))))))
  (refine xP (nn 0) ?_;refine ⟨Or.inr hH,?_⟩)
  (refine xP (nn 1) ?_;refine ⟨Or.inr hH,?_⟩)
  (refine xP (nn 2) ?_;refine ⟨Or.inr hH,?_⟩)
  (refine xP (nn 3) ?_;refine ⟨Or.inr hH,?_⟩)
  (refine xP (nn 4) ?_;refine ⟨Or.inr hH,?_⟩)
  (refine xL (nn 5) ?_;refine ⟨hH,?_⟩)
  (refine xL (nn 6) ?_;refine ⟨hH,?_⟩)
  (refine xP (nn 9) ?_;refine ⟨Or.inr hH,?_⟩)
  refine t_one (i:=7) (by kernel_rfl) ?_
  refine p_gets rfl (g_call (first:=[]) (caps:=[]) rfl rfl (hown _ (hpre _ _ hS))) rfl ?_
  rintro _ w5 ⟨ko,rfl,hko,h2⟩
  replace hS:=hS.trans h2
  clear h2 hown
  have hkos:ko.sp.map (·.s)=sps'.map (·.s):=by
   have:=congrArg Ker.spaces hko
   exact this
  obtain ⟨po,hpo,hpos⟩:∃ po,ko.sp[sp]?=some po∧po.s=x.s:=by
   have h1:(ko.sp.map (·.s))[sp]?=some x.s:=by rw [hkos,List.getElem?_map,hx];rfl
   rw [List.getElem?_map] at h1
   obtain ⟨po,h2,h3⟩:=Option.map_eq_some_iff.1 h1
   exact ⟨po,h2,h3⟩
  have hrowO:=map_get (f:=spC) hpo
  unfold spC at hrowO
  have hsub2:[Asr.row 41 3 ko.vsp (ko.sp.map spC),arAp po,enAp po].Sublist (kA ko):=.cons _ (.cons _ (.cons _ (.cons_cons _ ((spA_sub hpo).trans (List.sublist_append_right _ _)))))
  replace hS:=hS.sub (hsub2.append_right _)
  dsimp only [List.cons_append,List.nil_append] at hS
  obtain ⟨ps,pva,pve⟩:=po
  dsimp only at hpos
  subst hpos
  unfold arAp enAp at hS
  dsimp only at hS hrowO
  obtain ⟨osh,ofr,osl,osp,ohand,ovsh,ovfr,ovsl,ovsp⟩:=ko
  dsimp only at hkos hpo hrowO hS
  obtain ⟨qo,do_,rfl⟩:=hS.rowSlice 0 rfl
  obtain ⟨go,rfl⟩:=hS.rowSome 0 rfl (by have:=lt_of_getE hpo;rw [List.length_map];omega)
  obtain ⟨qa,da,rfl⟩:=hS.rowSlice 1 rfl
  obtain ⟨qe,de,rfl⟩:=hS.rowSlice 2 rfl
  simp only [List.length_map] at hS hrowO hpo ⊢
  have hspo:=lt_of_getE hpo
  have hH:St nF w w5 [.blk g2 [.slice p1 sh.length c1,.slice p2 fr.length c2,.slice p3 sl.length c3,.slice p4 sps.length c4,.int .i64 hand],.blk gw [vsh',.slice (some ⟨bf,0,none⟩) fr'.length cf,.slice psl sl'.length csl,.slice (some ⟨bs,0,none⟩) sps'.length cs,.int .i64 hand',.int .i64 (sp:Nat),.slice none 0 0]]:=hS.sub (.cons _ (.cons _ (.cons _ (.cons _ (.cons _ (.cons _ (.cons_cons _ (.cons_cons _ (List.nil_sublist _)))))))))
  refine ⟨Or.inr (Or.inr hH),?_⟩
  (refine xP (nn 8) ?_;refine ⟨Or.inr hH,?_⟩)
  ((with_reducible apply t_runs (nn 10));exact rfl;kernel_rfl;kernel_rfl;kernel_rfl;exact rfl;exact (fun _ _ _ h=>h);exact Or.inr hH;(intro a ha;exact r_ix tabOk rfl rfl rfl rfl hspo a ha _);exact rfl)
  refine t_one (i:=11) (by kernel_rfl) ?_
  refine p_gets rfl (g_load rfl (by ((with_reducible apply Loads.st tabOk);exact rfl;exact ((hS.rowSl 0 rfl).rng hrowO);exact rfl))) rfl ?_
  rintro _ _ ⟨rfl,rfl⟩
  refine ⟨Or.inr (Or.inr hH),?_⟩
  refine t_one (i:=12) (by kernel_rfl) ?_
  refine p_gets rfl (g_bslice hS tabOk rfl rfl rfl rfl rfl rfl) rfl ?_
  rintro _ w' ⟨gu,rfl,hS'⟩
  clear hS;have hS:=hS';clear hS'
  have hH:St nF w w' [.blk g2 [.slice p1 sh.length c1,.slice p2 fr.length c2,.slice p3 sl.length c3,.slice p4 sps.length c4,.int .i64 hand],.blk gw [vsh',.slice (some ⟨bf,0,none⟩) fr'.length cf,.slice psl sl'.length csl,.slice (some ⟨bs,0,none⟩) sps'.length cs,.int .i64 hand',.int .i64 (sp:Nat),.slice none 0 0]]:=hS.drop.sub (.cons _ (.cons _ (.cons _ (.cons _ (.cons _ (.cons _ (.cons_cons _ (.cons_cons _ (List.nil_sublist _)))))))))
  refine ⟨Or.inr (Or.inr hH),?_⟩
  refine t_one (i:=13) (by kernel_rfl) ?_
  refine p_gets rfl (g_append hS tabOk (i:=10) rfl rfl rfl rfl (hS.rowRo 0 rfl) rfl (by simp only [List.length_map,List.length_cons,List.length_nil];omega)) rfl ?_
  rintro _ w' ⟨ph,ch,rfl,hS'⟩
  simp only [List.set,List.length_map] at hS' ⊢
  clear hS;have hS:=hS';clear hS'
  have hH:St nF w w' [.blk g2 [.slice p1 sh.length c1,.slice p2 fr.length c2,.slice p3 sl.length c3,.slice p4 sps.length c4,.int .i64 hand],.blk gw [vsh',.slice (some ⟨bf,0,none⟩) fr'.length cf,.slice psl sl'.length csl,.slice (some ⟨bs,0,none⟩) sps'.length cs,.int .i64 hand',.int .i64 (sp:Nat),.slice none 0 0]]:=hS.drop.sub (.cons _ (.cons _ (.cons _ (.cons _ (.cons _ (.cons _ (.cons_cons _ (.cons_cons _ (List.nil_sublist _)))))))))
  refine ⟨Or.inr (Or.inr hH),?_⟩
  (refine xP (nn 14) ?_;refine ⟨Or.inr hH,?_⟩)
  (refine xP (nn 15) ?_;refine ⟨Or.inr hH,?_⟩)
  (refine xP (nn 16) ?_;refine ⟨Or.inr hH,?_⟩)
  refine t_one (i:=17) (by kernel_rfl) ?_
  refine p_gets0 (Φ:=fun _ w'=>St _ _ w' _) rfl (g_store hS tabOk (i:=8) rfl rfl rfl rfl rfl (Nat.le_of_ble_eq_true rfl) (by intro u hu;simp [Value.cells] at hu;subst hu;rfl)) ?_
  intro _ w' hS'
  simp only [List.set,setL] at hS'
  clear hS;have hS:=hS';clear hS'
  refine ⟨Or.inl rfl,?_⟩
  refine t_done (by kernel_rfl) ?_
  replace hS:=hS.drop.drop
  obtain ⟨psh,csh,rfl⟩:∃ p c,vsh'=.slice p sh'.length c:=hV0.ker.sh.sl.len
  (with_reducible apply q_then)
  (with_reducible apply c_seq)
  refine c_held (fun w'=>St nF w w' [.blk g2 [.slice p1 sh.length c1,.slice p2 fr.length c2,.slice p3 sl.length c3,.slice p4 sps.length c4,.int .i64 hand],.blk gw [.slice psh sh'.length csh,.slice (some ⟨bf,0,none⟩) fr'.length cf,.slice psl sl'.length csl,.slice ph (sps'.length + 1) ch,.int .i64 hand',.int .i64 (sp:Nat),.slice none 0 0]]) 10 rfl hS (by kernel_rfl) ?_
  intro w6 hS'
  clear hS;have hS:=hS';clear hS'
  have hH:St nF w w6 [.blk g2 [.slice p1 sh.length c1,.slice p2 fr.length c2,.slice p3 sl.length c3,.slice p4 sps.length c4,.int .i64 hand],.blk gw [.slice psh sh'.length csh,.slice (some ⟨bf,0,none⟩) fr'.length cf,.slice psl sl'.length csl,.slice ph (sps'.length + 1) ch,.int .i64 hand',.int .i64 (sp:Nat),.slice none 0 0]]:=hS.sub (.cons _ (.cons _ (.cons _ (.cons _ (.cons _ (.cons_cons _ (.cons_cons _ (List.nil_sublist _))))))))
  (refine xA (nn 0) ?_;refine ⟨hH,?_⟩)
  (refine xA (nn 1) ?_;refine ⟨hH,?_⟩)
  (refine xA (nn 2) ?_;refine ⟨hH,?_⟩)
  ((with_reducible apply a_takeL (nn 3));exact rfl;kernel_rfl;kernel_rfl;kernel_rfl;exact (fun _ _ _ h=>h);exact hH;exact rfl;(intro wd hd;replace hd:St _ _ wd _:=hd;((with_reducible apply Loads.st tabOk);exact rfl;exact (hd.blkRk 1 0 5 rfl);exact rfl));exact rfl)
  (refine xA (nn 4) ?_;refine ⟨hH,?_⟩)
  (refine xM (nn 5) ?_;refine ⟨hH,?_⟩)
  (refine xA (nn 6) ?_;refine ⟨hH,?_⟩)
  refine a_one (i:=7) (by kernel_rfl) ?_
  simp only [List.take_succ_cons,List.take_zero,List.drop_zero]
  refine o_gets0 (Φ:=fun _ w'=>St _ _ w' _) rfl (g_store hS tabOk (i:=4) rfl rfl rfl rfl rfl (Nat.le_of_ble_eq_true rfl) (List.all_eq_true.1 rfl)) ?_
  intro _ w' hS'
  simp only [List.set] at hS'
  clear hS;have hS:=hS';clear hS'
  refine ⟨hS.sub (.cons _ (.cons _ (.cons _ (.cons _ (.cons _ (.cons_cons _ (.cons_cons _ (List.nil_sublist _)))))))),?_⟩
  have hH:St nF w w' [.blk g2 [.slice p1 sh.length c1,.slice p2 fr.length c2,.slice p3 sl.length c3,.slice p4 sps.length c4,.int .i64 hand],.blk gw [.slice psh sh'.length csh,.slice (some ⟨bf,0,none⟩) fr'.length cf,.slice psl sl'.length csl,.slice ph (sps'.length + 1) ch,.int .i64 hand',.int .i64 (sp:Nat),.slice none 0 0]]:=hS.sub (.cons _ (.cons _ (.cons _ (.cons _ (.cons _ (.cons_cons _ (.cons_cons _ (List.nil_sublist _))))))))
  (refine xA (nn 8) ?_;refine ⟨hH,?_⟩)
  (refine xA (nn 9) ?_;refine ⟨hH,?_⟩)
  refine a_done (by kernel_rfl) ?_
  repeat' ((refine yO ?_))
  refine yR3 ?_
  refine ⟨⟨sh',FRs,SLs,sps'++[⟨x.s,.slice qa x.s.areas.length da,.slice qe x.s.entries.length de⟩],hand',.slice psh sh'.length csh,.slice (some ⟨bf,0,none⟩) fr'.length cf,.slice psl sl'.length csl,.slice ph (sps'.length + 1) ch⟩,?_,?_,?_⟩
  ·rw [hRE,if_pos rfl];rfl
  ·rw [hRE,if_pos rfl]
   unfold forkK
   rw [hxe,← incFold_K,scAt_eq (kv_sp hx),hFRs,hSLs]
   generalize List.foldl incV _ x.s.entries=kf at hsm ⊢
   obtain ⟨a1,a2,a3,a4,a5,a6,a7,a8,a9⟩:=kf
   obtain ⟨b1,b2,b3,-,-,-,-,-,-⟩:=hsm
   dsimp only at b1 b2 b3
   subst b1 b2 b3
   unfold KV.K
   dsimp only
   rw [List.map_append]
   rfl
  ·refine Or.inr ?_
   unfold ownK frA slA spA0 restA
   dsimp only
   rw [List.map_append,List.map_append,List.map_append]
   exact (hS.sub (.cons_cons _ (.cons_cons _ (.cons_cons _ (.cons_cons _ (.cons _ (.cons _ (.cons _ (.cons _ (.cons_cons _ (.refl _))))))))))).perm forkPerm2
end Go.Proofs.Ytejnpppejalhfac
/- linkBegun. -/
namespace Go.Proofs.Ytejnpppejalhfac
open Go.RowKit Go.Sort
end Go.Proofs.Ytejnpppejalhfac
/- three. -/
namespace Go.Proofs.Ytejnpppejalhfac
open Go.RowKit Go.Sort
def threeS1:Sg:=⟨0,1,encI 12 0 0 0 0,false,true⟩
def threeS2:Sg:=⟨1,2,[97,98,99],true,false⟩
def threeI:Im:=⟨[116],[],[threeS1,threeS2],[],[],0⟩
theorem check_three:checkIm threeI=0:=by
 have h1:nmsB threeI=true:=by decide +kernel
 have h2:cntB threeI=true:=by decide +kernel
 have h3:sgsB threeI=true:=by decide +kernel
 have h4:aptB threeI=true:=by
  refine pB_true ⟨fun j a b h1 h2=>?_,?_,?_⟩
  ·match j with
   |0=>
    simp [threeI] at h1 h2
    subst h1 h2
    decide
   |j + 1=>simp [threeI] at h2
  ·rintro ⟨i,j,x,_,h,_⟩;simp [threeI] at h
  ·rintro ⟨i,j,x,_,h,_⟩;simp [threeI] at h
 have h5:plcB threeI=true:=by
  refine pB_true ⟨?_,?_,?_,?_,?_⟩
  ·intro s hs;simp [threeI] at hs
  ·intro k r h;simp [threeI] at h
  ·intro k q r h;simp [threeI] at h
  ·exact ⟨threeS1,by decide +kernel,rfl⟩
  ·decide
 unfold checkIm
 simp [h1,h2,h3,h4,h5]
theorem three_B:ImB threeI:=⟨by decide,by decide,by decide,by decide⟩
theorem three_D:ImD threeI:=by intro s hs;simp [threeI] at hs;rcases hs with rfl|rfl <;> decide
def threeO (vs:Value) (a:Int):Ob:=⟨threeI,.slice none 0 0,vs,.slice none 0 0,.slice none 0 0,a⟩
theorem find_three (vs:Value) (a:Int):([threeO vs a]:List Ob).find? (fun o=>!decide (checkIm o.im=0))=none:=by
 rw [List.find?_eq_none]
 intro x hx
 simp only [List.mem_singleton] at hx
 subst hx
 unfold threeO
 rw [check_three]
 decide
theorem all_three (vs:Value):allP [threeO vs 0] 8 0 (plStep ([],1) (threeO vs 0))=some ([threeO vs 16],4):=rfl
theorem link_three (vs:Value):linkC (threeO vs 0) []=0:=by
 unfold linkC
 rw [if_neg (by decide),find_three]
 dsimp only
 rw [if_pos (by simp),all_three]
 rfl
def threeL:List Sh:=shO [(threeI,16)] threeI 1
def threeA:List Ar:=([rawA 1 threeS1,rawA 1 threeS2]).foldl joinStep []
set_option maxRecDepth 100000 in
set_option maxHeartbeats 8000000 in
theorem three_fn (w:World):Fn Try.prog 16 [] w (fun v w'=>∃ va vs N,v=lkA va vs 16∧shs N=threeL∧Sl nF w' 4 va (threeA.map arC)∧ShsV w' N vs∧St nF w w' []):=by
 have hlk:=fun (w1:World) (vs:Value) (h:ImV w1 threeI (.slice none 0 0) vs (.slice none 0 0) (.slice none 0 0))=>Link_fn (M:=threeO vs 0) (Lb:=[]) (vl:=.slice none 0 0) h (Sl.nil0 w1 6) (by simp) (by
  intro o ho
  simp only [List.mem_singleton] at ho
  subst ho
  exact ⟨three_B,three_D⟩)
 refine yEn Try.func16 Try.ntmps16 ?_
 have hS:=St.start w
 repeat' (first|refine yO ?_|(refine yM ?_;clear hS;intro g w' hS)|(refine yC ?_;refine ⟨_,InstrBytes_fn 12 0 0 0 0 _,?_⟩;clear hS;intro w' hS))
 refine l_call rfl rfl (hlk _ (.slice (some ⟨g,0,none⟩) 2 2) ⟨Sl.nil0 _ 1,hS.rowSl 0 rfl,Sl.nil0 _ 2,Sl.nil0 _ 3⟩) rfl ?_
 rintro v w2 (⟨h1,-,-⟩|⟨-,s,va,vh,N,h1,h2,rfl,h4⟩)
 ·exact absurd (link_three _) h1
 rw [all_three] at h1
 cases h1
 have e1:shs N=threeL:=h2.trans (Eq.trans (by rfl) (List.append_nil _))
 have e2:linkAr [threeO (.slice (some ⟨g,0,none⟩) 2 2) 16]=threeA:=rfl
 rw [show linkAr ([threeO (.slice (some ⟨g,0,none⟩) 2 2) 16],(4:Int)).1=threeA from e2] at h4
 obtain ⟨pa,ca,rfl⟩:∃ p c,va=.slice p threeA.length c:=by
  have:=h4.rowSlice 0 rfl
  rwa [List.length_map] at this
 obtain ⟨ph,ch,rfl⟩:∃ p c,vh=.slice p N.length c:=by
  have:=h4.rowSlice 1 rfl
  rwa [List.length_map] at this
 replace hS:=(hS.trans h4).perm List.perm_append_comm
 dsimp only [List.cons_append,List.nil_append] at hS
 clear h4 hlk
 repeat' (first|refine yO ?_|(refine yM ?_;clear hS;intro g w' hS)|(refine yN ?_;clear hS;intro w' hS))
 refine yR1 ?_
 exact ⟨_,_,N,rfl,e1,hS.rowSl 3 rfl,⟨hS.rowSl 4 rfl,fun p hp=>hS.slMem (e:=100) (List.mem_cons_of_mem _ (List.mem_cons_of_mem _ (List.mem_cons_of_mem _ (List.mem_cons_of_mem _ (List.mem_cons_of_mem _ (List.mem_map.2 ⟨p,hp,rfl⟩))))))⟩,hS.sub (List.nil_sublist _)⟩
def begK1:Ker:=newK threeA threeL 16 3 8
def begK2:Ker:=storeK begK1 0 46 [119,120,121,122]
def begK3:Ker:=forkR begK2 0
def begK4:Ker:=storeK begK3 1 32 [113]
theorem kbeg1:newE threeA threeL 16 3 8=0:=by decide +kernel
theorem kbeg2:reachE begK1 0 (4:Nat) 1=0∧reachF begK1 0 46 (4:Nat) 1=(0,0):=by decide +kernel
theorem kbeg3:forkE begK2 0=0∧forkN begK2 0=1:=by decide +kernel
theorem kbeg4:reachE begK3 1 (1:Nat) 1=0∧reachF begK3 1 32 (1:Nat) 1=(0,0):=by decide +kernel
theorem kbeg5:loadE begK4 0 2 0=0∧loadF begK4 0 32 2 0=(0,0)∧loadD begK4 0 32 2 0=[97,98]:=by decide +kernel
theorem kbeg6:peekE begK4 1 2=0∧peekD begK4 1 2=[113,98,99,0,0,0,0,0,0,0,0,0,0,0,119,120]:=by decide +kernel
theorem kbeg7:begK1.frames.length=3∧begK2.frames.length=3∧begK3.frames.length=3∧begK4.frames.length=3:=by decide +kernel
theorem Came.own {w w':World} {k:KV} (h:Came w w' k) {n:Nat} (hn:k.K.frames.length=n + 1):St nF w w' (ownK k):=by
 rcases h with ⟨rfl,-⟩|h
 ·cases hn
 ·exact h
end Go.Proofs.Ytejnpppejalhfac
/- kernelBegun. -/
namespace Go.Proofs.Ytejnpppejalhfac
open Go.RowKit Go.Sort
theorem eqFl (a b c d:Int):EqIs Try.prog 65 [.int .i64 a,.int .i64 b] [.int .i64 c,.int .i64 d] (decide (a=c∧b=d)):=by
 refine ⟨fun w=>?_,by kernel_rfl⟩
 simp [go_sem]
 repeat' split
 all_goals simp_all
set_option maxRecDepth 100000 in
set_option maxHeartbeats 8000000 in
theorem kernelBegun_fn (w:World):Fn Try.prog 6 [] w (RBf (.bool true) w):=by
 refine yEn Try.func6 Try.ntmps6 ?_
 have hS:=St.start w
 repeat' ((refine yO ?_))
 refine l_call rfl rfl (three_fn _) rfl ?_
 rintro _ w2 ⟨va,vs,N,rfl,hN,hA,hL,hS'⟩
 replace hS:=hS.transA hS'
 simp only [appA] at hS
 clear hS'
 repeat' (fail)
 refine l_call rfl rfl (New_fn hA hL (by omega) (by omega) (frames:=3) (slots:=8)) rfl ?_
 rintro _ w3 ⟨k1,rfl,hk1,hc⟩
 rw [hN,kbeg1]
 rw [hN] at hk1
 replace hk1:k1.K=begK1:=hk1
 have hO:=hc.own (n:=2) (by rw [hk1];exact kbeg7.1)
 replace hS:=(hS.trans hO).perm List.perm_append_comm
 dsimp only [List.cons_append,List.nil_append] at hS
 have hV:KerV _ k1:=KerV.own (Γ:=[]) (by rw [List.append_nil];exact hO)
 clear hc hO
 obtain ⟨sh,fr,sl,sps,hand,vsh,vfr,vsl,vsp⟩:=k1
 obtain ⟨hV1,hV2,hV3,hV4,hV5⟩:=hV
 dsimp only at hV1 hV2 hV3 hV4 hV5
 obtain ⟨u1,t1,rfl⟩:=hV1.sl.len
 obtain ⟨u2,t2,rfl⟩:=hV2.len
 obtain ⟨u3,t3,rfl⟩:=hV3.len
 obtain ⟨u4,t4,rfl⟩:=hV4.len
 clear hV1 hV2 hV3 hV4 hV5
 repeat' (first|refine yO ?_|(refine yM ?_;clear hS;intro g w' hS)|(refine yN ?_;clear hS;intro w' hS))
 have hst:=Store_fn (KerV.own (hS.perm (List.perm_append_comm (l₁:=[_])))) (space:=0) (addr:=46) (s:=[119,120,121,122]) (by omega) (by omega)
 rw [hk1,show ((([119,120,121,122]:List UInt8).length:Nat):Int)=((4:Nat):Int) from rfl,kbeg2.1,kbeg2.2] at hst
 refine l_call rfl rfl hst rfl ?_
 clear hst
 rintro _ w4 ⟨k2,rfl,hk2,hc⟩
 replace hk2:k2.K=begK2:=hk2
 replace hS:=hS.sub (.cons_cons _ (List.nil_sublist _))
 have hO:=hc.own (n:=2) (by rw [hk2];exact kbeg7.2.1)
 replace hS:=(hS.trans hO).perm List.perm_append_comm
 dsimp only [List.cons_append,List.nil_append] at hS
 have hV:KerV _ k2:=KerV.own (Γ:=[]) (by rw [List.append_nil];exact hO)
 clear hc hO
 obtain ⟨sh,fr,sl,sps,hand,vsh,vfr,vsl,vsp⟩:=k2
 obtain ⟨hV1,hV2,hV3,hV4,hV5⟩:=hV
 dsimp only at hV1 hV2 hV3 hV4 hV5
 obtain ⟨u1,t1,rfl⟩:=hV1.sl.len
 obtain ⟨u2,t2,rfl⟩:=hV2.len
 obtain ⟨u3,t3,rfl⟩:=hV3.len
 obtain ⟨u4,t4,rfl⟩:=hV4.len
 clear hV1 hV2 hV3 hV4 hV5
 repeat' (first|refine yO ?_|(refine yM ?_;clear hS;intro g w' hS)|(refine yN ?_;clear hS;intro w' hS))
 have hst:=Fork_fn (KerV.own (hS.perm (List.perm_append_comm (l₁:=[_,_])))) 0
 rw [hk2,kbeg3.1,kbeg3.2] at hst
 refine l_call rfl rfl hst rfl ?_
 clear hst
 rintro _ w5 ⟨k3,rfl,hk3,hc⟩
 replace hk3:k3.K=begK3:=hk3
 replace hS:=hS.sub (.cons_cons _ (.cons_cons _ (List.nil_sublist _)))
 have hO:=hc.own (n:=2) (by rw [hk3];exact kbeg7.2.2.1)
 replace hS:=(hS.trans hO).perm List.perm_append_comm
 dsimp only [List.cons_append,List.nil_append] at hS
 have hV:KerV _ k3:=KerV.own (Γ:=[]) (by rw [List.append_nil];exact hO)
 clear hc hO
 obtain ⟨sh,fr,sl,sps,hand,vsh,vfr,vsl,vsp⟩:=k3
 obtain ⟨hV1,hV2,hV3,hV4,hV5⟩:=hV
 dsimp only at hV1 hV2 hV3 hV4 hV5
 obtain ⟨u1,t1,rfl⟩:=hV1.sl.len
 obtain ⟨u2,t2,rfl⟩:=hV2.len
 obtain ⟨u3,t3,rfl⟩:=hV3.len
 obtain ⟨u4,t4,rfl⟩:=hV4.len
 clear hV1 hV2 hV3 hV4 hV5
 repeat' (first|refine yO ?_|(refine yN ?_;clear hS;intro w' hS))
 have hst:=Store_fn (KerV.own (hS.perm (List.perm_append_comm (l₁:=[_,_])))) (space:=1) (addr:=32) (s:=[113]) (by omega) (by omega)
 rw [hk3,show ((([113]:List UInt8).length:Nat):Int)=((1:Nat):Int) from rfl,kbeg4.1,kbeg4.2] at hst
 refine l_call rfl rfl hst rfl ?_
 clear hst
 rintro _ w6 ⟨k4,rfl,hk4,hc⟩
 replace hk4:k4.K=begK4:=hk4
 replace hS:=hS.sub (.cons_cons _ (.cons_cons _ (List.nil_sublist _)))
 have hO:=hc.own (n:=2) (by rw [hk4];exact kbeg7.2.2.2)
 replace hS:=(hS.trans hO).perm List.perm_append_comm
 dsimp only [List.cons_append,List.nil_append] at hS
 have hV:KerV _ k4:=KerV.own (Γ:=[]) (by rw [List.append_nil];exact hO)
 clear hc hO
 obtain ⟨sh,fr,sl,sps,hand,vsh,vfr,vsl,vsp⟩:=k4
 obtain ⟨hV1,hV2,hV3,hV4,hV5⟩:=hV
 dsimp only at hV1 hV2 hV3 hV4 hV5
 obtain ⟨u1,t1,rfl⟩:=hV1.sl.len
 obtain ⟨u2,t2,rfl⟩:=hV2.len
 obtain ⟨u3,t3,rfl⟩:=hV3.len
 obtain ⟨u4,t4,rfl⟩:=hV4.len
 clear hV1 hV2 hV3 hV4 hV5
 repeat' (first|refine yO ?_|(refine yM ?_;clear hS;intro g w' hS)|(refine yN ?_;clear hS;intro w' hS))
 have hst:=Load_fn (KerV.own (hS.perm (List.perm_append_comm (l₁:=[_,_,_])))) (space:=0) (addr:=32) (size:=2) (way:=0) (by omega) (by omega)
 rw [hk4,kbeg5.1,kbeg5.2.1,kbeg5.2.2] at hst
 refine l_call rfl rfl hst rfl ?_
 clear hst
 rintro _ w7 ⟨k5,rfl,hk5,hc⟩
 have hV:=hc.V
 replace hS:=hS.trans hc.st
 clear hc hk5
 simp only [List.nil_append] at hS
 obtain ⟨sh5,fr5,sl5,sps5,hand5,vsh5,vfr5,vsl5,vsp5⟩:=k5
 obtain ⟨hV1,hV2,hV3,hV4,hV5⟩:=hV
 dsimp only at hV1 hV2 hV3 hV4 hV5
 obtain ⟨x1,y1,rfl⟩:=hV1.sl.len
 obtain ⟨x2,y2,rfl⟩:=hV2.len
 obtain ⟨x3,y3,rfl⟩:=hV3.len
 obtain ⟨x4,y4,rfl⟩:=hV4.len
 clear hV1 hV2 hV3 hV4 hV5
 repeat' (first|refine yO ?_|(refine yM ?_;clear hS;intro g w' hS)|(refine yN ?_;clear hS;intro w' hS))
 have hst:=Peek_fn (KerV.own (hS.perm (List.perm_append_comm (l₁:=[_,_,_,_,_])))) 1 2
 rw [hk4,kbeg6.1,kbeg6.2] at hst
 repeat' (first|refine yO ?_|(refine yC ?_;refine ⟨_,hst,?_⟩;clear hS;intro w' hS)|refine yX (eqFl 0 0 0 0) ?_|((with_reducible apply l_strTo tabOk);(iterate 3 exact rfl);omega;decide;exact rfl)|((with_reducible apply l_strFrom tabOk);(iterate 3 exact rfl);omega;decide;exact rfl))
 refine yR1 ?_
 exact ⟨rfl,hS.sub (List.nil_sublist _)⟩
end Go.Proofs.Ytejnpppejalhfac
/- What Peek tells of kernels alike; what comes of Reach and Store. -/
namespace Go.Proofs.Ytejnpppejalhfac
open Go.RowKit Go.Sort
end Go.Proofs.Ytejnpppejalhfac
/- What was stored is loaded; all else is as it was. -/
namespace Go.Proofs.Ytejnpppejalhfac
open Go.RowKit Go.Sort
end Go.Proofs.Ytejnpppejalhfac
/- An entry let go: what comes is right; what each other page tells. -/
namespace Go.Proofs.Ytejnpppejalhfac
open Go.RowKit Go.Sort
structure RmOk (K K':Ker) (sp:Nat) (page:Int):Prop where
 right:Right K'
 sheets:K'.sheets=K.sheets
 nfr:K'.frames.length=K.frames.length
 nsl:K'.slots.length=K.slots.length
 nsp:K'.spaces.length=K.spaces.length
 ar:∀ i,areasOf K' i=areasOf K i
 live:∀ i,(scAt K' i).live=(scAt K i).live
 peek:∀ i p,¬(i=sp∧p=page)→peekK K' i p=peekK K i p
theorem rises_drop {A B:List En} {e:En} (h:Rises (pagesE (A++e::B))):Rises (pagesE (A++B))∧∀ x ∈ A++B,x.page≠e.page:=by
 unfold pagesE at h ⊢
 rw [List.map_append,List.map_cons] at h
 rw [List.map_append]
 unfold Rises at h ⊢
 rw [List.pairwise_append,List.pairwise_cons] at h
 obtain ⟨h1,⟨h2,h3⟩,h4⟩:=h
 refine ⟨List.pairwise_append.2 ⟨h1,h3,fun a ha b hb=>h4 a ha b (List.mem_cons_of_mem _ hb)⟩,fun x hx=>?_⟩
 rcases List.mem_append.1 hx with hx|hx
 ·have:=h4 x.page (List.mem_map.2 ⟨x,hx,rfl⟩) e.page List.mem_cons_self
  omega
 ·have:=h2 x.page (List.mem_map.2 ⟨x,hx,rfl⟩)
  omega
theorem entAt_drop {A B:List En} {e:En} {p:Int} (hp:p≠e.page):entAt (A++B) p=entAt (A++e::B) p:=by
 unfold entAt
 rw [List.find?_append,List.find?_append,List.find?_cons,decide_eq_false (fun h=>hp h.symm)]
theorem letK_fm {K:Ker} {e:En} {b:Nat} (hb:e.at_=(b:Nat)) (hl:e.kind=1→b < K.frames.length) (i:Nat):fmAt (letK K e).frames i=if e.kind=1∧b=i then decFm (fmAt K.frames i) else fmAt K.frames i:=by
 unfold letK
 by_cases hk:e.kind=1
 ·rw [if_pos hk]
  show fmAt (K.frames.set e.at_.toNat (decFm (fmAt K.frames e.at_.toNat))) i=_
  rw [hb,Int.toNat_natCast,fmAt_set]
  by_cases e2:b=i
  ·subst e2
   rw [if_pos ⟨rfl,hl hk⟩,if_pos ⟨hk,rfl⟩]
  ·rw [if_neg (fun h=>e2 h.1),if_neg (fun h=>e2 h.2)]
 ·rw [if_neg hk,if_neg (fun h=>hk h.1)]
theorem letK_sw {K:Ker} {e:En} {b:Nat} (hb:e.at_=(b:Nat)) (hl:e.kind≠1→b < K.slots.length) (i:Nat):swAt (letK K e).slots i=if e.kind≠1∧b=i then decSw (swAt K.slots i) else swAt K.slots i:=by
 unfold letK
 by_cases hk:e.kind=1
 ·rw [if_pos hk,if_neg (fun h=>h.1 hk)]
 ·rw [if_neg hk]
  show swAt (K.slots.set e.at_.toNat (decSw (swAt K.slots e.at_.toNat))) i=_
  rw [hb,Int.toNat_natCast,swAt_set]
  by_cases e2:b=i
  ·subst e2
   rw [if_pos ⟨rfl,hl hk⟩,if_pos ⟨hk,rfl⟩]
  ·rw [if_neg (fun h=>e2 h.1),if_neg (fun h=>e2 h.2)]
theorem letK_len (K:Ker) (e:En):(letK K e).frames.length=K.frames.length∧(letK K e).slots.length=K.slots.length∧(letK K e).sheets=K.sheets∧(letK K e).spaces=K.spaces∧(letK K e).hand=K.hand:=by
 unfold letK
 split
 ·exact ⟨List.length_set,rfl,rfl,rfl,rfl⟩
 ·exact ⟨rfl,List.length_set,rfl,rfl,rfl⟩
def rmK (K:Ker) (sp:Nat) (s':Sc) (e:En):Ker:=⟨K.sheets,(letK K e).frames,(letK K e).slots,K.spaces.set sp s',K.hand⟩
theorem rm_ok {K:Ker} {sp:Nat} {s:Sc} {A B:List En} {e:En} (h:Right K) (hs:K.spaces[sp]?=some s) (hE:s.entries=A++e::B):RmOk K (rmK K sp ⟨s.live,s.areas,A++B⟩ e) sp e.page:=by
 have hsc:=scOk_iff.1 (h.spaces s (List.mem_of_getElem? hs))
 have hse:=scAt_eq hs
 obtain ⟨s',hs'⟩:∃ s':Sc,s'=⟨s.live,s.areas,A++B⟩:=⟨_,rfl⟩
 rw [← hs']
 have hrs:=hsc.rises
 rw [hE] at hrs
 obtain ⟨hr1,hr2⟩:=rises_drop hrs
 have heM:e ∈ s.entries:=by rw [hE];exact List.mem_append_right _ List.mem_cons_self
 have hin:=(h.ent hs heM).2
 obtain ⟨b,hb,hb1,hb2,hk12⟩:∃ b:Nat,e.at_=(b:Nat)∧(e.kind=1→b < K.frames.length)∧(e.kind≠1→b < K.slots.length)∧(e.kind=1∨e.kind=2):=by
  rcases hin with ⟨k,b,hb,hl⟩|⟨k,b,hb,hl⟩
  ·exact ⟨b,hb,fun _=>hl,fun h=>absurd k h,Or.inl k⟩
  ·exact ⟨b,hb,fun h=>by omega,fun _=>hl,Or.inr k⟩
 obtain ⟨M,hMd⟩:∃ M:Int→Int→List Nm,M=fun k a=>nmL s k a (A++B)++namers (K.spaces.eraseIdx sp) k a:=⟨_,rfl⟩
 have hM:∀ k a,(namers K.spaces k a).Perm (nmL s k a [e]++M k a):=fun k a=>by
  refine (namers_set (s':=s') hs k a).2.trans ?_
  rw [hMd]
  dsimp only
  rw [← List.append_assoc,← nmL_app]
  refine List.Perm.append_right _ (nmL_perm ?_)
  rw [hE]
  exact List.perm_middle
 have hM':∀ k a,(namers (K.spaces.set sp s') k a).Perm (M k a):=fun k a=>by
  refine (namers_set (s':=s') hs k a).1.trans ?_
  rw [hMd]
  have:nm1 s' k a=nmL s k a (A++B):=by rw [hs'];rfl
  rw [this]
 have hscs:∀ i,scAt (rmK K sp s' e) i=if i=sp then s' else scAt K i:=fun i=>by
  unfold scAt rmK
  show ((K.spaces.set sp s')[i]?).getD sc0=_
  rw [List.getElem?_set]
  by_cases e:sp=i
  ·subst e;rw [if_pos rfl,if_pos (lt_of_getE hs),if_pos rfl];rfl
  ·rw [if_neg e,if_neg (fun hh=>e hh.symm)]
 have har:∀ i,areasOf (rmK K sp s' e) i=areasOf K i:=fun i=>by
  unfold areasOf
  rw [hscs]
  by_cases e:i=sp
  ·subst e;rw [if_pos rfl,hse,hs']
  ·rw [if_neg e]
 have hlv:∀ i,(scAt (rmK K sp s' e) i).live=(scAt K i).live:=fun i=>by
  rw [hscs]
  by_cases e:i=sp
  ·subst e;rw [if_pos rfl,hse,hs']
  ·rw [if_neg e]
 have hen:∀ i p,¬(i=sp∧p=e.page)→entAt (entsOf (rmK K sp s' e) i) p=entAt (entsOf K i) p:=fun i p hno=>by
  unfold entsOf
  rw [hscs]
  by_cases e2:i=sp
  ·subst e2
   rw [if_pos rfl,hse,hs',hE]
   exact entAt_drop (fun h=>hno ⟨rfl,h⟩)
  ·rw [if_neg e2]
 have hfr:∀ i,fmAt (rmK K sp s' e).frames i=if e.kind=1∧b=i then decFm (fmAt K.frames i) else fmAt K.frames i:=letK_fm hb hb1
 have hsl:∀ i,swAt (rmK K sp s' e).slots i=if e.kind≠1∧b=i then decSw (swAt K.slots i) else swAt K.slots i:=letK_sw hb hb2
 obtain ⟨hlf,hls,-,-,-⟩:=letK_len K e
 have hN1:∀ i:Nat,e.kind=1∧b=i→(namers K.spaces 1 (i:Nat)).Perm (nmOf s e::M 1 (i:Nat)):=fun i ⟨h1,h2⟩=>by
  refine (hM 1 (i:Nat)).trans ?_
  rw [nmL_hit [] ⟨h1,by rw [hb,h2]⟩]
  exact List.Perm.refl _
 have hN2:∀ i:Nat,e.kind≠1∧b=i→(namers K.spaces 2 (i:Nat)).Perm (nmOf s e::M 2 (i:Nat)):=fun i ⟨h1,h2⟩=>by
  refine (hM 2 (i:Nat)).trans ?_
  rw [nmL_hit [] ⟨by omega,by rw [hb,h2]⟩]
  exact List.Perm.refl _
 have hNo:∀ (k:Int) (i:Nat),¬(e.kind=k∧b=i)→(namers K.spaces k (i:Nat)).Perm (M k (i:Nat)):=fun k i hno=>by
  refine (hM k (i:Nat)).trans ?_
  rw [nmL_miss [] (fun hh=>hno ⟨hh.1,by have:=hh.2;rw [hb] at this;omega⟩)]
  exact List.Perm.refl _
 have hdata:∀ (x:En),(x.kind=1∨x.kind=2)→(∃ c:Nat,x.at_=(c:Nat)∧(x.kind=1→c < K.frames.length)∧(x.kind=2→c < K.slots.length))→M x.kind x.at_≠[]→dataE (rmK K sp s' e) x=dataE K x:=by
  rintro x hk ⟨c,hc,hc1,hc2⟩ hne
  unfold dataE
  rcases hk with hk|hk
  ·rw [if_pos hk,if_pos hk,hc,Int.toNat_natCast,hfr]
   rw [hk,hc] at hne
   by_cases hw:e.kind=1∧b=c
   ·rw [if_pos hw]
    have hbo:=(h.fr c _ (List.getElem?_eq_getElem (hc1 hk))).perm (hN1 c hw)
    rw [fmAt_eq (List.getElem?_eq_getElem (hc1 hk))]
    cases hMb:M 1 (c:Nat) with
    |nil=>exact absurd hMb hne
    |cons m N=>
     rw [hMb] at hbo
     exact dec_data hbo
   ·rw [if_neg hw]
  ·rw [if_neg (by omega),if_neg (by omega),hc,Int.toNat_natCast,hsl]
   rw [hk,hc] at hne
   by_cases hw:e.kind≠1∧b=c
   ·rw [if_pos hw]
    have hbo:=(h.sl c _ (List.getElem?_eq_getElem (hc2 hk))).perm (hN2 c hw)
    rw [swAt_eq (List.getElem?_eq_getElem (hc2 hk))]
    cases hMb:M 2 (c:Nat) with
    |nil=>exact absurd hMb hne
    |cons m N=>
     rw [hMb] at hbo
     exact decS_data hbo
   ·rw [if_neg hw]
 have hcnt:=h.cnt
 have hhand:=h.hand
 refine ⟨⟨?_,h.rise,?_,fun x hx=>?_,?_,fun i g hg=>?_,fun i g hg=>?_⟩,rfl,hlf,hls,List.length_set,har,hlv,fun i p hno=>?_⟩
 ·show 3≤(letK K e).frames.length∧(letK K e).frames.length≤64∧(letK K e).slots.length≤512∧1≤(K.spaces.set sp s').length∧(K.spaces.set sp s').length≤4∧K.sheets.length≤255
  rw [hlf,hls,List.length_set]
  exact hcnt
 ·show 0≤K.hand∧K.hand < ((letK K e).frames.length:Int)
  rw [hlf]
  exact hhand
 ·show spaceB K.sheets (letK K e).frames.length (letK K e).slots.length x=true
  rw [hlf,hls]
  have hx:x ∈ K.spaces.set sp s':=hx
  rcases List.mem_or_eq_of_mem_set hx with hx|rfl
  ·exact h.spaces x hx
  ·rw [scOk_iff,hs']
   refine ⟨fun hl=>?_,hsc.ar,hsc.pages,fun x hx=>?_,hr1⟩
   ·have:=(hsc.dead hl).2
    rw [hE] at this
    simp at this
   ·refine hsc.ents x ?_
    rw [hE]
    rcases List.mem_append.1 hx with hx|hx
    ·exact List.mem_append_left _ hx
    ·exact List.mem_append_right _ (List.mem_cons_of_mem _ hx)
 ·show roomI (K.spaces.set sp s')≤((letK K e).slots.length:Int)
  rw [hls]
  have:roomI (K.spaces.set sp s')=roomI K.spaces:=by
   unfold roomI
   rw [List.map_set,hs']
   congr 1
   refine List.ext_getElem? fun j=>?_
   rw [List.getElem?_set]
   by_cases e:sp=j
   ·subst e
    rw [if_pos rfl,List.length_map,if_pos (lt_of_getE hs),List.getElem?_map,hs]
    rfl
   ·rw [if_neg e]
  rw [this]
  exact h.room
 ·have hg:(letK K e).frames[i]?=some g:=hg
  have hil:i < K.frames.length:=by have:=lt_of_getE hg;omega
  have hgi:=List.getElem?_eq_getElem hil
  have hge:=hfr i
  rw [show fmAt (rmK K sp s' e).frames i=g from fmAt_eq hg,fmAt_eq hgi] at hge
  show FmOk K.sheets g (namers (K.spaces.set sp s') 1 (i:Nat))
  by_cases hw:e.kind=1∧b=i
  ·rw [if_pos hw] at hge
   rw [hge]
   exact ((h.fr i _ hgi).perm (hN1 i hw)).dec.perm (hM' 1 i).symm
  ·rw [if_neg hw] at hge
   rw [hge]
   exact (h.fr i _ hgi).perm ((hNo 1 i hw).trans (hM' 1 i).symm)
 ·have hg:(letK K e).slots[i]?=some g:=hg
  have hil:i < K.slots.length:=by have:=lt_of_getE hg;omega
  have hgi:=List.getElem?_eq_getElem hil
  have hge:=hsl i
  rw [show swAt (rmK K sp s' e).slots i=g from swAt_eq hg,swAt_eq hgi] at hge
  show SwOk g (namers (K.spaces.set sp s') 2 (i:Nat))
  by_cases hw:e.kind≠1∧b=i
  ·rw [if_pos hw] at hge
   rw [hge]
   exact ((h.sl i _ hgi).perm (hN2 i hw)).dec.perm (hM' 2 i).symm
  ·rw [if_neg hw] at hge
   rw [hge]
   exact (h.sl i _ hgi).perm ((hNo 2 i (fun hh=>hw ⟨by omega,hh.2⟩)).trans (hM' 2 i).symm)
 ·unfold peekK
  rw [hen i p hno]
  cases hx:entAt (entsOf K i) p with
  |none=>exact fillAt_same (hs:=by exact rfl) (ha:=har i) p
  |some x=>
   show dataE _ x=dataE K x
   obtain ⟨hx1,hx2⟩:=entAt_mem hx
   cases hi:K.spaces[i]? with
   |none=>unfold entsOf at hx1;rw [scAt_none hi] at hx1;cases hx1
   |some t=>
    unfold entsOf at hx1
    rw [scAt_eq hi] at hx1
    have hin:=(h.ent hi hx1).2
    have hk:x.kind=1∨x.kind=2:=by rcases hin with ⟨a,-⟩|⟨a,-⟩ <;> omega
    refine hdata x hk ?_ ?_
    ·rcases hin with ⟨a,b,c,d⟩|⟨a,b,c,d⟩
     ·exact ⟨b,c,fun _=>d,fun hh=>by omega⟩
     ·exact ⟨b,c,fun hh=>by omega,fun _=>d⟩
    ·rw [hMd]
     intro hnil
     obtain ⟨h1,h2⟩:=List.append_eq_nil_iff.1 hnil
     by_cases e2:i=sp
     ·subst e2
      rw [hs] at hi
      cases hi
      have hxR:x ∈ A++B:=by
       rw [hE] at hx1
       rcases List.mem_append.1 hx1 with h4|h4
       ·exact List.mem_append_left _ h4
       ·rcases List.mem_cons.1 h4 with rfl|h4
        ·exact absurd ⟨rfl,hx2.symm⟩ hno
        ·exact List.mem_append_right _ h4
      have:nmOf s x ∈ nmL s x.kind x.at_ (A++B):=List.mem_map.2 ⟨x,List.mem_filter.2 ⟨hxR,by simp⟩,rfl⟩
      rw [h1] at this
      cases this
     ·have hte:t ∈ K.spaces.eraseIdx sp:=List.mem_eraseIdx_iff_getElem?.2 ⟨i,e2,hi⟩
      have:nmOf t x ∈ namers (K.spaces.eraseIdx sp) x.kind x.at_:=by
       rw [namers_flat,List.mem_flatMap]
       exact ⟨t,hte,List.mem_map.2 ⟨x,List.mem_filter.2 ⟨hx1,by simp⟩,rfl⟩⟩
      rw [h2] at this
      cases this
end Go.Proofs.Ytejnpppejalhfac
/- Entries forgotten, a space dropped. -/
namespace Go.Proofs.Ytejnpppejalhfac
open Go.RowKit Go.Sort
def RefsOk (fr:List Fm) (sl:List Sw):Prop:=(∀ f ∈ fr,0≤f.refs∧f.refs≤100000)∧∀ f ∈ sl,0≤f.refs∧f.refs≤100000
structure FgOk (K K':Ker) (sp:Nat) (P:Int→Prop):Prop where
 right:Right K'
 sheets:K'.sheets=K.sheets
 nfr:K'.frames.length=K.frames.length
 nsl:K'.slots.length=K.slots.length
 nsp:K'.spaces.length=K.spaces.length
 ar:∀ i,areasOf K' i=areasOf K i
 live:∀ i,(scAt K' i).live=(scAt K i).live
 peek:∀ i p,¬(i=sp∧P p)→peekK K' i p=peekK K i p
theorem letK_cong {K1 K2:Ker} (h1:K1.frames=K2.frames) (h2:K1.slots=K2.slots) (e:En):(letK K1 e).frames=(letK K2 e).frames∧(letK K1 e).slots=(letK K2 e).slots:=by
 unfold letK
 split
 ·exact ⟨by dsimp only;rw [h1],h2⟩
 ·exact ⟨h1,by dsimp only;rw [h2]⟩
theorem fold_cong:∀ (l:List En) {K1 K2:Ker},K1.frames=K2.frames→K1.slots=K2.slots→(l.foldl letK K1).frames=(l.foldl letK K2).frames∧(l.foldl letK K1).slots=(l.foldl letK K2).slots
 |[],_,_,h1,h2=>⟨h1,h2⟩
 |e::l,_,_,h1,h2=>by
  obtain ⟨a,b⟩:=letK_cong h1 h2 e
  exact fold_cong l a b
def fgK (K:Ker) (sp:Nat) (s:Sc) (p:En→Bool) (D R:List En):Ker:=⟨K.sheets,((R.filter p).foldl letK K).frames,((R.filter p).foldl letK K).slots,K.spaces.set sp ⟨s.live,s.areas,D++R.filter fun e=>!p e⟩,K.hand⟩
theorem set_same {α:Type} {l:List α} {i:Nat} {x:α} (h:l[i]?=some x):l.set i x=l:=by
 refine List.ext_getElem? fun j=>?_
 rw [List.getElem?_set]
 by_cases e:i=j
 ·subst e;rw [if_pos rfl,if_pos (lt_of_getE h),h]
 ·rw [if_neg e]
theorem fg_ok (p:En→Bool) {sp:Nat}:∀ (R:List En) {K:Ker} {s:Sc} {D:List En},Right K→K.spaces[sp]?=some s→s.entries=D++R→FgOk K (fgK K sp s p D R) sp (fun q=>∃ e ∈ R,p e=true∧e.page=q)∧∀ j,RefsOk (((R.take j).filter p).foldl letK K).frames (((R.take j).filter p).foldl letK K).slots
 |[],K,s,D,h,hs,hE=>by
  have e:fgK K sp s p D []=K:=by
   unfold fgK
   have:(⟨s.live,s.areas,D++List.filter (fun e=>!p e) []⟩:Sc)=s:=by
    rw [List.filter_nil,← hE]
   rw [this,set_same hs]
   rfl
  rw [e]
  refine ⟨⟨h,rfl,rfl,rfl,rfl,fun _=>rfl,fun _=>rfl,fun _ _ _=>rfl⟩,fun j=>?_⟩
  rw [List.take_nil]
  exact refs_bd h
 |e::R,K,s,D,h,hs,hE=>by
  by_cases hp:p e=true
  ·have h1:=rm_ok h hs hE
   have hs1:(rmK K sp ⟨s.live,s.areas,D++R⟩ e).spaces[sp]?=some ⟨s.live,s.areas,D++R⟩:=by
    show (K.spaces.set sp _)[sp]?=_
    rw [List.getElem?_set,if_pos rfl,if_pos (lt_of_getE hs)]
   obtain ⟨h2,h3⟩:=fg_ok p R (s:=⟨s.live,s.areas,D++R⟩) (D:=D) h1.right hs1 rfl
   have hc:=fun l=>fold_cong l (K1:=rmK K sp ⟨s.live,s.areas,D++R⟩ e) (K2:=letK K e) rfl rfl
   have eK:fgK (rmK K sp ⟨s.live,s.areas,D++R⟩ e) sp ⟨s.live,s.areas,D++R⟩ p D R=fgK K sp s p D (e::R):=by
    unfold fgK
    rw [List.filter_cons_of_pos hp,List.filter_cons_of_neg (by simp [hp]),List.foldl_cons,(hc _).1,(hc _).2]
    show Ker.mk _ _ _ ((K.spaces.set sp _).set sp _) _=_
    rw [List.set_set]
    rfl
   rw [eK] at h2
   refine ⟨⟨h2.right,h2.sheets.trans h1.sheets,h2.nfr.trans h1.nfr,h2.nsl.trans h1.nsl,h2.nsp.trans h1.nsp,fun i=>(h2.ar i).trans (h1.ar i),fun i=>(h2.live i).trans (h1.live i),fun i q hno=>?_⟩,fun j=>?_⟩
   ·rw [h2.peek i q (fun hh=>hno ⟨hh.1,by obtain ⟨x,hx,h4⟩:=hh.2;exact ⟨x,List.mem_cons_of_mem _ hx,h4⟩⟩),h1.peek i q (fun hh=>hno ⟨hh.1,e,List.mem_cons_self,hp,hh.2.symm⟩)]
   ·cases j with
    |zero=>exact refs_bd h
    |succ j=>
     rw [List.take_succ_cons,List.filter_cons_of_pos hp,List.foldl_cons,← (hc _).1,← (hc _).2]
     exact h3 j
  ·have hp':p e=false:=by simpa using hp
   obtain ⟨h2,h3⟩:=fg_ok p R (D:=D++[e]) h hs (by rw [hE,List.append_assoc];rfl)
   have eK:fgK K sp s p (D++[e]) R=fgK K sp s p D (e::R):=by
    unfold fgK
    rw [List.filter_cons_of_neg hp,List.filter_cons_of_pos (by simp [hp']),List.append_assoc]
    rfl
   rw [eK] at h2
   refine ⟨⟨h2.right,h2.sheets,h2.nfr,h2.nsl,h2.nsp,h2.ar,h2.live,fun i q hno=>h2.peek i q (fun hh=>hno ⟨hh.1,by obtain ⟨x,hx,h4⟩:=hh.2;exact ⟨x,List.mem_cons_of_mem _ hx,h4⟩⟩)⟩,fun j=>?_⟩
   cases j with
   |zero=>exact refs_bd h
   |succ j=>
    rw [List.take_succ_cons,List.filter_cons_of_neg hp]
    exact h3 j
def forgetK (K:Ker) (sp:Nat) (p:En→Bool):Ker:=fgK K sp (scAt K sp) p [] (entsOf K sp)
def dropK (K:Ker) (sp:Nat):Ker:=setSc (forgetK K sp fun _=>true) sp sc0
theorem drop_ok {K:Ker} {sp:Nat} (h:Right K) (hsp:sp < K.spaces.length):Right (dropK K sp)∧(∀ i,scAt (dropK K sp) i=if i=sp then sc0 else scAt K i)∧(dropK K sp).spaces.length=K.spaces.length∧(dropK K sp).frames.length=K.frames.length∧(dropK K sp).slots.length=K.slots.length∧(∀ i,i≠sp→areasOf (dropK K sp) i=areasOf K i)∧∀ i p,i≠sp→peekK (dropK K sp) i p=peekK K i p:=by
 have hs:=List.getElem?_eq_getElem hsp
 obtain ⟨hf,-⟩:=fg_ok (fun _=>true) (entsOf K sp) (D:=[]) h hs (by unfold entsOf;rw [scAt_eq hs];rfl)
 obtain ⟨F,hF⟩:∃ F,F=forgetK K sp fun _=>true:=⟨_,rfl⟩
 have hF2:fgK K sp K.spaces[sp] (fun _=>true) [] (entsOf K sp)=F:=by rw [hF];unfold forgetK;rw [scAt_eq hs]
 rw [hF2] at hf
 have hFs:F.spaces[sp]?=some ⟨K.spaces[sp].live,K.spaces[sp].areas,[]⟩:=by
  rw [← hF2]
  show (K.spaces.set sp _)[sp]?=_
  rw [List.getElem?_set,if_pos rfl,if_pos hsp]
  simp
 unfold dropK
 rw [← hF]
 have hr:=hf.right
 have hnm:∀ k a,(namers (F.spaces.set sp sc0) k a).Perm (namers F.spaces k a):=fun k a=>by
  refine (namers_set (s':=sc0) hFs k a).1.trans ((namers_set (s':=sc0) hFs k a).2.trans ?_).symm
  exact List.Perm.refl _
 have hscF:∀ i,scAt (setSc F sp sc0) i=if i=sp then sc0 else scAt F i:=fun i=>by
  unfold scAt setSc
  show ((F.spaces.set sp sc0)[i]?).getD sc0=_
  rw [List.getElem?_set]
  by_cases e:sp=i
  ·subst e;rw [if_pos rfl,if_pos (lt_of_getE hFs),if_pos rfl];rfl
  ·rw [if_neg e,if_neg (fun hh=>e hh.symm)]
 have hscK:∀ i,i≠sp→scAt F i=scAt K i:=fun i hi=>by
  rw [← hF2]
  unfold scAt
  show ((K.spaces.set sp _)[i]?).getD sc0=_
  rw [List.getElem?_set,if_neg (fun hh=>hi hh.symm)]
 have hroom:roomI (F.spaces.set sp sc0)≤roomI F.spaces:=by
  have hnn:=(space_len (hr.spaces _ (List.mem_of_getElem? hFs))).2.1
  have e:∀ (l:List Sc) (i:Nat) (s:Sc),l[i]?=some s→roomI (l.set i sc0)=roomI l - sumN s.areas:=by
   intro l
   induction l with
   |nil=>intro i s h;simp at h
   |cons a l ih=>
    intro i s h
    cases i with
    |zero=>
     have:a=s:=by simpa using h
     subst this
     show roomI (sc0::l)=roomI (a::l) - sumN a.areas
     unfold roomI
     simp only [List.map_cons,List.sum_cons]
     have:sumN sc0.areas=0:=rfl
     omega
    |succ i=>
     have h2:=ih i s (by simpa using h)
     show roomI (a::l.set i sc0)=roomI (a::l) - sumN s.areas
     unfold roomI at h2 ⊢
     simp only [List.map_cons,List.sum_cons]
     omega
  rw [e _ _ _ hFs]
  omega
 refine ⟨⟨?_,hr.rise,hr.hand,fun x hx=>?_,Int.le_trans hroom hr.room,fun i f hi=>(hr.fr i f hi).perm (hnm 1 i).symm,fun i f hi=>(hr.sl i f hi).perm (hnm 2 i).symm⟩,fun i=>?_,?_,hf.nfr,hf.nsl,fun i hi=>?_,fun i q hi=>?_⟩
 ·show 3≤F.frames.length∧F.frames.length≤64∧F.slots.length≤512∧1≤(F.spaces.set sp sc0).length∧(F.spaces.set sp sc0).length≤4∧F.sheets.length≤255
  rw [List.length_set]
  exact hr.cnt
 ·rcases List.mem_or_eq_of_mem_set hx with hx|rfl
  ·exact hr.spaces x hx
  ·rw [scOk_iff]
   exact ⟨fun _=>⟨rfl,rfl⟩,rfl,rfl,(fun _ h=>by cases h),List.Pairwise.nil⟩
 ·rw [hscF]
  by_cases e:i=sp
  ·rw [if_pos e,if_pos e]
  ·rw [if_neg e,if_neg e,hscK i e]
 ·show (F.spaces.set sp sc0).length=_
  rw [List.length_set,hf.nsp]
 ·unfold areasOf
  rw [hscF,if_neg hi,hscK i hi]
 ·rw [← hf.peek i q (fun hh=>hi hh.1)]
  unfold peekK entsOf
  rw [hscF,if_neg hi]
  cases entAt (scAt F i).entries q with
  |none=>exact fillAt_same (hs:=by exact rfl) (ha:=by unfold areasOf;rw [hscF,if_neg hi]) q
  |some x=>rfl
end Go.Proofs.Ytejnpppejalhfac
/- A space forked. -/
namespace Go.Proofs.Ytejnpppejalhfac
open Go.RowKit Go.Sort
def cntE (k:Int) (i:Nat) (l:List En):Int:=(((l.filter fun e:En=>decide (e.kind=k∧e.at_=((i:Nat):Int))).length:Nat):Int)
theorem cntE_cons (k:Int) (i:Nat) (e:En) (l:List En):cntE k i (e::l)=(if e.kind=k∧e.at_=(i:Nat) then 1 else 0) + cntE k i l:=by
 unfold cntE
 rw [List.filter_cons]
 by_cases h:e.kind=k∧e.at_=(i:Nat)
 ·rw [if_pos (by simpa using h),if_pos h,List.length_cons];omega
 ·rw [if_neg (by simpa using h),if_neg h];omega
def EntIn (nf ns:Nat) (e:En):Prop:=(e.kind=1∧∃ j:Nat,e.at_=(j:Nat)∧j < nf)∨(e.kind=2∧∃ j:Nat,e.at_=(j:Nat)∧j < ns)
def addFm (f:Fm) (n:Int):Fm:=⟨f.data,f.refs + n,f.dirty,f.seen⟩
def addSw (f:Sw) (n:Int):Sw:=⟨f.data,f.refs + n⟩
theorem addFm_zero (f:Fm):addFm f 0=f:=by unfold addFm;rw [Int.add_zero]
theorem addSw_zero (f:Sw):addSw f 0=f:=by unfold addSw;rw [Int.add_zero]
structure IncOk (K K':Ker) (l:List En):Prop where
 sheets:K'.sheets=K.sheets
 spaces:K'.spaces=K.spaces
 hand:K'.hand=K.hand
 nfr:K'.frames.length=K.frames.length
 nsl:K'.slots.length=K.slots.length
 fr:∀ i,i < K.frames.length→fmAt K'.frames i=addFm (fmAt K.frames i) (cntE 1 i l)
 sl:∀ i,i < K.slots.length→swAt K'.slots i=addSw (swAt K.slots i) (cntE 2 i l)
theorem inc_fold:∀ (l:List En) {K:Ker},(∀ e ∈ l,EntIn K.frames.length K.slots.length e)→IncOk K (l.foldl incK K) l
 |[],K,_=>⟨rfl,rfl,rfl,rfl,rfl,fun i _=>(addFm_zero _).symm,fun i _=>(addSw_zero _).symm⟩
 |e::l,K,h=>by
  have hin:=h e List.mem_cons_self
  have hlen:(incK K e).frames.length=K.frames.length∧(incK K e).slots.length=K.slots.length∧(incK K e).sheets=K.sheets∧(incK K e).spaces=K.spaces∧(incK K e).hand=K.hand:=by
   unfold incK
   split
   ·exact ⟨List.length_set,rfl,rfl,rfl,rfl⟩
   ·exact ⟨rfl,List.length_set,rfl,rfl,rfl⟩
  obtain ⟨n1,n2,n3,n4,n5⟩:=hlen
  have ih:=inc_fold l (K:=incK K e) (fun x hx=>by rw [n1,n2];exact h x (List.mem_cons_of_mem _ hx))
  rw [List.foldl_cons]
  refine ⟨ih.sheets.trans n3,ih.spaces.trans n4,ih.hand.trans n5,ih.nfr.trans n1,ih.nsl.trans n2,fun i hi=>?_,fun i hi=>?_⟩
  ·rw [ih.fr i (by rw [n1];exact hi),cntE_cons]
   unfold incK
   rcases hin with ⟨hk,j,hj,hjl⟩|⟨hk,j,hj,hjl⟩
   ·rw [if_pos hk]
    dsimp only
    rw [hj,Int.toNat_natCast,fmAt_set]
    by_cases e2:j=i
    ·subst e2
     rw [if_pos ⟨rfl,hjl⟩,if_pos ⟨hk,rfl⟩]
     unfold addFm incFm
     dsimp only
     rw [Int.add_assoc]
    ·rw [if_neg (fun hh=>e2 hh.1),if_neg (fun hh=>e2 (by have:=hh.2;omega)),Int.zero_add]
   ·rw [if_neg (by omega),if_neg (fun hh=>by omega),Int.zero_add]
  ·rw [ih.sl i (by rw [n2];exact hi),cntE_cons]
   unfold incK
   rcases hin with ⟨hk,j,hj,hjl⟩|⟨hk,j,hj,hjl⟩
   ·rw [if_pos hk,if_neg (fun hh=>by omega),Int.zero_add]
   ·rw [if_neg (by omega)]
    dsimp only
    rw [hj,Int.toNat_natCast,swAt_set]
    by_cases e2:j=i
    ·subst e2
     rw [if_pos ⟨rfl,hjl⟩,if_pos ⟨hk,rfl⟩]
     unfold addSw incSw
     dsimp only
     rw [Int.add_assoc]
    ·rw [if_neg (fun hh=>e2 hh.1),if_neg (fun hh=>e2 (by have:=hh.2;omega)),Int.zero_add]
theorem nm1_len (s:Sc) (k:Int) (i:Nat):((nm1 s k (i:Nat)).length:Int)=cntE k i s.entries:=by unfold nm1 cntE;rw [List.length_map]
theorem namers_snoc (L:List Sc) (s:Sc) (k a:Int):namers (L++[s]) k a=namers L k a++nm1 s k a:=by
 rw [namers_flat,namers_flat,List.flatMap_append,List.flatMap_cons,List.flatMap_nil,List.append_nil]
theorem nm1_sub {L:List Sc} {s:Sc} (h:s ∈ L) (k a:Int):∀ n ∈ nm1 s k a,n ∈ namers L k a:=fun n hn=>by
 rw [namers_flat,List.mem_flatMap]
 exact ⟨s,h,hn⟩
theorem app_nil_of {α:Type} {N M:List α} (hs:∀ n ∈ M,n ∈ N) (h:N=[]):M=[]:=by
 cases M with
 |nil=>rfl
 |cons a l=>
  have:=hs a List.mem_cons_self
  rw [h] at this
  cases this
theorem FmOk.add {sh:List Sh} {f:Fm} {N M:List Nm} (h:FmOk sh f N) (hs:∀ n ∈ M,n ∈ N):FmOk sh (addFm f (M.length:Nat)) (N++M):=by
 have hm:∀ n ∈ N++M,n ∈ N:=fun n hn=>by
  rcases List.mem_append.1 hn with hn|hn
  ·exact hn
  ·exact hs n hn
 refine ⟨?_,fun hn=>?_,fun hn=>h.len (fun h0=>hn (by rw [h0,app_nil_of hs h0];rfl)),fun n hn m hm2=>h.same n (hm n hn) m (hm m hm2),fun n hn=>h.data n (hm n hn)⟩
 ·show f.refs + _=_
  rw [h.refs,List.length_append]
  omega
 ·obtain ⟨h1,h2⟩:=List.append_eq_nil_iff.1 hn
  rw [h2,h.nil h1]
  rfl
theorem SwOk.add {f:Sw} {N M:List Nm} (h:SwOk f N) (hs:∀ n ∈ M,n ∈ N):SwOk (addSw f (M.length:Nat)) (N++M):=by
 have hm:∀ n ∈ N++M,n ∈ N:=fun n hn=>by
  rcases List.mem_append.1 hn with hn|hn
  ·exact hn
  ·exact hs n hn
 refine ⟨?_,fun hn=>?_,fun hn=>h.len (fun h0=>hn (by rw [h0,app_nil_of hs h0];rfl)),fun n hn m hm2=>h.same n (hm n hn) m (hm m hm2)⟩
 ·show f.refs + _=_
  rw [h.refs,List.length_append]
  omega
 ·obtain ⟨h1,h2⟩:=List.append_eq_nil_iff.1 hn
  rw [h2,h.nil h1]
  rfl
structure ForkOk (K K':Ker) (sp:Nat):Prop where
 right:Right K'
 sheets:K'.sheets=K.sheets
 nfr:K'.frames.length=K.frames.length
 nsl:K'.slots.length=K.slots.length
 spaces:K'.spaces=K.spaces++[scAt K sp]
 old:∀ i p,i < K.spaces.length→peekK K' i p=peekK K i p
 new:∀ p,peekK K' K.spaces.length p=peekK K sp p
theorem fork_ok {K:Ker} {sp:Nat} {s:Sc} (h:Right K) (hs:K.spaces[sp]?=some s) (h4:K.spaces.length≠4) (hroom:roomI K.spaces + sumN s.areas≤K.slots.length):ForkOk K (forkK K sp) sp:=by
 have hse:=scAt_eq hs
 have hsm:=List.mem_of_getElem? hs
 have hent:entsOf K sp=s.entries:=by unfold entsOf;rw [hse]
 have hI:=inc_fold s.entries (K:=K) (fun e he=>(h.ent hs he).2)
 generalize hK1:s.entries.foldl incK K=K1 at hI
 have hF:forkK K sp=⟨K1.sheets,K1.frames,K1.slots,K1.spaces++[s],K1.hand⟩:=by unfold forkK;rw [hent,hK1,hse]
 rw [hF]
 obtain ⟨i1,i2,i3,i4,i5,i6,i7⟩:=hI
 have hdat:∀ t,t ∈ K.spaces→∀ x ∈ t.entries,dataE ⟨K1.sheets,K1.frames,K1.slots,K1.spaces++[s],K1.hand⟩ x=dataE K x:=fun t ht x hx=>by
  obtain ⟨i,hi⟩:=List.mem_iff_getElem?.1 ht
  have hin:=(h.ent hi hx).2
  unfold dataE
  rcases hin with ⟨hk,j,hj,hjl⟩|⟨hk,j,hj,hjl⟩
  ·rw [if_pos hk,if_pos hk,hj,Int.toNat_natCast]
   show (fmAt K1.frames j).data=_
   rw [i6 j hjl]
   rfl
  ·rw [if_neg (by omega),if_neg (by omega),hj,Int.toNat_natCast]
   show (swAt K1.slots j).data=_
   rw [i7 j hjl]
   rfl
 have hsc1:∀ i,i < K.spaces.length→scAt ⟨K1.sheets,K1.frames,K1.slots,K1.spaces++[s],K1.hand⟩ i=scAt K i:=fun i hi=>by
  unfold scAt
  show ((K1.spaces++[s])[i]?).getD sc0=_
  rw [i2,List.getElem?_append_left hi]
 have hsc2:scAt ⟨K1.sheets,K1.frames,K1.slots,K1.spaces++[s],K1.hand⟩ K.spaces.length=s:=by
  unfold scAt
  show ((K1.spaces++[s])[K.spaces.length]?).getD sc0=_
  rw [i2,List.getElem?_append_right (Nat.le_refl _),Nat.sub_self]
  rfl
 have hpk:∀ i i' p t,scAt ⟨K1.sheets,K1.frames,K1.slots,K1.spaces++[s],K1.hand⟩ i=t→scAt K i'=t→t ∈ K.spaces→peekK ⟨K1.sheets,K1.frames,K1.slots,K1.spaces++[s],K1.hand⟩ i p=peekK K i' p:=fun i i' p t e1 e2 ht=>by
  unfold peekK entsOf
  rw [e1,e2]
  cases hx:entAt t.entries p with
  |none=>
   show fillAt _ i p=fillAt K i' p
   unfold fillAt zAt areasOf
   rw [e1,e2]
   show (fillP K1.sheets _ _).getD []=_
   rw [i1]
  |some x=>exact hdat t ht x (entAt_mem hx).1
 refine ⟨⟨?_,?_,?_,fun x hx=>?_,?_,fun i f hf=>?_,fun i f hf=>?_⟩,i1,i4,i5,?_,fun i p hi=>?_,fun p=>?_⟩
 ·show 3≤K1.frames.length∧K1.frames.length≤64∧K1.slots.length≤512∧1≤(K1.spaces++[s]).length∧(K1.spaces++[s]).length≤4∧K1.sheets.length≤255
  rw [i4,i5,i2,i1,List.length_append,List.length_singleton]
  have:=h.cnt
  omega
 ·show riseB 0 K1.sheets=true
  rw [i1];exact h.rise
 ·show 0≤K1.hand∧K1.hand < (K1.frames.length:Int)
  rw [i3,i4];exact h.hand
 ·show spaceB K1.sheets K1.frames.length K1.slots.length x=true
  rw [i1,i4,i5]
  have hx:x ∈ K1.spaces++[s]:=hx
  rw [i2] at hx
  rcases List.mem_append.1 hx with hx|hx
  ·exact h.spaces x hx
  ·rw [List.mem_singleton] at hx
   subst hx
   exact h.spaces _ hsm
 ·show roomI (K1.spaces++[s])≤(K1.slots.length:Int)
  rw [i2,i5,roomI_snoc]
  exact hroom
 ·have hf:K1.frames[i]?=some f:=hf
  have hil:i < K.frames.length:=by have:=lt_of_getE hf;omega
  show FmOk K1.sheets f (namers (K1.spaces++[s]) 1 (i:Nat))
  rw [i1,i2,namers_snoc]
  have e:=i6 i hil
  rw [fmAt_eq hf,← nm1_len,fmAt_eq (List.getElem?_eq_getElem hil)] at e
  rw [e]
  exact (h.fr i _ (List.getElem?_eq_getElem hil)).add (nm1_sub hsm 1 (i:Nat))
 ·have hf:K1.slots[i]?=some f:=hf
  have hil:i < K.slots.length:=by have:=lt_of_getE hf;omega
  show SwOk f (namers (K1.spaces++[s]) 2 (i:Nat))
  rw [i2,namers_snoc]
  have e:=i7 i hil
  rw [swAt_eq hf,← nm1_len,swAt_eq (List.getElem?_eq_getElem hil)] at e
  rw [e]
  exact (h.sl i _ (List.getElem?_eq_getElem hil)).add (nm1_sub hsm 2 (i:Nat))
 ·show K1.spaces++[s]=_
  rw [i2,hse]
 ·exact hpk i i p _ (hsc1 i hi) rfl (by unfold scAt;rw [List.getElem?_eq_getElem hi];exact List.getElem_mem hi)
 ·exact hpk K.spaces.length sp p s hsc2 hse hsm
end Go.Proofs.Ytejnpppejalhfac
/- (*kernel.work).forget. -/
namespace Go.Proofs.Ytejnpppejalhfac
open Go.RowKit Go.Sort
def fgV0 (k:KV) (p:En→Bool) (l:List En):KV:=(l.filter p).foldl letV k
def fgV (k:KV) (sp:Nat) (x:Sp) (p:En→Bool) (ve:Value):KV:={ fgV0 k p x.s.entries with sp:=k.sp.set sp ⟨⟨x.s.live,x.s.areas,x.s.entries.filter fun e=>!p e⟩,x.va,ve⟩ }
structure LetSame (k k':KV):Prop where
 sh:k'.sh=k.sh
 sp:k'.sp=k.sp
 hand:k'.hand=k.hand
 vsh:k'.vsh=k.vsh
 vfr:k'.vfr=k.vfr
 vsl:k'.vsl=k.vsl
 vsp:k'.vsp=k.vsp
theorem letV_same (k:KV) (e:En):LetSame k (letV k e):=by
 unfold letV
 split <;> exact ⟨rfl,rfl,rfl,rfl,rfl,rfl,rfl⟩
theorem letF_same:∀ (l:List En) (k:KV),LetSame k (l.foldl letV k)
 |[],_=>⟨rfl,rfl,rfl,rfl,rfl,rfl,rfl⟩
 |e::l,k=>by
  have h:=letV_same k e
  have h2:=letF_same l (letV k e)
  exact ⟨h2.sh.trans h.sh,h2.sp.trans h.sp,h2.hand.trans h.hand,h2.vsh.trans h.vsh,h2.vfr.trans h.vfr,h2.vsl.trans h.vsl,h2.vsp.trans h.vsp⟩
theorem letF_K:∀ (l:List En) (k:KV),(l.foldl letV k).K=l.foldl letK k.K
 |[],_=>rfl
 |e::l,k=>by rw [List.foldl_cons,letF_K l,letV_K];rfl
theorem KRo.letS {F:Nat→Prop} {w:World} {k k':KV} (h:KRo F w k) (s:LetSame k k'):KRo F w k':=⟨by rw [s.sh,s.vsh];exact h.sh,by rw [s.sp];exact h.ar⟩
theorem fgV0_take {l:List En} {i:Nat} {e:En} (h:l[i]?=some e) (k:KV) (p:En→Bool):fgV0 k p (l.take (i + 1))=if p e=true then letV (fgV0 k p (l.take i)) e else fgV0 k p (l.take i):=by
 unfold fgV0
 rw [List.take_add_one,h,Option.toList_some,List.filter_append]
 by_cases hp:p e=true
 ·rw [if_pos hp,List.filter_cons_of_pos hp,List.filter_nil,List.foldl_append];rfl
 ·rw [if_neg hp,List.filter_cons_of_neg hp,List.filter_nil,List.append_nil]
set_option maxRecDepth 100000 in
set_option maxHeartbeats 8000000 in
theorem forget_fn {F:Nat→Prop} {w0 w:World} {Γ:List Asr} {g:Nat} {k:KV} {sp:Nat} {vh:Value} {held:List Nat} (hS0:St F w0 w (wkS g k sp vh held++Γ)) (hR0:KRo (fps (wkS g k sp vh held)) w k) {x:Sp} (hx:k.sp[sp]?=some x) {p:En→Bool} {kf:FuncId} {caps:List Value}
  (hf:∀ e ∈ x.s.entries,∀ w' Γ',St (fps (wkS g k sp vh held)) w w' Γ'→Fn Try.prog kf ([.agg (enC e).toArray]++caps) w' (RBf (.bool (p e)) w')) (hE:∀ i e,x.s.entries[i]?=some e→p e=true→EntOk (fgV0 k p (x.s.entries.take i)) e) :
  Fn Try.prog 22 [.pointer (some ⟨g,0,none⟩),.func (.func kf) #[] caps.toArray] w (fun v w'=>v=.tuple #[]∧∃ ve,St (fps (wkS g k sp vh held)) w w' (wkS g (fgV k sp x p ve) sp vh held)):=by
 have hS:=St.startM hS0
 have hR:=hR0
 generalize fps (wkS g k sp vh held)=G at hS hR hf ⊢
 clear hR0 hS0
 have hxm:=List.mem_of_getElem? hx
 obtain ⟨bs,os,cs,hvsp⟩:=(WkV.of (Γ:=[]) (by rw [List.append_nil];exact hS) hR).ker.sp.form1 hx
 have hel:x.s.entries.length≤9223372036854775807:=by
  have:=((WkV.of (Γ:=[]) (by rw [List.append_nil];exact hS) hR).ker.spv x hxm).en.bound
  omega
 have hsm:∀ l,LetSame k (fgV0 k p l):=fun l=>letF_same _ k
 have hV:∀ l w1 Γ1,St G w w1 (wkS g (fgV0 k p l) sp vh held++Γ1)→WkV w1 g (fgV0 k p l) sp vh held:=fun l w1 Γ1 h=>WkV.of h (hR.letS (hsm l))
 have hspc:=fun l w1 Γ1 (h:St G w w1 (wkS g (fgV0 k p l) sp vh held++Γ1))=>wspace_fn (hV l w1 Γ1 h) (by rw [(hsm l).sp];exact lt_of_getE hx)
 have e9:∀ l,elemP (fgV0 k p l).vsp (sp * 3)=.pointer (some ⟨bs,os + sp * 3,none⟩):=fun l=>by rw [(hsm l).vsp,hvsp];rfl
 simp only [e9] at hspc
 have hrowS:=map_get (f:=spC) hx
 unfold spC at hrowS
 have hspV:∀ l w1 Γ1,St G w w1 (wkS g (fgV0 k p l) sp vh held++Γ1)→Sl nF w1 3 (.slice (some ⟨bs,os,none⟩) k.sp.length cs) (k.sp.map fun q=>[.bool q.s.live,q.va,q.ve]):=fun l w1 Γ1 h=>by
  have:=(hV l w1 Γ1 h).ker.sp
  rw [(hsm l).vsp,(hsm l).sp,hvsp] at this
  exact this
 have hEn:∀ l w1 Γ1,St G w w1 (wkS g (fgV0 k p l) sp vh held++Γ1)→Sl nF w1 3 x.ve (x.s.entries.map enC):=fun l w1 Γ1 h=>((hV l w1 Γ1 h).ker.spv x (by rw [(hsm l).sp];exact hxm)).en
 obtain ⟨pe,ce,hve⟩:=((WkV.of (Γ:=[]) (by rw [List.append_nil];exact hS) hR).ker.spv x hxm).en.len
 rw [hve] at hrowS hEn
 replace hS:St G w w (wkS g (fgV0 k p []) sp vh held++[]):=by rw [List.append_nil];exact hS
 refine yEn Try.func22 Try.ntmps22 ?_
 repeat' (first|refine yO ?_|(refine yC ?_;refine ⟨_,hspc _ _ _ hS,?_⟩;clear hS;intro w' hS)|(refine yC1 ?_;refine ⟨_,(hspV _ _ _ hS).cel hrowS rfl,?_⟩))
 refine c_loopK (F:=G) (w0:=w) (X:=Nat) (fun i=>[(14,.int .i64 (i:Nat))]) [0,1,4,12,13] rfl (fun i=>wkS g (fgV0 k p (x.s.entries.take i)) sp vh held) (fun i=>i≤x.s.entries.length) (fun i=>x.s.entries.length - i) 0 (by exact zS) (Nat.zero_le _) hS ?_
 clear hS
 intro i w1 hi hS
 dsimp only [List.cons_append,List.nil_append] at hi ⊢
 by_cases hlt:i < x.s.entries.length
 ·have hdl:decide ((i:Int) < (x.s.entries.length:Int))=true:=decide_eq_true (by omega)
  obtain ⟨e,he⟩:=lt_get (l:=x.s.entries) (i:=i) (by omega)
  obtain ⟨b,off,rfl,-⟩:=(hEn _ _ _ hS).at_ hlt
  have hrowE:=map_get (f:=enC) he
  have hnx:=fgV0_take he k p
  have hem:=List.mem_of_getElem? he
  have hwh:=fun w' Γ' h=>hf e hem w' Γ' h
  unfold enC at hrowE hwh
  cases hp:p e with
  |true=>
   rw [hp] at hwh hnx
   rw [if_pos rfl] at hnx
   have hlet:=fun w1 Γ1 (h:St G w w1 (wkS g (fgV0 k p (x.s.entries.take i)) sp vh held++Γ1))=>wlet_fn h (hE i e he hp)
   unfold enC at hlet
   repeat' (first|refine yO ?_|(refine yM ?_;clear hS;intro g w' hS)|(refine yN ?_;clear hS;intro w' hS)|(refine yC2 ?_;refine ⟨_,(hEn _ _ _ hS).rng hrowE,rfl,?_⟩)|((with_reducible apply l_call);exact rfl;exact rfl;exact hwh _ _ hS;exact rfl;rintro _ w' ⟨rfl,hS'⟩;(replace hS:=hS.trans hS');simp only [List.nil_append] at hS;clear hS'))
   rw [List.append_nil] at hS
   replace hS:=hS.perm (List.perm_append_singleton _ _).symm
   refine l_call (first:=[]) (caps:=[]) rfl rfl (hlet _ _ hS) rfl ?_
   rintro _ w2 ⟨rfl,h2⟩
   replace hS:=(St.transM hS h2).perm (List.perm_append_singleton _ _)
   clear h2
   repeat' ((refine yO ?_))
   refine q_loopK (i + 1) (by exact zS) (by omega) ?_ (by omega)
   rw [hnx,List.append_nil]
   exact hS.drop
  |false=>
   rw [hp] at hwh hnx
   rw [if_neg (by simp)] at hnx
   repeat' (first|refine yO ?_|(refine yM ?_;clear hS;intro g w' hS)|(refine yN ?_;clear hS;intro w' hS)|(refine yC2 ?_;refine ⟨_,(hEn _ _ _ hS).rng hrowE,rfl,?_⟩)|((with_reducible apply l_call);exact rfl;exact rfl;exact hwh _ _ hS;exact rfl;rintro _ w' ⟨rfl,hS'⟩;(replace hS:=hS.trans hS');simp only [List.nil_append] at hS;clear hS'))
   refine q_loopK (i + 1) (by exact zS) (by omega) ?_ (by omega)
   rw [hnx]
   exact hS.drop
 ·have hdl:decide ((i:Int) < (x.s.entries.length:Int))=false:=decide_eq_false (by omega)
  obtain rfl:i=x.s.entries.length:=by omega
  rw [List.take_length] at hS
  repeat' (first|refine yO ?_|(refine yC1 ?_;refine ⟨_,(hspV _ _ _ hS).cel hrowS rfl,?_⟩))
  have hsf:=hsm x.s.entries
  have hfg:∀ ve,fgV k sp x p ve={ fgV0 k p x.s.entries with sp:=k.sp.set sp ⟨⟨x.s.live,x.s.areas,x.s.entries.filter fun e=>!p e⟩,x.va,ve⟩ }:=fun ve=>rfl
  simp only [hfg]
  generalize fgV0 k p x.s.entries=k1 at hS hsf ⊢
  obtain ⟨sh,fr,sl,sps,hand,vsh,vfr,vsl,vsp⟩:=k
  obtain ⟨b1,b2,b3,b4,b5,b6,b7,b8,b9⟩:=k1
  obtain ⟨c1,c2,c3,c4,c5,c6,c7⟩:=hsf
  dsimp only at c1 c2 c3 c4 c5 c6 c7 hvsp hx hrowS
  subst c1 c2 c3 c4 c5 c6 c7
  subst hvsp
  rw [List.append_nil] at hS
  unfold wkS wkB hdA frA slA spA0 at hS
  dsimp only at hS
  have hos:os=0:=by
   obtain ⟨gg,hgg⟩:=hS.rowSome 4 rfl (Nat.lt_of_le_of_lt (Nat.zero_le _) (lt_of_getE hx))
   injection hgg with hgg
   injection hgg
  subst hos
  replace hS:=hS.pullE 5 hx rfl
  simp only [List.take_succ_cons,List.take_zero,appA] at hS
  unfold enAp at hS
  rw [hve] at hS
  have hdel:=delEn_fn (v:=.slice pe x.s.entries.length ce) (l:=x.s.entries) (p:=p) (k:=kf) (caps:=caps) hS (fun e he w' Γ' h=>hf e he w' _ (St.transM (Θ:=[enA (.slice pe x.s.entries.length ce) x.s.entries]) hS h))
  refine l_call (first:=[]) (caps:=[]) rfl rfl hdel rfl ?_
  clear hdel
  rintro _ w2 ⟨q,c,rfl,h2⟩
  replace hS:=St.transM (Θ:=[enA (.slice pe x.s.entries.length ce) x.s.entries]) hS h2
  clear h2
  unfold enA at hS
  dsimp only [List.cons_append,List.nil_append] at hS
  have e1:(b4.map spC).set sp (setL [.bool x.s.live,x.va,.slice pe x.s.entries.length ce] 2 [.slice q (x.s.entries.filter fun e=>!p e).length c])=(b4.set sp ⟨⟨x.s.live,x.s.areas,x.s.entries.filter fun e=>!p e⟩,x.va,.slice q (x.s.entries.filter fun e=>!p e).length c⟩).map spC:=by rw [List.map_set];rfl
  repeat' (first|refine yO ?_|(refine yT5 ?_;clear hS;intro w' hS))
  rw [e1] at hS
  refine yV0 ?_
  refine ⟨rfl,.slice q (x.s.entries.filter fun e=>!p e).length c,?_⟩
  replace hS:=St.pushE (y:=⟨⟨x.s.live,x.s.areas,x.s.entries.filter fun e=>!p e⟩,x.va,.slice q (x.s.entries.filter fun e=>!p e).length c⟩) hS 5 hx rfl
  simp only [List.take_succ_cons,List.take_zero,appA] at hS
  unfold wkS wkB hdA frA slA spA0
  exact hS
end Go.Proofs.Ytejnpppejalhfac
/- kernel.Drop. -/
namespace Go.Proofs.Ytejnpppejalhfac
open Go.RowKit Go.Sort
def dropR (K:Ker) (space:Int):Ker:=if liveE K space=0 then dropK K space.toNat else ker0
theorem drop1_fn (e:En) (w:World):Fn Try.prog 23 [.agg (enC e).toArray] w (RBf (.bool true) w):=by
 unfold enC
 refine yEn Try.func23 Try.ntmps23 ?_
 have hS:=St.start w
 repeat' (first|refine yO ?_|(refine yM ?_;clear hS;intro g w' hS))
 refine yR1 ?_
 exact ⟨rfl,hS.sub (List.nil_sublist _)⟩
theorem letF_len:∀ (l:List En) (k:KV),(l.foldl letV k).fr.length=k.fr.length∧(l.foldl letV k).sl.length=k.sl.length
 |[],_=>⟨rfl,rfl⟩
 |e::l,k=>by
  obtain ⟨h1,h2⟩:=letF_len l (letV k e)
  have h:=letV_sp k e
  exact ⟨h1.trans h.2.2.1,h2.trans h.2.2.2⟩
theorem fg_ent {k:KV} (hr:Right k.K) {sp:Nat} {x:Sp} (hx:k.sp[sp]?=some x) (p:En→Bool) (i:Nat) (e:En) (he:x.s.entries[i]?=some e):EntOk (fgV0 k p (x.s.entries.take i)) e:=by
 have h0:=entOk_of hr hx (List.mem_of_getElem? he)
 obtain ⟨-,hb⟩:=fg_ok p x.s.entries (D:=[]) hr (kv_sp hx) rfl
 have hbi:=hb i
 obtain ⟨l1,l2⟩:=letF_len ((x.s.entries.take i).filter p) k
 have eK:=letF_K ((x.s.entries.take i).filter p) k
 have e1:(fgV0 k p (x.s.entries.take i)).fr=(((x.s.entries.take i).filter p).foldl letK k.K).frames:=congrArg Ker.frames eK
 have e2:(fgV0 k p (x.s.entries.take i)).sl=(((x.s.entries.take i).filter p).foldl letK k.K).slots:=congrArg Ker.slots eK
 refine ⟨?_,by rw [e1];exact hbi.1,by rw [e2];exact hbi.2⟩
 have:=h0.names
 unfold fgV0
 rw [l1,l2]
 exact this
theorem restA_fg {k:KV} {sp:Nat} {x:Sp} (hx:k.sp[sp]?=some x) (p:En→Bool) (ve:Value):restA (fgV k sp x p ve)=restA k:=by
 have h:=letF_same (x.s.entries.filter p) k
 unfold restA fgV fgV0
 dsimp only
 rw [h.vsh,h.sh]
 have e:(k.sp.set sp ⟨⟨x.s.live,x.s.areas,x.s.entries.filter fun e=>!p e⟩,x.va,ve⟩).map arAp=k.sp.map arAp:=map_same hx rfl
 rw [e]
theorem fgV_K {k:KV} {sp:Nat} {x:Sp} (hx:k.sp[sp]?=some x) (p:En→Bool) (ve:Value):(fgV k sp x p ve).K=forgetK k.K sp p:=by
 have h:=letF_same (x.s.entries.filter p) k
 have e:=letF_K (x.s.entries.filter p) k
 have hsp:=scAt_eq (kv_sp hx)
 have he:entsOf k.K sp=x.s.entries:=by unfold entsOf;rw [hsp]
 unfold fgV forgetK fgK fgV0
 rw [he,hsp,← e]
 generalize (x.s.entries.filter p).foldl letV k=k1 at h ⊢
 obtain ⟨b1,b2,b3,b4,b5,b6,b7,b8,b9⟩:=k1
 obtain ⟨c1,c2,c3,c4,c5,c6,c7⟩:=h
 dsimp only at c1 c2 c3 c4 c5 c6 c7
 subst c1 c2 c3
 unfold KV.K
 dsimp only
 rw [List.map_set]
 rfl
theorem own_perm {α:Type} {e a S:α} {X E E' F A A':List α} (hE:E.Perm (e::E')) (hA:A.Perm (a::A')):(X++(E++(S::(F++A)))).Perm (a::e::(X++(E'++(S::(F++A'))))):=by
 refine ((hE.append ((hA.append_left F).cons S)).append_left X).trans ?_
 have h1:(S::(F++a::A')).Perm (a::(S::(F++A'))):=(List.Perm.cons S List.perm_middle).trans (List.Perm.swap _ _ _)
 refine ((h1.append_left (e::E')).append_left X).trans ?_
 refine (List.perm_middle.append_left X).trans ?_
 refine List.perm_middle.trans (List.Perm.cons _ ?_)
 exact List.perm_middle
theorem map_erase {α β:Type} (f:α→β):∀ {l:List α} {i:Nat} {x:α},l[i]?=some x→(l.map f).Perm (f x::(l.eraseIdx i).map f)
 |[],_,_,h=>by simp at h
 |a::l,0,x,h=>by
  have:a=x:=by simpa using h
  subst this
  exact List.Perm.refl _
 |a::l,i + 1,x,h=>((map_erase f (l:=l) (i:=i) (by simpa using h)).cons _).trans (List.Perm.swap _ _ _)
set_option maxRecDepth 100000 in
set_option maxHeartbeats 8000000 in
theorem Drop_fn {w:World} {k:KV} (hK:KerV w k) (space:Int):Fn Try.prog 8 [.agg (kvC k).toArray,.int .i64 space] w (fun v w'=>∃ k',v=.tuple #[.agg (kvC k').toArray,.int .i64 (liveE k.K space)]∧k'.K=dropR k.K space∧Came w w' k'):=by
 have hbeg:=fun w1 (h:KerV w1 k)=>begin_fn h space
 have hK0:=hK
 obtain ⟨sh,fr,sl,sps,hand,vsh,vfr,vsl,vsp⟩:=k
 obtain ⟨k1,k2,k3,k4,k5⟩:=hK
 dsimp only at k1 k2 k3 k4 k5
 obtain ⟨p1,c1,rfl⟩:=k1.sl.len
 obtain ⟨p2,c2,rfl⟩:=k2.len
 obtain ⟨p3,c3,rfl⟩:=k3.len
 obtain ⟨p4,c4,rfl⟩:=k4.len
 generalize hKK:KV.K ⟨sh,fr,sl,sps,hand,.slice p1 sh.length c1,.slice p2 fr.length c2,.slice p3 sl.length c3,.slice p4 sps.length c4⟩=K at hbeg ⊢
 have hpre:∀ w1 Γ1,St nF w w1 Γ1→KerV w1 ⟨sh,fr,sl,sps,hand,.slice p1 sh.length c1,.slice p2 fr.length c2,.slice p3 sl.length c3,.slice p4 sps.length c4⟩:=fun w1 Γ1 h=>hK0.now h
 unfold kvC at hbeg ⊢
 dsimp only at hbeg ⊢
 refine yEn Try.func8 Try.ntmps8 ?_
 have hS:=St.start w
 repeat' (first|refine yO ?_|(refine yM ?_;clear hS;intro g w' hS))
 rename_i g2 _
 refine l_call rfl rfl (hbeg _ (hpre _ _ hS)) rfl ?_
 clear hbeg
 rintro v w2 (⟨he,rfl,hS'⟩|⟨gw,sp,k',he,hsp,rfl,hk',hS'⟩)
 ·replace hS:=hS.transA hS'
  simp only [appA] at hS
  have hd:decide (liveE K space=0)=false:=decide_eq_false he
  repeat' (first|refine yO ?_|(refine yN ?_;clear hS;intro w' hS)|(refine yS ?_ ?_;all_goals (intro hb hp;try (exfalso;omega))))
  refine yR2 ?_
  exact ⟨kv0,rfl,by unfold dropR;rw [if_neg he];rfl,Or.inl ⟨rfl,hS.sub (List.nil_sublist _)⟩⟩
 have hKR:dropR K space=dropK K sp:=by unfold dropR;rw [if_pos he,hsp,Int.toNat_natCast]
 rw [hKR,he]
 obtain ⟨hr,sp2,hsp2,hspl,hlv⟩:=live_right he
 obtain rfl:sp=sp2:=by omega
 replace hS:=hS.trans hS'
 clear hS' hKR he hpre hK0 k1 k2 k3 k4 k5 hKK
 rw [List.append_assoc] at hS
 subst hk'
 obtain ⟨x,hx⟩:∃ x,k'.sp[sp]?=some x:=by
  have:k'.K.spaces.length=k'.sp.length:=List.length_map _
  exact lt_get (by omega)
 have hfo:=forget_fn (p:=fun _=>true) (kf:=23) (caps:=[]) hS (KRo.own hS) hx (fun e _ w' _ _=>drop1_fn e w') (fun i e he _=>fg_ent hr hx _ i e he)
 have hV0:=WkV.own hS
 repeat' ((refine yO ?_))
 refine l_call (first:=[]) (caps:=[]) rfl rfl hfo rfl ?_
 clear hfo
 rintro _ w3 ⟨rfl,ve,h2⟩
 replace hS:=St.transM hS h2
 clear h2
 have hsf:=letF_same (x.s.entries.filter fun _=>true) k'
 have hrA:=restA_fg hx (fun _=>true) ve
 rw [← hrA] at hS
 have hx2:(fgV k' sp x (fun _=>true) ve).sp[sp]?=some ⟨⟨x.s.live,x.s.areas,x.s.entries.filter fun e=>!true⟩,x.va,ve⟩:=by
  show (k'.sp.set sp _)[sp]?=_
  rw [List.getElem?_set,if_pos rfl,if_pos (lt_of_getE hx)]
 have hdK:dropK k'.K sp={ (fgV k' sp x (fun _=>true) ve).K with spaces:=(fgV k' sp x (fun _=>true) ve).K.spaces.set sp sc0 }:=by
  rw [fgV_K hx]
  rfl
 rw [hdK]
 clear hdK hrA hsf
 generalize fgV k' sp x (fun _=>true) ve=kd at hS hx2 ⊢
 have hV:=WkV.own hS
 obtain ⟨bs,os,cs,hvsp⟩:=hV.ker.sp.form1 hx2
 obtain ⟨sh',fr',sl',sps',hand',vsh',vfr',vsl',vsp'⟩:=kd
 dsimp only at hvsp hx2
 subst hvsp
 obtain ⟨q1,d1,rfl⟩:∃ p c,vsh'=.slice p sh'.length c:=hV.ker.sh.sl.len
 obtain ⟨q2,d2,rfl⟩:∃ p c,vfr'=.slice p fr'.length c:=hV.ker.fr.len
 obtain ⟨q3,d3,rfl⟩:∃ p c,vsl'=.slice p sl'.length c:=hV.ker.sl.len
 have hspc:=wspace_fn hV (lt_of_getE hx2)
 unfold elemP at hspc
 dsimp only at hspc
 rw [← List.append_assoc] at hS
 replace hS:=hS.perm List.perm_append_comm
 dsimp only [List.cons_append,List.nil_append] at hS
 have hrowS:=map_get (f:=spC) hx2
 unfold spC at hrowS
 repeat' (first|refine yO ?_|(refine yC ?_;refine ⟨_,hspc,?_⟩;clear hS;intro w' hS))
 unfold wkS wkB hdA frA slA spA0 at hS
 dsimp only [List.cons_append,List.nil_append] at hS
 have hos:os=0:=by
  obtain ⟨gg,hgg⟩:=hS.rowSome 6 rfl (Nat.lt_of_le_of_lt (Nat.zero_le _) (lt_of_getE hx2))
  injection hgg with hgg
  injection hgg
 subst hos
 dsimp only at hrowS
 have e1:(sps'.map spC).set sp (setL [.bool x.s.live,x.va,ve] 0 [.bool false,.slice none 0 0,.slice none 0 0])=(sps'.set sp ⟨sc0,.slice none 0 0,.slice none 0 0⟩).map spC:=by rw [List.map_set];rfl
 repeat' (first|refine yO ?_|(refine yT6 ?_;clear hS;intro w' hS))
 rw [e1] at hS
 repeat' (first|refine yO ?_|(refine yN ?_;clear hS;intro w' hS)|(refine yC2 ?_;refine ⟨_,hS.blkRk 2 0 5 rfl,rfl,?_⟩))
 refine yR2 ?_
 refine ⟨⟨sh',fr',sl',sps'.set sp ⟨sc0,.slice none 0 0,.slice none 0 0⟩,hand',.slice q1 sh'.length d1,.slice q2 fr'.length d2,.slice q3 sl'.length d3,.slice (some ⟨bs,0,none⟩) sps'.length cs⟩,rfl,?_,Or.inr ?_⟩
 ·unfold KV.K
  dsimp only
  rw [List.map_set]
 ·have h1:=hS.sub (.cons _ (.cons _ (.cons _ (.cons _ (.refl _)))))
  have h2:=h1.perm (own_perm (X:=[_,_,_]) (map_erase enAp hx2) (map_erase arAp hx2))
  have h3:=(h2.drop.drop.addNil 55 3).addNil 71 4
  have hz:(sps'.set sp ⟨sc0,.slice none 0 0,.slice none 0 0⟩)[sp]?=some ⟨sc0,.slice none 0 0,.slice none 0 0⟩:=by rw [List.getElem?_set,if_pos rfl,if_pos (lt_of_getE hx2)]
  have hE:=map_erase enAp hz
  have hA:=map_erase arAp hz
  rw [erase_set] at hE hA
  exact h3.perm (own_perm (X:=[_,_,_]) hE hA).symm
end Go.Proofs.Ytejnpppejalhfac
/- A forked space has what the other one has; dropping it leaves the others; all dropped, all is free. -/
namespace Go.Proofs.Ytejnpppejalhfac
open Go.RowKit Go.Sort
theorem liveE_of {K:Ker} (h:Right K) {i:Nat} (hi:i < K.spaces.length):liveE K (i:Nat)=if (scAt K i).live=true then 0 else 6:=by
 unfold liveE
 rw [if_pos (right_iff.2 h),Int.toNat_natCast]
 by_cases hl:(scAt K i).live=true
 ·rw [if_pos hl,if_pos ⟨by omega,by omega,hl⟩]
 ·rw [if_neg hl,if_neg (fun hh=>hl hh.2.2)]
theorem peekE_of {K:Ker} (h:Right K) {i:Nat} (hi:i < K.spaces.length) (hl:(scAt K i).live=true) (p:Int):peekE K (i:Nat) p=if (findA (areasOf K i) p).isSome=true then 0 else 6:=by
 unfold peekE
 rw [liveE_of h hi,if_pos hl,if_pos rfl,Int.toNat_natCast]
theorem peek_eq {K K':Ker} (h:Right K) (h':Right K') {i i':Nat} (hi:i < K.spaces.length) (hi':i' < K'.spaces.length) (hl:(scAt K i).live=true) (hsc:(scAt K' i').live=(scAt K i).live) (har:areasOf K' i'=areasOf K i) (p:Int) (hp:peekK K' i' p=peekK K i p):peekE K' (i':Nat) p=peekE K (i:Nat) p∧peekD K' (i':Nat) p=peekD K (i:Nat) p:=by
 have e:peekE K' (i':Nat) p=peekE K (i:Nat) p:=by
  rw [peekE_of h hi hl,peekE_of h' hi' (by rw [hsc];exact hl),har]
 refine ⟨e,?_⟩
 unfold peekD
 rw [e,Int.toNat_natCast,Int.toNat_natCast,hp]
structure ApartOk (K:Ker) (space page:Int):Prop where
 right:Right K
 rightA:Right (forkR K space)
 live:liveE (forkR K space) space=0
 rightB:Right (dropR (forkR K space) space)
 eA:peekE (forkR K space) (forkN K space) page=peekE K space page
 dA:peekD (forkR K space) (forkN K space) page=peekD K space page
 eB:peekE (dropR (forkR K space) space) (forkN K space) page=peekE K space page
 dB:peekD (dropR (forkR K space) space) (forkN K space) page=peekD K space page
 gone:peekE (dropR (forkR K space) space) space page=6
theorem apart_ok {K:Ker} {space:Int} (h:forkE K space=0) (page:Int):ApartOk K space page:=by
 have hR:forkR K space=forkK K space.toNat:=by unfold forkR;rw [if_pos h]
 have hN:forkN K space=(K.spaces.length:Nat):=by unfold forkN;rw [if_pos h]
 unfold forkE at h
 by_cases hl:liveE K space=0
 rotate_left
 ·rw [if_neg hl] at h;exact absurd h hl
 rw [if_pos hl] at h
 by_cases h4:K.spaces.length=4
 ·rw [if_pos h4] at h;cases h
 rw [if_neg h4] at h
 by_cases h5:(K.slots.length:Int) < roomI K.spaces + sumN (areasOf K space.toNat)
 ·rw [if_pos h5] at h;cases h
 obtain ⟨hr,sp,rfl,hspl,hlv⟩:=live_right hl
 rw [Int.toNat_natCast] at h5 hR
 have hs:=List.getElem?_eq_getElem hspl
 have hse:=scAt_eq hs
 have har:areasOf K sp=K.spaces[sp].areas:=by unfold areasOf;rw [hse]
 have hf:=fork_ok hr hs h4 (by rw [har] at h5;omega)
 rw [← hR] at hf
 have hlenA:(forkR K (sp:Nat)).spaces.length=K.spaces.length + 1:=by rw [hf.spaces,List.length_append,List.length_singleton]
 have hA1:scAt (forkR K (sp:Nat)) sp=scAt K sp:=by
  unfold scAt
  rw [hf.spaces,List.getElem?_append_left hspl]
 have hA2:scAt (forkR K (sp:Nat)) K.spaces.length=scAt K sp:=by
  unfold scAt
  rw [hf.spaces,List.getElem?_append_right (Nat.le_refl _),Nat.sub_self]
  rfl
 have hlA:liveE (forkR K (sp:Nat)) (sp:Nat)=0:=by
  rw [liveE_of hf.right (by omega),if_pos (by rw [hA1];exact hlv)]
 obtain ⟨d1,d2,d3,-,-,d6,d7⟩:=drop_ok (sp:=sp) hf.right (by omega)
 have hD:dropR (forkR K (sp:Nat)) (sp:Nat)=dropK (forkR K (sp:Nat)) sp:=by unfold dropR;rw [if_pos hlA,Int.toNat_natCast]
 have hne:K.spaces.length≠sp:=by omega
 have hpA:=peek_eq hr hf.right hspl (i':=K.spaces.length) (by omega) hlv (by rw [hA2]) (by unfold areasOf;rw [hA2]) page (hf.new page)
 have hB2:scAt (dropK (forkR K (sp:Nat)) sp) K.spaces.length=scAt K sp:=by rw [d2,if_neg hne,hA2]
 have hpB:=peek_eq hr d1 hspl (i':=K.spaces.length) (by omega) hlv (by rw [hB2]) (by unfold areasOf;rw [hB2]) page ((d7 _ page hne).trans (hf.new page))
 refine ⟨hr,hf.right,hlA,?_,?_,?_,?_,?_,?_⟩
 ·rw [hD];exact d1
 ·rw [hN];exact hpA.1
 ·rw [hN];exact hpA.2
 ·rw [hD,hN];exact hpB.1
 ·rw [hD,hN];exact hpB.2
 ·rw [hD]
  have e:liveE (dropK (forkR K (sp:Nat)) sp) (sp:Nat)=6:=by
   rw [liveE_of d1 (by omega),d2,if_pos rfl]
   rfl
  unfold peekE
  rw [e,if_neg (by omega)]
end Go.Proofs.Ytejnpppejalhfac
/- foliantlaw.KernelApart. -/
namespace Go.Proofs.Ytejnpppejalhfac
open Go.RowKit Go.Sort
set_option maxRecDepth 100000 in
set_option maxHeartbeats 8000000 in
theorem KernelApart_fn {w:World} {k:KV} (hK:KerV w k) (space page:Int):Fn Try.prog 3 [.agg (kvC k).toArray,.int .i64 space,.int .i64 page] w (RBf (.bool true) w):=by
 have hre:=fun w1 (h:KerV w1 k)=>Fork_fn h space
 have hpk:=fun w1 (h:KerV w1 k)=>Peek_fn h space page
 have hbg:=kernelBegun_fn
 have hK0:=hK
 obtain ⟨sh,fr,sl,sps,hand,vsh,vfr,vsl,vsp⟩:=k
 obtain ⟨k1,k2,k3,k4,k5⟩:=hK
 dsimp only at k1 k2 k3 k4 k5
 obtain ⟨p1,c1,rfl⟩:=k1.sl.len
 obtain ⟨p2,c2,rfl⟩:=k2.len
 obtain ⟨p3,c3,rfl⟩:=k3.len
 obtain ⟨p4,c4,rfl⟩:=k4.len
 generalize hKK:KV.K ⟨sh,fr,sl,sps,hand,.slice p1 sh.length c1,.slice p2 fr.length c2,.slice p3 sl.length c3,.slice p4 sps.length c4⟩=K at hre hpk
 have hpre:∀ w1 Γ1,St nF w w1 Γ1→KerV w1 ⟨sh,fr,sl,sps,hand,.slice p1 sh.length c1,.slice p2 fr.length c2,.slice p3 sl.length c3,.slice p4 sps.length c4⟩:=fun w1 Γ1 h=>hK0.now h
 unfold kvC at hre hpk ⊢
 dsimp only at hre hpk ⊢
 refine yEn Try.func3 Try.ntmps3 ?_
 have hS:=St.start w
 repeat' (first|refine yO ?_|(refine yM ?_;clear hS;intro g w' hS)|(refine yN ?_;clear hS;intro w' hS)|(refine yS ?_ ?_;all_goals (intro hb hp;try (exfalso;omega)))|fail)
 refine l_call rfl rfl (hre _ (hpre _ _ hS)) rfl ?_
 clear hre
 rintro v w2 ⟨ka,rfl,hka,hc⟩
 by_cases hok:forkE K space=0
 rotate_left
 ·have hV:=hc.V
  replace hS:=hS.transA hc.st
  simp only [appA] at hS
  clear hc hka
  obtain ⟨sh5,fr5,sl5,sps5,hand5,vsh5,vfr5,vsl5,vsp5⟩:=ka
  obtain ⟨hV1,hV2,hV3,hV4,hV5⟩:=hV
  dsimp only at hV1 hV2 hV3 hV4 hV5
  obtain ⟨x1,y1,rfl⟩:=hV1.sl.len
  obtain ⟨x2,y2,rfl⟩:=hV2.len
  obtain ⟨x3,y3,rfl⟩:=hV3.len
  obtain ⟨x4,y4,rfl⟩:=hV4.len
  clear hV1 hV2 hV3 hV4 hV5
  have hd:decide (forkE K space=0)=false:=decide_eq_false hok
  repeat' (first|refine yO ?_|(refine yM ?_;clear hS;intro g w' hS)|(refine yN ?_;clear hS;intro w' hS)|(refine yS ?_ ?_;all_goals (intro hb hp;try (exfalso;omega)))|(refine yC ?_;refine ⟨_,hbg _,?_⟩;clear hS;intro w' hS)|fail)
  refine yR1 ?_
  exact ⟨rfl,hS.sub (List.nil_sublist _)⟩
 have H:=apart_ok hok page
 rw [hok]
 have hra:Right ka.K:=by rw [hka];exact H.rightA
 have hO:=hc.own (n:=ka.K.frames.length - 1) (by have:=hra.cnt;omega)
 replace hS:=(hS.trans hO).perm List.perm_append_comm
 dsimp only [List.cons_append,List.nil_append] at hS
 have hV:KerV _ ka:=KerV.own (Γ:=[]) (by rw [List.append_nil];exact hO)
 clear hc hO
 have hpka:=fun w1 (h:KerV w1 ka)=>Peek_fn h (forkN K space) page
 have hcka:=fun w1 (h:KerV w1 ka)=>checkKer_fn h
 have hdr:=fun w1 (h:KerV w1 ka)=>Drop_fn h space
 rw [right_iff.2 hra] at hcka
 rw [hka,H.eA,H.dA] at hpka
 rw [hka,H.live] at hdr
 unfold kvC at hpka hcka hdr
 obtain ⟨sh5,fr5,sl5,sps5,hand5,vsh5,vfr5,vsl5,vsp5⟩:=ka
 obtain ⟨hV1,hV2,hV3,hV4,hV5⟩:=hV
 dsimp only at hV1 hV2 hV3 hV4 hV5
 obtain ⟨x1,y1,rfl⟩:=hV1.sl.len
 obtain ⟨x2,y2,rfl⟩:=hV2.len
 obtain ⟨x3,y3,rfl⟩:=hV3.len
 obtain ⟨x4,y4,rfl⟩:=hV4.len
 clear hV1 hV2 hV3 hV4 hV5
 dsimp only at hpka hcka hdr
 repeat' (first|refine yO ?_|(refine yM ?_;clear hS;intro g w' hS)|(refine yN ?_;clear hS;intro w' hS)|(refine yS ?_ ?_;all_goals (intro hb hp;try (exfalso;omega)))|(refine yC ?_;refine ⟨_,hpk _ (hpre _ _ hS),?_⟩;clear hS;intro w' hS)|(refine yC ?_;refine ⟨_,hpka _ (KerV.own (hS.perm (List.perm_append_comm (l₁:=[_,_])))),?_⟩;clear hS;intro w' hS)|fail)
 refine l_call rfl rfl (hdr _ (KerV.own (hS.perm (List.perm_append_comm (l₁:=[_,_]))))) rfl ?_
 clear hdr
 rintro v w3 ⟨kb,rfl,hkb,hc⟩
 have hrb:Right kb.K:=by rw [hkb];exact H.rightB
 have hO:=hc.own (n:=kb.K.frames.length - 1) (by have:=hrb.cnt;omega)
 replace hS:=(hS.trans hO).perm List.perm_append_comm
 dsimp only [List.cons_append,List.nil_append] at hS
 have hV:KerV _ kb:=KerV.own (Γ:=[]) (by rw [List.append_nil];exact hO)
 clear hc hO
 have hpkb:=fun w1 (h:KerV w1 kb)=>Peek_fn h (forkN K space) page
 have hpkc:=fun w1 (h:KerV w1 kb)=>Peek_fn h space page
 have hckb:=fun w1 (h:KerV w1 kb)=>checkKer_fn h
 rw [right_iff.2 hrb] at hckb
 rw [hkb,H.eB,H.dB] at hpkb
 rw [hkb,H.gone] at hpkc
 generalize peekD (dropR (forkR K space) space) space page=PX at hpkc
 unfold kvC at hpkb hpkc hckb
 obtain ⟨sh6,fr6,sl6,sps6,hand6,vsh6,vfr6,vsl6,vsp6⟩:=kb
 obtain ⟨hV1,hV2,hV3,hV4,hV5⟩:=hV
 dsimp only at hV1 hV2 hV3 hV4 hV5
 obtain ⟨r1,z1,rfl⟩:=hV1.sl.len
 obtain ⟨r2,z2,rfl⟩:=hV2.len
 obtain ⟨r3,z3,rfl⟩:=hV3.len
 obtain ⟨r4,z4,rfl⟩:=hV4.len
 clear hV1 hV2 hV3 hV4 hV5
 dsimp only at hpkb hpkc hckb
 generalize peekE K space page=PE at hpk hpka hpkb
 generalize peekD K space page=PD at hpk hpka hpkb
 have hd1:decide (PE=PE)=true:=decide_eq_true rfl
 have hd2:decide (PD=PD)=true:=decide_eq_true rfl
 have hKA:∀ {w1:World} {a b c:Asr} {kx ky:KV},St nF w w1 (a::b::c::(ownK kx++ownK ky))→KerV w1 kx:=fun {w1 a b c kx ky} h=>KerV.own (Γ:=ownK ky++[a,b,c]) (h.perm ((List.perm_append_comm (l₁:=[a,b,c]) (l₂:=ownK kx++ownK ky)).trans (List.Perm.of_eq (List.append_assoc _ _ _))))
 have hKB:∀ {w1:World} {a b c:Asr} {kx ky:KV},St nF w w1 (a::b::c::(ownK kx++ownK ky))→KerV w1 ky:=fun {w1 a b c kx ky} h=>KerV.own (Γ:=[a,b,c]++ownK kx) (h.perm (List.perm_append_comm (l₁:=[a,b,c]++ownK kx) (l₂:=ownK ky)))
 repeat' (first|refine yO ?_|(refine yM ?_;clear hS;intro g w' hS)|(refine yN ?_;clear hS;intro w' hS)|(refine yS ?_ ?_;all_goals (intro hb hp;try (exfalso;omega)))|fail)
 repeat' (first|refine yO ?_|(refine yM ?_;clear hS;intro g w' hS)|(refine yN ?_;clear hS;intro w' hS)|(refine yS ?_ ?_;all_goals (intro hb hp;try (exfalso;omega)))|(refine yC ?_;refine ⟨_,hpkb _ (hKB hS),?_⟩;clear hS;intro w' hS)|(refine yC ?_;refine ⟨_,hpkc _ (hKB hS),?_⟩;clear hS;intro w' hS)|(refine yC ?_;refine ⟨_,hbg _,?_⟩;clear hS;intro w' hS)|(refine yC ?_;refine ⟨_,hcka _ (hKA hS),?_⟩;clear hS;intro w' hS)|(refine yC ?_;refine ⟨_,hckb _ (hKB hS),?_⟩;clear hS;intro w' hS)|fail)
 refine yR1 ?_
 exact ⟨rfl,hS.sub (List.nil_sublist _)⟩
end Go.Proofs.Ytejnpppejalhfac
/- Arguments that are slices, opened: what their elements' cells are. -/
namespace Go.Proofs.Ytejnpppejalhfac
open Go.ChangeShapes Go.WideShapes Go.ChangeAt Go.RowKit Go.Deep
def RowsAre {α:Type} (R:α→List Value→Prop) (xs:List α) (rows:List (List Value)):Prop:=rows.length=xs.length∧∀ (i:Nat) (x:α) (r:List Value),xs[i]?=some x→rows[i]?=some r→R x r
section
variable {H:Type} {enc:TypeId×Value→H} {P:Program} {w:World} {base:Nat} {spare:Nat→Bool} {held:Bool}
theorem open_sl {α:Type} [Inhabited α] {t e:TypeId} {fuel sz:Nat} {cs:List Value} {y:DataW H×List MemPlace} (ht:P.underlying t=some (.slice e)) (hsz:P.cellsOf e=sz) (hpos:0 < sz) (R:α→List Value→Prop) (hR1:∀ x r,R x r→r.all (·.oneCell')=true)
  (hR:∀ (n:Nat) (cs':List Value) (z:DataW H×List MemPlace),cs'.length=sz→DataW.trod enc P w base spare held n e cs'=some z→∃ x:α,R x cs') (h:DataW.trod enc P w base spare held fuel t cs=some y) :
  ∃ v xs rows,cs=[v]∧Sl nF w sz v rows∧RowsAre R xs rows∧v.oneCell'=true:=by
 rcases open_slice ht h with ⟨rfl,_⟩|⟨a,len,cap,m,n,D,Pl,rfl,hb,hl,hm,hmm,_,hx⟩
 ·exact ⟨_,[],[],rfl,Or.inl ⟨_,_,rfl,rfl⟩,⟨rfl,fun i x r h=>by simp at h⟩,rfl⟩
 ·have hlm:len≤m:=by rw [hmm];split <;> omega
  rw [hsz] at hx
  have key:∀ i,∃ r x,i < len→w.cells? base (a.add (i * sz)) sz=some r∧R x r∧r.length=sz:=fun i=>by
   by_cases hi:i < len
   ·obtain ⟨cs',h1,h2⟩:=hx i (by omega)
    have hl:=(World.cells?_some h1).2.1
    obtain ⟨x,hr⟩:=hR n cs' _ hl h2
    exact ⟨cs',x,fun _=>⟨h1,hr,hl⟩⟩
   ·exact ⟨[],default,fun h=>(hi h).elim⟩
  obtain ⟨r,hr⟩:=Classical.axiomOfChoice key
  obtain ⟨x,hr⟩:=Classical.axiomOfChoice hr
  refine ⟨_,(List.range len).map x,(List.range len).map r,rfl,?_,⟨by simp,fun i y r' h1 h2=>?_⟩,rfl⟩
  ·by_cases h0:len=0
   ·subst h0;exact Or.inl ⟨_,_,rfl,rfl⟩
   ·obtain ⟨b,off,spot⟩:=a
    have hcell:∀ i,i < len→∀ j,j < sz→w.cell? (((⟨b,off,spot⟩:Addr).add (i * sz)).add j)=(r i)[j]?:=fun i hi j hj=>(World.cells?_some (hr i hi).1).2.2 j hj
    have h00:=hcell 0 (by omega) 0 hpos
    obtain ⟨u0,hu0⟩:∃ u,(r 0)[0]?=some u:=⟨(r 0)[0]'(by rw [(hr 0 (by omega)).2.2];exact hpos),by simp⟩
    rw [hu0] at h00
    simp only [Nat.zero_mul,Addr.add,if_true] at h00
    have hspot:spot=none:=by
     cases spot with
     |none=>rfl
     |some s=>simp [World.cell?] at h00;split at h00 <;> simp at h00
    subst hspot
    have hbl:=World.block_lt_of_cell? w _ h00
    refine Or.inr ⟨b,off,cap,by simp,by simpa using hl,hm,⟨hbl,id,fun r' hr'=>?_,fun r' hr'=>?_,fun k r' hk j u hj=>?_⟩⟩
    ·obtain ⟨i,hi,rfl⟩:=List.mem_map.1 hr'
     exact (hr i (by simpa using hi)).2.2
    ·obtain ⟨i,hi,rfl⟩:=List.mem_map.1 hr'
     exact hR1 _ _ (hr i (by simpa using hi)).2.1
    ·have hk':k < len:=by have:=lt_of_getE hk;simpa using this
     simp [hk'] at hk
     subst hk
     have hjl:j < sz:=by have:=lt_of_getE hj;rwa [(hr k hk').2.2] at this
     have:=hcell k hk' j hjl
     rw [hj] at this
     rwa [Addr.add_mid,Addr.add_mid] at this
  ·have hi:i < len:=by have:=lt_of_getE h1;simpa using this
   simp [hi] at h1 h2
   subst h1 h2
   exact (hr i hi).2.1
end
end Go.Proofs.Ytejnpppejalhfac
