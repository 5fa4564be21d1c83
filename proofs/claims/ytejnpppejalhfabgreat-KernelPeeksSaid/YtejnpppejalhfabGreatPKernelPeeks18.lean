/- Texts that the proof stands on, one behind the other: Ke33, Lk13, Ke34, Ke35, LawPeeks, Op1, OpA, OpK, OpR. -/
import Derived.Deep.Slices
import Derived.OpenShut
import Derived.WideShapes
import Derived.ProofKit
import Derived.Test.YtejnpppejalhfabGreatPKernelPeeks17
namespace Go.Proofs.YtejnpppejalhfabGreat
set_option maxRecDepth 100000
set_option maxHeartbeats 8000000
open Go.RowKit Go.Sort
def a9n (f:Fm):Fm:=⟨f.data,f.refs + 1,f.dirty,f.seen⟩
def a9Y (s:Sw):Sw:=⟨s.data,s.refs + 1⟩
def b6n (K:Ker) (e:En):Ker:=if e.kind=1 then ⟨K.sheets,K.frames.set e.at_.toNat (a9n (j6 K.frames e.at_.toNat)),K.slots,K.spaces,K.hand⟩ else ⟨K.sheets,K.frames,K.slots.set e.at_.toNat (a9Y (a0G K.slots e.at_.toNat)),K.spaces,K.hand⟩
def a00 (k:KV) (e:En):KV:=if e.kind=1 then ⟨k.sh,k.fr.set e.at_.toNat (a9n (j6 k.fr e.at_.toNat)),k.sl,k.sp,k.hand,k.vsh,k.vfr,k.vsl,k.vsp⟩ else ⟨k.sh,k.fr,k.sl.set e.at_.toNat (a9Y (a0G k.sl e.at_.toNat)),k.sp,k.hand,k.vsh,k.vfr,k.vsl,k.vsp⟩
theorem b1Q:∀ {l:List Sc},(∀ s ∈ l,0<=r9 s.areas)->0<=r6 l
 |[],_=>xj3 0
 |s::l,h=>by
  have h1:=h s xc5
  have h2:=b1Q (l:=l) fun x hx=>h x (xc6 _ hx)
  have e:r6 (s::l)=r9 s.areas + r6 l:=by unfold r6;simp
  omega
theorem b68 (k:KV) (e:En):(a00 k e).K=b6n k.K e:=by
 unfold a00 b6n
 split <;> rfl
def b4t (K:Ker) (sp:Nat):Ker :=
 let K1:=(j5 K sp).foldl b6n K
 ⟨K1.sheets,K1.frames,K1.slots,K1.spaces++[a0o K sp],K1.hand⟩
def a79 (K:Ker) (space:Int):Int:=if a0h K space=0 then (if K.spaces.length=4 then 2 else if (K.slots.length:Int) < r6 K.spaces + r9 (j9 K space.toNat) then 8 else 0) else a0h K space
def b4j (K:Ker) (space:Int):Ker:=if a79 K space=0 then b4t K space.toNat else a8h
def b3L (K:Ker) (space:Int):Int:=if a79 K space=0 then (K.spaces.length:Nat) else 0
theorem b3f (l:List En):∀ (k:KV),(l.foldl a00 k).K=l.foldl b6n k.K:=by
 induction l with
 |nil=>intro k;rfl
 |cons e l ih=>intro k;rw [xg3,ih,b68];rfl
structure IncSame (k k':KV):Prop where
 sh:k'.sh=k.sh
 sp:k'.sp=k.sp
 hand:k'.hand=k.hand
 vsh:k'.vsh=k.vsh
 vfr:k'.vfr=k.vfr
 vsl:k'.vsl=k.vsl
 vsp:k'.vsp=k.vsp
 nfr:k'.fr.length=k.fr.length
 nsl:k'.sl.length=k.sl.length
theorem b2v (k:KV) (e:En):IncSame k (a00 k e):=by
 unfold a00
 split
 ·exact ⟨rfl,rfl,rfl,rfl,rfl,rfl,rfl,xa8,rfl⟩
 ·exact ⟨rfl,rfl,rfl,rfl,rfl,rfl,rfl,rfl,xa8⟩
theorem IncSame.trans {a b c:KV} (h:IncSame a b) (h2:IncSame b c):IncSame a c:=⟨h2.sh.trans h.sh,h2.sp.trans h.sp,h2.hand.trans h.hand,h2.vsh.trans h.vsh,h2.vfr.trans h.vfr,h2.vsl.trans h.vsl,h2.vsp.trans h.vsp,h2.nfr.trans h.nfr,h2.nsl.trans h.nsl⟩
def RefsB (k:KV) (b:Int):Prop:=(∀ f ∈ k.fr,0<=f.refs/\f.refs<=b)/\∀ f ∈ k.sl,0<=f.refs/\f.refs<=b
theorem RefsB.mono {k:KV} {b c:Int} (h:RefsB k b) (hbc:b<=c):RefsB k c:=⟨fun f hf=>by have:=h.1 f hf;omega,fun f hf=>by have:=h.2 f hf;omega⟩
theorem RefsB.inc {k:KV} {b:Int} (h:RefsB k b) (e:En) (hb:0<=b):RefsB (a00 k e) (b + 1):=by
 have hf0:∀ i,0<=(j6 k.fr i).refs/\(j6 k.fr i).refs<=b:=fun i=>by
  cases hi:k.fr[i]? with
  |none=>
   have:j6 k.fr i=fm0:=by unfold j6;rw [hi];rfl
   rw [this];exact ⟨xj3 0,hb⟩
  |some f=>rw [n6 hi];exact h.1 f (xd0 hi)
 have hs0:∀ i,0<=(a0G k.sl i).refs/\(a0G k.sl i).refs<=b:=fun i=>by
  cases hi:k.sl[i]? with
  |none=>
   have:a0G k.sl i=sw0:=by unfold a0G;rw [hi];rfl
   rw [this];exact ⟨xj3 0,hb⟩
  |some f=>rw [a1f hi];exact h.2 f (xd0 hi)
 unfold a00
 split
 ·refine ⟨fun f hf=>?_,fun f hf=>by have:=h.2 f hf;omega⟩
  rcases xn0 hf with h1|h1
  ·have:=h.1 f h1;omega
  ·subst h1
   have:=hf0 e.at_.toNat
   show 0<=(j6 k.fr e.at_.toNat).refs + 1/\(j6 k.fr e.at_.toNat).refs + 1<=b + 1
   omega
 ·refine ⟨fun f hf=>by have:=h.1 f hf;omega,fun f hf=>?_⟩
  rcases xn0 hf with h1|h1
  ·have:=h.2 f h1;omega
  ·subst h1
   have:=hs0 e.at_.toNat
   show 0<=(a0G k.sl e.at_.toNat).refs + 1/\(a0G k.sl e.at_.toNat).refs + 1<=b + 1
   omega
theorem b0k {k:KV} {b:Int} (h:RefsB k b) (hb:0<=b):∀ (l:List En),IncSame k (l.foldl a00 k)/\RefsB (l.foldl a00 k) (b + l.length):=by
 intro l
 induction l generalizing k b with
 |nil=>exact ⟨⟨rfl,rfl,rfl,rfl,rfl,rfl,rfl,rfl,rfl⟩,by rw [List.foldl_nil,xa2];exact h.mono (by omega)⟩
 |cons e l ih=>
  rw [xg3]
  obtain ⟨h1,h2⟩:=ih (h.inc e hb) (by omega)
  exact ⟨(b2v k e).trans h1,h2.mono (by rw [xb3];omega)⟩
theorem a8v {l:List En} {i:Nat} {e:En} (h:l[i]?=some e) (k:KV):(l.take (i + 1)).foldl a00 k=a00 ((l.take i).foldl a00 k) e:=by
 rw [xp5,h,xm9,xj5,xg3,List.foldl_nil]
theorem b36 {k:KV} {e:En} (h:e.kind=1):(a00 k e).fr=k.fr.set e.at_.toNat (a9n (j6 k.fr e.at_.toNat))/\(a00 k e).sl=k.sl:=by
 unfold a00;rw [xf0 h];exact ⟨rfl,rfl⟩
theorem b3x {k:KV} {e:En} (h:e.kind≠1):(a00 k e).sl=k.sl.set e.at_.toNat (a9Y (a0G k.sl e.at_.toNat))/\(a00 k e).fr=k.fr:=by
 unfold a00;rw [xf1 h];exact ⟨rfl,rfl⟩
theorem b13 {α:Type} {ar en fr sl sp S:α} {E X A:List α}:(ar::en::fr::sl::sp::(E++(S::(X++A)))).Perm (fr::sl::sp::((E++[en])++(S::(X++(A++[ar]))))):=by
 refine (List.perm_append_comm_assoc [ar,en] [fr,sl,sp] (E++(S::(X++A)))).trans ?_
 refine List.Perm.append_left [fr,sl,sp] ?_
 show (ar::(en::(E++(S::(X++A))))).Perm _
 refine (xp1 _ _).symm.trans ?_
 have e1:(en::(E++(S::(X++A))))++[ar]=en::(E++(S::(X++(A++[ar])))):=by simp
 have e2:(E++[en])++(S::(X++(A++[ar])))=E++en::(S::(X++(A++[ar]))):=by simp
 rw [e1]
 exact List.perm_middle.symm.trans (List.Perm.of_eq e2.symm)
theorem b1y:∀ {l:List Sp} {i:Nat} {p:Sp},l[i]?=some p->[a5u p,a0z p].Sublist (spA l)
 |[],_,_,h=>by simp at h
 |q::l,0,p,h=>by
  have:q=p:=by simpa using h
  subst this
  exact .cons_cons _ (.cons_cons _ (xh2 _))
 |q::l,i + 1,p,h=>.cons _ (.cons _ (b1y (l:=l) (i:=i) (by simpa using h)))
theorem b4w {g sp:Nat} {k:KV} {vh:Value} {held:List Nat} {a b:Asr} {R:List Asr}:(a::b::(wkS g k sp vh held++R)).Perm (frA k::slA k::a::b::.blk g (wkB k sp vh)::hdA vh held::a3m k::(k.sp.map a0z++R)) :=
 (xp2 (l₁:=[a,b,.blk g (wkB k sp vh),hdA vh held])).trans ((xp2 (l₁:=[a,b,.blk g (wkB k sp vh),hdA vh held])).cons _)
theorem b5I {w:World} {k:KV} (hK:KerV w k) (space:Int):Fn Tryz.prog 59 [.agg (kvC k).toArray,.int .i64 space] w (fun v w'=>∃ k',v=.tuple #[.agg (kvC k').toArray,.int .i64 (b3L k.K space),.int .i64 (a79 k.K space)]/\k'.K=b4j k.K space/\Came w w' k'):=by
 have hbeg:=fun w1 (h:KerV w1 k)=>a63 h space
 have hK0:=hK
 have hKown:Right k.K->∀ w1,KerV w1 k->Fn Tryz.prog 54 [.agg (kvC k).toArray] w1 (fun v w'=>∃ k':KV,v=.agg (kvC k').toArray/\k'.K=k.K/\St nF w1 w' (kA k')):=fun hr w1 h=>b0y h (b6J hr)
 obtain ⟨RE,hRE⟩:∃ e,e=a79 k.K space:=⟨_,rfl⟩
 unfold b4j b3L
 rw [<- hRE]
 unfold a79 at hRE
 obtain ⟨sh,fr,sl,sps,hand,vsh,vfr,vsl,vsp⟩:=k
 obtain ⟨k1,k2,k3,k4,k5⟩:=hK
 dsimp only at k1 k2 k3 k4 k5
 obtain ⟨p1,c1,rfl⟩:=k1.sl.len
 obtain ⟨p2,c2,rfl⟩:=k2.len
 obtain ⟨p3,c3,rfl⟩:=k3.len
 obtain ⟨p4,c4,rfl⟩:=k4.len
 have hlS:(KV.K ⟨sh,fr,sl,sps,hand,.slice p1 sh.length c1,.slice p2 fr.length c2,.slice p3 sl.length c3,.slice p4 sps.length c4⟩).spaces.length=sps.length:=xh1 _
 have hlL:(KV.K ⟨sh,fr,sl,sps,hand,.slice p1 sh.length c1,.slice p2 fr.length c2,.slice p3 sl.length c3,.slice p4 sps.length c4⟩).slots.length=sl.length:=rfl
 generalize hKK:KV.K ⟨sh,fr,sl,sps,hand,.slice p1 sh.length c1,.slice p2 fr.length c2,.slice p3 sl.length c3,.slice p4 sps.length c4⟩=K at hbeg hRE hKown hlS hlL |-
 have hpre:∀ w1 Γ1,St nF w w1 Γ1->KerV w1 ⟨sh,fr,sl,sps,hand,.slice p1 sh.length c1,.slice p2 fr.length c2,.slice p3 sl.length c3,.slice p4 sps.length c4⟩:=fun w1 Γ1 h=>hK0.now h
 rw [hlS,hlL] at hRE
 rw [hlS]
 unfold kvC at hbeg hKown |-
 dsimp only at hbeg hKown |-
 have hno:∀ {w1 Γ1},St nF w w1 Γ1->∀ {e:Int},e≠0->∃ k':KV,Value.tuple #[.agg #[.slice none 0 0,.slice none 0 0,.slice none 0 0,.slice none 0 0,.int .i64 0],.int .i64 0,.int .i64 e]=.tuple #[.agg [k'.vsh,k'.vfr,k'.vsl,k'.vsp,.int .i64 k'.hand].toArray,.int .i64 (if e=0 then ((sps.length:Nat):Int) else 0),.int .i64 e]/\k'.K=(if e=0 then b4t K space.toNat else a8h)/\Came w w1 k':=by
  intro w1 Γ1 h e he
  exact ⟨kv0,by rw [xf1 he];rfl,by rw [xf1 he];rfl,xd6 ⟨rfl,h.sub (xh2 _)⟩⟩
 refine yEn Tryz.func59 Tryz.ntmps59 (by kernel_rfl) (by kernel_rfl) rfl rfl ?_
 have hS:=St.start w
 repeat' (first|((with_reducible apply b9 b8);rfl;rfl;rfl)|((with_reducible apply c9);rfl;(((with_reducible apply Loads.st b8);rfl;((exact hS.blkR 1 rfl));rfl));rfl)|refine yDn (by with_reducible constructor) ?_|((with_reducible apply k7 hS);rfl;rfl;rfl;clear hS;intro g w' hS)|((with_reducible apply d6 hS b8);rfl;rfl;rfl;clear hS;intro g w' hS))
 rename_i g2 _
 refine x8 rfl rfl (hbeg _ (hpre _ _ hS)) rfl ?_
 clear hbeg
 rintro v w2 (⟨he,rfl,hS'⟩|⟨gw,sp,k',he,hsp,rfl,hk',hS'⟩)
 ·replace hS:=hS.transA hS'
  simp only [x9] at hS
  rw [xf1 he] at hRE
  have hd:decide (a0h K space=0)=false:=xh9 he
  rw [<- hRE] at he hd |-
  repeat' (first|((with_reducible apply b9 b8);rfl;rfl;rfl)|((with_reducible apply l4 b8);rfl;rfl;((exact (rfl:_=some [_,_,_,_,_])));rfl)|refine yDn (by with_reducible constructor) ?_|((with_reducible apply d5 hS b8 (i:=0));(iterate 8 rfl);((exact (rfl:_=[_,_,_,_,_])));clear hS;intro w' hS;simp only [List.set] at hS)|((with_reducible apply a0B);rfl;all_goals (intro hb hp;try (exfalso;omega))))
  ((apply a16);repeat (first|exact ResL.nil|(apply ResL.tmp;rfl)|(apply ResL.cell;rfl;(((with_reducible apply Loads.st b8);rfl;((exact hS.blkR 0 rfl));rfl)))))
  exact hno hS he
 rw [xf0 he] at hRE
 replace hS:=hS.trans hS'
 clear hS'
 rw [xg2] at hS
 have hV0:=WkV.own hS
 obtain ⟨hr,sp2,hsp2,hspl,hlv⟩:=a4r he
 obtain rfl:sp=sp2:=by omega
 subst hsp
 rw [xa9] at hRE hno |-
 subst hk'
 obtain ⟨x,hx⟩:∃ x,k'.sp[sp]?=some x:=by
  have:k'.K.spaces.length=k'.sp.length:=xh1 _
  exact i9 (by omega)
 have hxm:=xd0 hx
 obtain ⟨hsc,hel⟩:=a0j hr x.s (xd0 (a1h hx))
 have hxA:j9 k'.K sp=x.s.areas:=by unfold j9;rw [a0k (a1h hx)]
 have hxe:j5 k'.K sp=x.s.entries:=by unfold j5;rw [a0k (a1h hx)]
 rw [hxA] at hRE
 have hsl3:k'.sp.length=sps.length:=by rw [<- hlS];exact (xh1 _).symm
 have hslL:k'.sl.length=sl.length:=hlL
 obtain ⟨bs,os,cs,hvsp⟩:=hV0.ker.sp.form1 hx
 obtain ⟨f0,hf0⟩:∃ f0,k'.fr[0]?=some f0:=i9 (by have:=hr.cnt.1;have h9:k'.K.frames.length=k'.fr.length:=rfl;omega)
 obtain ⟨bf,of_,cf,hvfr⟩:=hV0.ker.fr.form1 hf0
 obtain ⟨psl,csl,hvsl⟩:=hV0.ker.sl.len
 have hxv:=hV0.ker.spv x hxm
 have hown:=hKown hr
 clear hKown
 have hcA:∀ p ∈ k'.sp,l6 p.s.areas=0:=fun p hp=>(a0j hr p.s (xh0.2 ⟨p,hp,rfl⟩)).1.ar
 have hroom:r6 (k'.sp.map (·.s))=r6 k'.K.spaces:=rfl
 have hsp4:=hr.cnt
 obtain ⟨sh',fr',sl',sps',hand',vsh',vfr',vsl',vsp'⟩:=k'
 dsimp only at hvsp hvfr hvsl hx hxm hf0 hsl3 hslL hcA hroom
 subst hvsp hvfr hvsl
 have hrowS:=d9 (f:=spC) hx
 unfold spC at hrowS
 have hback:∀ {w1 a b},St nF w w1 (a::b::(wkS gw (⟨sh',fr',sl',sps',hand',vsh',.slice (some ⟨bf,of_,none⟩) fr'.length cf,.slice psl sl'.length csl,.slice (some ⟨bs,os,none⟩) sps'.length cs⟩:KV) sp (.slice none 0 0) []++y8 (⟨sh',fr',sl',sps',hand',vsh',.slice (some ⟨bf,of_,none⟩) fr'.length cf,.slice psl sl'.length csl,.slice (some ⟨bs,os,none⟩) sps'.length cs⟩:KV)))->St nF w w1 (wkS gw (⟨sh',fr',sl',sps',hand',vsh',.slice (some ⟨bf,of_,none⟩) fr'.length cf,.slice psl sl'.length csl,.slice (some ⟨bs,os,none⟩) sps'.length cs⟩:KV) sp (.slice none 0 0) []++(y8 (⟨sh',fr',sl',sps',hand',vsh',.slice (some ⟨bf,of_,none⟩) fr'.length cf,.slice psl sl'.length csl,.slice (some ⟨bs,os,none⟩) sps'.length cs⟩:KV)++[a,b])):=fun h=>by
  rw [<- xg2]
  exact h.perm (xi2 (l₁:=[_,_]))
 have hspc:=fun w1 a b (h:St nF w w1 (a::b::(wkS gw (⟨sh',fr',sl',sps',hand',vsh',.slice (some ⟨bf,of_,none⟩) fr'.length cf,.slice psl sl'.length csl,.slice (some ⟨bs,os,none⟩) sps'.length cs⟩:KV) sp (.slice none 0 0) []++y8 (⟨sh',fr',sl',sps',hand',vsh',.slice (some ⟨bf,of_,none⟩) fr'.length cf,.slice psl sl'.length csl,.slice (some ⟨bs,os,none⟩) sps'.length cs⟩:KV))))=>a2l (WkV.own (hback h)) (e6 hx)
 have hspV:=fun w1 a b (h:St nF w w1 (a::b::(wkS gw (⟨sh',fr',sl',sps',hand',vsh',.slice (some ⟨bf,of_,none⟩) fr'.length cf,.slice psl sl'.length csl,.slice (some ⟨bs,os,none⟩) sps'.length cs⟩:KV) sp (.slice none 0 0) []++y8 (⟨sh',fr',sl',sps',hand',vsh',.slice (some ⟨bf,of_,none⟩) fr'.length cf,.slice psl sl'.length csl,.slice (some ⟨bs,os,none⟩) sps'.length cs⟩:KV))))=>(WkV.own (hback h)).ker.sp
 have htot:=fun w1 a b (h:St nF w w1 (a::b::(wkS gw (⟨sh',fr',sl',sps',hand',vsh',.slice (some ⟨bf,of_,none⟩) fr'.length cf,.slice psl sl'.length csl,.slice (some ⟨bs,os,none⟩) sps'.length cs⟩:KV) sp (.slice none 0 0) []++y8 (⟨sh',fr',sl',sps',hand',vsh',.slice (some ⟨bf,of_,none⟩) fr'.length cf,.slice psl sl'.length csl,.slice (some ⟨bs,os,none⟩) sps'.length cs⟩:KV))))=>a3x ((WkV.own (hback h)).ker.spv x hxm).ar
 have hroo:=fun w1 a b (h:St nF w w1 (a::b::(wkS gw (⟨sh',fr',sl',sps',hand',vsh',.slice (some ⟨bf,of_,none⟩) fr'.length cf,.slice psl sl'.length csl,.slice (some ⟨bs,os,none⟩) sps'.length cs⟩:KV) sp (.slice none 0 0) []++y8 (⟨sh',fr',sl',sps',hand',vsh',.slice (some ⟨bf,of_,none⟩) fr'.length cf,.slice psl sl'.length csl,.slice (some ⟨bs,os,none⟩) sps'.length cs⟩:KV))))=>b4Z (WkV.own (hback h)) hcA (by rw [hsl3,<- hlS];omega)
 dsimp only at hroo
 rw [hroom] at hroo
 unfold a1T at hspc
 dsimp only at hspc hspV
 rw [xf0 hsc.ar] at htot
 rw [<- xg2] at hS
 replace hS:=hS.perm xi2
 dsimp only [List.cons_append,List.nil_append] at hS
 obtain ⟨hT0,hT1⟩:0<=r9 x.s.areas/\r9 x.s.areas<=70000:=(a2R (hr.spaces x.s (xd0 (a1h hx)))).2
 have hR0:0<=r6 (⟨sh',fr',sl',sps',hand',vsh',.slice (some ⟨bf,of_,none⟩) fr'.length cf,.slice psl sl'.length csl,.slice (some ⟨bs,os,none⟩) sps'.length cs⟩:KV).K.spaces:=b1Q fun s hs=>(a2R (hr.spaces s hs)).2.1
 have hR1:r6 (⟨sh',fr',sl',sps',hand',vsh',.slice (some ⟨bf,of_,none⟩) fr'.length cf,.slice psl sl'.length csl,.slice (some ⟨bs,os,none⟩) sps'.length cs⟩:KV).K.spaces<=512:=by have:=hr.room;omega
 obtain ⟨pe,ce,hve⟩:=hxv.en.len
 rw [hve] at hrowS
 generalize hRm:r6 (⟨sh',fr',sl',sps',hand',vsh',.slice (some ⟨bf,of_,none⟩) fr'.length cf,.slice psl sl'.length csl,.slice (some ⟨bs,os,none⟩) sps'.length cs⟩:KV).K.spaces=R at hroo hRE hR0 hR1
 generalize hTm:r9 x.s.areas=T at htot hRE hT0 hT1
 have hd0:decide (a0h (⟨sh',fr',sl',sps',hand',vsh',.slice (some ⟨bf,of_,none⟩) fr'.length cf,.slice psl sl'.length csl,.slice (some ⟨bs,os,none⟩) sps'.length cs⟩:KV).K (sp:Nat)=0)=true:=xi0 he
 by_cases h4:sps.length=4
 ·rw [xf0 h4] at hRE
  have hd:decide (((sps.length:Nat):Int)=4)=true:=xi0 (by omega)
  rw [hRE]
  repeat' (first|((with_reducible apply b9 b8);rfl;rfl;rfl)|((with_reducible apply c9);rfl;(((with_reducible apply Loads.sl b8);rfl;((exact hS.blkC 1 rfl rfl))));rfl)|((with_reducible apply l4 b8);rfl;rfl;((exact (rfl:_=some [_,_,_,_,_])));rfl)|refine yDn (by with_reducible constructor) ?_|((with_reducible apply e8);rfl;(assumption))|((with_reducible apply f8);rfl;(rfl))|((with_reducible apply d5 hS b8 (i:=0));(iterate 8 rfl);((exact (rfl:_=[_,_,_,_,_])));clear hS;intro w' hS;simp only [List.set] at hS))
  ((apply a16);repeat (first|exact ResL.nil|(apply ResL.tmp;rfl)|(apply ResL.cell;rfl;(((with_reducible apply Loads.st b8);rfl;((exact hS.blkR 0 rfl));rfl)))))
  exact hno hS (by omega)
 rw [xf1 h4] at hRE
 have hd:decide (((sps.length:Nat):Int)=4)=false:=xh9 (by omega)
 by_cases h5:(sl.length:Int) < R + T
 ·rw [xf0 h5] at hRE
  have hd2:decide ((sl.length:Int) < R + T)=true:=xi0 h5
  rw [hRE]
  repeat' (first|((with_reducible apply b9 b8);rfl;rfl;rfl)|((with_reducible apply c9);rfl;(((with_reducible apply Loads.sl b8);rfl;((exact hS.blkC 1 rfl rfl))));rfl)|refine yDn (by with_reducible constructor) ?_|((with_reducible apply f8);rfl;first|rfl|assumption))
  (focus ((with_reducible apply e7 _ _ _ (by kernel_rfl) (by kernel_rfl) hS);(repeat' (first|(first|((with_reducible apply a10);rfl;rfl;omega;omega;rfl)|((with_reducible apply j3 b8);rfl;rfl)|((with_reducible apply j0);rfl;(intro wd hd;replace hd:St _ _ wd _:=hd;(((with_reducible apply Loads.sl b8);rfl;((exact hd.blkC 1 rfl rfl)))));rfl))|((with_reducible apply o6);rfl;rfl;rfl;refine ⟨_,fun wd hd=>hroo _ _ _ hd,?_⟩)|((with_reducible apply o6);rfl;rfl;rfl;refine ⟨_,fun wd hd=>hspc _ _ _ hd,?_⟩)|((with_reducible apply j0);rfl;(intro wd hd;replace hd:St _ _ wd _:=hd;(((with_reducible apply Loads.sl b8);rfl;exact (hspV _ _ _ hd).cel hrowS rfl)));rfl)|((with_reducible apply o6);rfl;rfl;rfl;refine ⟨_,fun wd hd=>htot _ _ _ hd,?_⟩)));all_goals ((with_reducible apply k8);intro w' hS';clear hS;have hS:=hS';clear hS')))
  repeat' (first|((with_reducible apply b9 b8);rfl;rfl;rfl)|((with_reducible apply l4 b8);rfl;rfl;((exact (rfl:_=some [_,_,_,_,_])));rfl)|refine yDn (by with_reducible constructor) ?_|((with_reducible apply e8);rfl;(assumption))|((with_reducible apply d5 hS b8 (i:=0));(iterate 8 rfl);((exact (rfl:_=[_,_,_,_,_])));clear hS;intro w' hS;simp only [List.set] at hS))
  ((apply a16);repeat (first|exact ResL.nil|(apply ResL.tmp;rfl)|(apply ResL.cell;rfl;(((with_reducible apply Loads.st b8);rfl;((exact hS.blkR 0 rfl));rfl)))))
  exact hno hS (by omega)
 rw [xf1 h5] at hRE
 have hd2:decide ((sl.length:Int) < R + T)=false:=xh9 h5
 repeat' (first|((with_reducible apply b9 b8);rfl;rfl;rfl)|((with_reducible apply c9);rfl;(((with_reducible apply Loads.sl b8);rfl;((exact hS.blkC 1 rfl rfl))));rfl)|refine yDn (by with_reducible constructor) ?_|((with_reducible apply f8);rfl;first|rfl|assumption))
 (focus ((with_reducible apply e7 _ _ _ (by kernel_rfl) (by kernel_rfl) hS);(repeat' (first|(first|((with_reducible apply a10);rfl;rfl;omega;omega;rfl)|((with_reducible apply j3 b8);rfl;rfl)|((with_reducible apply j0);rfl;(intro wd hd;replace hd:St _ _ wd _:=hd;(((with_reducible apply Loads.sl b8);rfl;((exact hd.blkC 1 rfl rfl)))));rfl))|((with_reducible apply o6);rfl;rfl;rfl;refine ⟨_,fun wd hd=>hroo _ _ _ hd,?_⟩)|((with_reducible apply o6);rfl;rfl;rfl;refine ⟨_,fun wd hd=>hspc _ _ _ hd,?_⟩)|((with_reducible apply j0);rfl;(intro wd hd;replace hd:St _ _ wd _:=hd;(((with_reducible apply Loads.sl b8);rfl;exact (hspV _ _ _ hd).cel hrowS rfl)));rfl)|((with_reducible apply o6);rfl;rfl;rfl;refine ⟨_,fun wd hd=>htot _ _ _ hd,?_⟩)));all_goals ((with_reducible apply k8);intro w' hS';clear hS;have hS:=hS';clear hS')))
 repeat' (first|((with_reducible apply b9 b8);rfl;rfl;rfl)|refine yDn (by with_reducible constructor) ?_|((with_reducible apply f8);rfl;(assumption))|((with_reducible apply d7 hS);rfl;rfl;rfl;refine ⟨_,hspc _ _ _ hS,?_⟩;clear hS;intro w' hS)|(((with_reducible apply y0 b8);rfl;rfl;rfl;refine ⟨_,(hspV _ _ _ hS).cel hrowS rfl,?_⟩)))
 obtain ⟨hrb1,hrb2⟩:=a8f hr
 have hfold:=fun i=>b0k (k:=(⟨sh',fr',sl',sps',hand',vsh',.slice (some ⟨bf,of_,none⟩) fr'.length cf,.slice psl sl'.length csl,.slice (some ⟨bs,os,none⟩) sps'.length cs⟩:KV)) (b:=100000) ⟨hrb1,hrb2⟩ (by omega) (x.s.entries.take i)
 replace hS:=hS.perm b4w
 unfold frA slA at hS
 dsimp only at hS
 have hof:of_=0:=by
  obtain ⟨gg,hgg⟩:=hS.rowSome 0 rfl (e6 hf0)
  injection hgg with hgg
  injection hgg
 subst hof
 have hEn:∀ {w1 A B C D},St nF w w1 (A::B::C::D::.blk gw (wkB (⟨sh',fr',sl',sps',hand',vsh',.slice (some ⟨bf,0,none⟩) fr'.length cf,.slice psl sl'.length csl,.slice (some ⟨bs,os,none⟩) sps'.length cs⟩:KV) sp (.slice none 0 0))::hdA (.slice none 0 0) []::a3m (⟨sh',fr',sl',sps',hand',vsh',.slice (some ⟨bf,0,none⟩) fr'.length cf,.slice psl sl'.length csl,.slice (some ⟨bs,os,none⟩) sps'.length cs⟩:KV)::((⟨sh',fr',sl',sps',hand',vsh',.slice (some ⟨bf,0,none⟩) fr'.length cf,.slice psl sl'.length csl,.slice (some ⟨bs,os,none⟩) sps'.length cs⟩:KV).sp.map a0z++y8 (⟨sh',fr',sl',sps',hand',vsh',.slice (some ⟨bf,0,none⟩) fr'.length cf,.slice psl sl'.length csl,.slice (some ⟨bs,os,none⟩) sps'.length cs⟩:KV)))->Sl nF w1 3 (.slice pe x.s.entries.length ce) (x.s.entries.map enC):=fun h=>by
  rw [<- hve]
  exact h.slMem (e:=91) (by
   refine xc6 _ (xc6 _ (xc6 _ (xc6 _ (xc6 _ (xc6 _ (xc6 _ (xe5 _ ?_)))))))
   exact xh0.2 ⟨x,hxm,rfl⟩)
 refine k9 (F:=nF) (w0:=w) (X:=Nat) (fun i=>[(49,.int .i64 (i:Nat))]) [1,2,4,7,47,48] rfl (fun i=>[.row 89 4 (.slice (some ⟨bf,0,none⟩) fr'.length cf) (((x.s.entries.take i).foldl a00 (⟨sh',fr',sl',sps',hand',vsh',.slice (some ⟨bf,0,none⟩) fr'.length cf,.slice psl sl'.length csl,.slice (some ⟨bs,os,none⟩) sps'.length cs⟩:KV)).fr.map fmC),.row 143 2 (.slice psl sl'.length csl) (((x.s.entries.take i).foldl a00 (⟨sh',fr',sl',sps',hand',vsh',.slice (some ⟨bf,0,none⟩) fr'.length cf,.slice psl sl'.length csl,.slice (some ⟨bs,os,none⟩) sps'.length cs⟩:KV)).sl.map swC)]) (fun i=>i<=x.s.entries.length) (fun i=>x.s.entries.length - i) 0 (by exact Fr.sub_of rfl) (xi5 _) hS ?_
 clear hS
 intro i w3 hi hS
 dsimp only [List.cons_append,List.nil_append] at hS |-
 obtain ⟨hsm,hrf⟩:=hfold i
 by_cases hlt:i < x.s.entries.length
 ·have hdl:decide ((i:Int) < (x.s.entries.length:Int))=true:=xi0 (by omega)
  obtain ⟨e,he2⟩:=i9 (l:=x.s.entries) (i:=i) (by omega)
  obtain ⟨b,off,rfl,-⟩:=(hEn hS).at_ hlt
  have hrowE:=d9 (f:=enC) he2
  unfold enC at hrowE
  have hnx:=a8v he2 (⟨sh',fr',sl',sps',hand',vsh',.slice (some ⟨bf,0,none⟩) fr'.length cf,.slice psl sl'.length csl,.slice (some ⟨bs,os,none⟩) sps'.length cs⟩:KV)
  obtain ⟨hnm,-,-⟩:=a9p hr hx (xd0 he2)
  obtain ⟨epg,ekd,eat⟩:=e
  dsimp only at hnm hrowE
  have hln:(x.s.entries.take i).length<=255:=by rw [xa1];omega
  rcases hnm with ⟨hk,j,hj,hjl⟩|⟨hk,j,hj,hjl⟩
  ·subst hj
   have hdk:decide (ekd=1)=true:=xi0 hk
   have hjl':j < fr'.length:=hjl
   obtain ⟨f1,hf1⟩:=i9 (l:=((x.s.entries.take i).foldl a00 (⟨sh',fr',sl',sps',hand',vsh',.slice (some ⟨bf,0,none⟩) fr'.length cf,.slice psl sl'.length csl,.slice (some ⟨bs,os,none⟩) sps'.length cs⟩:KV)).fr) (i:=j) (by rw [hsm.nfr];exact xp6.2 hjl')
   have hrb:=hrf.1 f1 (xd0 hf1)
   have hrowF:=d9 (f:=fmC) hf1
   unfold fmC at hrowF
   have hn1:((x.s.entries.take (i + 1)).foldl a00 (⟨sh',fr',sl',sps',hand',vsh',.slice (some ⟨bf,0,none⟩) fr'.length cf,.slice psl sl'.length csl,.slice (some ⟨bs,os,none⟩) sps'.length cs⟩:KV)).fr=((x.s.entries.take i).foldl a00 (⟨sh',fr',sl',sps',hand',vsh',.slice (some ⟨bf,0,none⟩) fr'.length cf,.slice psl sl'.length csl,.slice (some ⟨bs,os,none⟩) sps'.length cs⟩:KV)).fr.set j (a9n f1):=by
    rw [hnx,(b36 hk).1,xa9,n6 hf1]
   have hn2:((x.s.entries.take (i + 1)).foldl a00 (⟨sh',fr',sl',sps',hand',vsh',.slice (some ⟨bf,0,none⟩) fr'.length cf,.slice psl sl'.length csl,.slice (some ⟨bs,os,none⟩) sps'.length cs⟩:KV)).sl=((x.s.entries.take i).foldl a00 (⟨sh',fr',sl',sps',hand',vsh',.slice (some ⟨bf,0,none⟩) fr'.length cf,.slice psl sl'.length csl,.slice (some ⟨bs,os,none⟩) sps'.length cs⟩:KV)).sl:=by
    rw [hnx,(b36 hk).2]
   generalize hFR:((x.s.entries.take i).foldl a00 (⟨sh',fr',sl',sps',hand',vsh',.slice (some ⟨bf,0,none⟩) fr'.length cf,.slice psl sl'.length csl,.slice (some ⟨bs,os,none⟩) sps'.length cs⟩:KV)).fr=FR at *
   generalize hSL:((x.s.entries.take i).foldl a00 (⟨sh',fr',sl',sps',hand',vsh',.slice (some ⟨bf,0,none⟩) fr'.length cf,.slice psl sl'.length csl,.slice (some ⟨bs,os,none⟩) sps'.length cs⟩:KV)).sl=SL at *
   have e1:(FR.map fmC).set j (t5 [.string ⟨f1.data.toArray⟩,.int .i64 f1.refs,.bool f1.dirty,.bool f1.seen] 1 [.int .i64 (f1.refs + 1)])=(FR.set j (a9n f1)).map fmC:=by rw [xm7];rfl
   repeat' (first|((with_reducible apply b9 b8);rfl;rfl;rfl)|((with_reducible apply c9);rfl;(((with_reducible apply Loads.sc b8);rfl;((exact hS.blkC 0 rfl rfl))));rfl)|((with_reducible apply l5 b8);rfl;rfl;rfl;((rfl));((omega));rfl)|refine yDn (by with_reducible constructor) ?_|((with_reducible apply e8);rfl;(assumption))|((with_reducible apply d6 hS b8);rfl;rfl;rfl;clear hS;intro g w' hS)|((with_reducible apply d5 hS b8 (i:=0));(iterate 8 rfl);((exact (rfl:_=[_,_,_])));clear hS;intro w' hS;simp only [List.set] at hS)|((with_reducible apply a6D b8);rfl;rfl;rfl;refine ⟨_,(hEn hS).rng hrowE,rfl,?_⟩))
   (focus ((with_reducible apply a09 _ _ _ 13 (by kernel_rfl) (by kernel_rfl) hS);(simp only [xh3,xh4,xk4,xk5]);(repeat' ((first|((with_reducible apply a10);rfl;rfl;omega;omega;rfl)|((with_reducible apply j3 b8);rfl;rfl)|((with_reducible apply j0);rfl;(intro wd hd;replace hd:St _ _ wd _:=hd;(first|((with_reducible apply Loads.sc b8);rfl;(first|exact hd.blkC 0 rfl rfl|exact hd.rowCj 1 rfl (by assumption) rfl))|((with_reducible apply Loads.sl b8);rfl;((exact hd.blkC 5 rfl rfl)))));rfl)|((with_reducible apply a0w b8);rfl;rfl;rfl;((rfl));((omega));rfl))));all_goals ((with_reducible apply k8);intro w' hS';clear hS;have hS:=hS';clear hS')))
   repeat' (first|((with_reducible apply b9 b8);rfl;rfl;rfl)|((with_reducible apply i7);rfl;rfl;omega;omega;rfl)|refine yDn (by with_reducible constructor) ?_|((with_reducible apply a0y hS b8 (i:=1));(iterate 4 rfl);assumption;(iterate 5 rfl);intro w' hS';simp only [List.set] at hS';clear hS;have hS:=hS';clear hS'))
   rw [e1] at hS
   refine f7 (i + 1) (by exact Fr.sub_of rfl) (by omega) ?_ (by omega)
   dsimp only [List.cons_append,List.nil_append]
   rw [hn1,hn2]
   exact hS.drop
  ·subst hj
   have hdk:decide (ekd=1)=false:=xh9 hk
   have hjl':j < sl'.length:=hjl
   obtain ⟨f1,hf1⟩:=i9 (l:=((x.s.entries.take i).foldl a00 (⟨sh',fr',sl',sps',hand',vsh',.slice (some ⟨bf,0,none⟩) fr'.length cf,.slice psl sl'.length csl,.slice (some ⟨bs,os,none⟩) sps'.length cs⟩:KV)).sl) (i:=j) (by rw [hsm.nsl];exact xp6.2 hjl')
   have hrb:=hrf.2 f1 (xd0 hf1)
   have hrowF:=d9 (f:=swC) hf1
   unfold swC at hrowF
   have hn1:((x.s.entries.take (i + 1)).foldl a00 (⟨sh',fr',sl',sps',hand',vsh',.slice (some ⟨bf,0,none⟩) fr'.length cf,.slice psl sl'.length csl,.slice (some ⟨bs,os,none⟩) sps'.length cs⟩:KV)).sl=((x.s.entries.take i).foldl a00 (⟨sh',fr',sl',sps',hand',vsh',.slice (some ⟨bf,0,none⟩) fr'.length cf,.slice psl sl'.length csl,.slice (some ⟨bs,os,none⟩) sps'.length cs⟩:KV)).sl.set j (a9Y f1):=by
    rw [hnx,(b3x hk).1,xa9,a1f hf1]
   have hn2:((x.s.entries.take (i + 1)).foldl a00 (⟨sh',fr',sl',sps',hand',vsh',.slice (some ⟨bf,0,none⟩) fr'.length cf,.slice psl sl'.length csl,.slice (some ⟨bs,os,none⟩) sps'.length cs⟩:KV)).fr=((x.s.entries.take i).foldl a00 (⟨sh',fr',sl',sps',hand',vsh',.slice (some ⟨bf,0,none⟩) fr'.length cf,.slice psl sl'.length csl,.slice (some ⟨bs,os,none⟩) sps'.length cs⟩:KV)).fr:=by
    rw [hnx,(b3x hk).2]
   generalize hFR:((x.s.entries.take i).foldl a00 (⟨sh',fr',sl',sps',hand',vsh',.slice (some ⟨bf,0,none⟩) fr'.length cf,.slice psl sl'.length csl,.slice (some ⟨bs,os,none⟩) sps'.length cs⟩:KV)).fr=FR at *
   generalize hSL:((x.s.entries.take i).foldl a00 (⟨sh',fr',sl',sps',hand',vsh',.slice (some ⟨bf,0,none⟩) fr'.length cf,.slice psl sl'.length csl,.slice (some ⟨bs,os,none⟩) sps'.length cs⟩:KV)).sl=SL at *
   have e1:(SL.map swC).set j (t5 [.string ⟨f1.data.toArray⟩,.int .i64 f1.refs] 1 [.int .i64 (f1.refs + 1)])=(SL.set j (a9Y f1)).map swC:=by rw [xm7];rfl
   obtain ⟨gs,rfl⟩:=hS.rowSome 1 rfl (by omega)
   repeat' (first|((with_reducible apply b9 b8);rfl;rfl;rfl)|((with_reducible apply c9);rfl;(((with_reducible apply Loads.sc b8);rfl;((exact hS.blkC 0 rfl rfl))));rfl)|((with_reducible apply l5 b8);rfl;rfl;rfl;((rfl));((omega));rfl)|refine yDn (by with_reducible constructor) ?_|((with_reducible apply e8);rfl;(assumption))|((with_reducible apply f8);rfl;(assumption))|((with_reducible apply d6 hS b8);rfl;rfl;rfl;clear hS;intro g w' hS)|((with_reducible apply d5 hS b8 (i:=0));(iterate 8 rfl);((exact (rfl:_=[_,_,_])));clear hS;intro w' hS;simp only [List.set] at hS)|((with_reducible apply a6D b8);rfl;rfl;rfl;refine ⟨_,(hEn hS).rng hrowE,rfl,?_⟩))
   (focus ((with_reducible apply a09 _ _ _ 13 (by kernel_rfl) (by kernel_rfl) hS);(simp only [xh3,xh4,xk4,xk5]);(repeat' ((first|((with_reducible apply a10);rfl;rfl;omega;omega;rfl)|((with_reducible apply j3 b8);rfl;rfl)|((with_reducible apply j0);rfl;(intro wd hd;replace hd:St _ _ wd _:=hd;(first|((with_reducible apply Loads.sc b8);rfl;(first|exact hd.blkC 0 rfl rfl|exact hd.rowCj 2 rfl (by assumption) rfl))|((with_reducible apply Loads.sl b8);rfl;((exact hd.blkC 5 rfl rfl)))));rfl)|((with_reducible apply a0w b8);rfl;rfl;rfl;((rfl));((omega));rfl))));all_goals ((with_reducible apply k8);intro w' hS';clear hS;have hS:=hS';clear hS')))
   repeat' (first|((with_reducible apply b9 b8);rfl;rfl;rfl)|((with_reducible apply i7);rfl;rfl;omega;omega;rfl)|refine yDn (by with_reducible constructor) ?_|((with_reducible apply a0y hS b8 (i:=2));(iterate 4 rfl);assumption;(iterate 5 rfl);intro w' hS';simp only [List.set] at hS';clear hS;have hS:=hS';clear hS'))
   rw [e1] at hS
   refine f7 (i + 1) (by exact Fr.sub_of rfl) (by omega) ?_ (by omega)
   dsimp only [List.cons_append,List.nil_append]
   rw [hn1,hn2]
   exact hS.drop
 ·have hdl:decide ((i:Int) < (x.s.entries.length:Int))=false:=xh9 (by omega)
  obtain rfl:i=x.s.entries.length:=by omega
  rw [xj2] at hS hsm hrf
  repeat' (first|((with_reducible apply b9 b8);rfl;rfl;rfl)|refine yDn (by with_reducible constructor) ?_|((with_reducible apply f8);rfl;(assumption)))
  clear hroo htot hspV hspc hback hEn
  obtain ⟨FRs,hFRs⟩:∃ F,F=(x.s.entries.foldl a00 (⟨sh',fr',sl',sps',hand',vsh',.slice (some ⟨bf,0,none⟩) fr'.length cf,.slice psl sl'.length csl,.slice (some ⟨bs,os,none⟩) sps'.length cs⟩:KV)).fr:=⟨_,rfl⟩
  obtain ⟨SLs,hSLs⟩:∃ F,F=(x.s.entries.foldl a00 (⟨sh',fr',sl',sps',hand',vsh',.slice (some ⟨bf,0,none⟩) fr'.length cf,.slice psl sl'.length csl,.slice (some ⟨bs,os,none⟩) sps'.length cs⟩:KV)).sl:=⟨_,rfl⟩
  rw [<- hFRs,<- hSLs] at hS
  have hos:os=0:=by
   obtain ⟨gg,hgg⟩:=hS.rowSome 6 rfl (Nat.lt_of_le_of_lt (xi5 _) (e6 hx))
   injection hgg with hgg
   injection hgg
  subst hos
  unfold a3m wkB at hS
  dsimp only at hS
  refine a3v (fun w'=>St nF w w' [.blk g2 [.slice p1 sh.length c1,.slice p2 fr.length c2,.slice p3 sl.length c3,.slice p4 sps.length c4,.int .i64 hand],.blk gw [vsh',.slice (some ⟨bf,0,none⟩) fr'.length cf,.slice psl sl'.length csl,.slice (some ⟨bs,0,none⟩) sps'.length cs,.int .i64 hand',.int .i64 (sp:Nat),.slice none 0 0]]) 17 18 rfl hS (by kernel_rfl) ?_
  intro w4 hS'
  clear hS;have hS:=hS';clear hS'
  have hH:St nF w w4 [.blk g2 [.slice p1 sh.length c1,.slice p2 fr.length c2,.slice p3 sl.length c3,.slice p4 sps.length c4,.int .i64 hand],.blk gw [vsh',.slice (some ⟨bf,0,none⟩) fr'.length cf,.slice psl sl'.length csl,.slice (some ⟨bs,0,none⟩) sps'.length cs,.int .i64 hand',.int .i64 (sp:Nat),.slice none 0 0]]:=hS.sub (.cons _ (.cons _ (.cons _ (.cons_cons _ (.cons_cons _ (xh2 _))))))
  ((with_reducible apply g8 (nn 0) b8);rfl;kernel_rfl;exact (fun _ _ _ h=>h);exact xd3 hH;rfl;rfl)
  ((with_reducible apply g8 (nn 1) b8);rfl;kernel_rfl;exact (fun _ _ _ h=>h);exact xd3 hH;rfl;rfl)
  ((with_reducible apply g8 (nn 2) b8);rfl;kernel_rfl;exact (fun _ _ _ h=>h);exact xd3 hH;rfl;rfl)
  ((with_reducible apply g8 (nn 3) b8);rfl;kernel_rfl;exact (fun _ _ _ h=>h);exact xd3 hH;rfl;rfl)
  ((with_reducible apply g8 (nn 4) b8);rfl;kernel_rfl;exact (fun _ _ _ h=>h);exact xd3 hH;rfl;rfl)
  ((with_reducible apply n5 (nn 5));rfl;kernel_rfl;kernel_rfl;rfl;exact (fun _ _ _ h=>h);exact hH;rfl;(intro w2 hw2;(replace hw2:St _ _ w2 _:=hw2;(((with_reducible apply Loads.sl b8);rfl;((exact hw2.blkC 1 rfl rfl))))));rfl)
  ((with_reducible apply n5 (nn 6));rfl;kernel_rfl;kernel_rfl;rfl;exact (fun _ _ _ h=>h);exact hH;rfl;(intro w2 hw2;(replace hw2:St _ _ w2 _:=hw2;(((with_reducible apply Loads.st b8);rfl;((exact hw2.blkR 0 rfl));rfl))));rfl)
  ((with_reducible apply g8 (nn 9) b8);rfl;kernel_rfl;exact (fun _ _ _ h=>h);exact xd3 hH;rfl;rfl)
  refine o7 (i:=7) (by kernel_rfl) ?_
  refine q8 rfl (a0l (first:=[]) (caps:=[]) rfl rfl (hown _ (hpre _ _ hS))) rfl ?_
  rintro _ w5 ⟨ko,rfl,hko,h2⟩
  replace hS:=hS.trans h2
  clear h2 hown
  have hkos:ko.sp.map (·.s)=sps'.map (·.s):=by
   have:=congrArg Ker.spaces hko
   exact this
  obtain ⟨po,hpo,hpos⟩:∃ po,ko.sp[sp]?=some po/\po.s=x.s:=by
   have h1:(ko.sp.map (·.s))[sp]?=some x.s:=by rw [hkos,xm3,hx];rfl
   rw [xm3] at h1
   obtain ⟨po,h2,h3⟩:=xm6.1 h1
   exact ⟨po,h2,h3⟩
  have hrowO:=d9 (f:=spC) hpo
  unfold spC at hrowO
  have hsub2:[Asr.row 75 3 ko.vsp (ko.sp.map spC),a5u po,a0z po].Sublist (kA ko):=.cons _ (.cons _ (.cons _ (.cons_cons _ ((b1y hpo).trans (xp7 _ _)))))
  replace hS:=hS.sub (hsub2.append_right _)
  dsimp only [List.cons_append,List.nil_append] at hS
  obtain ⟨ps,pva,pve⟩:=po
  dsimp only at hpos
  subst hpos
  unfold a5u a0z at hS
  dsimp only at hS hrowO
  obtain ⟨osh,ofr,osl,osp,ohand,ovsh,ovfr,ovsl,ovsp⟩:=ko
  dsimp only at hkos hpo hrowO hS
  obtain ⟨qo,do_,rfl⟩:=hS.rowSlice 0 rfl
  obtain ⟨go,rfl⟩:=hS.rowSome 0 rfl (by have:=e6 hpo;rw [xh1];omega)
  obtain ⟨qa,da,rfl⟩:=hS.rowSlice 1 rfl
  obtain ⟨qe,de,rfl⟩:=hS.rowSlice 2 rfl
  simp only [xh1] at hS hrowO hpo |-
  have hspo:=e6 hpo
  have hH:St nF w w5 [.blk g2 [.slice p1 sh.length c1,.slice p2 fr.length c2,.slice p3 sl.length c3,.slice p4 sps.length c4,.int .i64 hand],.blk gw [vsh',.slice (some ⟨bf,0,none⟩) fr'.length cf,.slice psl sl'.length csl,.slice (some ⟨bs,0,none⟩) sps'.length cs,.int .i64 hand',.int .i64 (sp:Nat),.slice none 0 0]]:=hS.sub (.cons _ (.cons _ (.cons _ (.cons _ (.cons _ (.cons _ (.cons_cons _ (.cons_cons _ (xh2 _)))))))))
  refine ⟨xd3 (xd3 hH),?_⟩
  ((with_reducible apply g8 (nn 8) b8);rfl;kernel_rfl;exact (fun _ _ _ h=>h);exact xd3 hH;rfl;rfl)
  ((with_reducible apply a3a (nn 10));rfl;kernel_rfl;kernel_rfl;kernel_rfl;rfl;exact (fun _ _ _ h=>h);exact xd3 hH;(intro a ha;exact a8r b8 rfl rfl rfl rfl hspo a ha _);rfl)
  refine o7 (i:=11) (by kernel_rfl) ?_
  refine q8 rfl (a8k rfl (by ((with_reducible apply Loads.st b8);rfl;exact ((hS.rowSl 0 rfl).rng hrowO);rfl))) rfl ?_
  rintro _ _ ⟨rfl,rfl⟩
  refine ⟨xd3 (xd3 hH),?_⟩
  refine o7 (i:=12) (by kernel_rfl) ?_
  refine q8 rfl (z0 hS b8 rfl rfl rfl rfl rfl rfl) rfl ?_
  rintro _ w' ⟨gu,rfl,hS'⟩
  clear hS;have hS:=hS';clear hS'
  have hH:St nF w w' [.blk g2 [.slice p1 sh.length c1,.slice p2 fr.length c2,.slice p3 sl.length c3,.slice p4 sps.length c4,.int .i64 hand],.blk gw [vsh',.slice (some ⟨bf,0,none⟩) fr'.length cf,.slice psl sl'.length csl,.slice (some ⟨bs,0,none⟩) sps'.length cs,.int .i64 hand',.int .i64 (sp:Nat),.slice none 0 0]]:=hS.drop.sub (.cons _ (.cons _ (.cons _ (.cons _ (.cons _ (.cons _ (.cons_cons _ (.cons_cons _ (xh2 _)))))))))
  refine ⟨xd3 (xd3 hH),?_⟩
  refine o7 (i:=13) (by kernel_rfl) ?_
  refine q8 rfl (a0K hS b8 (i:=10) rfl rfl rfl rfl (hS.rowRo 0 rfl) rfl (by simp only [xh1,xb3,xa2];omega)) rfl ?_
  rintro _ w' ⟨ph,ch,rfl,hS'⟩
  simp only [List.set,xh1] at hS' |-
  clear hS;have hS:=hS';clear hS'
  have hH:St nF w w' [.blk g2 [.slice p1 sh.length c1,.slice p2 fr.length c2,.slice p3 sl.length c3,.slice p4 sps.length c4,.int .i64 hand],.blk gw [vsh',.slice (some ⟨bf,0,none⟩) fr'.length cf,.slice psl sl'.length csl,.slice (some ⟨bs,0,none⟩) sps'.length cs,.int .i64 hand',.int .i64 (sp:Nat),.slice none 0 0]]:=hS.drop.sub (.cons _ (.cons _ (.cons _ (.cons _ (.cons _ (.cons _ (.cons_cons _ (.cons_cons _ (xh2 _)))))))))
  refine ⟨xd3 (xd3 hH),?_⟩
  ((with_reducible apply g8 (nn 14) b8);rfl;kernel_rfl;exact (fun _ _ _ h=>h);exact xd3 hH;rfl;rfl)
  ((with_reducible apply g8 (nn 15) b8);rfl;kernel_rfl;exact (fun _ _ _ h=>h);exact xd3 hH;rfl;rfl)
  ((with_reducible apply g8 (nn 16) b8);rfl;kernel_rfl;exact (fun _ _ _ h=>h);exact xd3 hH;rfl;rfl)
  refine o7 (i:=17) (by kernel_rfl) ?_
  refine a04 (Φ:=fun _ w'=>St _ _ w' _) rfl (l9 hS b8 (i:=8) rfl rfl rfl rfl rfl (xg4 rfl) (by intro u hu;simp [Value.cells] at hu;subst hu;rfl)) ?_
  intro _ w' hS'
  simp only [List.set,t5] at hS'
  clear hS;have hS:=hS';clear hS'
  refine ⟨xd6 rfl,?_⟩
  refine a1x (by kernel_rfl) ?_
  replace hS:=hS.drop.drop
  obtain ⟨psh,csh,rfl⟩:∃ p c,vsh'=.slice p sh'.length c:=hV0.ker.sh.sl.len
  (with_reducible apply a5e)
  (with_reducible apply a6j)
  refine a12 (fun w'=>St nF w w' [.blk g2 [.slice p1 sh.length c1,.slice p2 fr.length c2,.slice p3 sl.length c3,.slice p4 sps.length c4,.int .i64 hand],.blk gw [.slice psh sh'.length csh,.slice (some ⟨bf,0,none⟩) fr'.length cf,.slice psl sl'.length csl,.slice ph (sps'.length + 1) ch,.int .i64 hand',.int .i64 (sp:Nat),.slice none 0 0]]) 10 rfl hS (by kernel_rfl) ?_
  intro w6 hS'
  clear hS;have hS:=hS';clear hS'
  have hH:St nF w w6 [.blk g2 [.slice p1 sh.length c1,.slice p2 fr.length c2,.slice p3 sl.length c3,.slice p4 sps.length c4,.int .i64 hand],.blk gw [.slice psh sh'.length csh,.slice (some ⟨bf,0,none⟩) fr'.length cf,.slice psl sl'.length csl,.slice ph (sps'.length + 1) ch,.int .i64 hand',.int .i64 (sp:Nat),.slice none 0 0]]:=hS.sub (.cons _ (.cons _ (.cons _ (.cons _ (.cons _ (.cons_cons _ (.cons_cons _ (xh2 _))))))))
  ((with_reducible apply j7 (nn 0) b8);rfl;kernel_rfl;exact (fun _ _ _ h=>h);exact hH;rfl;rfl)
  ((with_reducible apply j7 (nn 1) b8);rfl;kernel_rfl;exact (fun _ _ _ h=>h);exact hH;rfl;rfl)
  ((with_reducible apply j7 (nn 2) b8);rfl;kernel_rfl;exact (fun _ _ _ h=>h);exact hH;rfl;rfl)
  ((with_reducible apply a4Y (nn 3));rfl;kernel_rfl;kernel_rfl;kernel_rfl;exact (fun _ _ _ h=>h);exact hH;rfl;(intro wd hd;replace hd:St _ _ wd _:=hd;((with_reducible apply Loads.st b8);rfl;exact (hd.blkRk 1 0 5 rfl);rfl));rfl)
  ((with_reducible apply j7 (nn 4) b8);rfl;kernel_rfl;exact (fun _ _ _ h=>h);exact hH;rfl;rfl)
  ((with_reducible apply o9 (nn 5));rfl;kernel_rfl;exact (fun _ _ _ h=>h);exact hH;rfl;(intro wd hd;replace hd:St _ _ wd _:=hd;(((with_reducible apply Loads.sl b8);rfl;((exact hd.blkC 0 rfl rfl)))));rfl)
  ((with_reducible apply j7 (nn 6) b8);rfl;kernel_rfl;exact (fun _ _ _ h=>h);exact hH;rfl;rfl)
  refine m5 (i:=7) (by kernel_rfl) ?_
  simp only [xh3,xh4,xk5]
  refine m9 (Φ:=fun _ w'=>St _ _ w' _) rfl (l9 hS b8 (i:=4) rfl rfl rfl rfl rfl (xg4 rfl) (xc7.1 rfl)) ?_
  intro _ w' hS'
  simp only [List.set] at hS'
  clear hS;have hS:=hS';clear hS'
  refine ⟨hS.sub (.cons _ (.cons _ (.cons _ (.cons _ (.cons _ (.cons_cons _ (.cons_cons _ (xh2 _)))))))),?_⟩
  have hH:St nF w w' [.blk g2 [.slice p1 sh.length c1,.slice p2 fr.length c2,.slice p3 sl.length c3,.slice p4 sps.length c4,.int .i64 hand],.blk gw [.slice psh sh'.length csh,.slice (some ⟨bf,0,none⟩) fr'.length cf,.slice psl sl'.length csl,.slice ph (sps'.length + 1) ch,.int .i64 hand',.int .i64 (sp:Nat),.slice none 0 0]]:=hS.sub (.cons _ (.cons _ (.cons _ (.cons _ (.cons _ (.cons_cons _ (.cons_cons _ (xh2 _))))))))
  ((with_reducible apply j7 (nn 8) b8);rfl;kernel_rfl;exact (fun _ _ _ h=>h);exact hH;rfl;rfl)
  ((with_reducible apply j7 (nn 9) b8);rfl;kernel_rfl;exact (fun _ _ _ h=>h);exact hH;rfl;rfl)
  refine t7 (by kernel_rfl) ?_
  repeat' ((refine yDn (by with_reducible constructor) ?_))
  ((apply a16);repeat (first|exact ResL.nil|(apply ResL.tmp;rfl)|(apply ResL.cell;rfl;(((with_reducible apply Loads.st b8);rfl;((exact hS.blkR 4 rfl));rfl)))))
  refine ⟨⟨sh',FRs,SLs,sps'++[⟨x.s,.slice qa x.s.areas.length da,.slice qe x.s.entries.length de⟩],hand',.slice psh sh'.length csh,.slice (some ⟨bf,0,none⟩) fr'.length cf,.slice psl sl'.length csl,.slice ph (sps'.length + 1) ch⟩,?_,?_,?_⟩
  ·rw [hRE,xf0 rfl];rfl
  ·rw [hRE,xf0 rfl]
   unfold b4t
   rw [hxe,<- b3f,a0k (a1h hx),hFRs,hSLs]
   generalize List.foldl a00 _ x.s.entries=kf at hsm |-
   obtain ⟨a1,a2,a3,a4,a5,a6,a7,a8,a9⟩:=kf
   obtain ⟨b1,b2,b3,-,-,-,-,-,-⟩:=hsm
   dsimp only at b1 b2 b3
   subst b1 b2 b3
   unfold KV.K
   dsimp only
   rw [xk2]
   rfl
  ·refine xd3 ?_
   unfold b2Y frA slA a3m y8
   dsimp only
   rw [xk2,xk2,xk2]
   exact (hS.sub (.cons_cons _ (.cons_cons _ (.cons_cons _ (.cons_cons _ (.cons _ (.cons _ (.cons _ (.cons _ (.cons_cons _ (.refl _))))))))))).perm b13
def a8V:Sg:=⟨0,1,b7C 12 0 0 0 0,false,true⟩
def b1D:Sg:=⟨1,2,[97,98,99],true,false⟩
def a0H:Im:=⟨[116],[],[a8V,b1D],[],[],0⟩
theorem a94:s8 a0H=0:=by
 have h1:a9K a0H=true:=by decide +kernel
 have h2:a9T a0H=true:=by decide +kernel
 have h3:a5f a0H=true:=by decide +kernel
 have h4:a7n a0H=true:=by
  refine a44 ⟨fun j a b h1 h2=>?_,?_,?_⟩
  ·match j with
   |0=>
    simp [a0H] at h1 h2
    subst h1 h2
    decide
   |j + 1=>simp [a0H] at h2
  ·rintro ⟨i,j,x,_,h,_⟩;simp [a0H] at h
  ·rintro ⟨i,j,x,_,h,_⟩;simp [a0H] at h
 have h5:a82 a0H=true:=by
  refine a44 ⟨?_,?_,?_,?_,?_⟩
  ·intro s hs;simp [a0H] at hs
  ·intro k r h;simp [a0H] at h
  ·intro k q r h;simp [a0H] at h
  ·exact ⟨a8V,by decide +kernel,rfl⟩
  ·decide
 unfold s8
 simp [h1,h2,h3,h4,h5]
theorem b52:ImB a0H:=⟨by decide,by decide,by decide,by decide⟩
theorem b5u:ImD a0H:=by intro s hs;simp [a0H] at hs;rcases hs with rfl|rfl <;> decide
def a24 (vs:Value) (a:Int):Ob:=⟨a0H,.slice none 0 0,vs,.slice none 0 0,.slice none 0 0,a⟩
theorem b0z (vs:Value) (a:Int):([a24 vs a]:List Ob).find? (fun o=>!decide (s8 o.im=0))=none:=by
 rw [xj1]
 intro x hx
 simp only [xn1] at hx
 subst hx
 unfold a24
 rw [a94]
 decide
theorem a7Z (vs:Value):a3C [a24 vs 0] 8 0 (v6 ([],1) (a24 vs 0))=some ([a24 vs 16],4):=rfl
theorem b1o (vs:Value):a47 (a24 vs 0) []=0:=by
 unfold a47
 rw [xf1 (by decide),b0z]
 dsimp only
 rw [xf0 (by simp),a7Z]
 rfl
def a8N:List Sh:=shO [(a0H,16)] a0H 1
def threeA:List Ar:=([a35 1 a8V,a35 1 b1D]).foldl z9 []
theorem b4B (w:World):Fn Tryz.prog 58 [] w (fun v w'=>∃ va vs N,v=lkA va vs 16/\shs N=a8N/\Sl nF w' 4 va (threeA.map arC)/\ShsV w' N vs/\St nF w w' []):=by
 have hlk:=fun (w1:World) (vs:Value) (h:ImV w1 a0H (.slice none 0 0) vs (.slice none 0 0) (.slice none 0 0))=>b5v (M:=a24 vs 0) (Lb:=[]) (vl:=.slice none 0 0) h (Sl.nil0 w1 6) (by simp) (by
  intro o ho
  simp only [xn1] at ho
  subst ho
  exact ⟨b52,b5u⟩)
 refine yEn Tryz.func58 Tryz.ntmps58 (by kernel_rfl) (by kernel_rfl) rfl rfl ?_
 have hS:=St.start w
 repeat' (first|((with_reducible apply l4 b8);rfl;rfl;(first|exact (rfl:_=some [_,_,_,_,_])|exact (rfl:_=some [_,_,_,_,_,_]));rfl)|refine yDn (by with_reducible constructor) ?_|((with_reducible apply d6 hS b8);rfl;rfl;rfl;clear hS;intro g w' hS)|((with_reducible apply a0N hS b8);(iterate 7 rfl);clear hS;intro g w' hS)|((with_reducible apply d7 hS);rfl;rfl;rfl;refine ⟨_,a7h 12 0 0 0 0 _,?_⟩;clear hS;intro w' hS))
 refine x8 rfl rfl (hlk _ (.slice (some ⟨g,0,none⟩) 2 2) ⟨Sl.nil0 _ 1,hS.rowSl 0 rfl,Sl.nil0 _ 2,Sl.nil0 _ 3⟩) rfl ?_
 rintro v w2 (⟨h1,-,-⟩|⟨-,s,va,vh,N,h1,h2,rfl,h4⟩)
 ·exact absurd (b1o _) h1
 rw [a7Z] at h1
 cases h1
 have e1:shs N=a8N:=h2.trans (Eq.trans (by rfl) (List.append_nil _))
 have e2:a3H [a24 (.slice (some ⟨g,0,none⟩) 2 2) 16]=threeA:=rfl
 rw [show a3H ([a24 (.slice (some ⟨g,0,none⟩) 2 2) 16],(4:Int)).1=threeA from e2] at h4
 obtain ⟨pa,ca,rfl⟩:∃ p c,va=.slice p threeA.length c:=by
  have:=h4.rowSlice 0 rfl
  rwa [xh1] at this
 obtain ⟨ph,ch,rfl⟩:∃ p c,vh=.slice p N.length c:=by
  have:=h4.rowSlice 1 rfl
  rwa [xh1] at this
 replace hS:=(hS.trans h4).perm xi2
 dsimp only [List.cons_append,List.nil_append] at hS
 clear h4 hlk
 repeat' (first|((with_reducible apply b9 b8);rfl;rfl;rfl)|((with_reducible apply c9);rfl;(((with_reducible apply Loads.st b8);rfl;((exact hS.blkR 0 rfl));rfl));rfl)|refine yDn (by with_reducible constructor) ?_|((with_reducible apply d6 hS b8);rfl;rfl;rfl;clear hS;intro g w' hS)|((with_reducible apply d5 hS b8 (i:=0));(iterate 8 rfl);((exact (rfl:_=[_,_,_])));clear hS;intro w' hS;simp only [List.set] at hS)|((with_reducible apply d5 hS b8 (i:=2));(iterate 8 rfl);((exact (rfl:_=[_,_,_])));clear hS;intro w' hS;simp only [List.set] at hS))
 ((apply a0t);repeat (first|exact ResL.nil|(apply ResL.cell;rfl;(((with_reducible apply Loads.st b8);rfl;((exact hS.blkR 2 rfl));rfl)))))
 exact ⟨_,_,N,rfl,e1,hS.rowSl 3 rfl,⟨hS.rowSl 4 rfl,fun p hp=>hS.slMem (e:=96) (xc6 _ (xc6 _ (xc6 _ (xc6 _ (xc6 _ (xh0.2 ⟨p,hp,rfl⟩))))))⟩,hS.sub (xh2 _)⟩
def begK1:Ker:=b7o threeA a8N 16 3 8
def begK2:Ker:=a5r begK1 0 46 [119,120,121,122]
def begK3:Ker:=b4j begK2 0
def begK4:Ker:=a5r begK3 1 32 [113]
theorem b7Y:b4x threeA a8N 16 3 8=0:=by decide +kernel
theorem b6w:x7 begK1 0 (4:Nat) 1=0/\a2I begK1 0 46 (4:Nat) 1=(0,0):=by decide +kernel
theorem b6x:a79 begK2 0=0/\b3L begK2 0=1:=by decide +kernel
theorem b6u:x7 begK3 1 (1:Nat) 1=0/\a2I begK3 1 32 (1:Nat) 1=(0,0):=by decide +kernel
theorem b4L:a4b begK4 0 2 0=0/\a4c begK4 0 32 2 0=(0,0)/\a38 begK4 0 32 2 0=[97,98]:=by decide +kernel
theorem b6I:a4S begK4 1 2=0/\a6A begK4 1 2=[113,98,99,0,0,0,0,0,0,0,0,0,0,0,119,120]:=by decide +kernel
theorem b1q:begK1.frames.length=3/\begK2.frames.length=3/\begK3.frames.length=3/\begK4.frames.length=3:=by decide +kernel
theorem Came.own {w w':World} {k:KV} (h:Came w w' k) {n:Nat} (hn:k.K.frames.length=n + 1):St nF w w' (b2Y k):=by
 rcases h with ⟨rfl,-⟩|h
 ·cases hn
 ·exact h
theorem b78 (a b c d:Int):a9w Tryz.prog 68 [.int .i64 a,.int .i64 b] [.int .i64 c,.int .i64 d] (decide (a=c/\b=d)):=by
 refine ⟨fun w=>?_,by kernel_rfl⟩
 simp [go_sem]
 repeat' split
 all_goals simp_all
theorem a6T (w:World):Fn Tryz.prog 21 [] w (RBf (.bool true) w):=by
 refine yEn Tryz.func21 Tryz.ntmps21 (by kernel_rfl) (by kernel_rfl) rfl rfl ?_
 have hS:=St.start w
 repeat' (first|((with_reducible apply b9 b8);rfl;rfl;rfl)|refine yDn (by with_reducible constructor) ?_)
 refine x8 rfl rfl (b4B _) rfl ?_
 rintro _ w2 ⟨va,vs,N,rfl,hN,hA,hL,hS'⟩
 replace hS:=hS.transA hS'
 simp only [x9] at hS
 clear hS'
 repeat' (fail)
 refine x8 rfl rfl (b6S hA hL (by omega) (by omega) (frames:=3) (slots:=8)) rfl ?_
 rintro _ w3 ⟨k1,rfl,hk1,hc⟩
 rw [hN,b7Y]
 rw [hN] at hk1
 replace hk1:k1.K=begK1:=hk1
 have hO:=hc.own (n:=2) (by rw [hk1];exact b1q.1)
 replace hS:=(hS.trans hO).perm xi2
 dsimp only [List.cons_append,List.nil_append] at hS
 have hV:KerV _ k1:=KerV.own (Γ:=[]) (by rw [List.append_nil];exact hO)
 clear hc hO
 obtain ⟨sh,fr,sl,sps,hand,vsh,vfr,vsl,vsp⟩:=k1
 obtain ⟨hV1,hV2,hV3,hV4,hV5⟩:=hV
 dsimp only at hV1 hV2 hV3 hV4 hV5
 obtain ⟨u1,t1,rfl⟩:=hV1.sl.len
 obtain ⟨u2,t2,rfl⟩:=hV2.len
 obtain ⟨u3,t3,rfl⟩:=hV3.len
 obtain ⟨u4,t4,rfl⟩:=hV4.len
 clear hV1 hV2 hV3 hV4 hV5
 repeat' (first|((with_reducible apply b9 b8);rfl;rfl;rfl)|((with_reducible apply c9);rfl;(((with_reducible apply Loads.st b8);rfl;((exact hS.blkR 0 rfl));rfl));rfl)|refine yDn (by with_reducible constructor) ?_|((with_reducible apply d6 hS b8);rfl;rfl;rfl;clear hS;intro g w' hS)|((with_reducible apply d5 hS b8 (i:=0));(iterate 8 rfl);((exact (rfl:_=[_,_,_,_,_])));clear hS;intro w' hS;simp only [List.set] at hS))
 have hst:=a99 (KerV.own (hS.perm (xi2 (l₁:=[_])))) (space:=0) (addr:=46) (s:=[119,120,121,122]) (by omega) (by omega)
 rw [hk1,show ((([119,120,121,122]:List UInt8).length:Nat):Int)=((4:Nat):Int) from rfl,b6w.1,b6w.2] at hst
 refine x8 rfl rfl hst rfl ?_
 clear hst
 rintro _ w4 ⟨k2,rfl,hk2,hc⟩
 replace hk2:k2.K=begK2:=hk2
 replace hS:=hS.sub (.cons_cons _ (xh2 _))
 have hO:=hc.own (n:=2) (by rw [hk2];exact b1q.2.1)
 replace hS:=(hS.trans hO).perm xi2
 dsimp only [List.cons_append,List.nil_append] at hS
 have hV:KerV _ k2:=KerV.own (Γ:=[]) (by rw [List.append_nil];exact hO)
 clear hc hO
 obtain ⟨sh,fr,sl,sps,hand,vsh,vfr,vsl,vsp⟩:=k2
 obtain ⟨hV1,hV2,hV3,hV4,hV5⟩:=hV
 dsimp only at hV1 hV2 hV3 hV4 hV5
 obtain ⟨u1,t1,rfl⟩:=hV1.sl.len
 obtain ⟨u2,t2,rfl⟩:=hV2.len
 obtain ⟨u3,t3,rfl⟩:=hV3.len
 obtain ⟨u4,t4,rfl⟩:=hV4.len
 clear hV1 hV2 hV3 hV4 hV5
 repeat' (first|((with_reducible apply b9 b8);rfl;rfl;rfl)|((with_reducible apply c9);rfl;(((with_reducible apply Loads.st b8);rfl;((exact hS.blkR 1 rfl));rfl));rfl)|refine yDn (by with_reducible constructor) ?_|((with_reducible apply d6 hS b8);rfl;rfl;rfl;clear hS;intro g w' hS)|((with_reducible apply d5 hS b8 (i:=0));(iterate 8 rfl);((exact (rfl:_=[_,_])));clear hS;intro w' hS;simp only [List.set] at hS)|((with_reducible apply d5 hS b8 (i:=1));(iterate 8 rfl);((exact (rfl:_=[_,_,_,_,_])));clear hS;intro w' hS;simp only [List.set] at hS))
 have hst:=b5I (KerV.own (hS.perm (xi2 (l₁:=[_,_])))) 0
 rw [hk2,b6x.1,b6x.2] at hst
 refine x8 rfl rfl hst rfl ?_
 clear hst
 rintro _ w5 ⟨k3,rfl,hk3,hc⟩
 replace hk3:k3.K=begK3:=hk3
 replace hS:=hS.sub (.cons_cons _ (.cons_cons _ (xh2 _)))
 have hO:=hc.own (n:=2) (by rw [hk3];exact b1q.2.2.1)
 replace hS:=(hS.trans hO).perm xi2
 dsimp only [List.cons_append,List.nil_append] at hS
 have hV:KerV _ k3:=KerV.own (Γ:=[]) (by rw [List.append_nil];exact hO)
 clear hc hO
 obtain ⟨sh,fr,sl,sps,hand,vsh,vfr,vsl,vsp⟩:=k3
 obtain ⟨hV1,hV2,hV3,hV4,hV5⟩:=hV
 dsimp only at hV1 hV2 hV3 hV4 hV5
 obtain ⟨u1,t1,rfl⟩:=hV1.sl.len
 obtain ⟨u2,t2,rfl⟩:=hV2.len
 obtain ⟨u3,t3,rfl⟩:=hV3.len
 obtain ⟨u4,t4,rfl⟩:=hV4.len
 clear hV1 hV2 hV3 hV4 hV5
 repeat' (first|((with_reducible apply b9 b8);rfl;rfl;rfl)|((with_reducible apply c9);rfl;(((with_reducible apply Loads.st b8);rfl;((exact hS.blkR 1 rfl));rfl));rfl)|refine yDn (by with_reducible constructor) ?_|((with_reducible apply d5 hS b8 (i:=1));(iterate 8 rfl);((exact (rfl:_=[_,_,_,_,_])));clear hS;intro w' hS;simp only [List.set] at hS))
 have hst:=a99 (KerV.own (hS.perm (xi2 (l₁:=[_,_])))) (space:=1) (addr:=32) (s:=[113]) (by omega) (by omega)
 rw [hk3,show ((([113]:List UInt8).length:Nat):Int)=((1:Nat):Int) from rfl,b6u.1,b6u.2] at hst
 refine x8 rfl rfl hst rfl ?_
 clear hst
 rintro _ w6 ⟨k4,rfl,hk4,hc⟩
 replace hk4:k4.K=begK4:=hk4
 replace hS:=hS.sub (.cons_cons _ (.cons_cons _ (xh2 _)))
 have hO:=hc.own (n:=2) (by rw [hk4];exact b1q.2.2.2)
 replace hS:=(hS.trans hO).perm xi2
 dsimp only [List.cons_append,List.nil_append] at hS
 have hV:KerV _ k4:=KerV.own (Γ:=[]) (by rw [List.append_nil];exact hO)
 clear hc hO
 obtain ⟨sh,fr,sl,sps,hand,vsh,vfr,vsl,vsp⟩:=k4
 obtain ⟨hV1,hV2,hV3,hV4,hV5⟩:=hV
 dsimp only at hV1 hV2 hV3 hV4 hV5
 obtain ⟨u1,t1,rfl⟩:=hV1.sl.len
 obtain ⟨u2,t2,rfl⟩:=hV2.len
 obtain ⟨u3,t3,rfl⟩:=hV3.len
 obtain ⟨u4,t4,rfl⟩:=hV4.len
 clear hV1 hV2 hV3 hV4 hV5
 repeat' (first|((with_reducible apply b9 b8);rfl;rfl;rfl)|((with_reducible apply c9);rfl;(((with_reducible apply Loads.st b8);rfl;((exact hS.blkR 2 rfl));rfl));rfl)|refine yDn (by with_reducible constructor) ?_|((with_reducible apply d6 hS b8);rfl;rfl;rfl;clear hS;intro g w' hS)|((with_reducible apply d5 hS b8 (i:=0));(iterate 8 rfl);((exact (rfl:_=[_,_])));clear hS;intro w' hS;simp only [List.set] at hS)|((with_reducible apply d5 hS b8 (i:=2));(iterate 8 rfl);((exact (rfl:_=[_,_,_,_,_])));clear hS;intro w' hS;simp only [List.set] at hS))
 have hst:=b5e (KerV.own (hS.perm (xi2 (l₁:=[_,_,_])))) (space:=0) (addr:=32) (size:=2) (way:=0) (by omega) (by omega)
 rw [hk4,b4L.1,b4L.2.1,b4L.2.2] at hst
 refine x8 rfl rfl hst rfl ?_
 clear hst
 rintro _ w7 ⟨k5,rfl,hk5,hc⟩
 have hV:=hc.V
 replace hS:=hS.trans hc.st
 clear hc hk5
 simp only [List.nil_append] at hS
 obtain ⟨sh5,fr5,sl5,sps5,hand5,vsh5,vfr5,vsl5,vsp5⟩:=k5
 obtain ⟨hV1,hV2,hV3,hV4,hV5⟩:=hV
 dsimp only at hV1 hV2 hV3 hV4 hV5
 obtain ⟨x1,y1,rfl⟩:=hV1.sl.len
 obtain ⟨x2,y2,rfl⟩:=hV2.len
 obtain ⟨x3,y3,rfl⟩:=hV3.len
 obtain ⟨x4,y4,rfl⟩:=hV4.len
 clear hV1 hV2 hV3 hV4 hV5
 repeat' (first|((with_reducible apply b9 b8);rfl;rfl;rfl)|((with_reducible apply c9);rfl;(((with_reducible apply Loads.st b8);rfl;((exact hS.blkR 4 rfl));rfl));rfl)|refine yDn (by with_reducible constructor) ?_|((with_reducible apply d6 hS b8);rfl;rfl;rfl;clear hS;intro g w' hS)|((with_reducible apply d5 hS b8 (i:=0));(iterate 8 rfl);((exact (rfl:_=[_,_])));clear hS;intro w' hS;simp only [List.set] at hS)|((with_reducible apply d5 hS b8 (i:=1));(iterate 8 rfl);((exact (rfl:_=[_,_,_,_,_])));clear hS;intro w' hS;simp only [List.set] at hS))
 have hst:=b1x (KerV.own (hS.perm (xi2 (l₁:=[_,_,_,_,_])))) 1 2
 rw [hk4,b6I.1,b6I.2] at hst
 repeat' (first|((with_reducible apply b9 b8);rfl;rfl;rfl)|((with_reducible apply c9);rfl;(((with_reducible apply Loads.st b8);rfl;(first|exact hS.blkR 0 rfl|exact hS.blkR 2 rfl|exact hS.blkR 3 rfl);rfl));rfl)|((with_reducible apply l4 b8);rfl;rfl;((exact (rfl:_=some [_,_])));rfl)|refine yDn (by with_reducible constructor) ?_|((with_reducible apply k6);(iterate 4 rfl);(rfl))|((with_reducible apply f9);rfl;((rfl));rfl;rfl)|((with_reducible apply d7 hS);rfl;rfl;rfl;refine ⟨_,hst,?_⟩;clear hS;intro w' hS)|((with_reducible apply b6N);rfl;rfl;exact b78 0 0 0 0;rfl)|((with_reducible apply b5j b8);rfl;rfl;rfl;omega;decide;rfl)|((with_reducible apply a7M b8);rfl;rfl;rfl;omega;decide;rfl))
 (refine j4 rfl ?_)
 exact ⟨rfl,hS.sub (xh2 _)⟩
theorem a6l {w:World} {k:KV} (hK:KerV w k) (space page:Int):Fn Tryz.prog 6 [.agg (kvC k).toArray,.int .i64 space,.int .i64 page] w (RBf (.bool true) w):=by
 have hpk:=fun w1 (h:KerV w1 k)=>b1x h space page
 have hre:=fun w1 (h:KerV w1 k)=>b0h h space 1 0
 have hbg:=a6T
 have hE:x7 k.K space 1 0=a0h k.K space:=by
  unfold x7
  by_cases h:a0h k.K space=0
  ·rw [xf0 h,xf1 (by omega),xf1 (by omega),h]
  ·rw [xf1 h]
 rw [hE] at hre
 by_cases he:a0h k.K space=0
 rotate_left
 ·have h1:a4S k.K space page=a0h k.K space:=by unfold a4S;rw [xf1 he]
  have h2:a6A k.K space page=[]:=by unfold a6A;rw [h1,xf1 he]
  rw [h1,h2] at hpk
  clear h1 h2 hE
  generalize a0h k.K space=e at hpk hre he
  obtain ⟨sh,fr,sl,sps,hand,vsh,vfr,vsl,vsp⟩:=k
  have hK0:=hK
  obtain ⟨k1,k2,k3,k4,k5⟩:=hK
  dsimp only at k1 k2 k3 k4 k5
  obtain ⟨p1,c1,rfl⟩:=k1.sl.len
  obtain ⟨p2,c2,rfl⟩:=k2.len
  obtain ⟨p3,c3,rfl⟩:=k3.len
  obtain ⟨p4,c4,rfl⟩:=k4.len
  unfold kvC at hpk hre |-
  dsimp only at hpk hre |-
  have hd:decide (e=0)=false:=xh9 he
  have hd2:decide (e=e)=true:=xi0 rfl
  refine yEn Tryz.func6 Tryz.ntmps6 (by kernel_rfl) (by kernel_rfl) rfl rfl ?_
  have hS:=St.start w
  repeat' (first|((with_reducible apply b9 b8);rfl;rfl;rfl)|((with_reducible apply c9);rfl;(((with_reducible apply Loads.st b8);rfl;((exact hS.blkR 0 rfl));rfl));rfl)|refine yDn (by with_reducible constructor) ?_|((with_reducible apply k6);(iterate 4 rfl);first|rfl|assumption)|((with_reducible apply f9);rfl;(first|rfl|assumption);rfl;rfl)|((with_reducible apply f8);rfl;(assumption))|((with_reducible apply k7 hS);rfl;rfl;rfl;clear hS;intro g w' hS)|((with_reducible apply d7 hS);rfl;rfl;rfl;refine ⟨_,hpk _ (hK0.now hS),?_⟩;clear hS;intro w' hS)|((with_reducible apply d7 hS);rfl;rfl;rfl;refine ⟨_,hre _ (hK0.now hS),?_⟩;clear hS;intro w' hS)|((with_reducible apply d7 hS);rfl;rfl;rfl;refine ⟨_,hbg _,?_⟩;clear hS;intro w' hS))
  (refine j4 rfl ?_)
  exact ⟨rfl,hS.sub (xh2 _)⟩
 obtain ⟨hr,sp,rfl,hspl,hlv⟩:=a4r he
 rw [he] at hre
 obtain ⟨x,hx⟩:∃ x,k.sp[sp]?=some x:=by
  have:k.K.spaces.length=k.sp.length:=xh1 _
  exact i9 (by omega)
 have hxv:=hK.spv x (xd0 hx)
 have hsc:=(a0j hr x.s (xd0 (a1h hx))).1
 have hxA:j9 k.K sp=x.s.areas:=by unfold j9;rw [a0k (a1h hx)]
 have hok:=a0F (o5.1 hsc.ar).2
 have haa:=fun w1 (h:Sl nF w1 4 x.va (x.s.areas.map arC))=>a2Z page h hok
 unfold a1z at haa
 have hpp:=fun w1 (h:KerV w1 k) (ha:At k.K sp page)=>b3C h hr ha
 have h1:a4S k.K (sp:Nat) page=if (m7 x.s.areas page).isSome=true then 0 else 6:=by
  unfold a4S
  rw [xf0 he,show (((sp:Nat):Int)).toNat=sp from rfl,hxA]
 have h2:a6A k.K (sp:Nat) page=if (m7 x.s.areas page).isSome=true then t9 k.K sp page else []:=by
  unfold a6A
  rw [h1,show (((sp:Nat):Int)).toNat=sp from rfl]
  by_cases h:(m7 x.s.areas page).isSome=true
  ·rw [xf0 h,xf0 rfl,xf0 h]
  ·rw [xf1 h,xf1 (by omega),xf1 h]
 rw [h1,h2] at hpk
 have hat:(m7 x.s.areas page).isSome=true->At k.K sp page:=fun h=>⟨hlv,by rw [hxA];exact h⟩
 clear h1 h2 hE he hr hlv hxA hspl hsc
 generalize t9 k.K sp page=D at hpk hpp
 generalize (m7 x.s.areas page).getD a1u=a at haa
 have hspl:=e6 hx
 obtain ⟨sh,fr,sl,sps,hand,vsh,vfr,vsl,vsp⟩:=k
 have hK0:=hK
 obtain ⟨k1,k2,k3,k4,k5⟩:=hK
 dsimp only at k1 k2 k3 k4 k5
 obtain ⟨p1,c1,rfl⟩:=k1.sl.len
 obtain ⟨p2,c2,rfl⟩:=k2.len
 obtain ⟨p3,c3,rfl⟩:=k3.len
 obtain ⟨p4,c4,rfl⟩:=k4.len
 dsimp only at hx hspl
 have hrow:=d9 (f:=spC) hx
 obtain ⟨b,off,rfl,hro⟩:=k4.at_ (i:=sp) hspl
 obtain ⟨s,va,ve⟩:=x
 have har:=hxv.ar
 dsimp only at har haa hpk hat
 obtain ⟨pa,ca,rfl⟩:=har.len
 unfold spC at hrow
 unfold arC at haa
 unfold kvC at hpk hre hpp |-
 dsimp only at hrow haa hpk hre hpp |-
 cases hf:(m7 s.areas page).isSome with
 |false=>
  rw [hf,xf1 (by simp),xf1 (by simp)] at hpk
  rw [hf] at haa
  refine yEn Tryz.func6 Tryz.ntmps6 (by kernel_rfl) (by kernel_rfl) rfl rfl ?_
  have hS:=St.start w
  repeat' (first|((with_reducible apply b9 b8);rfl;rfl;rfl)|((with_reducible apply c9);rfl;(first|((with_reducible apply Loads.sl b8);rfl;(first|exact hS.blkC 0 rfl rfl|exact hS.roC (by assumption) (by assumption) rfl))|((with_reducible apply Loads.st b8);rfl;((exact hS.blkR 0 rfl));rfl));rfl)|((with_reducible apply l5 b8);rfl;rfl;rfl;((rfl));((omega));rfl)|refine yDn (by with_reducible constructor) ?_|((with_reducible apply k6);(iterate 4 rfl);(rfl))|((with_reducible apply f9);rfl;((rfl));rfl;rfl)|((with_reducible apply e8);rfl;(rfl))|((with_reducible apply f8);rfl;(rfl))|((with_reducible apply k7 hS);rfl;rfl;rfl;clear hS;intro g w' hS)|((with_reducible apply d6 hS b8);rfl;rfl;rfl;clear hS;intro g w' hS)|((with_reducible apply d5 hS b8 (i:=0));(iterate 8 rfl);((exact (rfl:_=[_,_,_,_])));clear hS;intro w' hS;simp only [List.set] at hS)|((with_reducible apply d7 hS);rfl;rfl;rfl;refine ⟨_,hpk _ (hK0.now hS),?_⟩;clear hS;intro w' hS)|((with_reducible apply d7 hS);rfl;rfl;rfl;refine ⟨_,hre _ (hK0.now hS),?_⟩;clear hS;intro w' hS)|((with_reducible apply d7 hS);rfl;rfl;rfl;refine ⟨_,hbg _,?_⟩;clear hS;intro w' hS)|((with_reducible apply d7 hS);rfl;rfl;rfl;refine ⟨_,haa _ (har.now hS),?_⟩;clear hS;intro w' hS))
  (refine j4 rfl ?_)
  exact ⟨rfl,hS.sub (xh2 _)⟩
 |true=>
  rw [hf,xf0 rfl,xf0 rfl] at hpk
  rw [hf] at haa
  have hpp:=fun w1 h=>hpp w1 h (hat hf)
  have hd:decide (D=D)=true:=xi0 rfl
  refine yEn Tryz.func6 Tryz.ntmps6 (by kernel_rfl) (by kernel_rfl) rfl rfl ?_
  have hS:=St.start w
  repeat' (first|((with_reducible apply b9 b8);rfl;rfl;rfl)|((with_reducible apply c9);rfl;(first|((with_reducible apply Loads.sl b8);rfl;(first|exact hS.blkC 0 rfl rfl|exact hS.roC (by assumption) (by assumption) rfl))|((with_reducible apply Loads.st b8);rfl;(first|exact hS.blkR 0 rfl|exact hS.blkR 1 rfl);rfl));rfl)|((with_reducible apply l5 b8);rfl;rfl;rfl;((rfl));((omega));rfl)|refine yDn (by with_reducible constructor) ?_|((with_reducible apply k6);(iterate 4 rfl);(rfl))|((with_reducible apply f9);rfl;((rfl));rfl;rfl)|((with_reducible apply e8);rfl;(rfl))|((with_reducible apply k7 hS);rfl;rfl;rfl;clear hS;intro g w' hS)|((with_reducible apply d6 hS b8);rfl;rfl;rfl;clear hS;intro g w' hS)|((with_reducible apply d5 hS b8 (i:=0));(iterate 8 rfl);((exact (rfl:_=[_,_,_,_])));clear hS;intro w' hS;simp only [List.set] at hS)|((with_reducible apply d7 hS);rfl;rfl;rfl;refine ⟨_,hpk _ (hK0.now hS),?_⟩;clear hS;intro w' hS)|((with_reducible apply d7 hS);rfl;rfl;rfl;refine ⟨_,hre _ (hK0.now hS),?_⟩;clear hS;intro w' hS)|((with_reducible apply d7 hS);rfl;rfl;rfl;refine ⟨_,hbg _,?_⟩;clear hS;intro w' hS)|((with_reducible apply d7 hS);rfl;rfl;rfl;refine ⟨_,haa _ (har.now hS),?_⟩;clear hS;intro w' hS)|((with_reducible apply d7 hS);rfl;rfl;rfl;refine ⟨_,hpp _ (hK0.now hS),?_⟩;clear hS;intro w' hS))
  (refine j4 rfl ?_)
  exact ⟨by rw [hd],hS.sub (xh2 _)⟩
end Go.Proofs.YtejnpppejalhfabGreat
namespace Go.Proofs.YtejnpppejalhfabGreat
set_option maxRecDepth 100000
set_option maxHeartbeats 8000000
open Go.ChangeShapes Go.WideShapes Go.ChangeAt Go.RowKit Go.Deep
def b1N {α:Type} (R:α->List Value->Prop) (xs:List α) (rows:List (List Value)):Prop:=rows.length=xs.length/\∀ (i:Nat) (x:α) (r:List Value),xs[i]?=some x->rows[i]?=some r->R x r
section
variable {H:Type} {enc:TypeId×Value->H} {P:Program} {w:World} {base:Nat} {spare:Nat->Bool} {held:Bool}
theorem b5M {α:Type} [Inhabited α] {t e:TypeId} {fuel sz:Nat} {cs:List Value} {y:DataW H×List MemPlace} (ht:P.underlying t=some (.slice e)) (hsz:P.cellsOf e=sz) (hpos:0 < sz) (R:α->List Value->Prop) (hR1:∀ x r,R x r->r.all (·.oneCell')=true)
  (hR:∀ (n:Nat) (cs':List Value) (z:DataW H×List MemPlace),cs'.length=sz->DataW.trod enc P w base spare held n e cs'=some z->∃ x:α,R x cs') (h:DataW.trod enc P w base spare held fuel t cs=some y) :
  ∃ v xs rows,cs=[v]/\Sl nF w sz v rows/\b1N R xs rows/\v.oneCell'=true:=by
 rcases open_slice ht h with ⟨rfl,_⟩|⟨a,len,cap,m,n,D,Pl,rfl,hb,hl,hm,hmm,_,hx⟩
 ·exact ⟨_,[],[],rfl,xd6 ⟨_,_,rfl,rfl⟩,⟨rfl,fun i x r h=>by simp at h⟩,rfl⟩
 ·have hlm:len<=m:=by rw [hmm];split <;> omega
  rw [hsz] at hx
  have key:∀ i,∃ r x,i < len->w.cells? base (a.add (i * sz)) sz=some r/\R x r/\r.length=sz:=fun i=>by
   by_cases hi:i < len
   ·obtain ⟨cs',h1,h2⟩:=hx i (by omega)
    have hl:=(World.cells?_some h1).2.1
    obtain ⟨x,hr⟩:=hR n cs' _ hl h2
    exact ⟨cs',x,fun _=>⟨h1,hr,hl⟩⟩
   ·exact ⟨[],default,fun h=>(hi h).elim⟩
  obtain ⟨r,hr⟩:=Classical.axiomOfChoice key
  obtain ⟨x,hr⟩:=Classical.axiomOfChoice hr
  refine ⟨_,(List.range len).map x,(List.range len).map r,rfl,?_,⟨by simp,fun i y r' h1 h2=>?_⟩,rfl⟩
  ·by_cases h0:len=0
   ·subst h0;exact xd6 ⟨_,_,rfl,rfl⟩
   ·obtain ⟨b,off,spot⟩:=a
    have hcell:∀ i,i < len->∀ j,j < sz->w.cell? (((⟨b,off,spot⟩:Addr).add (i * sz)).add j)=(r i)[j]?:=fun i hi j hj=>(World.cells?_some (hr i hi).1).2.2 j hj
    have h00:=hcell 0 (by omega) 0 hpos
    obtain ⟨u0,hu0⟩:∃ u,(r 0)[0]?=some u:=⟨(r 0)[0]'(by rw [(hr 0 (by omega)).2.2];exact hpos),by simp⟩
    rw [hu0] at h00
    simp only [Nat.zero_mul,Addr.add,if_true] at h00
    have hspot:spot=none:=by
     cases spot with
     |none=>rfl
     |some s=>simp [World.cell?] at h00;split at h00 <;> simp at h00
    subst hspot
    have hbl:=World.block_lt_of_cell? w _ h00
    refine xd3 ⟨b,off,cap,by simp,by simpa using hl,hm,⟨hbl,id,fun r' hr'=>?_,fun r' hr'=>?_,fun k r' hk j u hj=>?_⟩⟩
    ·obtain ⟨i,hi,rfl⟩:=xh0.1 hr'
     exact (hr i (by simpa using hi)).2.2
    ·obtain ⟨i,hi,rfl⟩:=xh0.1 hr'
     exact hR1 _ _ (hr i (by simpa using hi)).2.1
    ·have hk':k < len:=by have:=e6 hk;simpa using this
     simp [hk'] at hk
     subst hk
     have hjl:j < sz:=by have:=e6 hj;rwa [(hr k hk').2.2] at this
     have:=hcell k hk' j hjl
     rw [hj] at this
     rwa [Addr.add_mid,Addr.add_mid] at this
  ·have hi:i < len:=by have:=e6 h1;simpa using this
   simp [hi] at h1 h2
   subst h1 h2
   exact (hr i hi).2.1
end
end Go.Proofs.YtejnpppejalhfabGreat
namespace Go.Proofs.YtejnpppejalhfabGreat
set_option maxRecDepth 100000
set_option maxHeartbeats 8000000
open Go.ChangeShapes Go.WideShapes Go.ChangeAt Go.RowKit
section
variable {H:Type} {enc:TypeId×Value->H} {W:World} {base b0:Nat} {sp:Nat->Bool} {held:Bool}
theorem cI {n:Nat} {t:TypeId} {c:Value} {o:Option (DataW H×List MemPlace)} (ht:(Tryz.prog).underlying t=some (.int .i64)) (h:DataW.trod enc Tryz.prog W base sp held n t [c]=o) (ho:o.isSome=true):∃ k:Int,c=.int .i64 k/\(Lit.int .i64 k).wf=true:=by
 obtain ⟨x,hx⟩:=xg7.1 ho
 obtain ⟨k,hk,_,hw⟩:=DataW.trod_int ht (h.trans hx)
 simp only [List.cons.injEq,and_true] at hk
 exact ⟨k,hk,hw⟩
theorem cB {n:Nat} {t:TypeId} {c:Value} {o:Option (DataW H×List MemPlace)} (ht:(Tryz.prog).underlying t=some .bool) (h:DataW.trod enc Tryz.prog W base sp held n t [c]=o) (ho:o.isSome=true):∃ b:Bool,c=.bool b:=by
 obtain ⟨x,hx⟩:=xg7.1 ho
 obtain ⟨b,hb,_⟩:=DataW.trod_bool ht (h.trans hx)
 simp only [List.cons.injEq,and_true] at hb
 exact ⟨b,hb⟩
theorem cS {n:Nat} {t:TypeId} {c:Value} {o:Option (DataW H×List MemPlace)} (ht:(Tryz.prog).underlying t=some .string) (h:DataW.trod enc Tryz.prog W base sp held n t [c]=o) (ho:o.isSome=true):∃ l:List UInt8,c=.string ⟨l.toArray⟩/\l.length<=maxLen:=by
 obtain ⟨x,hx⟩:=xg7.1 ho
 obtain ⟨s,hs,_,hl⟩:=DataW.trod_string ht (h.trans hx)
 simp only [List.cons.injEq,and_true] at hs
 obtain ⟨⟨l⟩⟩:=s
 exact ⟨l,hs,by simpa [ByteArray.size] using hl⟩
theorem gS {α:Type} {l:List α} {i:Nat} (h:i < l.length):(l[i]?).isSome=true:=by simp [h]
theorem a4A:(Tryz.prog).cellsOf 3=1:=by kernel_rfl
theorem a8D:(Tryz.prog).cellsOf 4=1:=by kernel_rfl
theorem a33:(Tryz.prog).cellsOf 9=1:=by kernel_rfl
theorem b5p:(Tryz.prog).cellsOf 81=4:=by kernel_rfl
instance:Inhabited Ar:=⟨⟨0,0,0,false⟩⟩
theorem b2x {n:Nat} {cs:List Value} {z:DataW H×List MemPlace} (hl:cs.length=4) (h:DataW.trod enc Tryz.prog W base sp held n 81 cs=some z):∃ a:Ar,cs=arC a:=by
 match cs,hl with
 |[c0,c1,c2,c3],_=>
  obtain ⟨xs,n,_,_,_,hl,hf⟩:=DataW.trod_struct Tryz.underlying81 h
  have f0:=hf 0 _ rfl
  have f1:=hf 1 _ rfl
  have f2:=hf 2 _ rfl
  have f3:=hf 3 _ rfl
  simp only [xp8,xp9,xq0,a4A,a8D,xk4,xk5,xh3,xh4] at f0 f1 f2 f3
  have hl:xs.length=4:=hl
  obtain ⟨k0,rfl,_⟩:=cI Tryz.underlying3 f0 (gS (by omega))
  obtain ⟨k1,rfl,_⟩:=cI Tryz.underlying3 f1 (gS (by omega))
  obtain ⟨k2,rfl,_⟩:=cI Tryz.underlying3 f2 (gS (by omega))
  obtain ⟨k3,rfl⟩:=cB Tryz.underlying4 f3 (gS (by omega))
  exact ⟨⟨k0,k1,k2,k3⟩,rfl⟩
end
section
variable {H:Type} {enc:TypeId×Value->H} {W:World} {base b0:Nat} {sp:Nat->Bool} {held:Bool}
instance:Inhabited Fx:=⟨⟨0,[]⟩⟩
instance:Inhabited Sh:=⟨⟨0,[],[]⟩⟩
theorem b6T:(Tryz.prog).cellsOf 96=2:=by kernel_rfl
theorem b4c:(Tryz.prog).cellsOf 94=3:=by kernel_rfl
theorem b3B:(Tryz.prog).cellsOf 92=1:=by kernel_rfl
theorem b4U:(Tryz.prog).cellsOf 30=1:=by kernel_rfl
theorem b20:(Tryz.prog).cellsOf 31=1:=by kernel_rfl
theorem a9B {α:Type} {f:α->List Value} {G:α->Prop} {xs:List α} {rows:List (List Value)} (h:b1N (fun a r=>r=f a/\G a) xs rows):rows=xs.map f/\∀ x ∈ xs,G x:=by
 obtain ⟨h1,h2⟩:=h
 refine ⟨?_,fun x hx=>?_⟩
 ·apply xm8
  intro i
  rw [xm3]
  by_cases hi:i < xs.length
  ·rw [xe1 hi,xe1 (by omega)]
   simp only [xn5,Option.some.injEq]
   exact (h2 i _ _ (xe1 hi) (xe1 (by omega))).1
  ·rw [xm2 (by omega),xm2 (by omega)];rfl
 ·obtain ⟨i,hi⟩:=xd9.1 hx
  have hl:=e6 hi
  exact (h2 i x _ hi (xe1 (by rw [h1];exact hl))).2
theorem cc1 {c v:Value} (h:[c]=[v]):c=v:=by simpa using h
theorem b4S {n:Nat} {cs:List Value} {z:DataW H×List MemPlace} (hl:cs.length=2) (h:DataW.trod enc Tryz.prog W base sp held n 96 cs=some z):∃ f:Fx,cs=fxC f:=by
 match cs,hl with
 |[c0,c1],_=>
  obtain ⟨xs,n,_,_,_,hl,hf⟩:=DataW.trod_struct Tryz.underlying96 h
  have f0:=hf 0 _ rfl
  have f1:=hf 1 _ rfl
  simp only [xp8,xp9,xq0,a4A,a33,xk4,xk5,xh3,xh4] at f0 f1
  have hl:xs.length=2:=hl
  obtain ⟨k0,rfl,_⟩:=cI Tryz.underlying3 f0 (gS (by omega))
  obtain ⟨l1,rfl,_⟩:=cS Tryz.underlying9 f1 (gS (by omega))
  exact ⟨⟨k0,l1⟩,rfl⟩
theorem a2u {α:Type} [Inhabited α] {n:Nat} {t e sz:Nat} {c:Value} {o:Option (DataW H×List MemPlace)} (ht:(Tryz.prog).underlying t=some (.slice e)) (hsz:(Tryz.prog).cellsOf e=sz) (hpos:0 < sz) (f:α->List Value) (G:α->Prop) (h1:∀ x,(f x).all (·.oneCell')=true\/¬ G x)
  (hR:∀ (n:Nat) (cs':List Value) (z:DataW H×List MemPlace),cs'.length=sz->DataW.trod enc Tryz.prog W base sp held n e cs'=some z->∃ x:α,cs'=f x/\G x) (h:DataW.trod enc Tryz.prog W base sp held n t [c]=o) (ho:o.isSome=true):∃ xs:List α,Sl nF W sz c (xs.map f)/\(∀ x ∈ xs,G x)/\c.oneCell'=true:=by
 obtain ⟨x,hx⟩:=xg7.1 ho
 obtain ⟨v,xs,rows,hv,hsl,hra,hone⟩:=b5M ht hsz hpos (fun (a:α) r=>r=f a/\G a) (fun x r h=>by
  obtain ⟨rfl,hg⟩:=h
  rcases h1 x with h|h
  ·exact h
  ·exact absurd hg h) (fun n cs' z hl hz=>hR n cs' z hl hz) (h.trans hx)
 obtain rfl:=cc1 hv
 obtain ⟨rfl,hg⟩:=a9B hra
 exact ⟨xs,hsl,hg,hone⟩
theorem a98 {n:Nat} {cs:List Value} {z:DataW H×List MemPlace} (hl:cs.length=3) (h:DataW.trod enc Tryz.prog W base sp held n 94 cs=some z):∃ x:Sh×Value,cs=shC x.1 x.2/\ShV W x.1 x.2/\x.2.oneCell'=true:=by
 match cs,hl with
 |[c0,c1,c2],_=>
  obtain ⟨xs,n,_,_,_,hl,hf⟩:=DataW.trod_struct Tryz.underlying94 h
  have f0:=hf 0 _ rfl
  have f1:=hf 1 _ rfl
  have f2:=hf 2 _ rfl
  simp only [xp8,xp9,xq0,a4A,a33,b3B,xk4,xk5,xh3,xh4] at f0 f1 f2
  have hl:xs.length=3:=hl
  obtain ⟨k0,rfl,_⟩:=cI Tryz.underlying3 f0 (gS (by omega))
  obtain ⟨l1,rfl,_⟩:=cS Tryz.underlying9 f1 (gS (by omega))
  obtain ⟨fs,h2,_,h3⟩:=a2u Tryz.underlying92 b6T (by decide) fxC (fun _=>True) (fun x=>xd6 rfl) (fun _ _ _ hl hz=>by obtain ⟨f,hf⟩:=b4S hl hz;exact ⟨f,hf,trivial⟩) f2 (gS (by omega))
  exact ⟨(⟨k0,l1,fs⟩,c2),rfl,h2,h3⟩
end
section
variable {H:Type} {enc:TypeId×Value->H} {W:World} {base b0:Nat} {sp:Nat->Bool} {held:Bool}
instance:Inhabited Fm:=⟨fm0⟩
instance:Inhabited Sw:=⟨sw0⟩
instance:Inhabited En:=⟨⟨0,0,0⟩⟩
instance:Inhabited Sp:=⟨⟨⟨false,[],[]⟩,.bool false,.bool false⟩⟩
theorem b4E:(Tryz.prog).cellsOf 89=4:=by kernel_rfl
theorem b6m:(Tryz.prog).cellsOf 143=2:=by kernel_rfl
theorem b4g:(Tryz.prog).cellsOf 75=3:=by kernel_rfl
theorem b48:(Tryz.prog).cellsOf 91=3:=by kernel_rfl
theorem b2u:(Tryz.prog).cellsOf 42=5:=by kernel_rfl
theorem b2I:(Tryz.prog).cellsOf 38=1:=by kernel_rfl
theorem b31:(Tryz.prog).cellsOf 39=1:=by kernel_rfl
theorem b2V:(Tryz.prog).cellsOf 40=1:=by kernel_rfl
theorem b0Y:(Tryz.prog).cellsOf 73=1:=by kernel_rfl
theorem b1d {n:Nat} {cs:List Value} {z:DataW H×List MemPlace} (hl:cs.length=3) (h:DataW.trod enc Tryz.prog W base sp held n 91 cs=some z):∃ e:En,cs=enC e:=by
 match cs,hl with
 |[c0,c1,c2],_=>
  obtain ⟨xs,n,_,_,_,hl,hf⟩:=DataW.trod_struct Tryz.underlying91 h
  have f0:=hf 0 _ rfl
  have f1:=hf 1 _ rfl
  have f2:=hf 2 _ rfl
  simp only [xp8,xp9,xq0,a4A,xk4,xk5,xh3,xh4] at f0 f1 f2
  have hl:xs.length=3:=hl
  obtain ⟨k0,rfl,_⟩:=cI Tryz.underlying3 f0 (gS (by omega))
  obtain ⟨k1,rfl,_⟩:=cI Tryz.underlying3 f1 (gS (by omega))
  obtain ⟨k2,rfl,_⟩:=cI Tryz.underlying3 f2 (gS (by omega))
  exact ⟨⟨k0,k1,k2⟩,rfl⟩
theorem b01 {n:Nat} {cs:List Value} {z:DataW H×List MemPlace} (hl:cs.length=4) (h:DataW.trod enc Tryz.prog W base sp held n 89 cs=some z):∃ f:Fm,cs=fmC f:=by
 match cs,hl with
 |[c0,c1,c2,c3],_=>
  obtain ⟨xs,n,_,_,_,hl,hf⟩:=DataW.trod_struct Tryz.underlying89 h
  have f0:=hf 0 _ rfl
  have f1:=hf 1 _ rfl
  have f2:=hf 2 _ rfl
  have f3:=hf 3 _ rfl
  simp only [xp8,xp9,xq0,a4A,a33,a8D,xk4,xk5,xh3,xh4] at f0 f1 f2 f3
  have hl:xs.length=4:=hl
  obtain ⟨l0,rfl,_⟩:=cS Tryz.underlying9 f0 (gS (by omega))
  obtain ⟨k1,rfl,_⟩:=cI Tryz.underlying3 f1 (gS (by omega))
  obtain ⟨b2,rfl⟩:=cB Tryz.underlying4 f2 (gS (by omega))
  obtain ⟨b3,rfl⟩:=cB Tryz.underlying4 f3 (gS (by omega))
  exact ⟨⟨l0,k1,b2,b3⟩,rfl⟩
theorem b19 {n:Nat} {cs:List Value} {z:DataW H×List MemPlace} (hl:cs.length=2) (h:DataW.trod enc Tryz.prog W base sp held n 143 cs=some z):∃ s:Sw,cs=swC s:=by
 match cs,hl with
 |[c0,c1],_=>
  obtain ⟨xs,n,_,_,_,hl,hf⟩:=DataW.trod_struct Tryz.underlying143 h
  have f0:=hf 0 _ rfl
  have f1:=hf 1 _ rfl
  simp only [xp8,xp9,xq0,a4A,a33,xk4,xk5,xh3,xh4] at f0 f1
  have hl:xs.length=2:=hl
  obtain ⟨l0,rfl,_⟩:=cS Tryz.underlying9 f0 (gS (by omega))
  obtain ⟨k1,rfl,_⟩:=cI Tryz.underlying3 f1 (gS (by omega))
  exact ⟨⟨l0,k1⟩,rfl⟩
theorem b1e {n:Nat} {cs:List Value} {z:DataW H×List MemPlace} (hl:cs.length=3) (h:DataW.trod enc Tryz.prog W base sp held n 75 cs=some z):∃ x:Sp,cs=spC x/\SpV W x/\x.va.oneCell'=true/\x.ve.oneCell'=true:=by
 match cs,hl with
 |[c0,c1,c2],_=>
  obtain ⟨xs,n,_,_,_,hl,hf⟩:=DataW.trod_struct Tryz.underlying75 h
  have f0:=hf 0 _ rfl
  have f1:=hf 1 _ rfl
  have f2:=hf 2 _ rfl
  simp only [xp8,xp9,xq0,a8D,b4U,b0Y,xk4,xk5,xh3,xh4] at f0 f1 f2
  have hl:xs.length=3:=hl
  obtain ⟨b0,rfl⟩:=cB Tryz.underlying4 f0 (gS (by omega))
  obtain ⟨A,h1,_,o1⟩:=a2u Tryz.underlying30 b5p (by decide) arC (fun _=>True) (fun x=>xd6 rfl) (fun _ _ _ hl hz=>by obtain ⟨f,hf⟩:=b2x hl hz;exact ⟨f,hf,trivial⟩) f1 (gS (by omega))
  obtain ⟨E,h2,_,o2⟩:=a2u Tryz.underlying73 b48 (by decide) enC (fun _=>True) (fun x=>xd6 rfl) (fun _ _ _ hl hz=>by obtain ⟨f,hf⟩:=b1d hl hz;exact ⟨f,hf,trivial⟩) f2 (gS (by omega))
  exact ⟨⟨⟨b0,A,E⟩,c1,c2⟩,rfl,⟨h1,h2⟩,o1,o2⟩
theorem a8n {n:Nat} {cs:List Value} {z:DataW H×List MemPlace} (hl:cs.length=5) (h:DataW.trod enc Tryz.prog W base sp held n 42 cs=some z):∃ k:KV,cs=kvC k/\KerV W k:=by
 match cs,hl with
 |[c0,c1,c2,c3,c4],_=>
  obtain ⟨xs,n,_,_,_,hl,hf⟩:=DataW.trod_struct Tryz.underlying42 h
  have f0:=hf 0 _ rfl
  have f1:=hf 1 _ rfl
  have f2:=hf 2 _ rfl
  have f3:=hf 3 _ rfl
  have f4:=hf 4 _ rfl
  simp only [xp8,xp9,xq0,a4A,b20,b2I,b31,b2V,xk4,xk5,xh3,xh4] at f0 f1 f2 f3 f4
  have hl:xs.length=5:=hl
  obtain ⟨Lp,h3,h4,_⟩:=a2u (α:=Sh×Value) Tryz.underlying31 b4c (by decide) (fun x=>shC x.1 x.2) (fun x=>ShV W x.1 x.2/\x.2.oneCell'=true) (fun x=>by
   by_cases hx:x.2.oneCell'=true
   ·left
    unfold shC
    simp only [xl3,List.all_nil,Bool.and_true,hx]
    rfl
   ·exact xd3 fun h=>hx h.2) (fun _ _ _ hl hz=>by obtain ⟨x,hx,h2,h3⟩:=a98 hl hz;exact ⟨x,hx,h2,h3⟩) f0 (gS (by omega))
  obtain ⟨F,h5,_,_⟩:=a2u Tryz.underlying38 b4E (by decide) fmC (fun _=>True) (fun x=>xd6 rfl) (fun _ _ _ hl hz=>by obtain ⟨f,hf⟩:=b01 hl hz;exact ⟨f,hf,trivial⟩) f1 (gS (by omega))
  obtain ⟨S,h6,_,_⟩:=a2u Tryz.underlying39 b6m (by decide) swC (fun _=>True) (fun x=>xd6 rfl) (fun _ _ _ hl hz=>by obtain ⟨f,hf⟩:=b19 hl hz;exact ⟨f,hf,trivial⟩) f2 (gS (by omega))
  obtain ⟨X,h7,h8,_⟩:=a2u (α:=Sp) Tryz.underlying40 b4g (by decide) spC (fun x=>SpV W x/\x.va.oneCell'=true/\x.ve.oneCell'=true) (fun x=>by
   by_cases hx:x.va.oneCell'=true/\x.ve.oneCell'=true
   ·left
    unfold spC
    simp only [xl3,List.all_nil,Bool.and_true,hx.1,hx.2]
    rfl
   ·exact xd3 fun h=>hx h.2) (fun _ _ _ hl hz=>by obtain ⟨x,hx,h2,h3⟩:=b1e hl hz;exact ⟨x,hx,h2,h3⟩) f3 (gS (by omega))
  obtain ⟨k4,rfl,_⟩:=cI Tryz.underlying3 f4 (gS (by omega))
  exact ⟨⟨Lp,F,S,X,k4,c0,c1,c2,c3⟩,rfl,⟨⟨h3,fun p hp=>(h4 p hp).1⟩,h5,h6,h7,fun p hp=>(h8 p hp).1⟩⟩
theorem a9l {v:Value} {d:DataW H} {ps:List MemPlace} (hval:Value.okWide Tryz.prog W .any b0 42 v) (h:DataW.Trod enc Tryz.prog W base sp held 42 v d ps):∃ k:KV,v=.agg (kvC k).toArray/\KerV W k:=by
 obtain ⟨cs,rfl,hsz⟩:=okWide_struct Tryz.underlying42 hval
 obtain ⟨fuel,hf⟩:=h
 have hc:(Value.agg cs).cells=cs:=rfl
 rw [hc] at hf
 have hlen:cs.toList.length=5:=by rw [xn9,hsz,b2u]
 obtain ⟨k,h1,h2⟩:=a8n hlen hf
 exact ⟨k,by rw [<- h1,xd2],h2⟩
end
end Go.Proofs.YtejnpppejalhfabGreat
