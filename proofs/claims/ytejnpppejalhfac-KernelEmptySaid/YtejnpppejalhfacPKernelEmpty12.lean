/- Texts that the proof stands on, one behind the other: Ke22, Ke8, PlRun9. -/
import Derived.Test.YtejnpppejalhfacPKernelEmpty11
/- (*work).bring: a page that is brought. -/
namespace Go.Proofs.Ytejnpppejalhfac
open Go.RowKit Go.Sort
theorem Sl.cel {w:World} {sz b off n c:Nat} {rows:List (List Value)} (h:Sl nF w sz (.slice (some ⟨b,off,none⟩) n c) rows) {k j:Nat} {r:List Value} {u:Value} (hk:rows[k]?=some r) (hj:r[j]?=some u):w.cell? ⟨b,off + k * sz + j,none⟩=some u:=h.rng hk j u hj
theorem Sl.cel0 {w:World} {sz b off n c:Nat} {rows:List (List Value)} (h:Sl nF w sz (.slice (some ⟨b,off,none⟩) n c) rows) {k:Nat} {r:List Value} {u:Value} (hk:rows[k]?=some r) (hj:r[0]?=some u):w.cell? ⟨b,off + k * sz,none⟩=some u:=h.rng hk 0 u hj
theorem Sl.form1 {w:World} {sz:Nat} {α:Type} {f:α→List Value} {l:List α} {v:Value} {i:Nat} {x:α} (h:Sl nF w sz v (l.map f)) (hx:l[i]?=some x):∃ b off c,v=.slice (some ⟨b,off,none⟩) l.length c:=by
 obtain ⟨p,c,rfl⟩:=h.len
 obtain ⟨b,off,rfl,-⟩:=h.at_ (j3 hx)
 exact ⟨b,off,c,rfl⟩
theorem b2K {α:Type} {l:List α} {i:Nat} {x:α} (h:l[i]?=some x):l.set i x=l:=by
 refine List.ext_getElem? fun j=>?_
 rw [List.getElem?_set]
 by_cases e:i=j
 ·subst e
  rw [if_pos rfl,if_pos (j3 h),h]
 ·rw [if_neg e]
theorem a4r {x:Sp} {page:Int} (hr:Rises (n9 x.s.entries)) {w:World} (hL:Sl nF w 3 x.ve (x.s.entries.map enC)):∃ pt is,b0Q x page=.tuple #[pt,.bool is]∧((is=false∧pt=.pointer none∧o0 x.s.entries page=none)∨(is=true∧∃ (e:En) (b off c i:Nat),o0 x.s.entries page=some e∧x.ve=.slice (some ⟨b,off,none⟩) x.s.entries.length c∧x.s.entries[i]?=some e∧pt=.pointer (some ⟨b,off + i * 3,none⟩))):=by
 unfold b0Q
 cases he:o0 x.s.entries page with
 |none=>
  rw [if_neg (a1l.1 he)]
  exact ⟨_,_,rfl,Or.inl ⟨rfl,rfl,rfl⟩⟩
 |some e=>
  obtain ⟨hem,hep⟩:=z0 he
  have hm:page ∈ n9 x.s.entries:=List.mem_map.2 ⟨e,hem,hep⟩
  rw [if_pos hm]
  have hat:=(a01 hr page).2 hm
  unfold n9 at hat
  rw [List.getElem?_map] at hat
  obtain ⟨y,hy,hyp⟩:=Option.map_eq_some_iff.1 hat
  have h1:=a2W hr (List.mem_of_getElem? hy)
  rw [hyp,he] at h1
  cases h1
  obtain ⟨b,off,c,hve⟩:=hL.form1 hy
  refine ⟨_,_,rfl,Or.inr ⟨rfl,e,b,off,c,_,rfl,hve,hy,?_⟩⟩
  rw [hve]
  rfl
theorem a6c {F:Nat→Prop} {w0 w:World} {Γ:List Asr} {g0:Nat} {k k1:KV} {sp:Nat} {vh:Value} {held hd:List Nat} (hS0:St F w0 w (wkS g0 k1 sp vh held++Γ)) (hR:KRo F w0 k1) {page:Int} {f:Nat} {data:List UInt8} {dirty:Bool} {r:Ker×Nat} (e1:k1.K=r.1) (hf:f=r.2) (hg:b4T k.K hd r) (ha:At k.K sp page) :
  Fn Try.prog 82 [.pointer (some ⟨g0,0,none⟩),.int .i64 page,.int .i64 (f:Nat),.string ⟨data.toArray⟩,.bool dirty] w (fun v w'=>v=.tuple #[]∧∃ k',k'.K=inK r.1 sp page f data dirty∧KLike k1 k'∧St (fps (wkS g0 k1 sp vh held)) w w' (wkS g0 k' sp vh held)):=by
 have ha1:At k1.K sp page:=by rw [e1];exact ha.same hg.same.ar hg.same.live
 have hr1:Right k1.K:=by rw [e1];exact hg.right
 obtain ⟨x,hx,hxl,hxa,hxe,hxr⟩:=a8r ha1
 obtain ⟨hsc,hel⟩:=a0q hr1 x.s (List.mem_of_getElem? (a0V hx))
 have hpg:=a5f hsc.ar hxa
 have hlt:=hg.lt
 rw [← hg.same.nfr,← e1,← hf] at hlt
 rw [← e1]
 exact b43 hS0 (hR.nowM hS0) hx hlt hsc.rises (a3p hsc (by omega)) (by omega) (fun e he=>a5V hr1 hx (z0 he).1)
set_option maxRecDepth 100000 in
set_option maxHeartbeats 8000000 in
theorem a6M {F:Nat→Prop} {w0 w:World} {Γ:List Asr} {g0:Nat} {k:KV} {sp:Nat} {vh:Value} {held:List Nat} (hS0:St F w0 w (wkS g0 k sp vh held++Γ)) (hR0:KRo (fps (wkS g0 k sp vh held)) w k) (hr:Right k.K) {page:Int} (ha:At k.K sp page) (write:Bool) (hl:held.length≤1) (hh:∀ i ∈ held,∃ p,p≠page∧o0 (l5 k.K sp) p=some ⟨p,1,(i:Nat)⟩):Fn Try.prog 66 [.pointer (some ⟨g0,0,none⟩),.int .i64 page,.bool write] w (fun v w'=>v=.tuple #[]∧∃ k' vh',k'.K=(a0O k.K sp page write held).1∧KLike k k'∧St (fps (wkS g0 k sp vh held)) w w' (wkS g0 k' sp vh' (held++[(a0O k.K sp page write held).2]))):=by
 have hS:=St.startM hS0
 have hR:=hR0
 generalize fps (wkS g0 k sp vh held)=G at hS hR ⊢
 clear hR0 hS0
 rw [← List.append_nil (wkS g0 k sp vh held)] at hS
 obtain ⟨x,hx,hxl,hxa,hxe,hxr⟩:=a8r ha
 obtain ⟨hsc,hel⟩:=a0q hr x.s (List.mem_of_getElem? (a0V hx))
 have hpg:=a5f hsc.ar hxa
 have hbA:=a7c hr ha hl hh
 unfold a0O a1s
 obtain ⟨A,hA⟩:∃ A,A=a2M k.K sp page held:=⟨_,rfl⟩
 rw [← hA] at hbA ⊢
 have hV0:=WkV.of hS hR
 have hxm:=List.mem_of_getElem? hx
 have hxv:=hV0.ker.spv x hxm
 obtain ⟨bs,os,cs,hvsp⟩:=hV0.ker.sp.form1 hx
 obtain ⟨f0,hf0⟩:∃ f0,k.fr[0]?=some f0:=l8 (by have:=hr.cnt.1;have h9:k.K.frames.length=k.fr.length:=rfl;omega)
 obtain ⟨bf,of_,cf,hvfr⟩:=hV0.ker.fr.form1 hf0
 obtain ⟨psl,csl,hvsl⟩:=hV0.ker.sl.len
 obtain ⟨sh,fr,sl,sps,hand,vsh,vfr,vsl,vsp⟩:=k
 dsimp only at hvsp hvfr hvsl hx hxm hf0
 subst hvsp hvfr hvsl
 have hrowS:=j9 (f:=spC) hx
 have hspc:=fun w1 Γ1 (h:St G w w1 (wkS g0 ⟨sh,fr,sl,sps,hand,vsh,.slice (some ⟨bf,of_,none⟩) fr.length cf,.slice psl sl.length csl,.slice (some ⟨bs,os,none⟩) sps.length cs⟩ sp vh held++Γ1))=>a08 (WkV.of h hR) (j3 hx)
 have hent:=fun w1 Γ1 (h:St G w w1 (wkS g0 ⟨sh,fr,sl,sps,hand,vsh,.slice (some ⟨bf,of_,none⟩) fr.length cf,.slice psl sl.length csl,.slice (some ⟨bs,os,none⟩) sps.length cs⟩ sp vh held++Γ1))=>a1S (WkV.of h hR) hx page hsc.rises (a3p hsc (by omega))
 have hspV:=fun w1 Γ1 (h:St G w w1 (wkS g0 ⟨sh,fr,sl,sps,hand,vsh,.slice (some ⟨bf,of_,none⟩) fr.length cf,.slice psl sl.length csl,.slice (some ⟨bs,os,none⟩) sps.length cs⟩ sp vh held++Γ1))=>(WkV.of h hR).ker.sp
 have hfnd:=fun w1 Γ1 (h:St G w w1 (wkS g0 ⟨sh,fr,sl,sps,hand,vsh,.slice (some ⟨bf,of_,none⟩) fr.length cf,.slice psl sl.length csl,.slice (some ⟨bs,os,none⟩) sps.length cs⟩ sp vh held++Γ1))=>a4a page ((WkV.of h hR).ker.spv x hxm).ar
 unfold a1c at hspc
 dsimp only at hspc hspV
 obtain ⟨a,hfa⟩:=Option.isSome_iff_exists.1 hxa
 rw [a1g hsc.ar,hfa] at hfnd
 unfold a3b at hfnd
 dsimp only [Option.getD,Option.isSome] at hfnd
 unfold arC at hfnd
 unfold spC at hrowS
 obtain ⟨pt,is,hEV,hcase⟩:=a4r (page:=page) hsc.rises hxv.en
 rw [hEV] at hent
 have hfo:=a6h hr (held:=held) (by omega)
 refine j0 (fn:=Try.f66) ⟨Try.func66,by kernel_rfl,by kernel_rfl⟩ (by exact rfl) Try.ntmps66 (by exact rfl) ?_
 repeat' (first|(first|((with_reducible apply d6 c8);exact rfl;exact rfl)|((with_reducible apply j7 hS c8);(iterate 3 exact rfl);intro g w' hS';clear hS;have hS:=hS';clear hS')|(((with_reducible apply i7 hS c8 (i:=0));(iterate 8 exact rfl);((exact (rfl:_=[_,_,_,_])));intro w' hS';simp only [List.set] at hS';clear hS;have hS:=hS';clear hS')))|(with_reducible first|apply d8|apply c9|apply d7|apply d5)|((with_reducible apply e8);exact rfl;exact rfl;exact hspc _ _ hS;exact rfl;rintro _ w' ⟨rfl,hS'⟩;replace hS:=hS.transA hS';simp only [k7] at hS;clear hS')|((with_reducible apply d9);exact rfl;(((with_reducible apply Loads.sl c8);exact rfl;exact (hspV _ _ hS).cel hrowS rfl));exact rfl)|((with_reducible apply e8);exact rfl;exact rfl;exact hfnd _ _ hS;exact rfl;rintro _ w' ⟨rfl,hS'⟩;replace hS:=hS.transA hS';simp only [k7] at hS;clear hS')|((with_reducible apply e8);exact rfl;exact rfl;exact hent _ _ hS.drop;exact rfl;rintro _ w' ⟨rfl,hS'⟩;replace hS:=hS.transA hS';simp only [k7] at hS;clear hS'))
 rename Nat=>g6
 refine a4O (F:=G) (w0:=w) (X:=KV) (fun _=>[(0,.pointer (some ⟨g0,0,none⟩)),(1,.int .i64 page),(2,.bool write)]) (fun k'=>wkS g0 k' sp vh held) (fun k'=>k'.K=A.1∧KLike ⟨sh,fr,sl,sps,hand,vsh,.slice (some ⟨bf,of_,none⟩) fr.length cf,.slice psl sl.length csl,.slice (some ⟨bs,os,none⟩) sps.length cs⟩ k') ?_ ?_
 ·rcases hcase with ⟨rfl,rfl,he⟩|⟨rfl,e,b,off,c,i,he,hve,hei,rfl⟩
  ·obtain ⟨d,d1,d2,d3⟩:=a5L hr ha
   have hz:zAt (KV.K ⟨sh,fr,sl,sps,hand,vsh,.slice (some ⟨bf,of_,none⟩) fr.length cf,.slice psl sl.length csl,.slice (some ⟨bs,os,none⟩) sps.length cs⟩) sp page=a.z:=by unfold zAt;rw [hxr,hfa];rfl
   rw [hz] at d1
   have hfil:=fun w1 Γ1 (h:St G w w1 (wkS g0 ⟨sh,fr,sl,sps,hand,vsh,.slice (some ⟨bf,of_,none⟩) fr.length cf,.slice psl sl.length csl,.slice (some ⟨bs,os,none⟩) sps.length cs⟩ sp vh held++Γ1))=>a2H (F:=nF) (a:=a) (p:=page) (WkV.of h hR).c0 (WkV.of h hR).ker.sh hr.rise (by omega)
   have hdd:a09 (shs sh) a.z page=some d:=d1
   rw [hdd] at hfil
   unfold a6w at hfil
   dsimp only [Option.getD,Option.isSome] at hfil
   unfold arC at hfil
   have hAe:A=(inK (a0D (KV.K ⟨sh,fr,sl,sps,hand,vsh,.slice (some ⟨bf,of_,none⟩) fr.length cf,.slice psl sl.length csl,.slice (some ⟨bs,os,none⟩) sps.length cs⟩) held).1 sp page (a0D (KV.K ⟨sh,fr,sl,sps,hand,vsh,.slice (some ⟨bf,of_,none⟩) fr.length cf,.slice psl sl.length csl,.slice (some ⟨bs,os,none⟩) sps.length cs⟩) held).2 d false,(a0D (KV.K ⟨sh,fr,sl,sps,hand,vsh,.slice (some ⟨bf,of_,none⟩) fr.length cf,.slice psl sl.length csl,.slice (some ⟨bs,os,none⟩) sps.length cs⟩) held).2):=by
    rw [hA]
    unfold a2M
    rw [hxe,he,d3]
   repeat' (first|(((with_reducible apply d6 c8);exact rfl;exact rfl))|(first|(with_reducible first|apply d8|apply c9|apply d7|apply d5|apply e7))|(((with_reducible apply k9);exact rfl;(exact rfl))))
   (focus ((with_reducible apply m7 _ _ _ (by kernel_rfl) (by kernel_rfl) hS);(repeat' (first|(first|((with_reducible apply o5 c8);exact rfl;exact rfl)|((with_reducible apply n6);exact rfl;(intro wd hd;replace hd:St _ _ wd _:=hd;(((with_reducible apply Loads.st c8);exact rfl;((exact hd.blkR 0 rfl));exact rfl)));exact rfl))|((with_reducible apply a0A);exact rfl;exact rfl;(intro wd hd;replace hd:St _ _ wd _:=hd;exact hfil _ _ hd.drop);exact rfl)));all_goals ((with_reducible apply r5);intro w' hS';clear hS;have hS:=hS';clear hS')))
   replace hS:=hS.perm List.perm_middle.symm
   have hg:=a5d hr (held:=held) (by omega)
   have hin:=fun w1 k1 Γ1 (h:St G w w1 (wkS g0 k1 sp vh held++Γ1)) (e1:k1.K=(a0D (KV.K ⟨sh,fr,sl,sps,hand,vsh,.slice (some ⟨bf,of_,none⟩) fr.length cf,.slice psl sl.length csl,.slice (some ⟨bs,os,none⟩) sps.length cs⟩) held).1) (l1:KLike ⟨sh,fr,sl,sps,hand,vsh,.slice (some ⟨bf,of_,none⟩) fr.length cf,.slice psl sl.length csl,.slice (some ⟨bs,os,none⟩) sps.length cs⟩ k1)=>a6c h (hR.like l1) (page:=page) (f:=(a0D (KV.K ⟨sh,fr,sl,sps,hand,vsh,.slice (some ⟨bf,of_,none⟩) fr.length cf,.slice psl sl.length csl,.slice (some ⟨bs,os,none⟩) sps.length cs⟩) held).2) (data:=d) (dirty:=false) e1 rfl hg ha
   repeat' (first|(((with_reducible apply d6 c8);exact rfl;exact rfl))|(first|(with_reducible first|apply c9|apply d7|apply d5))|((with_reducible apply e8);exact rfl;exact rfl;exact a4K hS hfo;exact rfl;rintro _ w2 ⟨rfl,k1,e1,l1,h2⟩;(replace hS:=St.transM hS h2);clear h2))
   repeat' (first|(first|(with_reducible first|apply d7|apply k8))|((with_reducible apply e8);exact rfl;exact rfl;exact hin _ _ _ hS e1 l1;exact rfl;rintro _ w3 ⟨rfl,k2,e2,l2,h2⟩;(replace hS:=St.transM hS h2);clear h2))
   exact a0e k2 (by repeat (first|exact Fr.sub_nil _|(apply Fr.sub_cons;exact rfl))) ⟨by rw [hAe];exact e2,l1.trans l2⟩ (hS.sub (List.sublist_append_left _ _))
  ·obtain ⟨hep,hnm,-⟩:=a2Q hr (sp:=sp) (p:=page) (e:=e) (by rw [hxe];exact he)
   have hrowE:=j9 (f:=enC) hei
   have hentV:=fun w1 Γ1 (h:St G w w1 (wkS g0 ⟨sh,fr,sl,sps,hand,vsh,.slice (some ⟨bf,of_,none⟩) fr.length cf,.slice psl sl.length csl,.slice (some ⟨bs,os,none⟩) sps.length cs⟩ sp vh held++Γ1))=>((WkV.of h hR).ker.spv x hxm).en
   rw [hve] at hentV
   unfold enC at hrowE
   by_cases hk:e.kind=2
   ·have hd2:decide (e.kind=2)=true:=decide_eq_true hk
    rcases hnm with ⟨hk1,-⟩|⟨-,j,hj,hjl,hjr,hjd⟩
    ·omega
    have hjl':j < sl.length:=hjl
    obtain ⟨s1,hs1⟩:=l8 (l:=sl) (i:=j) (by omega)
    have hrowL:=j9 (f:=swC) hs1
    obtain ⟨bl,ol,cl,hfl⟩:=hV0.ker.sl.form1 hs1
    injection hfl with hfl1 hfl2 hfl3
    subst hfl1
    have hslV:=fun w1 Γ1 (h:St G w w1 (wkS g0 ⟨sh,fr,sl,sps,hand,vsh,.slice (some ⟨bf,of_,none⟩) fr.length cf,.slice (some ⟨bl,ol,none⟩) sl.length csl,.slice (some ⟨bs,os,none⟩) sps.length cs⟩ sp vh held++Γ1))=>(WkV.of h hR).ker.sl
    obtain ⟨epg,ekd,eat⟩:=e
    dsimp only at hj hk hep
    subst hj
    unfold swC at hrowL
    have hsw:a0g (KV.K ⟨sh,fr,sl,sps,hand,vsh,.slice (some ⟨bf,of_,none⟩) fr.length cf,.slice (some ⟨bl,ol,none⟩) sl.length csl,.slice (some ⟨bs,os,none⟩) sps.length cs⟩).slots j=s1:=a0B hs1
    have hAe:A=(inK (a0D (KV.K ⟨sh,fr,sl,sps,hand,vsh,.slice (some ⟨bf,of_,none⟩) fr.length cf,.slice (some ⟨bl,ol,none⟩) sl.length csl,.slice (some ⟨bs,os,none⟩) sps.length cs⟩) held).1 sp page (a0D (KV.K ⟨sh,fr,sl,sps,hand,vsh,.slice (some ⟨bf,of_,none⟩) fr.length cf,.slice (some ⟨bl,ol,none⟩) sl.length csl,.slice (some ⟨bs,os,none⟩) sps.length cs⟩) held).2 s1.data true,(a0D (KV.K ⟨sh,fr,sl,sps,hand,vsh,.slice (some ⟨bf,of_,none⟩) fr.length cf,.slice (some ⟨bl,ol,none⟩) sl.length csl,.slice (some ⟨bs,os,none⟩) sps.length cs⟩) held).2):=by
     rw [hA]
     unfold a2M
     rw [hxe,he]
     dsimp only
     rw [if_pos hk,show ((j:Nat):Int).toNat=j from rfl,hsw]
    repeat' (first|(((with_reducible apply d6 c8);exact rfl;exact rfl))|(first|(with_reducible first|apply d8|apply c9|apply d7|apply d5|apply e7))|(first|((with_reducible apply k9);exact rfl;(assumption))|((with_reducible apply l6);exact rfl;(exact rfl)))|((with_reducible apply d9);exact rfl;(((with_reducible apply Loads.sc c8);exact rfl;exact (hentV _ _ hS.drop).cel hrowE rfl));exact rfl))
    (focus ((with_reducible apply m7 _ _ _ (by kernel_rfl) (by kernel_rfl) hS);(repeat' (first|(first|((with_reducible apply o5 c8);exact rfl;exact rfl)|((with_reducible apply n6);exact rfl;(intro wd hd;replace hd:St _ _ wd _:=hd;(((with_reducible apply Loads.sl c8);exact rfl;((exact hd.blkC 1 rfl rfl)))));exact rfl)|((with_reducible apply a05 c8);(iterate 3 exact rfl);((exact rfl));((omega));exact rfl))|((with_reducible apply n6);exact rfl;(intro wd hd;replace hd:St _ _ wd _:=hd;(((with_reducible apply Loads.sc c8);exact rfl;exact (hentV _ _ hd.drop).cel hrowE rfl)));exact rfl)|((with_reducible apply n6);exact rfl;(intro wd hd;replace hd:St _ _ wd _:=hd;(((with_reducible apply Loads.sc c8);exact rfl;exact (hslV _ _ hd.drop).cel0 hrowL rfl)));exact rfl)));all_goals ((with_reducible apply r5);intro w' hS';clear hS;have hS:=hS';clear hS')))
    replace hS:=hS.perm List.perm_middle.symm
    have hg:=a5d hr (held:=held) (by omega)
    have hin:=fun w1 k1 Γ1 (h:St G w w1 (wkS g0 k1 sp vh held++Γ1)) (e1:k1.K=(a0D (KV.K ⟨sh,fr,sl,sps,hand,vsh,.slice (some ⟨bf,of_,none⟩) fr.length cf,.slice (some ⟨bl,ol,none⟩) sl.length csl,.slice (some ⟨bs,os,none⟩) sps.length cs⟩) held).1) (l1:KLike ⟨sh,fr,sl,sps,hand,vsh,.slice (some ⟨bf,of_,none⟩) fr.length cf,.slice (some ⟨bl,ol,none⟩) sl.length csl,.slice (some ⟨bs,os,none⟩) sps.length cs⟩ k1)=>a6c h (hR.like l1) (page:=page) (f:=(a0D (KV.K ⟨sh,fr,sl,sps,hand,vsh,.slice (some ⟨bf,of_,none⟩) fr.length cf,.slice (some ⟨bl,ol,none⟩) sl.length csl,.slice (some ⟨bs,os,none⟩) sps.length cs⟩) held).2) (data:=s1.data) (dirty:=true) e1 rfl hg ha
    repeat' (first|(((with_reducible apply d6 c8);exact rfl;exact rfl))|(first|(with_reducible first|apply c9|apply d7|apply d5))|((with_reducible apply e8);exact rfl;exact rfl;exact a4K hS hfo;exact rfl;rintro _ w2 ⟨rfl,k1,e1,l1,h2⟩;(replace hS:=St.transM hS h2);clear h2))
    repeat' (first|(first|(with_reducible first|apply d7|apply k8))|((with_reducible apply e8);exact rfl;exact rfl;exact hin _ _ _ hS e1 l1;exact rfl;rintro _ w3 ⟨rfl,k2,e2,l2,h2⟩;(replace hS:=St.transM hS h2);clear h2))
    exact a0e k2 (by repeat (first|exact Fr.sub_nil _|(apply Fr.sub_cons;exact rfl))) ⟨by rw [hAe];exact e2,l1.trans l2⟩ (hS.sub (List.sublist_append_left _ _))
   ·have hd2:decide (e.kind=2)=false:=decide_eq_false hk
    have hAe:A.1=KV.K ⟨sh,fr,sl,sps,hand,vsh,.slice (some ⟨bf,of_,none⟩) fr.length cf,.slice psl sl.length csl,.slice (some ⟨bs,os,none⟩) sps.length cs⟩:=by
     rw [hA]
     unfold a2M
     rw [hxe,he]
     dsimp only
     rw [if_neg hk]
    repeat' (first|(((with_reducible apply d6 c8);exact rfl;exact rfl))|(first|(with_reducible first|apply d8|apply c9|apply d7|apply d5|apply g8|apply e7|apply k8))|(((with_reducible apply l6);exact rfl;first|exact rfl|assumption))|((with_reducible apply d9);exact rfl;(((with_reducible apply Loads.sc c8);exact rfl;exact (hentV _ _ hS.drop).cel hrowE rfl));exact rfl))
    exact a0e ⟨sh,fr,sl,sps,hand,vsh,.slice (some ⟨bf,of_,none⟩) fr.length cf,.slice psl sl.length csl,.slice (some ⟨bs,os,none⟩) sps.length cs⟩ (by repeat (first|exact Fr.sub_nil _|(apply Fr.sub_cons;exact rfl))) ⟨hAe.symm,KLike.refl _⟩ (hS.drop.sub (List.sublist_append_left _ _))
 clear hS
 rintro k' w1 ⟨hk1,hk2⟩ hS
 clear hspc hent hspV hfnd hfo
 -- the page is present
 have hR1:=hR.like hk2
 have hr1:Right k'.K:=by rw [hk1];exact hbA.right
 have ha1:At k'.K sp page:=by rw [hk1];exact ha.same hbA.same.ar hbA.same.live
 obtain ⟨x1,hx1,hxl1,hxa1,hxe1,hxr1⟩:=a8r ha1
 obtain ⟨hsc1,hel1⟩:=a0q hr1 x1.s (List.mem_of_getElem? (a0V hx1))
 have hxm1:=List.mem_of_getElem? hx1
 rw [← List.append_nil (wkS g0 k' sp vh held)] at hS
 have hV1:=WkV.of hS hR1
 have hxv1:=hV1.ker.spv x1 hxm1
 obtain ⟨pt1,is1,hEV1,hcase1⟩:=a4r (page:=page) hsc1.rises hxv1.en
 have he1:o0 x1.s.entries page=some ⟨page,1,(A.2:Nat)⟩:=by
  have:=hbA.ent
  rw [← hk1,hxe1] at this
  exact this
 rcases hcase1 with ⟨-,-,h0⟩|⟨rfl,e,b1,off1,c1,i1,h0,hve1,hei1,rfl⟩
 ·rw [he1] at h0;cases h0
 rw [he1] at h0
 cases h0
 have hent1:=fun w1 Γ1 (h:St G w w1 (wkS g0 k' sp vh held++Γ1))=>a1S (WkV.of h hR1) hx1 page hsc1.rises (a3p hsc1 (by omega))
 rw [hEV1] at hent1
 have hrowE1:=j9 (f:=enC) hei1
 unfold enC at hrowE1
 obtain ⟨f1,hf1⟩:∃ f1,f1=A.2:=⟨_,rfl⟩
 rw [← hf1] at hrowE1 hei1 he1 ⊢
 repeat' (first|(((with_reducible apply d6 c8);exact rfl;exact rfl))|(first|(with_reducible first|apply d8|apply c9|apply d7|apply d5))|((with_reducible apply e8);exact rfl;exact rfl;exact hent1 _ _ hS;exact rfl;rintro _ w' ⟨rfl,hS'⟩;replace hS:=hS.transA hS';simp only [k7] at hS;clear hS'))
 have hf1l:f1 < k'.fr.length:=by
  have h1:=(a12 hr1 (sp:=sp) (p:=page) (i:=f1) (by rw [hxe1];exact he1)).1
  exact h1
 have hKe:∀ vh' held',wkS g0 k' sp vh' held'=wkS g0 k' sp vh' held':=fun _ _=>rfl
 clear hent1 hV1 hxv1
 rw [List.append_nil] at hS
 obtain ⟨sh1,fr1,sl1,sps1,hand1,vsh1,vfr1,vsl1,vsp1⟩:=k'
 dsimp only at hx1 hxm1 hf1l
 unfold wkS wkB hdA frA slA a2n at hS
 dsimp only [List.cons_append,List.nil_append] at hS
 obtain ⟨pf1,cf1,rfl⟩:=hS.rowSlice 2 rfl
 simp only [List.length_map] at hS
 obtain ⟨gf1,rfl⟩:=hS.rowSome 2 rfl (by omega)
 obtain ⟨fm1,hfm1⟩:=l8 (l:=fr1) (i:=f1) (by omega)
 have hrowF:=j9 (f:=fmC) hfm1
 unfold fmC at hrowF
 replace hS:=hS.pullE 5 hx1 rfl
 simp only [List.take_succ_cons,List.take_zero,k7] at hS
 obtain ⟨s1,va1,ve1⟩:=x1
 dsimp only at hve1 hei1 hrowE1 he1
 subst hve1
 unfold a0k at hS
 dsimp only at hS
 have hel1':=j3 hei1
 have hoff:off1=0:=by
  rcases hS.rowForm 0 rfl with ⟨h1,-⟩|⟨q1,q2,h1,-⟩
  ·cases h1
  ·injection h1 with h1 _ _
   injection h1 with h1
   injection h1
 subst hoff
 refine a2D 2 13 14 rfl hS (by kernel_rfl) ?_
 intro w10 hS'
 clear hS;have hS:=hS';clear hS'
 simp only [List.take_succ_cons,List.take_zero]
 have hH:=hS.sub (List.sublist_append_left [_,_] _)
 ((with_reducible apply l4 0 c8);exact rfl;kernel_rfl;kernel_rfl;kernel_rfl;exact rfl;exact (fun _ _ _ h=>h);exact Or.inr hH;exact rfl;exact rfl)
 ((with_reducible apply l4 1 c8);exact rfl;kernel_rfl;kernel_rfl;kernel_rfl;exact rfl;exact (fun _ _ _ h=>h);exact Or.inr hH;exact rfl;exact rfl)
 ((with_reducible apply l4 2 c8);exact rfl;kernel_rfl;kernel_rfl;kernel_rfl;exact rfl;exact (fun _ _ _ h=>h);exact Or.inr hH;exact rfl;exact rfl)
 ((with_reducible apply l4 3 c8);exact rfl;kernel_rfl;kernel_rfl;kernel_rfl;exact rfl;exact (fun _ _ _ h=>h);exact Or.inr hH;exact rfl;exact rfl)
 ((with_reducible apply r7 4);exact rfl;kernel_rfl;kernel_rfl;kernel_rfl;kernel_rfl;exact rfl;exact rfl;exact (fun _ _ _ h=>h);exact hH;exact rfl;(intro w2 hw2;(replace hw2:St _ _ w2 _:=hw2;(((with_reducible apply Loads.sl c8);exact rfl;((exact hw2.blkC 1 rfl rfl))))));exact rfl)
 ((with_reducible apply l4 5 c8);exact rfl;kernel_rfl;kernel_rfl;kernel_rfl;exact rfl;exact (fun _ _ _ h=>h);exact Or.inr hH;exact rfl;exact rfl)
 ((with_reducible apply l4 6 c8);exact rfl;kernel_rfl;kernel_rfl;kernel_rfl;exact rfl;exact (fun _ _ _ h=>h);exact Or.inr hH;exact rfl;exact rfl)
 ((with_reducible apply l4 7 c8);exact rfl;kernel_rfl;kernel_rfl;kernel_rfl;exact rfl;exact (fun _ _ _ h=>h);exact Or.inr hH;exact rfl;exact rfl)
 ((with_reducible apply r7 8);exact rfl;kernel_rfl;kernel_rfl;kernel_rfl;kernel_rfl;exact rfl;exact rfl;exact (fun _ _ _ h=>h);exact hH;exact rfl;(intro w2 hw2;(replace hw2:St _ _ w2 _:=hw2;(((with_reducible apply Loads.sc c8);exact rfl;((exact hw2.rowCj 0 rfl (by assumption) rfl))))));exact rfl)
 refine s7 (i:=9) (by kernel_rfl) ?_
 refine t5 rfl (y8 hS c8 rfl rfl rfl rfl rfl rfl) rfl ?_
 rintro _ w' ⟨gu,rfl,hS'⟩
 clear hS;have hS:=hS';clear hS'
 have hH:=hS.drop.sub (List.sublist_append_left [_,_] _)
 refine ⟨Or.inr (Or.inr hH),?_⟩
 refine s7 (i:=10) (by kernel_rfl) ?_
 refine t5 rfl (a0z hS c8 (i:=3) rfl rfl rfl rfl (hS.rowRo 0 rfl) rfl (by simp only [List.length_map,List.length_cons,List.length_nil];omega)) rfl ?_
 rintro _ w' ⟨ph,ch,rfl,hS'⟩
 simp only [List.set,List.length_map] at hS' ⊢
 clear hS;have hS:=hS';clear hS'
 have hH:=hS.drop.sub (List.sublist_append_left [_,_] _)
 refine ⟨Or.inr (Or.inr hH),?_⟩
 ((with_reducible apply l4 11 c8);exact rfl;kernel_rfl;kernel_rfl;kernel_rfl;exact rfl;exact (fun _ _ _ h=>h);exact Or.inr hH;exact rfl;exact rfl)
 ((with_reducible apply l4 12 c8);exact rfl;kernel_rfl;kernel_rfl;kernel_rfl;exact rfl;exact (fun _ _ _ h=>h);exact Or.inr hH;exact rfl;exact rfl)
 refine s7 (i:=13) (by kernel_rfl) ?_
 refine a0L (Φ:=fun _ w'=>St _ _ w' _) rfl (o8 hS c8 (i:=2) rfl rfl rfl rfl rfl (Nat.le_of_ble_eq_true rfl) (by intro u hu;simp [Value.cells] at hu;subst hu;rfl)) ?_
 intro _ w' hS'
 simp only [List.set,t8] at hS'
 clear hS;have hS:=hS';clear hS'
 refine ⟨Or.inl rfl,?_⟩
 refine a1a (by kernel_rfl) ?_
 replace hS:=hS.drop
 change St _ _ _ (_::Asr.blk _ [_,_,_,_,_,_,_]::_) at hS
 repeat' (first|(with_reducible first|apply d8|apply d5))
 (focus ((with_reducible apply m7 _ _ _ (by kernel_rfl) (by kernel_rfl) hS);(repeat' ((first|((with_reducible apply o5 c8);exact rfl;exact rfl)|((with_reducible apply n6);exact rfl;(intro wd hd;replace hd:St _ _ wd _:=hd;(first|((with_reducible apply Loads.sc c8);exact rfl;((exact hd.rowCj 0 rfl (by assumption) rfl)))|((with_reducible apply Loads.sl c8);exact rfl;((exact hd.blkC 1 rfl rfl)))));exact rfl)|((with_reducible apply a05 c8);(iterate 3 exact rfl);((exact rfl));((omega));exact rfl))));all_goals ((with_reducible apply r5);intro w' hS';clear hS;have hS:=hS';clear hS')))
 (with_reducible apply d7)
 (with_reducible apply d5)
 obtain ⟨B,hB⟩:∃ B,B=a5F A.1 sp page write held f1:=⟨_,rfl⟩
 rw [← hB]
 have hfold:∀ w1,St G w w1 (.row 55 3 (.slice (some ⟨b1,0,none⟩) s1.entries.length c1) (s1.entries.map enC)::.blk g0 [vsh1,.slice (some ⟨gf1,0,none⟩) fr1.length cf1,vsl1,vsp1,.int .i64 hand1,.int .i64 (sp:Nat),.slice ph (held.length + 1) ch]::.row 3 1 (.slice ph (held.length + 1) ch) ((held.map fun i=>[.int .i64 (i:Nat)])++[[.int .i64 (f1:Nat)]])::.row 43 4 (.slice (some ⟨gf1,0,none⟩) fr1.length cf1) (fr1.map fmC)::.row 45 2 vsl1 (sl1.map swC)::.row 41 3 vsp1 (sps1.map spC)::(sps1.eraseIdx sp).map a0k)→St G w w1 (wkS g0 ⟨sh1,fr1,sl1,sps1,hand1,vsh1,.slice (some ⟨gf1,0,none⟩) fr1.length cf1,vsl1,vsp1⟩ sp (.slice ph (held.length + 1) ch) (held++[f1])):=fun w1 h=>by
  have h2:=St.pushE (y:=⟨s1,va1,.slice (some ⟨b1,0,none⟩) s1.entries.length c1⟩) h 5 hx1 rfl
  rw [b2K hx1] at h2
  unfold wkS wkB hdA frA slA a2n
  rw [List.map_append]
  exact h2
 refine a4O (F:=G) (w0:=w) (X:=KV×Value) (fun _=>[(0,.pointer (some ⟨g0,0,none⟩)),(2,.bool write)]) (fun x=>wkS g0 x.1 sp x.2 (held++[B.2])) (fun x=>x.1.K=B.1∧KLike ⟨sh1,fr1,sl1,sps1,hand1,vsh1,.slice (some ⟨gf1,0,none⟩) fr1.length cf1,vsl1,vsp1⟩ x.1) ?_ ?_
 ·have hfmA:l7 A.1.frames f1=fm1:=by rw [← hk1];exact q8 hfm1
  by_cases hwr:write=true∧1 < fm1.refs
  ·have hdr:decide (1 < fm1.refs)=true:=decide_eq_true hwr.2
   have hwt:=hwr.1
   subst hwt
   have hBe:B=(inK (a0D A.1 (held++[f1])).1 sp page (a0D A.1 (held++[f1])).2 fm1.data true,(a0D A.1 (held++[f1])).2):=by
    rw [hB]
    unfold a5F
    rw [hfmA,if_pos ⟨rfl,hwr.2⟩]
   have hl2:(held++[f1]).length≤2:=by rw [List.length_append,List.length_singleton];omega
   have hg:=a5d hr1 (held:=held++[f1]) hl2
   have hfo:=a6h hr1 (held:=held++[f1]) hl2
   have hfrm:=fun w1 Γ1 (h:St G w w1 (wkS g0 ⟨sh1,fr1,sl1,sps1,hand1,vsh1,.slice (some ⟨gf1,0,none⟩) fr1.length cf1,vsl1,vsp1⟩ sp (.slice ph (held.length + 1) ch) (held++[f1])++Γ1))=>a4K h (by rw [List.length_map] at hfo;exact hfo)
   rw [List.length_map] at hR1 ha1 hg hk1
   have hin:=fun w1 k2 Γ1 (h:St G w w1 (wkS g0 k2 sp (.slice ph (held.length + 1) ch) (held++[f1])++Γ1)) (e1:k2.K=(a0D (KV.K ⟨sh1,fr1,sl1,sps1,hand1,vsh1,.slice (some ⟨gf1,0,none⟩) fr1.length cf1,vsl1,vsp1⟩) (held++[f1])).1) (l1:KLike ⟨sh1,fr1,sl1,sps1,hand1,vsh1,.slice (some ⟨gf1,0,none⟩) fr1.length cf1,vsl1,vsp1⟩ k2)=>a6c h (hR1.like l1) (page:=page) (f:=(a0D (KV.K ⟨sh1,fr1,sl1,sps1,hand1,vsh1,.slice (some ⟨gf1,0,none⟩) fr1.length cf1,vsl1,vsp1⟩) (held++[f1])).2) (data:=fm1.data) (dirty:=true) e1 rfl hg ha1
   repeat' (first|(first|((with_reducible apply d6 c8);exact rfl;exact rfl)|((with_reducible apply d9);exact rfl;(((with_reducible apply Loads.sc c8);exact rfl;(first|exact hS.rowC0 3 rfl (by assumption) rfl|exact hS.rowCj 3 rfl (by assumption) rfl)));exact rfl)|(first|((with_reducible apply p9);(iterate 4 exact rfl);(exact rfl))|((with_reducible apply m9);exact rfl;((exact rfl));exact rfl;exact rfl)))|(first|(with_reducible first|apply d8|apply c9|apply d7|apply d5))|(((with_reducible apply k9);exact rfl;(assumption))))
   replace hS:=hfold _ hS
   rw [← List.append_nil (wkS _ _ _ _ _)] at hS
   repeat' (first|(((with_reducible apply d6 c8);exact rfl;exact rfl))|(first|(with_reducible first|apply d8|apply c9|apply d7|apply d5))|((with_reducible apply e8);exact rfl;exact rfl;exact hfrm _ _ hS;exact rfl;rintro _ w2 ⟨rfl,k2,e2,l2,h2⟩;(replace hS:=St.transM hS h2);clear h2))
   repeat' (first|(first|(with_reducible first|apply d7|apply d5))|((with_reducible apply e8);exact rfl;exact rfl;exact hin _ _ _ hS e2 l2;exact rfl;rintro _ w3 ⟨rfl,k3,e3,l3,h2⟩;(replace hS:=St.transM hS h2);clear h2))
   rw [List.append_nil] at hS
   unfold wkS wkB hdA at hS
   obtain ⟨gh,rfl⟩:=hS.rowSome 1 rfl (by omega)
   have hlen1:((held.length:Nat):Int)=((held.length + 1:Nat):Int) - 1:=by omega
   have hrowH:((held++[f1]).map fun i=>[Value.int .i64 (i:Nat)])[held.length]?=some [.int .i64 (f1:Nat)]:=j9 (f:=fun i:Nat=>[Value.int .i64 (i:Nat)]) (by rw [List.getElem?_append_right (Nat.le_refl _),Nat.sub_self];rfl)
   have hsetH:∀ n:Nat,((held++[f1]).map fun i=>[Value.int .i64 (i:Nat)]).set held.length (t8 [.int .i64 (f1:Nat)] 0 [.int .i64 (n:Nat)])=(held++[n]).map fun i=>[Value.int .i64 (i:Nat)]:=fun n=>by
    rw [List.map_append,List.set_append_right _ _ (by rw [List.length_map];omega),List.length_map,Nat.sub_self,List.map_append]
    rfl
   (focus ((with_reducible apply a0X _ _ _ 12 (by kernel_rfl) (by kernel_rfl) hS);(simp only [List.take_succ_cons,List.take_zero,List.drop_succ_cons,List.drop_zero]);(repeat' ((first|((with_reducible apply a3G);exact rfl;exact rfl;omega;omega;exact rfl)|((with_reducible apply o5 c8);exact rfl;exact rfl)|((with_reducible apply n6);exact rfl;(intro wd hd;replace hd:St _ _ wd _:=hd;(((with_reducible apply Loads.sl c8);exact rfl;((exact hd.blkC 0 rfl rfl)))));exact rfl)|((with_reducible apply a05 c8);(iterate 3 exact rfl);((assumption));((omega));exact rfl))));all_goals ((with_reducible apply r5);intro w' hS';clear hS;have hS:=hS';clear hS')))
   repeat' (first|((with_reducible apply d7))|((with_reducible apply a0p hS c8 (i:=1));(iterate 4 exact rfl);assumption;(iterate 5 exact rfl);intro w' hS';simp only [List.set] at hS';clear hS;have hS:=hS';clear hS'))
   rw [hsetH] at hS
   rw [hBe,← hk1]
   exact a0e (k3,.slice (some ⟨gh,0,none⟩) (held.length + 1) ch) (by repeat (first|exact Fr.sub_nil _|(apply Fr.sub_cons;exact rfl))) ⟨e3,l2.trans l3⟩ hS
  ·have hBe:B=(A.1,f1):=by
    rw [hB]
    unfold a5F
    rw [hfmA,if_neg hwr]
   rw [hBe]
   cases write with
   |true=>
    have hdr:decide (1 < fm1.refs)=false:=decide_eq_false (fun h=>hwr ⟨rfl,h⟩)
    repeat' (first|(first|((with_reducible apply d6 c8);exact rfl;exact rfl)|((with_reducible apply d9);exact rfl;(((with_reducible apply Loads.sc c8);exact rfl;((exact hS.rowCj 3 rfl (by assumption) rfl))));exact rfl)|(first|((with_reducible apply p9);(iterate 4 exact rfl);(exact rfl))|((with_reducible apply m9);exact rfl;((exact rfl));exact rfl;exact rfl)))|(first|(with_reducible first|apply d8|apply c9|apply d7|apply d5|apply g8))|(((with_reducible apply l6);exact rfl;(assumption))))
    exact a0e (⟨sh1,fr1,sl1,sps1,hand1,vsh1,.slice (some ⟨gf1,0,none⟩) fr1.length cf1,vsl1,vsp1⟩,.slice ph (held.length + 1) ch) (by repeat (first|exact Fr.sub_nil _|(apply Fr.sub_cons;exact rfl))) ⟨by rw [← hk1,List.length_map],KLike.refl _⟩ (hfold _ hS)
   |false=>
    repeat' (first|(first|((with_reducible apply d6 c8);exact rfl;exact rfl)|(first|((with_reducible apply a0f);(iterate 4 exact rfl);((exact rfl));exact rfl)|((with_reducible apply n0);exact rfl;((exact rfl));exact rfl;exact rfl)))|(first|(with_reducible first|apply d8|apply c9|apply d7|apply d5|apply g8))|(((with_reducible apply l6);exact rfl;(exact rfl))))
    exact a0e (⟨sh1,fr1,sl1,sps1,hand1,vsh1,.slice (some ⟨gf1,0,none⟩) fr1.length cf1,vsl1,vsp1⟩,.slice ph (held.length + 1) ch) (by repeat (first|exact Fr.sub_nil _|(apply Fr.sub_cons;exact rfl))) ⟨by rw [← hk1,List.length_map],KLike.refl _⟩ (hfold _ hS)
 clear hS hfold
 rintro ⟨k2,v2⟩ w2 ⟨hq1,hq2⟩ hS
 dsimp only at hq1 hq2 hS
 have hAB:=(a50 hr ha write hl hh).1
 unfold a1s at hAB
 rw [← hA,← hf1,← hB] at hAB
 obtain ⟨sh2,fr2,sl2,sps2,hand2,vsh2,vfr2,vsl2,vsp2⟩:=k2
 have hn2:=(a12 hAB.right hAB.ent).1
 rw [← hq1] at hn2
 replace hn2:B.2 < fr2.length:=hn2
 unfold wkS wkB hdA frA slA a2n at hS
 dsimp only [List.cons_append,List.nil_append] at hS
 obtain ⟨pf2,cf2,rfl⟩:=hS.rowSlice 2 rfl
 simp only [List.length_map] at hS
 obtain ⟨gf2,rfl⟩:=hS.rowSome 2 rfl (by omega)
 obtain ⟨fm2,hfm2⟩:=l8 (l:=fr2) (i:=B.2) (by omega)
 have hrowF2:=j9 (f:=fmC) hfm2
 unfold fmC at hrowF2
 obtain ⟨pg,cg,rfl⟩:=hS.rowSlice 1 rfl
 simp only [List.length_map,List.length_append,List.length_cons,List.length_nil,Nat.zero_add] at hS
 obtain ⟨gh2,rfl⟩:=hS.rowSome 1 rfl (by omega)
 have hlen2:((held.length:Nat):Int)=((held.length + 1:Nat):Int) - 1:=by omega
 have hrowH2:((held++[B.2]).map fun i=>[Value.int .i64 (i:Nat)])[held.length]?=some [.int .i64 (B.2:Nat)]:=j9 (f:=fun i:Nat=>[Value.int .i64 (i:Nat)]) (by rw [List.getElem?_append_right (Nat.le_refl _),Nat.sub_self];rfl)
 have hs1:(fr2.map fmC).set B.2 (t8 [.string ⟨fm2.data.toArray⟩,.int .i64 fm2.refs,.bool fm2.dirty,.bool fm2.seen] 3 [.bool true])=(fr2.set B.2 ⟨fm2.data,fm2.refs,fm2.dirty,true⟩).map fmC:=by rw [List.map_set];rfl
 have hrowF3:((fr2.set B.2 ⟨fm2.data,fm2.refs,fm2.dirty,true⟩).map fmC)[B.2]?=some [.string ⟨fm2.data.toArray⟩,.int .i64 fm2.refs,.bool fm2.dirty,.bool true]:=j9 (f:=fmC) (a5r (x:=(⟨fm2.data,fm2.refs,fm2.dirty,true⟩:Fm)) hn2)
 have hfin:∀ dt,dt=(fm2.dirty||write)→(⟨sh2,fr2.set B.2 ⟨fm2.data,fm2.refs,dt,true⟩,sl2,sps2,hand2,vsh2,.slice (some ⟨gf2,0,none⟩) fr2.length cf2,vsl2,vsp2⟩:KV).K=a1H B.1 B.2 write:=fun dt hdt=>by
  rw [← hq1,hdt]
  unfold a1H z7 KV.K
  dsimp only
  rw [q8 hfm2]
 have hs2:∀ dt,((fr2.set B.2 ⟨fm2.data,fm2.refs,fm2.dirty,true⟩).map fmC).set B.2 (t8 [.string ⟨fm2.data.toArray⟩,.int .i64 fm2.refs,.bool fm2.dirty,.bool true] 2 [.bool dt])=(fr2.set B.2 ⟨fm2.data,fm2.refs,dt,true⟩).map fmC:=fun dt=>by
  rw [List.map_set,List.map_set,List.set_set]
  rfl
 have hlike:∀ fr',KLike ⟨sh,fr,sl,sps,hand,vsh,.slice (some ⟨bf,of_,none⟩) fr.length cf,.slice psl sl.length csl,.slice (some ⟨bs,os,none⟩) sps.length cs⟩ ⟨sh2,fr',sl2,sps2,hand2,vsh2,.slice (some ⟨gf2,0,none⟩) fr2.length cf2,vsl2,vsp2⟩:=fun fr'=>⟨hq2.sh.trans hk2.sh,hq2.vsh.trans hk2.vsh,hq2.ar.trans hk2.ar⟩
 repeat' ((with_reducible apply d8))
 (focus ((with_reducible apply m7 _ _ _ (by kernel_rfl) (by kernel_rfl) hS);(repeat' ((first|((with_reducible apply a3G);exact rfl;exact rfl;omega;omega;exact rfl)|((with_reducible apply o5 c8);exact rfl;exact rfl)|((with_reducible apply n6);exact rfl;(intro wd hd;replace hd:St _ _ wd _:=hd;(first|((with_reducible apply Loads.sc c8);exact rfl;((exact hd.rowC0 1 rfl (by assumption) rfl)))|((with_reducible apply Loads.sl c8);exact rfl;((exact hd.blkC 0 rfl rfl)))));exact rfl)|((with_reducible apply a05 c8);(iterate 3 exact rfl);(first|exact rfl|assumption);((omega));exact rfl))));all_goals ((with_reducible apply r5);intro w' hS';clear hS;have hS:=hS';clear hS')))
 repeat' (first|(((with_reducible apply d6 c8);exact rfl;exact rfl))|(first|(with_reducible first|apply d8|apply c9|apply d7|apply d5))|((with_reducible apply a0i hS c8 (i:=2));(iterate 4 exact rfl);assumption;(iterate 5 exact rfl);intro w' hS';simp only [List.set] at hS';clear hS;have hS:=hS';clear hS'))
 rw [hs1] at hS
 cases hdt:fm2.dirty with
 |true=>
  rw [hdt] at hrowF3 hS hs2 hfin
  repeat' (first|(first|((with_reducible apply d6 c8);exact rfl;exact rfl)|((with_reducible apply d9);exact rfl;(((with_reducible apply Loads.sc c8);exact rfl;((exact hS.rowCj 2 rfl (by assumption) rfl))));exact rfl)|(first|((with_reducible apply a0f);(iterate 4 exact rfl);((exact rfl));exact rfl)|((with_reducible apply m9);exact rfl;((exact rfl));exact rfl;exact rfl)))|((with_reducible apply d7))|((with_reducible apply a0i hS c8 (i:=2));(iterate 4 exact rfl);assumption;(iterate 5 exact rfl);intro w' hS';simp only [List.set] at hS';clear hS;have hS:=hS';clear hS'))
  (apply a11);(repeat ((exact ResL.nil)))
  rw [hs2] at hS
  refine ⟨rfl,⟨sh2,fr2.set B.2 ⟨fm2.data,fm2.refs,true,true⟩,sl2,sps2,hand2,vsh2,.slice (some ⟨gf2,0,none⟩) fr2.length cf2,vsl2,vsp2⟩,_,hfin _ rfl,hlike _,hS⟩
 |false=>
  rw [hdt] at hrowF3 hS hs2 hfin
  repeat' (first|(first|((with_reducible apply d6 c8);exact rfl;exact rfl)|((with_reducible apply d9);exact rfl;(((with_reducible apply Loads.sc c8);exact rfl;((exact hS.rowCj 2 rfl (by assumption) rfl))));exact rfl)|(first|((with_reducible apply p9);(iterate 4 exact rfl);(exact rfl))|((with_reducible apply n0);exact rfl;((exact rfl));exact rfl;exact rfl)))|((with_reducible apply d7))|((with_reducible apply a0i hS c8 (i:=2));(iterate 4 exact rfl);assumption;(iterate 5 exact rfl);intro w' hS';simp only [List.set] at hS';clear hS;have hS:=hS';clear hS'))
  (apply a11);(repeat ((exact ResL.nil)))
  rw [hs2] at hS
  refine ⟨rfl,⟨sh2,fr2.set B.2 ⟨fm2.data,fm2.refs,write,true⟩,sl2,sps2,hand2,vsh2,.slice (some ⟨gf2,0,none⟩) fr2.length cf2,vsl2,vsp2⟩,_,hfin _ (by simp),hlike _,hS⟩
end Go.Proofs.Ytejnpppejalhfac
/- kernel.Check. -/
namespace Go.Proofs.Ytejnpppejalhfac
open Go.RowKit Go.Sort
set_option maxRecDepth 100000 in
set_option maxHeartbeats 8000000 in
theorem b2k {F:Nat→Prop} {w0 w:World} {Γ:List Asr} {gl gk gc:Nat} {vsh vF vS vsp:Value} {l:List (Sh×Value)} {NF NS:NL} {sp:List Sp}
  (hS0:St F w0 w (lkS gl (.pointer (some ⟨gk,0,none⟩)) vF vS 0 NF NS++Γ)) (hc:Bs (fps (lkS gl (.pointer (some ⟨gk,0,none⟩)) vF vS 0 NF NS)) w ⟨gc,0,none⟩ (.pointer (some ⟨gl,0,none⟩))) (hk:Bs (fps (lkS gl (.pointer (some ⟨gk,0,none⟩)) vF vS 0 NF NS)) w ⟨gk,0,none⟩ vsh) (hL:ShsF (fps (lkS gl (.pointer (some ⟨gk,0,none⟩)) vF vS 0 NF NS)) w l vsh) (hr:a0W 0 (shs l)=true)
  (hsl:Sl (fps (lkS gl (.pointer (some ⟨gk,0,none⟩)) vF vS 0 NF NS)) w 3 vsp (sp.map spC)) (hp:∀ p ∈ sp,SpF (fps (lkS gl (.pointer (some ⟨gk,0,none⟩)) vF vS 0 NF NS)) w p) (h4:sp.length≤4) (hF:∀ x ∈ NF,x.2=[]) (hSl:∀ x ∈ NS,x.2=[]) :
  Fn Try.prog 25 [vsp,.func (.func 26) #[] #[.pointer (some ⟨gc,0,none⟩)]] w (fun v w'=>v=.bool (!(sp.map (·.s)).all (z6 (shs l) NF.length NS.length))∧∃ NF' NS' room',St (fps (lkS gl (.pointer (some ⟨gk,0,none⟩)) vF vS 0 NF NS)) w w' (lkS gl (.pointer (some ⟨gk,0,none⟩)) vF vS room' NF' NS')∧((sp.map (·.s)).all (z6 (shs l) NF.length NS.length)=true→room'=r9 (sp.map (·.s))∧Grown NF NF' 1 (a0w (sp.map (·.s)))∧Grown NS NS' 2 (a0w (sp.map (·.s))))):=by
 have hcall:=b2f hS0 hc hk hL hr hsl hp h4 hF hSl
 refine j0 (fn:=Try.f25) ⟨Try.func25,by kernel_rfl,by kernel_rfl⟩ (by exact rfl) Try.ntmps25 (by exact rfl) ?_
 repeat' (first|(((with_reducible apply d6 c8);exact rfl;exact rfl))|(first|(with_reducible first|apply d8|apply c9|apply d7|apply d5|apply j5))|((with_reducible apply e8);exact rfl;exact rfl;exact hcall;exact rfl;rintro _ w2 ⟨⟨i,rfl,hi⟩,NF',NS',room',h2,hg⟩))
 (apply j6);(repeat (first|exact ResL.nil|(apply ResL.tmp;exact rfl)))
 exact ⟨by rw [hi],NF',NS',room',h2,hg⟩
theorem a5i {A:List Ar} {nf ns:Int} (hc:q7 A=0):∀ {es:List En} {last:Int},a1u A nf ns last es=true→∀ e ∈ es,last < e.page∧e.page≤255
 |[],_,_,_,h=>by simp at h
 |e::es,last,h,x,hx=>by
  replace h:(a4x A nf ns last e && a1u A nf ns e.page es)=true:=h
  rw [Bool.and_eq_true] at h
  have h1:=h.1
  unfold a4x at h1
  rw [Bool.and_eq_true,decide_eq_true_eq] at h1
  obtain ⟨hs,hl,-⟩:=h1
  obtain ⟨a,ha⟩:=Option.isSome_iff_exists.1 hs
  have h2:=List.find?_some ha
  have h3:=(a0F hc ha).1
  unfold a0K at h2
  rw [decide_eq_true_eq] at h2
  unfold Ar.ok at h3
  unfold Ar.fin at h2
  rcases List.mem_cons.1 hx with rfl|hx
  ·omega
  ·have:=a5i hc h.2 x hx
   omega
theorem a7M {l:List Sh} {nf ns:Int} {L:List Sc} (h:L.all (z6 l nf ns)=true):∀ n ∈ a0w L,-1000000≤n.1.page∧n.1.page≤1000000:=by
 intro n hn
 unfold a0w at hn
 obtain ⟨s,hs,hn⟩:=List.mem_flatMap.1 hn
 obtain ⟨e,he,rfl⟩:=List.mem_map.1 hn
 have h1:=List.all_eq_true.1 h s hs
 unfold z6 at h1
 by_cases hl:s.live=true
 ·rw [if_pos hl,Bool.and_eq_true,Bool.and_eq_true,decide_eq_true_eq] at h1
  have:=a5i h1.1 h1.2.2 e he
  show -1000000≤e.page∧e.page≤1000000
  omega
 ·rw [if_neg hl,decide_eq_true_eq] at h1
  rw [h1.2] at he
  cases he
theorem a7J {F:Nat→Prop} {w0 w:World} {Γ:List Asr} (h:St F w0 w Γ):∀ n:Nat,St F w0 w (nlR (List.replicate n (.slice none 0 0,[]))++Γ)
 |0=>h
 |n + 1=>(a7J h n).addNil _ _
set_option maxRecDepth 100000 in
set_option maxHeartbeats 8000000 in
theorem a28 {w:World} {k:KV} (hK:KerV w k):Fn Try.prog 9 [.agg (kvC k).toArray] w (RBf (.int .i64 (a0Y k.K)) w):=by
 have b1:=hK.fr.bound
 have b2:=hK.sl.bound
 have b3:=hK.sp.bound
 have b4:=hK.sh.sl.bound
 have hK0:=hK
 obtain ⟨sh,fr,sl,sp,hand,vsh,vfr,vsl,vsp⟩:=k
 obtain ⟨k1,k2,k3,k4,k5⟩:=hK
 dsimp only at b1 b2 b3 b4 k1 k2 k3 k4 k5
 obtain ⟨p1,c1,rfl⟩:=k1.sl.len
 obtain ⟨p2,c2,rfl⟩:=k2.len
 obtain ⟨p3,c3,rfl⟩:=k3.len
 obtain ⟨p4,c4,rfl⟩:=k4.len
 unfold kvC a0Y KV.K
 dsimp only
 by_cases hcnt:a2F ⟨shs sh,fr,sl,sp.map (·.s),hand⟩=true
 rotate_left
 ·rw [if_neg hcnt]
  unfold a2F at hcnt
  rw [decide_eq_true_eq] at hcnt
  dsimp only at hcnt
  rw [List.length_map,a2J] at hcnt
  refine j0 (fn:=Try.f9) ⟨Try.func9,by kernel_rfl,by kernel_rfl⟩ (by exact rfl) Try.ntmps9 (by exact rfl) ?_
  have hS:=St.start w
  repeat' (first|(first|((with_reducible apply d6 c8);exact rfl;exact rfl)|((with_reducible apply d9);exact rfl;(((with_reducible apply Loads.sl c8);exact rfl;((exact hS.blkC 0 rfl rfl))));exact rfl)|((with_reducible apply p7 hS);(iterate 3 exact rfl);intro g w' hS';clear hS;have hS:=hS';clear hS')|(first|((with_reducible apply p9);(iterate 4 exact rfl);(assumption))|((with_reducible apply a0f);(iterate 4 exact rfl);(first|exact rfl|assumption);exact rfl)|((with_reducible apply r6);(iterate 3 exact rfl);all_goals (intro hb hp;try (exfalso;omega)))|((with_reducible apply m9);exact rfl;(first|exact rfl|assumption);exact rfl;exact rfl)|((with_reducible apply n0);exact rfl;((assumption));exact rfl;exact rfl)))|(first|(with_reducible first|apply d8|apply c9|apply d7|apply d5|apply j5|apply e6))|(first|((with_reducible apply k9);exact rfl;(exact rfl))|((with_reducible apply k6);exact rfl;all_goals (intro hb hp;try (exfalso;omega)))))
  all_goals (apply j6)
  all_goals (repeat (first|exact ResL.nil|(apply ResL.tmp;exact rfl)))
  all_goals (exact ⟨rfl,hS.sub (List.nil_sublist _)⟩)
 rw [if_pos hcnt]
 unfold a2F at hcnt
 rw [decide_eq_true_eq,List.length_map,a2J] at hcnt
 have hshe:=fun w1 (h:ShsV w1 sh (.slice p1 sh.length c1))=>a9G h
 generalize hnf:fr.length=nf at *
 generalize hns:sl.length=ns at *
 refine j0 (fn:=Try.f9) ⟨Try.func9,by kernel_rfl,by kernel_rfl⟩ (by exact rfl) Try.ntmps9 (by exact rfl) ?_
 have hS:=St.start w
 repeat' (first|(first|((with_reducible apply d6 c8);exact rfl;exact rfl)|((with_reducible apply d9);exact rfl;(((with_reducible apply Loads.sl c8);exact rfl;((exact hS.blkC 0 rfl rfl))));exact rfl)|((with_reducible apply p7 hS);(iterate 3 exact rfl);intro g w' hS';clear hS;have hS:=hS';clear hS')|(first|((with_reducible apply p9);(iterate 4 exact rfl);(assumption))|((with_reducible apply r6);(iterate 3 exact rfl);all_goals (intro hb hp;try (exfalso;omega)))|((with_reducible apply n0);exact rfl;((assumption));exact rfl;exact rfl)))|(first|(with_reducible first|apply d8|apply c9|apply d7|apply d5|apply g8))|(((with_reducible apply k6);exact rfl;all_goals (intro hb hp;try (exfalso;omega)))))
 rename Nat=>gk
 refine a4O (F:=nF) (w0:=w) (X:=Nat×Nat×Nat×Nat) (fun x=>[(1,.pointer (some ⟨gk,0,none⟩)),(3,.pointer (some ⟨x.2.2.2,0,none⟩))]) (fun x=>[.blk x.2.2.2 [.pointer (some ⟨x.2.2.1,0,none⟩)],.blk gk [.slice p1 sh.length c1,.slice p2 nf c2,.slice p3 ns c3,.slice p4 sp.length c4,.int .i64 hand],.blk x.2.2.1 [.pointer (some ⟨gk,0,none⟩),.slice (some ⟨x.1,0,none⟩) nf nf,.slice (some ⟨x.2.1,0,none⟩) ns ns,.int .i64 0],.row 90 1 (.slice (some ⟨x.1,0,none⟩) nf nf) (List.replicate nf [.slice none 0 0]),.row 90 1 (.slice (some ⟨x.2.1,0,none⟩) ns ns) (List.replicate ns [.slice none 0 0])]) (fun _=>True) ?_ ?_
 ·refine a95 1 12 rfl hS (by kernel_rfl) ?_
  intro w1 hS'
  clear hS;have hS:=hS';clear hS'
  simp only [List.take_succ_cons,List.take_zero]
  ((with_reducible apply n8 0 c8);exact rfl;kernel_rfl;kernel_rfl;kernel_rfl;exact (fun _ _ _ h=>h);exact hS;exact rfl;exact rfl)
  ((with_reducible apply v6 1);exact rfl;kernel_rfl;kernel_rfl;kernel_rfl;exact (fun _ _ _ h=>h);exact hS;exact rfl;(intro wd hd;replace hd:St _ _ wd _:=hd;(((with_reducible apply Loads.sl c8);exact rfl;((exact hd.blkC 0 rfl rfl)))));exact rfl)
  ((with_reducible apply n8 2 c8);exact rfl;kernel_rfl;kernel_rfl;kernel_rfl;exact (fun _ _ _ h=>h);exact hS;exact rfl;exact rfl)
  ((with_reducible apply n8 4 c8);exact rfl;kernel_rfl;kernel_rfl;kernel_rfl;exact (fun _ _ _ h=>h);exact hS;exact rfl;exact rfl)
  ((with_reducible apply v6 5);exact rfl;kernel_rfl;kernel_rfl;kernel_rfl;exact (fun _ _ _ h=>h);exact hS;exact rfl;(intro wd hd;replace hd:St _ _ wd _:=hd;(((with_reducible apply Loads.sl c8);exact rfl;((exact hd.blkC 0 rfl rfl)))));exact rfl)
  ((with_reducible apply n8 6 c8);exact rfl;kernel_rfl;kernel_rfl;kernel_rfl;exact (fun _ _ _ h=>h);exact hS;exact rfl;exact rfl)
  refine b0m (i:=3) (j:=7) (l:=10) (by kernel_rfl) ?_ ?_ ?_
  ·refine o7 rfl (a0t hS c8 (m:=nf) rfl rfl rfl rfl rfl (by omega) (by omega) rfl) rfl ?_
   rintro _ w' ⟨gF,rfl,hS'⟩
   clear hS;have hS:=hS';clear hS'
   refine ⟨(hS.sub (by repeat (first|exact List.Sublist.refl _|apply List.Sublist.cons))),?_⟩
   refine a20 (i:=7) (j:=10) (by kernel_rfl) ?_ ?_
   ·refine o7 rfl (a0t hS c8 (m:=ns) rfl rfl rfl rfl rfl (by omega) (by omega) rfl) rfl ?_
    rintro _ w' ⟨gS,rfl,hS'⟩
    clear hS;have hS:=hS';clear hS'
    refine ⟨(hS.sub (by repeat (first|exact List.Sublist.refl _|apply List.Sublist.cons))),?_⟩
    ((with_reducible apply x6 8 c8);exact rfl;kernel_rfl;kernel_rfl;kernel_rfl;exact (fun _ _ _ _ h=>h);exact (hS.sub (by repeat (first|exact List.Sublist.refl _|apply List.Sublist.cons)));exact rfl;exact rfl;((exact (rfl:_=some [_,_,_,_])));exact rfl)
    refine a20 (i:=9) (j:=10) (by kernel_rfl) ?_ ?_
    ·refine o7 rfl (a4e hS rfl) rfl ?_
     rintro _ w' ⟨gl,rfl,hS'⟩
     replace hS':St _ _ w' (.blk gl [.pointer (some ⟨gk,0,none⟩),.slice (some ⟨gF,0,none⟩) nf nf,.slice (some ⟨gS,0,none⟩) ns ns,.int .i64 0]::_):=hS'
     clear hS;have hS:=hS';clear hS'
     refine ⟨(hS.sub (by repeat (first|exact List.Sublist.refl _|apply List.Sublist.cons))),?_⟩
     refine o9 (i:=10) (by kernel_rfl) ?_
     refine o7 rfl (a0r hS c8 rfl rfl) rfl ?_
     rintro _ w' ⟨gc,rfl,hS'⟩
     clear hS;have hS:=hS';clear hS'
     refine ⟨(hS.sub (by repeat (first|exact List.Sublist.refl _|apply List.Sublist.cons))),?_⟩
     refine o9 (i:=11) (by kernel_rfl) ?_
     refine q9 (Φ:=fun _ w'=>St _ _ w' _) rfl (o8 hS c8 (i:=0) rfl rfl rfl rfl rfl (Nat.le_of_ble_eq_true rfl) (List.all_eq_true.1 rfl)) ?_
     intro _ w' hS'
     simp only [List.set] at hS'
     clear hS;have hS:=hS';clear hS'
     refine ⟨(hS.sub (by repeat (first|exact List.Sublist.refl _|apply List.Sublist.cons))),?_⟩
     refine y0 (by kernel_rfl) ?_
     replace hS:=St.reorder [0,4,1,3,2] hS (by decide) rfl
     exact a0e (gF,gS,gl,gc) (by repeat (first|exact Fr.sub_nil _|(apply Fr.sub_cons;exact rfl))) trivial hS
    ·refine o7 rfl (a0r hS c8 rfl rfl) rfl ?_
     rintro _ w' ⟨gc,rfl,hS'⟩
     clear hS;have hS:=hS';clear hS'
     refine ⟨(hS.sub (by repeat (first|exact List.Sublist.refl _|apply List.Sublist.cons))),?_⟩
     refine o9 (i:=9) (by kernel_rfl) ?_
     refine o7 rfl (a4e hS rfl) rfl ?_
     rintro _ w' ⟨gl,rfl,hS'⟩
     replace hS':St _ _ w' (.blk gl [.pointer (some ⟨gk,0,none⟩),.slice (some ⟨gF,0,none⟩) nf nf,.slice (some ⟨gS,0,none⟩) ns ns,.int .i64 0]::_):=hS'
     clear hS;have hS:=hS';clear hS'
     refine ⟨(hS.sub (by repeat (first|exact List.Sublist.refl _|apply List.Sublist.cons))),?_⟩
     refine o9 (i:=11) (by kernel_rfl) ?_
     refine q9 (Φ:=fun _ w'=>St _ _ w' _) rfl (o8 hS c8 (i:=1) rfl rfl rfl rfl rfl (Nat.le_of_ble_eq_true rfl) (List.all_eq_true.1 rfl)) ?_
     intro _ w' hS'
     simp only [List.set] at hS'
     clear hS;have hS:=hS';clear hS'
     refine ⟨(hS.sub (by repeat (first|exact List.Sublist.refl _|apply List.Sublist.cons))),?_⟩
     refine y0 (by kernel_rfl) ?_
     replace hS:=St.reorder [1,4,0,3,2] hS (by decide) rfl
     exact a0e (gF,gS,gl,gc) (by repeat (first|exact Fr.sub_nil _|(apply Fr.sub_cons;exact rfl))) trivial hS
   ·refine o7 rfl (a0r hS c8 rfl rfl) rfl ?_
    rintro _ w' ⟨gc,rfl,hS'⟩
    clear hS;have hS:=hS';clear hS'
    refine ⟨(hS.sub (by repeat (first|exact List.Sublist.refl _|apply List.Sublist.cons))),?_⟩
    refine o9 (i:=7) (by kernel_rfl) ?_
    refine o7 rfl (a0t hS c8 (m:=ns) rfl rfl rfl rfl rfl (by omega) (by omega) rfl) rfl ?_
    rintro _ w' ⟨gS,rfl,hS'⟩
    clear hS;have hS:=hS';clear hS'
    refine ⟨(hS.sub (by repeat (first|exact List.Sublist.refl _|apply List.Sublist.cons))),?_⟩
    ((with_reducible apply x6 8 c8);exact rfl;kernel_rfl;kernel_rfl;kernel_rfl;exact (fun _ _ _ _ h=>h);exact (hS.sub (by repeat (first|exact List.Sublist.refl _|apply List.Sublist.cons)));exact rfl;exact rfl;((exact (rfl:_=some [_,_,_,_])));exact rfl)
    refine o9 (i:=9) (by kernel_rfl) ?_
    refine o7 rfl (a4e hS rfl) rfl ?_
    rintro _ w' ⟨gl,rfl,hS'⟩
    replace hS':St _ _ w' (.blk gl [.pointer (some ⟨gk,0,none⟩),.slice (some ⟨gF,0,none⟩) nf nf,.slice (some ⟨gS,0,none⟩) ns ns,.int .i64 0]::_):=hS'
    clear hS;have hS:=hS';clear hS'
    refine ⟨(hS.sub (by repeat (first|exact List.Sublist.refl _|apply List.Sublist.cons))),?_⟩
    refine o9 (i:=11) (by kernel_rfl) ?_
    refine q9 (Φ:=fun _ w'=>St _ _ w' _) rfl (o8 hS c8 (i:=2) rfl rfl rfl rfl rfl (Nat.le_of_ble_eq_true rfl) (List.all_eq_true.1 rfl)) ?_
    intro _ w' hS'
    simp only [List.set] at hS'
    clear hS;have hS:=hS';clear hS'
    refine ⟨(hS.sub (by repeat (first|exact List.Sublist.refl _|apply List.Sublist.cons))),?_⟩
    refine y0 (by kernel_rfl) ?_
    replace hS:=St.reorder [2,4,0,3,1] hS (by decide) rfl
    exact a0e (gF,gS,gl,gc) (by repeat (first|exact Fr.sub_nil _|(apply Fr.sub_cons;exact rfl))) trivial hS
  ·refine o7 rfl (a0t hS c8 (m:=ns) rfl rfl rfl rfl rfl (by omega) (by omega) rfl) rfl ?_
   rintro _ w' ⟨gS,rfl,hS'⟩
   clear hS;have hS:=hS';clear hS'
   refine ⟨(hS.sub (by repeat (first|exact List.Sublist.refl _|apply List.Sublist.cons))),?_⟩
   refine a20 (i:=3) (j:=10) (by kernel_rfl) ?_ ?_
   ·refine o7 rfl (a0t hS c8 (m:=nf) rfl rfl rfl rfl rfl (by omega) (by omega) rfl) rfl ?_
    rintro _ w' ⟨gF,rfl,hS'⟩
    clear hS;have hS:=hS';clear hS'
    refine ⟨(hS.sub (by repeat (first|exact List.Sublist.refl _|apply List.Sublist.cons))),?_⟩
    ((with_reducible apply x6 8 c8);exact rfl;kernel_rfl;kernel_rfl;kernel_rfl;exact (fun _ _ _ _ h=>h);exact (hS.sub (by repeat (first|exact List.Sublist.refl _|apply List.Sublist.cons)));exact rfl;exact rfl;((exact (rfl:_=some [_,_,_,_])));exact rfl)
    refine a20 (i:=9) (j:=10) (by kernel_rfl) ?_ ?_
    ·refine o7 rfl (a4e hS rfl) rfl ?_
     rintro _ w' ⟨gl,rfl,hS'⟩
     replace hS':St _ _ w' (.blk gl [.pointer (some ⟨gk,0,none⟩),.slice (some ⟨gF,0,none⟩) nf nf,.slice (some ⟨gS,0,none⟩) ns ns,.int .i64 0]::_):=hS'
     clear hS;have hS:=hS';clear hS'
     refine ⟨(hS.sub (by repeat (first|exact List.Sublist.refl _|apply List.Sublist.cons))),?_⟩
     refine o9 (i:=10) (by kernel_rfl) ?_
     refine o7 rfl (a0r hS c8 rfl rfl) rfl ?_
     rintro _ w' ⟨gc,rfl,hS'⟩
     clear hS;have hS:=hS';clear hS'
     refine ⟨(hS.sub (by repeat (first|exact List.Sublist.refl _|apply List.Sublist.cons))),?_⟩
     refine o9 (i:=11) (by kernel_rfl) ?_
     refine q9 (Φ:=fun _ w'=>St _ _ w' _) rfl (o8 hS c8 (i:=0) rfl rfl rfl rfl rfl (Nat.le_of_ble_eq_true rfl) (List.all_eq_true.1 rfl)) ?_
     intro _ w' hS'
     simp only [List.set] at hS'
     clear hS;have hS:=hS';clear hS'
     refine ⟨(hS.sub (by repeat (first|exact List.Sublist.refl _|apply List.Sublist.cons))),?_⟩
     refine y0 (by kernel_rfl) ?_
     replace hS:=St.reorder [0,4,1,2,3] hS (by decide) rfl
     exact a0e (gF,gS,gl,gc) (by repeat (first|exact Fr.sub_nil _|(apply Fr.sub_cons;exact rfl))) trivial hS
    ·refine o7 rfl (a0r hS c8 rfl rfl) rfl ?_
     rintro _ w' ⟨gc,rfl,hS'⟩
     clear hS;have hS:=hS';clear hS'
     refine ⟨(hS.sub (by repeat (first|exact List.Sublist.refl _|apply List.Sublist.cons))),?_⟩
     refine o9 (i:=9) (by kernel_rfl) ?_
     refine o7 rfl (a4e hS rfl) rfl ?_
     rintro _ w' ⟨gl,rfl,hS'⟩
     replace hS':St _ _ w' (.blk gl [.pointer (some ⟨gk,0,none⟩),.slice (some ⟨gF,0,none⟩) nf nf,.slice (some ⟨gS,0,none⟩) ns ns,.int .i64 0]::_):=hS'
     clear hS;have hS:=hS';clear hS'
     refine ⟨(hS.sub (by repeat (first|exact List.Sublist.refl _|apply List.Sublist.cons))),?_⟩
     refine o9 (i:=11) (by kernel_rfl) ?_
     refine q9 (Φ:=fun _ w'=>St _ _ w' _) rfl (o8 hS c8 (i:=1) rfl rfl rfl rfl rfl (Nat.le_of_ble_eq_true rfl) (List.all_eq_true.1 rfl)) ?_
     intro _ w' hS'
     simp only [List.set] at hS'
     clear hS;have hS:=hS';clear hS'
     refine ⟨(hS.sub (by repeat (first|exact List.Sublist.refl _|apply List.Sublist.cons))),?_⟩
     refine y0 (by kernel_rfl) ?_
     replace hS:=St.reorder [1,4,0,2,3] hS (by decide) rfl
     exact a0e (gF,gS,gl,gc) (by repeat (first|exact Fr.sub_nil _|(apply Fr.sub_cons;exact rfl))) trivial hS
   ·refine o7 rfl (a0r hS c8 rfl rfl) rfl ?_
    rintro _ w' ⟨gc,rfl,hS'⟩
    clear hS;have hS:=hS';clear hS'
    refine ⟨(hS.sub (by repeat (first|exact List.Sublist.refl _|apply List.Sublist.cons))),?_⟩
    refine o9 (i:=3) (by kernel_rfl) ?_
    refine o7 rfl (a0t hS c8 (m:=nf) rfl rfl rfl rfl rfl (by omega) (by omega) rfl) rfl ?_
    rintro _ w' ⟨gF,rfl,hS'⟩
    clear hS;have hS:=hS';clear hS'
    refine ⟨(hS.sub (by repeat (first|exact List.Sublist.refl _|apply List.Sublist.cons))),?_⟩
    ((with_reducible apply x6 8 c8);exact rfl;kernel_rfl;kernel_rfl;kernel_rfl;exact (fun _ _ _ _ h=>h);exact (hS.sub (by repeat (first|exact List.Sublist.refl _|apply List.Sublist.cons)));exact rfl;exact rfl;((exact (rfl:_=some [_,_,_,_])));exact rfl)
    refine o9 (i:=9) (by kernel_rfl) ?_
    refine o7 rfl (a4e hS rfl) rfl ?_
    rintro _ w' ⟨gl,rfl,hS'⟩
    replace hS':St _ _ w' (.blk gl [.pointer (some ⟨gk,0,none⟩),.slice (some ⟨gF,0,none⟩) nf nf,.slice (some ⟨gS,0,none⟩) ns ns,.int .i64 0]::_):=hS'
    clear hS;have hS:=hS';clear hS'
    refine ⟨(hS.sub (by repeat (first|exact List.Sublist.refl _|apply List.Sublist.cons))),?_⟩
    refine o9 (i:=11) (by kernel_rfl) ?_
    refine q9 (Φ:=fun _ w'=>St _ _ w' _) rfl (o8 hS c8 (i:=2) rfl rfl rfl rfl rfl (Nat.le_of_ble_eq_true rfl) (List.all_eq_true.1 rfl)) ?_
    intro _ w' hS'
    simp only [List.set] at hS'
    clear hS;have hS:=hS';clear hS'
    refine ⟨(hS.sub (by repeat (first|exact List.Sublist.refl _|apply List.Sublist.cons))),?_⟩
    refine y0 (by kernel_rfl) ?_
    replace hS:=St.reorder [2,4,0,1,3] hS (by decide) rfl
    exact a0e (gF,gS,gl,gc) (by repeat (first|exact Fr.sub_nil _|(apply Fr.sub_cons;exact rfl))) trivial hS
  ·refine o7 rfl (a0r hS c8 rfl rfl) rfl ?_
   rintro _ w' ⟨gc,rfl,hS'⟩
   clear hS;have hS:=hS';clear hS'
   refine ⟨(hS.sub (by repeat (first|exact List.Sublist.refl _|apply List.Sublist.cons))),?_⟩
   refine a20 (i:=3) (j:=7) (by kernel_rfl) ?_ ?_
   ·refine o7 rfl (a0t hS c8 (m:=nf) rfl rfl rfl rfl rfl (by omega) (by omega) rfl) rfl ?_
    rintro _ w' ⟨gF,rfl,hS'⟩
    clear hS;have hS:=hS';clear hS'
    refine ⟨(hS.sub (by repeat (first|exact List.Sublist.refl _|apply List.Sublist.cons))),?_⟩
    refine o9 (i:=7) (by kernel_rfl) ?_
    refine o7 rfl (a0t hS c8 (m:=ns) rfl rfl rfl rfl rfl (by omega) (by omega) rfl) rfl ?_
    rintro _ w' ⟨gS,rfl,hS'⟩
    clear hS;have hS:=hS';clear hS'
    refine ⟨(hS.sub (by repeat (first|exact List.Sublist.refl _|apply List.Sublist.cons))),?_⟩
    ((with_reducible apply x6 8 c8);exact rfl;kernel_rfl;kernel_rfl;kernel_rfl;exact (fun _ _ _ _ h=>h);exact (hS.sub (by repeat (first|exact List.Sublist.refl _|apply List.Sublist.cons)));exact rfl;exact rfl;((exact (rfl:_=some [_,_,_,_])));exact rfl)
    refine o9 (i:=9) (by kernel_rfl) ?_
    refine o7 rfl (a4e hS rfl) rfl ?_
    rintro _ w' ⟨gl,rfl,hS'⟩
    replace hS':St _ _ w' (.blk gl [.pointer (some ⟨gk,0,none⟩),.slice (some ⟨gF,0,none⟩) nf nf,.slice (some ⟨gS,0,none⟩) ns ns,.int .i64 0]::_):=hS'
    clear hS;have hS:=hS';clear hS'
    refine ⟨(hS.sub (by repeat (first|exact List.Sublist.refl _|apply List.Sublist.cons))),?_⟩
    refine o9 (i:=11) (by kernel_rfl) ?_
    refine q9 (Φ:=fun _ w'=>St _ _ w' _) rfl (o8 hS c8 (i:=3) rfl rfl rfl rfl rfl (Nat.le_of_ble_eq_true rfl) (List.all_eq_true.1 rfl)) ?_
    intro _ w' hS'
    simp only [List.set] at hS'
    clear hS;have hS:=hS';clear hS'
    refine ⟨(hS.sub (by repeat (first|exact List.Sublist.refl _|apply List.Sublist.cons))),?_⟩
    refine y0 (by kernel_rfl) ?_
    replace hS:=St.reorder [3,4,0,2,1] hS (by decide) rfl
    exact a0e (gF,gS,gl,gc) (by repeat (first|exact Fr.sub_nil _|(apply Fr.sub_cons;exact rfl))) trivial hS
   ·refine o7 rfl (a0t hS c8 (m:=ns) rfl rfl rfl rfl rfl (by omega) (by omega) rfl) rfl ?_
    rintro _ w' ⟨gS,rfl,hS'⟩
    clear hS;have hS:=hS';clear hS'
    refine ⟨(hS.sub (by repeat (first|exact List.Sublist.refl _|apply List.Sublist.cons))),?_⟩
    refine o9 (i:=3) (by kernel_rfl) ?_
    refine o7 rfl (a0t hS c8 (m:=nf) rfl rfl rfl rfl rfl (by omega) (by omega) rfl) rfl ?_
    rintro _ w' ⟨gF,rfl,hS'⟩
    clear hS;have hS:=hS';clear hS'
    refine ⟨(hS.sub (by repeat (first|exact List.Sublist.refl _|apply List.Sublist.cons))),?_⟩
    ((with_reducible apply x6 8 c8);exact rfl;kernel_rfl;kernel_rfl;kernel_rfl;exact (fun _ _ _ _ h=>h);exact (hS.sub (by repeat (first|exact List.Sublist.refl _|apply List.Sublist.cons)));exact rfl;exact rfl;((exact (rfl:_=some [_,_,_,_])));exact rfl)
    refine o9 (i:=9) (by kernel_rfl) ?_
    refine o7 rfl (a4e hS rfl) rfl ?_
    rintro _ w' ⟨gl,rfl,hS'⟩
    replace hS':St _ _ w' (.blk gl [.pointer (some ⟨gk,0,none⟩),.slice (some ⟨gF,0,none⟩) nf nf,.slice (some ⟨gS,0,none⟩) ns ns,.int .i64 0]::_):=hS'
    clear hS;have hS:=hS';clear hS'
    refine ⟨(hS.sub (by repeat (first|exact List.Sublist.refl _|apply List.Sublist.cons))),?_⟩
    refine o9 (i:=11) (by kernel_rfl) ?_
    refine q9 (Φ:=fun _ w'=>St _ _ w' _) rfl (o8 hS c8 (i:=3) rfl rfl rfl rfl rfl (Nat.le_of_ble_eq_true rfl) (List.all_eq_true.1 rfl)) ?_
    intro _ w' hS'
    simp only [List.set] at hS'
    clear hS;have hS:=hS';clear hS'
    refine ⟨(hS.sub (by repeat (first|exact List.Sublist.refl _|apply List.Sublist.cons))),?_⟩
    refine y0 (by kernel_rfl) ?_
    replace hS:=St.reorder [3,4,0,1,2] hS (by decide) rfl
    exact a0e (gF,gS,gl,gc) (by repeat (first|exact Fr.sub_nil _|(apply Fr.sub_cons;exact rfl))) trivial hS
 clear hS
 rintro ⟨gF,gS,gl,gc⟩ w1 - hS
 dsimp only at hS ⊢
 repeat (with_reducible apply d8)
 have hform:∀ b:Bool,a5Q ⟨shs sh,fr,sl,sp.map (·.s),hand⟩=b→(if a5Q ⟨shs sh,fr,sl,sp.map (·.s),hand⟩=true then (0:Int) else 1)=if b=true then 0 else 1:=fun b h=>by rw [h]
 have hfe:a5Q ⟨shs sh,fr,sl,sp.map (·.s),hand⟩=((a0W 0 (shs sh) && decide (0≤hand∧hand < (nf:Int))) && ((sp.map (·.s)).all (z6 (shs sh) nf ns) && (decide (r9 (sp.map (·.s))≤(ns:Int)) && (a2g ⟨shs sh,fr,sl,sp.map (·.s),hand⟩ && a3m ⟨shs sh,fr,sl,sp.map (·.s),hand⟩)))):=by
  rw [← hnf,← hns];rfl
 cases hsh:a0W 0 (shs sh) with
 |false=>
  rw [hsh] at hshe hfe
  rw [Bool.false_and,Bool.false_and] at hfe
  rw [hfe]
  (focus ((with_reducible apply m7 _ _ _ (by kernel_rfl) (by kernel_rfl) hS);(repeat' (first|(first|((with_reducible apply o5 c8);exact rfl;exact rfl)|((with_reducible apply n6);exact rfl;(intro wd hd;replace hd:St _ _ wd _:=hd;(((with_reducible apply Loads.sl c8);exact rfl;((exact hd.blkC 1 rfl rfl)))));exact rfl)|(first|((with_reducible apply a7A);(iterate 4 exact rfl);((exact rfl));exact rfl)|((with_reducible apply a1b);exact rfl;((exact rfl));exact rfl;exact rfl)))|((with_reducible apply a0A);exact rfl;exact rfl;(intro wd hd;replace hd:St _ _ wd _:=hd;exact hshe _ (k1.now hd));exact rfl)));all_goals ((with_reducible apply r5);intro w' hS';clear hS;have hS:=hS';clear hS')))
  repeat' (first|(((with_reducible apply d6 c8);exact rfl;exact rfl))|(first|(with_reducible first|apply d8|apply c9|apply d7|apply d5|apply j5|apply e6))|(((with_reducible apply k9);exact rfl;(exact rfl))))
  (apply j6);(repeat (first|exact ResL.nil|(apply ResL.tmp;exact rfl)))
  exact ⟨rfl,hS.sub (List.nil_sublist _)⟩
 |true=>
  rw [hsh] at hshe hfe
  rw [Bool.true_and] at hfe
  by_cases hh:0≤hand∧hand < (nf:Int)
  rotate_left
  ·rw [decide_eq_false hh,Bool.false_and] at hfe
   rw [hfe]
   (focus ((with_reducible apply m7 _ _ _ (by kernel_rfl) (by kernel_rfl) hS);(repeat' (first|(first|((with_reducible apply o5 c8);exact rfl;exact rfl)|((with_reducible apply n6);exact rfl;(intro wd hd;replace hd:St _ _ wd _:=hd;(first|((with_reducible apply Loads.sc c8);exact rfl;((exact hd.blkC 1 rfl rfl)))|((with_reducible apply Loads.sl c8);exact rfl;((exact hd.blkC 1 rfl rfl)))));exact rfl)|(first|((with_reducible apply a3H);(iterate 4 exact rfl);first|exact rfl|assumption)|((with_reducible apply a7A);(iterate 4 exact rfl);(first|exact rfl|assumption);exact rfl)|((with_reducible apply a1K);(iterate 3 exact rfl);all_goals (intro hb hp;try (exfalso;omega)))|((with_reducible apply a1b);exact rfl;(first|exact rfl|assumption);exact rfl;exact rfl)|((with_reducible apply a1L);exact rfl;(first|exact rfl|assumption);exact rfl;exact rfl)))|((with_reducible apply a0A);exact rfl;exact rfl;(intro wd hd;replace hd:St _ _ wd _:=hd;exact hshe _ (k1.now hd));exact rfl)));all_goals ((with_reducible apply r5);intro w' hS';clear hS;have hS:=hS';clear hS')))
   all_goals (repeat' (first|(((with_reducible apply d6 c8);exact rfl;exact rfl))|(first|(with_reducible first|apply d8|apply c9|apply d7|apply d5|apply j5|apply e6))|(((with_reducible apply k9);exact rfl;(exact rfl)))))
   all_goals (apply j6)
   all_goals (repeat (first|exact ResL.nil|(apply ResL.tmp;exact rfl)))
   all_goals (exact ⟨rfl,hS.sub (List.nil_sublist _)⟩)
  rw [decide_eq_true hh,Bool.true_and] at hfe
  replace hS:=St.reorder [2,3,4,0,1] hS (by decide) rfl
  have hS2:St nF w w1 (lkS gl (.pointer (some ⟨gk,0,none⟩)) (.slice (some ⟨gF,0,none⟩) nf nf) (.slice (some ⟨gS,0,none⟩) ns ns) 0 (List.replicate nf (.slice none 0 0,[])) (List.replicate ns (.slice none 0 0,[]))++[.blk gc [.pointer (some ⟨gl,0,none⟩)],.blk gk [.slice p1 sh.length c1,.slice p2 nf c2,.slice p3 ns c3,.slice p4 sp.length c4,.int .i64 hand]]):=by
   have h3:=a7J (a7J hS ns) nf
   unfold lkS nlC
   rw [List.map_replicate,List.map_replicate]
   rw [← List.append_assoc] at h3
   refine h3.perm ?_
   show (_++([_,_,_]++[_,_])).Perm (([_,_,_]++_)++[_,_])
   rw [← List.append_assoc]
   exact List.perm_append_comm.append_right _
  clear hS
  have hS:=hS2.perm List.perm_append_comm
  clear hS2
  simp only [List.cons_append,List.nil_append] at hS
  have hd1:decide (hand < 0)=false:=decide_eq_false (by omega)
  have hd2:decide ((nf:Int)≤hand)=false:=decide_eq_false (by omega)
  refine a95 2 33 rfl hS (by kernel_rfl) ?_
  intro w2 hS'
  clear hS;have hS:=hS';clear hS'
  simp only [List.take_succ_cons,List.take_zero]
  have hH:=hS.sub (List.sublist_append_left [_,_] _)
  (((with_reducible apply n8 0 c8);exact rfl;kernel_rfl;kernel_rfl;kernel_rfl;exact (fun _ _ _ h=>h);exact hH;exact rfl;exact rfl))
  (((with_reducible apply v6 1);exact rfl;kernel_rfl;kernel_rfl;kernel_rfl;exact (fun _ _ _ h=>h);exact hH;exact rfl;(intro wd hd;replace hd:St _ _ wd _:=hd;(((with_reducible apply Loads.sl c8);exact rfl;((exact hd.blkC 1 rfl rfl)))));exact rfl))
  refine o9 (i:=2) (by kernel_rfl) ?_
  refine o7 rfl (a0o (first:=[]) (caps:=[]) rfl rfl (hshe _ (k1.now hS))) rfl ?_
  rintro _ w' ⟨rfl,hS'⟩
  replace hS:=hS.transA hS'
  simp only [k7] at hS
  clear hS'
  refine ⟨(hS.sub (List.sublist_append_left [_,_] _)),?_⟩
  have hH:=hS.sub (List.sublist_append_left [_,_] _)
  (((with_reducible apply n8 3 c8);exact rfl;kernel_rfl;kernel_rfl;kernel_rfl;exact (fun _ _ _ h=>h);exact hH;exact rfl;exact rfl));(((with_reducible apply n8 4 c8);exact rfl;kernel_rfl;kernel_rfl;kernel_rfl;exact (fun _ _ _ h=>h);exact hH;exact rfl;exact rfl));(((with_reducible apply a0U 5);exact rfl;kernel_rfl;kernel_rfl;kernel_rfl;exact (fun _ _ _ h=>h);exact hH;(iterate 4 exact rfl);((exact rfl));((exact (fun a ha=>r8 c8 ha rfl)));exact rfl));(((with_reducible apply a2B 6);exact rfl;kernel_rfl;kernel_rfl;kernel_rfl;exact (fun _ _ _ h=>h);exact hH;(iterate 4 exact rfl);((exact rfl));exact rfl;(intro wd hd;replace hd:St _ _ wd _:=hd;(((with_reducible apply Loads.sc c8);exact rfl;((exact hd.blkC 1 rfl rfl)))));exact rfl));(((with_reducible apply a0U 7);exact rfl;kernel_rfl;kernel_rfl;kernel_rfl;exact (fun _ _ _ h=>h);exact hH;(iterate 4 exact rfl);((exact rfl));((exact (fun a ha=>r8 c8 ha rfl)));exact rfl));(((with_reducible apply a1P 8);exact rfl;kernel_rfl;kernel_rfl;kernel_rfl;exact (fun _ _ _ h=>h);exact hH;((exact a34 rfl (by (exact rfl)) rfl));exact rfl));(((with_reducible apply n8 9 c8);exact rfl;kernel_rfl;kernel_rfl;kernel_rfl;exact (fun _ _ _ h=>h);exact hH;exact rfl;exact rfl));(((with_reducible apply a0U 10);exact rfl;kernel_rfl;kernel_rfl;kernel_rfl;exact (fun _ _ _ h=>h);exact hH;(iterate 4 exact rfl);((assumption));((exact (fun a ha=>r8 c8 ha rfl)));exact rfl));(((with_reducible apply a2B 11);exact rfl;kernel_rfl;kernel_rfl;kernel_rfl;exact (fun _ _ _ h=>h);exact hH;(iterate 4 exact rfl);((assumption));exact rfl;(intro wd hd;replace hd:St _ _ wd _:=hd;(((with_reducible apply Loads.sc c8);exact rfl;((exact hd.blkC 1 rfl rfl)))));exact rfl));(((with_reducible apply a0U 12);exact rfl;kernel_rfl;kernel_rfl;kernel_rfl;exact (fun _ _ _ h=>h);exact hH;(iterate 4 exact rfl);((assumption));((exact (fun a ha=>r8 c8 ha rfl)));exact rfl));(((with_reducible apply a2B 13);exact rfl;kernel_rfl;kernel_rfl;kernel_rfl;exact (fun _ _ _ h=>h);exact hH;(iterate 4 exact rfl);((assumption));exact rfl;(intro wd hd;replace hd:St _ _ wd _:=hd;(((with_reducible apply Loads.sl c8);exact rfl;((exact hd.blkC 1 rfl rfl)))));exact rfl));(((with_reducible apply a0U 14);exact rfl;kernel_rfl;kernel_rfl;kernel_rfl;exact (fun _ _ _ h=>h);exact hH;(iterate 4 exact rfl);((assumption));((exact (fun a ha=>r8 c8 ha rfl)));exact rfl));(((with_reducible apply a0U 15);exact rfl;kernel_rfl;kernel_rfl;kernel_rfl;exact (fun _ _ _ h=>h);exact hH;(iterate 4 exact rfl);((assumption));((exact (fun a ha=>r8 c8 ha rfl)));exact rfl));(((with_reducible apply a1P 16);exact rfl;kernel_rfl;kernel_rfl;kernel_rfl;exact (fun _ _ _ h=>h);exact hH;((exact a34 rfl (by (assumption)) rfl));exact rfl));(((with_reducible apply n8 17 c8);exact rfl;kernel_rfl;kernel_rfl;kernel_rfl;exact (fun _ _ _ h=>h);exact hH;exact rfl;exact rfl));(((with_reducible apply a0U 18);exact rfl;kernel_rfl;kernel_rfl;kernel_rfl;exact (fun _ _ _ h=>h);exact hH;(iterate 4 exact rfl);((assumption));((exact (fun a ha=>r8 c8 ha rfl)));exact rfl));(((with_reducible apply a2B 19);exact rfl;kernel_rfl;kernel_rfl;kernel_rfl;exact (fun _ _ _ h=>h);exact hH;(iterate 4 exact rfl);((assumption));exact rfl;(intro wd hd;replace hd:St _ _ wd _:=hd;(((with_reducible apply Loads.sl c8);exact rfl;((exact hd.blkC 1 rfl rfl)))));exact rfl));(((with_reducible apply a0U 20);exact rfl;kernel_rfl;kernel_rfl;kernel_rfl;exact (fun _ _ _ h=>h);exact hH;(iterate 4 exact rfl);((assumption));((exact (fun a ha=>r8 c8 ha rfl)));exact rfl))
  refine o9 (i:=21) (by kernel_rfl) ?_
  have hS2:=hS.perm (List.perm_append_comm (l₁:=[_,_]))
  have hcon:=b2k hS2 (St.ownBs hS2 0 rfl rfl) (St.ownBs hS2 1 rfl rfl) ((ShsF.of k1).nowM hS2) hsh (k4.nowM hS2) (fun p hp=>(show SpF nF w p from ⟨(k5 p hp).ar,(k5 p hp).en⟩).nowM hS2) (by omega) (fun x hx=>by rw [(List.mem_replicate.1 hx).2]) (fun x hx=>by rw [(List.mem_replicate.1 hx).2])
  rw [List.length_replicate,List.length_replicate] at hcon
  refine a9Y rfl rfl rfl rfl rfl (by (assumption)) (a0o (first:=[]) (caps:=[]) rfl rfl hcon) rfl ?_
  clear hcon
  rintro _ w3 ⟨rfl,NF,NS,room,h2,hg⟩
  have hS':=(St.transM hS2 h2).perm List.perm_append_comm
  clear hS2 h2
  unfold lkS at hS'
  simp only [List.cons_append,List.nil_append] at hS'
  clear hS;have hS:=hS';clear hS'
  refine ⟨hS.sub (List.sublist_append_left [_,_] _),?_⟩
  have hH:=hS.sub (List.sublist_append_left [_,_] _)
  cases hall:(sp.map (·.s)).all (z6 (shs sh) nf ns) with
  |false=>
   rw [hall,Bool.false_and] at hfe
   rw [hfe]
   (((with_reducible apply a1P 22);exact rfl;kernel_rfl;kernel_rfl;kernel_rfl;exact (fun _ _ _ h=>h);exact hH;((exact a34 rfl (by (assumption)) rfl));exact rfl));(((with_reducible apply n8 23 c8);exact rfl;kernel_rfl;kernel_rfl;kernel_rfl;exact (fun _ _ _ h=>h);exact hH;exact rfl;exact rfl))
   (((with_reducible apply a15 24);exact rfl;kernel_rfl;kernel_rfl;kernel_rfl;exact (fun _ _ _ h=>h);exact hH;(iterate 4 exact rfl);((exact rfl));exact rfl));(((with_reducible apply a15 25);exact rfl;kernel_rfl;kernel_rfl;kernel_rfl;exact (fun _ _ _ h=>h);exact hH;(iterate 4 exact rfl);((exact rfl));exact rfl));(((with_reducible apply a15 26);exact rfl;kernel_rfl;kernel_rfl;kernel_rfl;exact (fun _ _ _ h=>h);exact hH;(iterate 4 exact rfl);((exact rfl));exact rfl));(((with_reducible apply a15 27);exact rfl;kernel_rfl;kernel_rfl;kernel_rfl;exact (fun _ _ _ h=>h);exact hH;(iterate 4 exact rfl);((exact rfl));exact rfl));(((with_reducible apply a15 28);exact rfl;kernel_rfl;kernel_rfl;kernel_rfl;exact (fun _ _ _ h=>h);exact hH;(iterate 4 exact rfl);((exact rfl));exact rfl));(((with_reducible apply a15 29);exact rfl;kernel_rfl;kernel_rfl;kernel_rfl;exact (fun _ _ _ h=>h);exact hH;(iterate 4 exact rfl);((exact rfl));exact rfl));(((with_reducible apply a15 30);exact rfl;kernel_rfl;kernel_rfl;kernel_rfl;exact (fun _ _ _ h=>h);exact hH;(iterate 4 exact rfl);((exact rfl));exact rfl));(((with_reducible apply a15 31);exact rfl;kernel_rfl;kernel_rfl;kernel_rfl;exact (fun _ _ _ h=>h);exact hH;(iterate 4 exact rfl);((exact rfl));exact rfl))
   (((with_reducible apply a1P 32);exact rfl;kernel_rfl;kernel_rfl;kernel_rfl;exact (fun _ _ _ h=>h);exact hH;((exact b4i rfl (by (exact rfl)) rfl));exact rfl))
   refine y0 (by kernel_rfl) ?_
   repeat' (first|(((with_reducible apply d6 c8);exact rfl;exact rfl))|(first|(with_reducible first|apply d8|apply c9|apply d7|apply d5|apply j5|apply e6))|(((with_reducible apply k9);exact rfl;(exact rfl))))
   (apply j6);(repeat (first|exact ResL.nil|(apply ResL.tmp;exact rfl)))
   exact ⟨rfl,hS.sub (List.nil_sublist _)⟩
  |true=>
   rw [hall,Bool.true_and] at hfe
   obtain ⟨hroom,hGF,hGS⟩:=hg hall
   (((with_reducible apply a1P 22);exact rfl;kernel_rfl;kernel_rfl;kernel_rfl;exact (fun _ _ _ h=>h);exact hH;((exact a34 rfl (by (assumption)) rfl));exact rfl));(((with_reducible apply n8 23 c8);exact rfl;kernel_rfl;kernel_rfl;kernel_rfl;exact (fun _ _ _ h=>h);exact hH;exact rfl;exact rfl));(((with_reducible apply a2B 24);exact rfl;kernel_rfl;kernel_rfl;kernel_rfl;exact (fun _ _ _ h=>h);exact hH;(iterate 4 exact rfl);((exact rfl));exact rfl;(intro wd hd;replace hd:St _ _ wd _:=hd;(((with_reducible apply Loads.sc c8);exact rfl;((exact hd.blkC 0 rfl rfl)))));exact rfl));(((with_reducible apply a0U 25);exact rfl;kernel_rfl;kernel_rfl;kernel_rfl;exact (fun _ _ _ h=>h);exact hH;(iterate 4 exact rfl);((exact rfl));((exact (fun a ha=>r8 c8 ha rfl)));exact rfl));(((with_reducible apply a0U 26);exact rfl;kernel_rfl;kernel_rfl;kernel_rfl;exact (fun _ _ _ h=>h);exact hH;(iterate 4 exact rfl);((exact rfl));((exact (fun a ha=>r8 c8 ha rfl)));exact rfl));(((with_reducible apply a0U 28);exact rfl;kernel_rfl;kernel_rfl;kernel_rfl;exact (fun _ _ _ h=>h);exact hH;(iterate 4 exact rfl);((exact rfl));((exact (fun a ha=>r8 c8 ha rfl)));exact rfl));(((with_reducible apply a2B 29);exact rfl;kernel_rfl;kernel_rfl;kernel_rfl;exact (fun _ _ _ h=>h);exact hH;(iterate 4 exact rfl);((exact rfl));exact rfl;(intro wd hd;replace hd:St _ _ wd _:=hd;(((with_reducible apply Loads.sl c8);exact rfl;((exact hd.blkC 1 rfl rfl)))));exact rfl));(((with_reducible apply a0U 30);exact rfl;kernel_rfl;kernel_rfl;kernel_rfl;exact (fun _ _ _ h=>h);exact hH;(iterate 4 exact rfl);((exact rfl));((exact (fun a ha=>r8 c8 ha rfl)));exact rfl))
   refine o9 (i:=27) (by kernel_rfl) ?_
   refine a9Y rfl rfl rfl rfl rfl rfl (a7P rfl (by ((with_reducible apply Loads.sc c8);exact rfl;((exact hS.blkC 2 rfl rfl))))) rfl ?_
   rintro _ _ ⟨rfl,rfl⟩
   refine ⟨hH,?_⟩
   (((with_reducible apply a0U 31);exact rfl;kernel_rfl;kernel_rfl;kernel_rfl;exact (fun _ _ _ h=>h);exact hH;(iterate 4 exact rfl);((exact rfl));((exact (fun a ha=>r8 c8 ha rfl)));exact rfl))
   (((with_reducible apply a1P 32);exact rfl;kernel_rfl;kernel_rfl;kernel_rfl;exact (fun _ _ _ h=>h);exact hH;((exact a34 rfl (by (exact rfl)) rfl));exact rfl))
   refine y0 (by kernel_rfl) ?_
   by_cases hrm:r9 (sp.map (·.s))≤(ns:Int)
   rotate_left
   ·rw [decide_eq_false hrm,Bool.false_and] at hfe
    rw [hfe]
    repeat' (first|(((with_reducible apply d6 c8);exact rfl;exact rfl))|(first|(with_reducible first|apply d8|apply c9|apply d7|apply d5|apply j5|apply e6))|(((with_reducible apply k6);exact rfl;all_goals (intro hb hp;try (exfalso;omega)))))
    (apply j6);(repeat (first|exact ResL.nil|(apply ResL.tmp;exact rfl)))
    exact ⟨rfl,hS.sub (List.nil_sublist _)⟩
   rw [decide_eq_true hrm,Bool.true_and] at hfe
   repeat' (first|(first|((with_reducible apply d6 c8);exact rfl;exact rfl)|((with_reducible apply d9);exact rfl;(((with_reducible apply Loads.sl c8);exact rfl;((exact hS.blkC 1 rfl rfl))));exact rfl))|(first|(with_reducible first|apply d8|apply c9|apply d7|apply d5|apply g8|apply e7))|(((with_reducible apply k6);exact rfl;all_goals (intro hb hp;try (exfalso;omega)))))
   have hpg:=a7M hall
   clear hg hH hb hp hd1 hd2 hroom
   refine o6 (X:=Nat) (fun x=>[(89,.int .i64 (x:Nat))]) [1,3,87,88] rfl (fun _=>[]) (fun x=>x≤nf∧∀ (j:Nat) f,j < x→fr[j]?=some f→a1Y (shs sh) f (m8 (sp.map (·.s)) 1 (j:Nat))=true) (fun x=>nf - x) 0 (by repeat (first|exact Fr.sub_nil _|(apply Fr.sub_cons;exact rfl))) ⟨Nat.zero_le _,fun j f h=>by omega⟩ hS ?_
   clear hS
   rintro i w4 ⟨hi,hpre⟩ hS
   dsimp only [List.cons_append,List.nil_append] at hi hpre hS ⊢
   by_cases hlt:i < nf
   ·obtain ⟨f,hf⟩:=l8 (l:=fr) (i:=i) (by omega)
    have hrow:=j9 (f:=fmC) hf
    obtain ⟨b,off,rfl,hro⟩:=k2.at_ (i:=i) (by omega)
    obtain ⟨v,hv⟩:=hGF.2 i (.slice none 0 0,[]) (List.getElem?_replicate_of_lt hlt)
    rw [List.nil_append,a0T] at hv
    have hmem:nsA (v,m8 (sp.map (·.s)) 1 ((i:Nat):Int)) ∈ nlR NF:=List.mem_map.2 ⟨_,List.mem_of_getElem? hv,rfl⟩
    have hrowN:(nlC NF)[i]?=some [v]:=j9 (f:=fun (x:Value×List Nm)=>[x.1]) hv
    have hby:∀ n ∈ m8 (sp.map (·.s)) 1 ((i:Nat):Int),-1000000≤n.1.page∧n.1.page≤1000000:=fun n hn=>by
     rw [← a0T] at hn
     exact hpg n (List.mem_filter.1 hn).1
    generalize hbyn:m8 (sp.map (·.s)) 1 ((i:Nat):Int)=by_ at *
    have hSm:∀ wd Γd,St nF w wd Γd→nsA (v,by_) ∈ Γd→Sl nF wd 7 v (by_.map nmC):=fun wd Γd hd hm=>St.slMem hd hm
    obtain ⟨pv,cv,hvv⟩:=(hSm _ _ hS (by repeat (first|exact List.mem_append_left _ hmem|apply List.mem_cons_of_mem))).form
    subst hvv
    have hfr:=fun wd (a:Bs nF wd ⟨gl,0,none⟩ (.pointer (some ⟨gk,0,none⟩))) (b:Bs nF wd ⟨gk,0,none⟩ (.slice p1 sh.length c1)) (c:ShsV wd sh (.slice p1 sh.length c1)) (d:Sl nF wd 7 (.slice pv (by_.map nmC).length cv) (by_.map nmC))=>a7h (f:=f) a b c hsh d hby
    unfold fmC at hfr hrow
    cases hfb:a1Y (shs sh) f by_ with
    |false=>
     rw [hfb] at hfr
     have hff:a2g ⟨shs sh,fr,sl,sp.map (·.s),hand⟩=false:=by
      unfold a2g
      rw [List.all_eq_false]
      refine ⟨i,by rw [List.mem_range];show i < fr.length;omega,?_⟩
      show ¬(match fr[i]? with|some f=>a1Y (shs sh) f (m8 (sp.map (·.s)) 1 ((i:Nat):Int))|none=>true)=true
      rw [hf,hbyn]
      show ¬a1Y (shs sh) f by_=true
      rw [hfb];simp
     rw [hff,Bool.false_and] at hfe
     rw [hfe]
     repeat' (first|(first|((with_reducible apply d6 c8);exact rfl;exact rfl)|((with_reducible apply d9);exact rfl;(((with_reducible apply Loads.st c8);exact rfl;((exact hS.roR (by assumption) (by assumption)));exact rfl));exact rfl)|((with_reducible apply p8 c8);(iterate 3 exact rfl);((exact rfl));((omega));exact rfl)|((with_reducible apply j7 hS c8);(iterate 3 exact rfl);intro g w' hS';clear hS;have hS:=hS';clear hS')|(((with_reducible apply i7 hS c8 (i:=0));(iterate 8 exact rfl);((exact (rfl:_=[_,_,_,_])));intro w' hS';simp only [List.set] at hS';clear hS;have hS:=hS';clear hS')))|(first|(with_reducible first|apply d8|apply c9|apply d7|apply d5|apply g8|apply e7))|(((with_reducible apply k6);exact rfl;all_goals (intro hb hp;try (exfalso;omega)))))
     (focus ((with_reducible apply m7 _ _ _ (by kernel_rfl) (by kernel_rfl) hS);(repeat' (first|(first|((with_reducible apply o5 c8);exact rfl;exact rfl)|((with_reducible apply n6);exact rfl;(intro wd hd;replace hd:St _ _ wd _:=hd;(first|((with_reducible apply Loads.sc c8);exact rfl;((exact hd.blkC 1 rfl rfl)))|((with_reducible apply Loads.sl c8);exact rfl;((exact hd.blkC 3 rfl rfl)))|((with_reducible apply Loads.st c8);exact rfl;((exact hd.blkR 0 rfl));exact rfl)));exact rfl)|((with_reducible apply a05 c8);(iterate 3 exact rfl);((exact rfl));((omega));exact rfl))|((with_reducible apply n6);exact rfl;(intro wd hd;replace hd:St _ _ wd _:=hd;(with_reducible apply Loads.sl c8);exact rfl;exact hd.rowC0 4 rfl hrowN rfl);exact rfl)|((with_reducible apply a0A);exact rfl;exact rfl;(intro wd hd;replace hd:St _ _ wd _:=hd;exact hfr _ (Bs.of (hd.blkC 3 rfl rfl)) (Bs.of (hd.blkC 2 rfl rfl)) (k1.now hd) (hSm _ _ hd (by repeat (first|exact List.mem_append_left _ hmem|apply List.mem_cons_of_mem))));exact rfl)));all_goals ((with_reducible apply r5);intro w' hS';clear hS;have hS:=hS';clear hS')))
     repeat' (first|(((with_reducible apply d6 c8);exact rfl;exact rfl))|(first|(with_reducible first|apply d8|apply c9|apply d7|apply d5|apply j5|apply e6|apply j8))|(((with_reducible apply k9);exact rfl;(exact rfl))))
     (apply j6);(repeat (first|exact ResL.nil|(apply ResL.tmp;exact rfl)))
     exact ⟨rfl,hS.sub (List.nil_sublist _)⟩
    |true=>
     rw [hfb] at hfr
     repeat' (first|(first|((with_reducible apply d6 c8);exact rfl;exact rfl)|((with_reducible apply d9);exact rfl;(((with_reducible apply Loads.st c8);exact rfl;((exact hS.roR (by assumption) (by assumption)));exact rfl));exact rfl)|((with_reducible apply p8 c8);(iterate 3 exact rfl);((exact rfl));((omega));exact rfl)|((with_reducible apply j7 hS c8);(iterate 3 exact rfl);intro g w' hS';clear hS;have hS:=hS';clear hS')|(((with_reducible apply i7 hS c8 (i:=0));(iterate 8 exact rfl);((exact (rfl:_=[_,_,_,_])));intro w' hS';simp only [List.set] at hS';clear hS;have hS:=hS';clear hS')))|(first|(with_reducible first|apply d8|apply c9|apply d7|apply d5|apply g8|apply e7))|(((with_reducible apply k6);exact rfl;all_goals (intro hb hp;try (exfalso;omega)))))
     (focus ((with_reducible apply m7 _ _ _ (by kernel_rfl) (by kernel_rfl) hS);(repeat' (first|(first|((with_reducible apply o5 c8);exact rfl;exact rfl)|((with_reducible apply n6);exact rfl;(intro wd hd;replace hd:St _ _ wd _:=hd;(first|((with_reducible apply Loads.sc c8);exact rfl;((exact hd.blkC 1 rfl rfl)))|((with_reducible apply Loads.sl c8);exact rfl;((exact hd.blkC 3 rfl rfl)))|((with_reducible apply Loads.st c8);exact rfl;((exact hd.blkR 0 rfl));exact rfl)));exact rfl)|((with_reducible apply a05 c8);(iterate 3 exact rfl);((exact rfl));((omega));exact rfl))|((with_reducible apply n6);exact rfl;(intro wd hd;replace hd:St _ _ wd _:=hd;(with_reducible apply Loads.sl c8);exact rfl;exact hd.rowC0 4 rfl hrowN rfl);exact rfl)|((with_reducible apply a0A);exact rfl;exact rfl;(intro wd hd;replace hd:St _ _ wd _:=hd;exact hfr _ (Bs.of (hd.blkC 3 rfl rfl)) (Bs.of (hd.blkC 2 rfl rfl)) (k1.now hd) (hSm _ _ hd (by repeat (first|exact List.mem_append_left _ hmem|apply List.mem_cons_of_mem))));exact rfl)));all_goals ((with_reducible apply r5);intro w' hS';clear hS;have hS:=hS';clear hS')))
     repeat' (first|(first|((with_reducible apply m0);exact rfl;exact rfl;omega;omega;exact rfl)|((with_reducible apply d6 c8);exact rfl;exact rfl))|(first|(with_reducible first|apply c9|apply d7|apply d5|apply g8|apply k8))|(((with_reducible apply l6);exact rfl;(exact rfl))))
     refine m6 (i + 1) (by repeat (first|exact Fr.sub_nil _|(apply Fr.sub_cons;exact rfl))) ⟨by show i + 1≤nf;omega,fun j f' hj hf'=>?_⟩ hS.drop (by show nf - (i + 1) < nf - i;omega)
     rcases Nat.lt_succ_iff_lt_or_eq.1 hj with h|h
     ·exact hpre j f' h hf'
     ·subst h
      rw [hf] at hf'
      cases hf'
      rw [hbyn];exact hfb
   obtain rfl:i=nf:=by omega
   have hff:a2g ⟨shs sh,fr,sl,sp.map (·.s),hand⟩=true:=by
    unfold a2g
    rw [List.all_eq_true]
    intro j hj
    rw [List.mem_range] at hj
    dsimp only at hj
    obtain ⟨f,hf⟩:=l8 (l:=fr) (i:=j) (by omega)
    show (match fr[j]? with|some f=>a1Y (shs sh) f (m8 (sp.map (·.s)) 1 ((j:Nat):Int))|none=>true)=true
    rw [hf]
    exact hpre j f (by have:=j3 hf;omega) hf
   rw [hff,Bool.true_and] at hfe
   rw [hfe]
   repeat' (first|(first|((with_reducible apply d6 c8);exact rfl;exact rfl)|((with_reducible apply d9);exact rfl;(((with_reducible apply Loads.sl c8);exact rfl;((exact hS.blkC 1 rfl rfl))));exact rfl))|(first|(with_reducible first|apply d8|apply c9|apply d7|apply d5|apply e7|apply n5|apply j4|apply i9))|(((with_reducible apply k6);exact rfl;all_goals (intro hb hp;try (exfalso;omega)))))
   refine o6 (X:=Nat) (fun x=>[(109,.int .i64 (x:Nat))]) [1,3,107,108] rfl (fun _=>[]) (fun x=>x≤ns∧∀ (j:Nat) f,j < x→sl[j]?=some f→a2A f (m8 (sp.map (·.s)) 2 (j:Nat))=true) (fun x=>ns - x) 0 (by repeat (first|exact Fr.sub_nil _|(apply Fr.sub_cons;exact rfl))) ⟨Nat.zero_le _,fun j f h=>by omega⟩ hS ?_
   clear hS hpre hlt hi hb hp hH
   rintro i w5 ⟨hi,hpre⟩ hS
   dsimp only [List.cons_append,List.nil_append] at hi hpre hS ⊢
   by_cases hlt:i < ns
   rotate_left
   ·obtain rfl:i=ns:=by omega
    have hsf:a3m ⟨shs sh,fr,sl,sp.map (·.s),hand⟩=true:=by
     unfold a3m
     rw [List.all_eq_true]
     intro j hj
     rw [List.mem_range] at hj
     dsimp only at hj
     obtain ⟨f,hf⟩:=l8 (l:=sl) (i:=j) (by omega)
     show (match sl[j]? with|some f=>a2A f (m8 (sp.map (·.s)) 2 ((j:Nat):Int))|none=>true)=true
     rw [hf]
     exact hpre j f (by have:=j3 hf;omega) hf
    rw [hsf]
    repeat' (first|(((with_reducible apply d6 c8);exact rfl;exact rfl))|(first|(with_reducible first|apply d8|apply c9|apply d7|apply d5|apply n5|apply j5|apply j4|apply i9))|(((with_reducible apply k6);exact rfl;all_goals (intro hb hp;try (exfalso;omega)))))
    (apply j6);(repeat (first|exact ResL.nil|(apply ResL.tmp;exact rfl)))
    exact ⟨rfl,hS.sub (List.nil_sublist _)⟩
   obtain ⟨f,hf⟩:=l8 (l:=sl) (i:=i) (by omega)
   have hrow:=j9 (f:=swC) hf
   obtain ⟨b,off,rfl,hro⟩:=k3.at_ (i:=i) (by omega)
   obtain ⟨v,hv⟩:=hGS.2 i (.slice none 0 0,[]) (List.getElem?_replicate_of_lt hlt)
   rw [List.nil_append,a0T] at hv
   have hmem:nsA (v,m8 (sp.map (·.s)) 2 ((i:Nat):Int)) ∈ nlR NS:=List.mem_map.2 ⟨_,List.mem_of_getElem? hv,rfl⟩
   have hrowN:(nlC NS)[i]?=some [v]:=j9 (f:=fun (x:Value×List Nm)=>[x.1]) hv
   have hbad:a2A f (m8 (sp.map (·.s)) 2 ((i:Nat):Int))=false→a3m ⟨shs sh,fr,sl,sp.map (·.s),hand⟩=false:=fun h=>by
    unfold a3m
    rw [List.all_eq_false]
    refine ⟨i,by rw [List.mem_range];show i < sl.length;omega,?_⟩
    show ¬(match sl[i]? with|some f=>a2A f (m8 (sp.map (·.s)) 2 ((i:Nat):Int))|none=>true)=true
    rw [hf]
    show ¬a2A f (m8 (sp.map (·.s)) 2 ((i:Nat):Int))=true
    rw [h];simp
   have hgood:a2A f (m8 (sp.map (·.s)) 2 ((i:Nat):Int))=true→∀ (j:Nat) f,j < i + 1→sl[j]?=some f→a2A f (m8 (sp.map (·.s)) 2 (j:Nat))=true:=fun hg j f' hj hf'=>by
    rcases Nat.lt_succ_iff_lt_or_eq.1 hj with h|h
    ·exact hpre j f' h hf'
    ·subst h
     rw [hf] at hf'
     cases hf'
     exact hg
   generalize hbyn:m8 (sp.map (·.s)) 2 ((i:Nat):Int)=by_ at hmem hbad hgood hv
   have hSm:∀ wd Γd,St nF w wd Γd→nsA (v,by_) ∈ Γd→Sl nF wd 7 v (by_.map nmC):=fun wd Γd hd hm=>St.slMem hd hm
   obtain ⟨pv,cv,hvv⟩:=(hSm _ _ hS (by repeat (first|exact List.mem_append_right _ hmem|apply List.mem_cons_of_mem))).form
   subst hvv
   unfold swC at hrow
   cases by_ with
   |nil=>
    have e0:a2A f ([]:List Nm)=decide (f=sw0):=rfl
    rw [e0] at hbad hgood
    by_cases hz:f=sw0
    ·have hd:(!decide (f=sw0))=false:=by rw [decide_eq_true hz];rfl
     repeat' (first|(first|((with_reducible apply m0);exact rfl;exact rfl;omega;omega;exact rfl)|((with_reducible apply d6 c8);exact rfl;exact rfl)|((with_reducible apply d9);exact rfl;(first|((with_reducible apply Loads.sc c8);exact rfl;((exact hS.blkC 1 rfl rfl)))|((with_reducible apply Loads.sl c8);exact rfl;((exact hS.blkC 3 rfl rfl)))|((with_reducible apply Loads.st c8);exact rfl;(first|exact hS.blkR 0 rfl|exact hS.roR (by assumption) (by assumption));exact rfl));exact rfl)|((with_reducible apply p8 c8);(iterate 3 exact rfl);((exact rfl));((omega));exact rfl)|((with_reducible apply n7 c8);exact rfl;exact rfl;((exact (rfl:_=some [_,_])));exact rfl)|((with_reducible apply j7 hS c8);(iterate 3 exact rfl);intro g w' hS';clear hS;have hS:=hS';clear hS')|(((with_reducible apply i7 hS c8 (i:=0));(iterate 8 exact rfl);((exact (rfl:_=[_,_])));intro w' hS';simp only [List.set] at hS';clear hS;have hS:=hS';clear hS'))|(first|((with_reducible apply p9);(iterate 4 exact rfl);first|exact rfl|assumption)|((with_reducible apply a0f);(iterate 4 exact rfl);((exact rfl));exact rfl)|((with_reducible apply a4m);(iterate 5 exact rfl))|((with_reducible apply m9);exact rfl;((exact rfl));exact rfl;exact rfl)|((with_reducible apply n0);exact rfl;(first|exact rfl|assumption);exact rfl;exact rfl)))|(first|(with_reducible first|apply d8|apply c9|apply d7|apply d5|apply g8|apply e7|apply k8))|(first|((with_reducible apply l6);exact rfl;(exact rfl))|((with_reducible apply k6);exact rfl;all_goals (intro hb hp;try (exfalso;omega))))|((with_reducible apply d9);exact rfl;((with_reducible apply Loads.sl c8);exact rfl;exact hS.rowC0 5 rfl hrowN rfl);exact rfl)|((with_reducible apply b42);exact rfl;exact rfl;exact b5V f sw0;exact rfl))
     exact m6 (i + 1) (by repeat (first|exact Fr.sub_nil _|(apply Fr.sub_cons;exact rfl))) ⟨by show i + 1≤ns;omega,hgood (decide_eq_true hz)⟩ hS.drop (by show ns - (i + 1) < ns - i;omega)
    ·have hd:(!decide (f=sw0))=true:=by rw [decide_eq_false hz];rfl
     rw [hbad (decide_eq_false hz)]
     repeat' (first|(first|((with_reducible apply d6 c8);exact rfl;exact rfl)|((with_reducible apply d9);exact rfl;(first|((with_reducible apply Loads.sc c8);exact rfl;((exact hS.blkC 1 rfl rfl)))|((with_reducible apply Loads.sl c8);exact rfl;((exact hS.blkC 3 rfl rfl)))|((with_reducible apply Loads.st c8);exact rfl;(first|exact hS.blkR 0 rfl|exact hS.roR (by assumption) (by assumption));exact rfl));exact rfl)|((with_reducible apply p8 c8);(iterate 3 exact rfl);((exact rfl));((omega));exact rfl)|((with_reducible apply n7 c8);exact rfl;exact rfl;((exact (rfl:_=some [_,_])));exact rfl)|((with_reducible apply j7 hS c8);(iterate 3 exact rfl);intro g w' hS';clear hS;have hS:=hS';clear hS')|(((with_reducible apply i7 hS c8 (i:=0));(iterate 8 exact rfl);((exact (rfl:_=[_,_])));intro w' hS';simp only [List.set] at hS';clear hS;have hS:=hS';clear hS'))|(first|((with_reducible apply p9);(iterate 4 exact rfl);(exact rfl))|((with_reducible apply a0f);(iterate 4 exact rfl);((assumption));exact rfl)|((with_reducible apply a4m);(iterate 5 exact rfl))|((with_reducible apply m9);exact rfl;(first|exact rfl|assumption);exact rfl;exact rfl)))|(first|(with_reducible first|apply d8|apply c9|apply d7|apply d5|apply g8|apply e7|apply j5|apply e6|apply j8))|(first|((with_reducible apply k9);exact rfl;(exact rfl))|((with_reducible apply k6);exact rfl;all_goals (intro hb hp;try (exfalso;omega))))|((with_reducible apply d9);exact rfl;((with_reducible apply Loads.sl c8);exact rfl;exact hS.rowC0 5 rfl hrowN rfl);exact rfl)|((with_reducible apply b42);exact rfl;exact rfl;exact b5V f sw0;exact rfl))
     (apply j6);(repeat (first|exact ResL.nil|(apply ResL.tmp;exact rfl)))
     exact ⟨rfl,hS.sub (List.nil_sublist _)⟩
   |cons n r=>
    have hal:=fun wd (h:Sl nF wd 7 (.slice pv ((n::r).map nmC).length cv) ((n::r).map nmC))=>a6P h rfl
    have e0:a2A f (n::r)=(decide (f.refs=((n::r).length:Int)∧f.data.length=16) && a2k (n::r)):=rfl
    rw [e0] at hbad hgood
    clear e0
    have hml:((n::r).map nmC).length=(n::r).length:=List.length_map _
    have hm0:0 < (n::r).length:=Nat.succ_pos _
    have bnd:=(hSm _ _ hS (by repeat (first|exact List.mem_append_right _ hmem|apply List.mem_cons_of_mem))).bound
    rw [hml] at hal hrowN hSm hmem
    generalize hlen:(n::r).length=m at *
    by_cases h1:f.refs=(m:Int)
    rotate_left
    ·have hd:(!decide (f.refs=(m:Int)))=true:=by rw [decide_eq_false h1];rfl
     rw [hbad (by rw [decide_eq_false (fun h=>h1 h.1),Bool.false_and])]
     repeat' (first|(first|((with_reducible apply d6 c8);exact rfl;exact rfl)|((with_reducible apply d9);exact rfl;(first|((with_reducible apply Loads.sc c8);exact rfl;(first|exact hS.blkC 0 rfl rfl|exact hS.blkC 1 rfl rfl))|((with_reducible apply Loads.sl c8);exact rfl;((exact hS.blkC 3 rfl rfl)))|((with_reducible apply Loads.st c8);exact rfl;((exact hS.roR (by assumption) (by assumption)));exact rfl));exact rfl)|((with_reducible apply p8 c8);(iterate 3 exact rfl);((exact rfl));((omega));exact rfl)|((with_reducible apply j7 hS c8);(iterate 3 exact rfl);intro g w' hS';clear hS;have hS:=hS';clear hS')|(((with_reducible apply i7 hS c8 (i:=0));(iterate 8 exact rfl);((exact (rfl:_=[_,_])));intro w' hS';simp only [List.set] at hS';clear hS;have hS:=hS';clear hS'))|(first|((with_reducible apply p9);(iterate 4 exact rfl);first|exact rfl|assumption)|((with_reducible apply a0f);(iterate 4 exact rfl);(first|exact rfl|assumption);exact rfl)|((with_reducible apply r6);(iterate 3 exact rfl);all_goals (intro hb hp;try (exfalso;omega)))|((with_reducible apply m9);exact rfl;(first|exact rfl|assumption);exact rfl;exact rfl)|((with_reducible apply n0);exact rfl;(first|exact rfl|assumption);exact rfl;exact rfl)))|(first|(with_reducible first|apply d8|apply c9|apply d7|apply d5|apply g8|apply e7|apply j5|apply e6|apply j8))|(first|((with_reducible apply k9);exact rfl;(exact rfl))|((with_reducible apply k6);exact rfl;all_goals (intro hb hp;try (exfalso;omega))))|((with_reducible apply d9);exact rfl;((with_reducible apply Loads.sl c8);exact rfl;exact hS.rowC0 5 rfl hrowN rfl);exact rfl))
     (apply j6);(repeat (first|exact ResL.nil|(apply ResL.tmp;exact rfl)))
     exact ⟨rfl,hS.sub (List.nil_sublist _)⟩
    have hd:(!decide (f.refs=(m:Int)))=false:=by rw [decide_eq_true h1];rfl
    by_cases h2:f.data.length=16
    rotate_left
    ·have hd2:(!decide ((f.data.length:Int)=16))=true:=by rw [decide_eq_false (by omega)];rfl
     rw [hbad (by rw [decide_eq_false (fun h=>h2 h.2),Bool.false_and])]
     repeat' (first|(first|((with_reducible apply d6 c8);exact rfl;exact rfl)|((with_reducible apply d9);exact rfl;(first|((with_reducible apply Loads.sc c8);exact rfl;(first|exact hS.blkC 0 rfl rfl|exact hS.blkC 1 rfl rfl))|((with_reducible apply Loads.sl c8);exact rfl;((exact hS.blkC 3 rfl rfl)))|((with_reducible apply Loads.st c8);exact rfl;((exact hS.roR (by assumption) (by assumption)));exact rfl));exact rfl)|((with_reducible apply p8 c8);(iterate 3 exact rfl);((exact rfl));((omega));exact rfl)|((with_reducible apply j7 hS c8);(iterate 3 exact rfl);intro g w' hS';clear hS;have hS:=hS';clear hS')|(((with_reducible apply i7 hS c8 (i:=0));(iterate 8 exact rfl);((exact (rfl:_=[_,_])));intro w' hS';simp only [List.set] at hS';clear hS;have hS:=hS';clear hS'))|(first|((with_reducible apply p9);(iterate 4 exact rfl);first|exact rfl|assumption)|((with_reducible apply a0f);(iterate 4 exact rfl);((assumption));exact rfl)|((with_reducible apply r6);(iterate 3 exact rfl);all_goals (intro hb hp;try (exfalso;omega)))|((with_reducible apply m9);exact rfl;((assumption));exact rfl;exact rfl)|((with_reducible apply n0);exact rfl;(first|exact rfl|assumption);exact rfl;exact rfl)))|(first|(with_reducible first|apply d8|apply c9|apply d7|apply d5|apply g8|apply e7|apply j5|apply e6|apply j8))|(first|((with_reducible apply k9);exact rfl;(exact rfl))|((with_reducible apply k6);exact rfl;all_goals (intro hb hp;try (exfalso;omega))))|((with_reducible apply d9);exact rfl;((with_reducible apply Loads.sl c8);exact rfl;exact hS.rowC0 5 rfl hrowN rfl);exact rfl))
     (apply j6);(repeat (first|exact ResL.nil|(apply ResL.tmp;exact rfl)))
     exact ⟨rfl,hS.sub (List.nil_sublist _)⟩
    have hd2:(!decide ((f.data.length:Int)=16))=false:=by rw [decide_eq_true (by omega)];rfl
    rw [decide_eq_true ⟨h1,h2⟩,Bool.true_and] at hbad hgood
    cases ha:a2k (n::r) with
    |false=>
     rw [ha] at hal hbad
     rw [hbad rfl]
     repeat' (first|(first|((with_reducible apply d6 c8);exact rfl;exact rfl)|((with_reducible apply d9);exact rfl;(first|((with_reducible apply Loads.sc c8);exact rfl;(first|exact hS.blkC 0 rfl rfl|exact hS.blkC 1 rfl rfl))|((with_reducible apply Loads.sl c8);exact rfl;((exact hS.blkC 3 rfl rfl)))|((with_reducible apply Loads.st c8);exact rfl;((exact hS.roR (by assumption) (by assumption)));exact rfl));exact rfl)|((with_reducible apply p8 c8);(iterate 3 exact rfl);((exact rfl));((omega));exact rfl)|((with_reducible apply j7 hS c8);(iterate 3 exact rfl);intro g w' hS';clear hS;have hS:=hS';clear hS')|(((with_reducible apply i7 hS c8 (i:=0));(iterate 8 exact rfl);((exact (rfl:_=[_,_])));intro w' hS';simp only [List.set] at hS';clear hS;have hS:=hS';clear hS'))|(first|((with_reducible apply p9);(iterate 4 exact rfl);first|exact rfl|assumption)|((with_reducible apply a0f);(iterate 4 exact rfl);((assumption));exact rfl)|((with_reducible apply r6);(iterate 3 exact rfl);all_goals (intro hb hp;try (exfalso;omega)))|((with_reducible apply m9);exact rfl;((assumption));exact rfl;exact rfl)|((with_reducible apply n0);exact rfl;(first|exact rfl|assumption);exact rfl;exact rfl)))|(first|(with_reducible first|apply d8|apply c9|apply d7|apply d5|apply g8|apply e7|apply j5|apply e6|apply j8))|(first|((with_reducible apply k9);exact rfl;(exact rfl))|((with_reducible apply k6);exact rfl;all_goals (intro hb hp;try (exfalso;omega))))|((with_reducible apply d9);exact rfl;((with_reducible apply Loads.sl c8);exact rfl;exact hS.rowC0 5 rfl hrowN rfl);exact rfl)|((with_reducible apply e8);exact rfl;exact rfl;exact hal _ (hSm _ _ hS (by repeat (first|exact List.mem_append_right _ hmem|apply List.mem_cons_of_mem)));exact rfl;rintro _ w' ⟨rfl,hS'⟩;replace hS:=hS.transA hS';simp only [k7] at hS;clear hS'))
     (apply j6);(repeat (first|exact ResL.nil|(apply ResL.tmp;exact rfl)))
     exact ⟨rfl,hS.sub (List.nil_sublist _)⟩
    |true=>
     rw [ha] at hal hgood
     repeat' (first|(first|((with_reducible apply m0);exact rfl;exact rfl;omega;omega;exact rfl)|((with_reducible apply d6 c8);exact rfl;exact rfl)|((with_reducible apply d9);exact rfl;(first|((with_reducible apply Loads.sc c8);exact rfl;(first|exact hS.blkC 0 rfl rfl|exact hS.blkC 1 rfl rfl))|((with_reducible apply Loads.sl c8);exact rfl;((exact hS.blkC 3 rfl rfl)))|((with_reducible apply Loads.st c8);exact rfl;((exact hS.roR (by assumption) (by assumption)));exact rfl));exact rfl)|((with_reducible apply p8 c8);(iterate 3 exact rfl);((exact rfl));((omega));exact rfl)|((with_reducible apply j7 hS c8);(iterate 3 exact rfl);intro g w' hS';clear hS;have hS:=hS';clear hS')|(((with_reducible apply i7 hS c8 (i:=0));(iterate 8 exact rfl);((exact (rfl:_=[_,_])));intro w' hS';simp only [List.set] at hS';clear hS;have hS:=hS';clear hS'))|(first|((with_reducible apply p9);(iterate 4 exact rfl);first|exact rfl|assumption)|((with_reducible apply a0f);(iterate 4 exact rfl);((assumption));exact rfl)|((with_reducible apply r6);(iterate 3 exact rfl);all_goals (intro hb hp;try (exfalso;omega)))|((with_reducible apply m9);exact rfl;((assumption));exact rfl;exact rfl)|((with_reducible apply n0);exact rfl;(first|exact rfl|assumption);exact rfl;exact rfl)))|(first|(with_reducible first|apply d8|apply c9|apply d7|apply d5|apply g8|apply e7|apply k8))|(first|((with_reducible apply l6);exact rfl;(exact rfl))|((with_reducible apply k6);exact rfl;all_goals (intro hb hp;try (exfalso;omega))))|((with_reducible apply d9);exact rfl;((with_reducible apply Loads.sl c8);exact rfl;exact hS.rowC0 5 rfl hrowN rfl);exact rfl)|((with_reducible apply e8);exact rfl;exact rfl;exact hal _ (hSm _ _ hS (by repeat (first|exact List.mem_append_right _ hmem|apply List.mem_cons_of_mem)));exact rfl;rintro _ w' ⟨rfl,hS'⟩;replace hS:=hS.transA hS';simp only [k7] at hS;clear hS'))
     exact m6 (i + 1) (by repeat (first|exact Fr.sub_nil _|(apply Fr.sub_cons;exact rfl))) ⟨by show i + 1≤ns;omega,hgood rfl⟩ hS.drop (by show ns - (i + 1) < ns - i;omega)
end Go.Proofs.Ytejnpppejalhfac
/- Errors and faults of what is to be reached. -/
namespace Go.Proofs.Ytejnpppejalhfac
open Go.RowKit Go.Sort
def a0n (K:Ker) (space:Int):Int:=if a0Y K=0 then (if 0≤space∧space < (K.spaces.length:Int)∧(u7 K space.toNat).live=true then 0 else 6) else a0Y K
def y9 (K:Ker) (space size way:Int):Int:=if a0n K space=0 then (if size < 1∨8 < size then 3 else if way < 0∨2 < way then 10 else 0) else a0n K space
def u9 (A:List Ar) (way at_:Int):Option (Int×Int):=match v7 A (at_.tdiv 16) with
 |none=>some (1,at_)
 |some a=>if at_ < 0 then some (1,at_) else if (way=1∧¬(a.prot=1∨a.prot=3))∨(way=2∧a.prot < 2) then some (2,at_) else none
def t6 (A:List Ar) (addr size way:Int):Int×Int:=if way=2∧addr.tmod 8≠0 then (3,addr) else ((List.range size.toNat).findSome? fun i=>u9 A way (addr + (i:Nat))).getD (0,0)
theorem a2e {A:List Ar} (hc:q7 A=0) {way at_:Int} (h:u9 A way at_=none):16≤at_∧at_≤4095∧at_.tdiv 16=at_ / 16∧∃ a,v7 A (at_ / 16)=some a:=by
 unfold u9 at h
 cases hf:v7 A (at_.tdiv 16) with
 |none=>rw [hf] at h;cases h
 |some a=>
  rw [hf] at h
  dsimp only at h
  by_cases h0:at_ < 0
  ·rw [if_pos h0] at h;cases h
  ·have e:at_.tdiv 16=at_ / 16:=Int.tdiv_eq_ediv_of_nonneg (by omega)
   rw [e] at hf
   have h1:=(a0F hc hf).1
   have h2:=(a0F hc hf).2
   have h3:=List.find?_some hf
   unfold a0K Ar.fin at h3
   rw [decide_eq_true_eq] at h3
   unfold Ar.ok at h1
   exact ⟨by omega,by omega,e,a,hf⟩
theorem a8W {A:List Ar} (hc:q7 A=0) {addr size way:Int} (h:(t6 A addr size way).1=0) (h1:1≤size):t6 A addr size way=(0,0)∧∀ i:Int,0≤i→i < size→u9 A way (addr + i)=none:=by
 unfold t6 at h ⊢
 by_cases hw:way=2∧addr.tmod 8≠0
 ·rw [if_pos hw] at h;cases h
 ·rw [if_neg hw] at h ⊢
  cases hf:(List.range size.toNat).findSome? fun i=>u9 A way (addr + (i:Nat)) with
  |some p=>
   rw [hf] at h
   dsimp only [Option.getD] at h
   exfalso
   obtain ⟨i,-,hi⟩:=List.exists_of_findSome?_eq_some hf
   unfold u9 at hi
   split at hi
   ·cases hi;cases h
   ·split at hi
    ·cases hi;cases h
    ·split at hi
     ·cases hi;cases h
     ·cases hi
  |none=>
   refine ⟨rfl,fun i h1 h2=>?_⟩
   rw [List.findSome?_eq_none_iff] at hf
   have:=hf i.toNat (List.mem_range.2 (by omega))
   rwa [show ((i.toNat:Nat):Int)=i by omega] at this
end Go.Proofs.Ytejnpppejalhfac
