/- Texts that the proof stands on, one behind the other: PlLnk4, Lk6, PlLnk5, PlFix, PlLay, PlLink, Lk8, Lk7, Lk9, Lk10, Lk11, Im2. -/
import Derived.Test.YtejnpppejalhfacPKernelApart4
/- Which images a link places, in plain Lean. -/
namespace Go.Proofs.Ytejnpppejalhfac
open Go.RowKit Go.Sort
structure ImF (F:Nat→Prop) (w:World) (o:Ob):Prop where
 needs:Sl F w 1 o.vn (o.im.needs.map stC)
 segs:Sl F w 5 o.vs (o.im.segs.map sgC)
 syms:Sl F w 2 o.vy (o.im.syms.map syC)
 rels:Sl F w 3 o.vr (o.im.rels.map rlC)
theorem ImF.now {F:Nat→Prop} {w w':World} {Γ:List Asr} {o:Ob} (h:ImF F w o) (hS:St F w w' Γ):ObV w' o:=⟨h.needs.now hS,h.segs.now hS,h.syms.now hS,h.rels.now hS⟩
def imgV (o:Ob):Value:=.agg (imC o.im o.vn o.vs o.vy o.vr).toArray
def OfB (B:List Ob) (o:Ob):Prop:=∃ a:Int,{ o with at_:=a } ∈ B
structure ImOk (I:Im):Prop where
 s1:1≤I.segs.length
 s2:I.segs.all sgOk=true
 s3:I.segs.length≤6
def plStep (s:List Ob×Int) (o:Ob):List Ob×Int:=(plOs s.1 s.2 o.im o.vn o.vs o.vy o.vr,plNext s.1 s.2 o.im)
def lookB (B:List Ob) (nm:List UInt8):Option Ob:=B.find? fun o=>decide (o.im.name=nm)
def needsP (B:List Ob):List (List UInt8)→List Ob×Int→Option (List Ob×Int)
 |[],s=>some s
 |nm::r,s=>match lookB B nm with
  |none=>none
  |some o=>needsP B r (plStep s o)
def allP (B:List Ob):Nat→Nat→List Ob×Int→Option (List Ob×Int)
 |0,_,s=>some s
 |f + 1,n,s=>match s.1[n]? with
  |none=>some s
  |some o=>match needsP B o.im.needs s with
   |none=>none
   |some s'=>allP B f (n + 1) s'
structure AllI (B:List Ob) (s:List Ob×Int):Prop where
 sub:∀ o ∈ s.1,OfB B o
 nd:(s.1.map fun o=>o.im.name).Nodup
 lo:1≤s.2
 hi:s.2≤1 + 255 * s.1.length
theorem nodup_len {α:Type} [DecidableEq α]:∀ {l m:List α},l.Nodup→(∀ x ∈ l,x ∈ m)→l.length≤m.length
 |[],_,_,_=>by simp
 |a::l,m,h,hs=>by
  rw [List.nodup_cons] at h
  have ha:=hs a (by simp)
  have:=nodup_len (l:=l) (m:=m.erase a) h.2 fun x hx=>by
   refine (List.mem_erase_of_ne ?_).2 (hs x (List.mem_cons_of_mem _ hx))
   rintro rfl
   exact h.1 hx
  rw [List.length_erase_of_mem ha] at this
  have hm:0 < m.length:=List.length_pos_of_mem ha
  rw [List.length_cons]
  omega
theorem AllI.len {B:List Ob} {s:List Ob×Int} (h:AllI B s):s.1.length≤B.length:=by
 have:=nodup_len (m:=B.map fun o=>o.im.name) h.nd fun x hx=>by
  obtain ⟨o,ho,rfl⟩:=List.mem_map.1 hx
  obtain ⟨a,ha⟩:=h.sub o ho
  exact List.mem_map.2 ⟨_,ha,rfl⟩
 simpa using this
theorem lastEnd_le {I:Im} (h:ImOk I):0≤lastEnd I∧lastEnd I≤255:=by
 unfold lastEnd
 split
 ·rename_i s hs
  have:=List.all_eq_true.1 h.s2 s (List.mem_of_getLast? hs)
  unfold sgOk at this
  have:=of_decide_eq_true this
  omega
 ·omega
theorem AllI.step {B:List Ob} {s:List Ob×Int} {o:Ob} (h:AllI B s) (ho:o ∈ B) (hI:ImOk o.im):AllI B (plStep s o):=by
 unfold plStep plOs plNext
 by_cases hp:isPl s.1 o.im.name=true
 ·rw [if_pos hp,if_pos hp];exact h
 ·rw [if_neg hp,if_neg hp]
  have hl:=lastEnd_le hI
  refine ⟨fun x hx=>?_,?_,?_,?_⟩
  ·rcases List.mem_append.1 hx with h1|h1
   ·exact h.sub x h1
   ·have:x=⟨o.im,o.vn,o.vs,o.vy,o.vr,s.2 * 16⟩:=by simpa using h1
    exact ⟨o.at_,by rw [this];exact ho⟩
  ·rw [List.map_append,List.nodup_append]
   refine ⟨h.nd,by simp,fun a ha b hb=>?_⟩
   have:b=o.im.name:=by simpa using hb
   subst this
   rintro rfl
   obtain ⟨x,hx,e⟩:=List.mem_map.1 ha
   exact hp (isPl_iff.2 ⟨x,hx,e⟩)
  ·have:=h.lo
   show 1≤s.2 + lastEnd o.im
   omega
  ·have:=h.hi
   show s.2 + lastEnd o.im≤1 + 255 * ((s.1++[_]).length:Int)
   rw [List.length_append]
   simp only [List.length_cons,List.length_nil]
   omega
theorem lookB_mem {B:List Ob} {nm:List UInt8} {o:Ob} (h:lookB B nm=some o):o ∈ B∧o.im.name=nm:=by
 unfold lookB at h
 exact ⟨List.mem_of_find?_eq_some h,by simpa using List.find?_some h⟩
theorem lookB_none {B:List Ob} {nm:List UInt8} (h:lookB B nm=none):∀ o ∈ B,o.im.name≠nm:=by
 unfold lookB at h
 rw [List.find?_eq_none] at h
 exact fun o ho=>by simpa using h o ho
theorem needsP_step {B:List Ob} {l:List (List UInt8)} {k:Nat} {nm:List UInt8} {s:List Ob×Int} (h:l[k]?=some nm):needsP B (l.drop k) s=match lookB B nm with
  |none=>none
  |some o=>needsP B (l.drop (k + 1)) (plStep s o):=by
 have:l.drop k=nm::l.drop (k + 1):=by
  obtain ⟨h1,rfl⟩:=List.getElem?_eq_some_iff.1 h
  exact List.drop_eq_getElem_cons h1
 rw [this];rfl
end Go.Proofs.Ytejnpppejalhfac
/- The linker places all that is wanted. -/
namespace Go.Proofs.Ytejnpppejalhfac
open Go.RowKit Go.Sort
theorem mt_byName:(Try.prog).underlying 145=some (.map 9 116):=by kernel_rfl
theorem zt_image:((Try.prog).info? 116).bind (·.zero)=some (.agg [.string ⟨[].toArray⟩,.slice none 0 0,.slice none 0 0,.slice none 0 0,.slice none 0 0,.int .i64 0].toArray):=by kernel_rfl
theorem plStep_len (s:List Ob×Int) (o:Ob):s.1.length≤(plStep s o).1.length:=by
 unfold plStep plOs
 split
 ·exact Nat.le_refl _
 ·simp
abbrev LkM (gw rb rp:Nat) (p:Option Addr) (c:Nat) (es:Array MapEntry) (cc:Nat) (s:List Ob×Int):List Asr:=LkS gw rb rp p c s.2 es cc s.1
def allV (r:Option (List Ob×Int)):Int:=match r with
 |none=>6
 |some s=>if s.2 > 256 then 3 else 0
set_option maxRecDepth 100000 in
set_option maxHeartbeats 8000000 in
theorem all_fn {F:Nat→Prop} {w0 w:World} {Γ:List Asr} {gw rb rp c cc cb:Nat} {p:Option Addr} {es esb:Array MapEntry} {B:List Ob} {M:Ob} (hS0:St F w0 w ((LkM gw rb rp p c es cc ([],1)++[.obj rb (.map esb cb)])++Γ)) (hP:PlI es []) (hB:MapG .string esb (B.map fun o=>(stK o.im.name,imgV o))) (hF:∀ o ∈ B,ImF (fps (LkM gw rb rp p c es cc ([],1)++[.obj rb (.map esb cb)])) w o) (hok:∀ o ∈ B,ImOk o.im) (hM:M ∈ B) (hl:B.length≤7) :
  Fn Try.prog 62 [.pointer (some ⟨gw,0,none⟩),imgV M] w (fun v w'=>v=.int .i64 (allV (allP B 8 0 (plStep ([],1) M)))∧∃ p' c' es' cc' s,PlI es' s.1∧AllI B s∧(∀ s',allP B 8 0 (plStep ([],1) M)=some s'→s=s')∧St (fps (LkM gw rb rp p c es cc ([],1)++[.obj rb (.map esb cb)])) w w' (LkM gw rb rp p' c' es' cc' s++[.obj rb (.map esb cb)])):=by
 have hMF:=hF M hM
 have hMo:=hok M hM
 have hA0:AllI B ([],1):=⟨by simp,by simp,by simp,by simp⟩
 have hA1:=hA0.step hM hMo
 generalize hR:allP B 8 0 (plStep ([],1) M)=R
 have hMv:=hMF.now (St.startM hS0)
 have hMs:=hMF.segs.nowM (Θ:=LkM gw rb rp p c es cc ([],1)) (St.startM hS0)
 refine yEn Try.func62 Try.ntmps62 ?_
 have hS:=St.startM hS0
 generalize hG:fps (LkM gw rb rp p c es cc ([],1)++[.obj rb (.map esb cb)])=G at hS hF ⊢
 obtain ⟨I,vn,vs,vy,vr,a0⟩:=M
 replace hMv:ImV w I vn vs vy vr:=hMv
 replace hMo:ImOk I:=hMo
 replace hMs:Sl (fps (LkM gw rb rp p c es cc ([],1))) w 5 vs (I.segs.map sgC):=hMs
 obtain ⟨pn,cn,rfl⟩:=hMv.needs.len
 obtain ⟨ps,cs,rfl⟩:=hMv.segs.len
 obtain ⟨py,cy,rfl⟩:=hMv.syms.len
 obtain ⟨pr,cr,rfl⟩:=hMv.rels.len
 simp only [LkM,LkS,List.cons_append,List.nil_append] at hS
 unfold imgV imC
 repeat' (first|refine yO ?_|(refine yM ?_;clear hS;intro g w' hS))
 replace hS:=St.reorder [1,2,3,4] hS (by decide) rfl
 have hMs1:=(hF _ hM).segs.nowM (Θ:=LkM gw rb rp p c es cc ([],1)) hS
 have hMv1:=(hF _ hM).now hS
 ((with_reducible apply l_call);exact rfl;exact rfl;exact place_fn (p:=p) (c:=c) (es:=es) (cc:=cc) (os:=[]) (next:=1) hS hP hMv1 hMs1 hMo.s1 hMo.s2 hMo.s3 (by omega) (by omega) (by simp);exact rfl;rintro _ w' ⟨rfl,p1,c1,es1,cc1,hP1,hS'⟩)
 replace hS:=St.transM (Θ:=LkM gw rb rp p c es cc ([],1)) hS hS'
 clear hS' hMs1 hMv1 hMs hMv
 repeat' ((refine yO ?_))
 replace hS:St G w w' (LkM gw rb rp p1 c1 es1 cc1 (plStep ([],1) _)++[.obj rb (.map esb cb)]):=hS
 replace hP1:PlI es1 (plStep ([],1) _).1:=hP1
 generalize plStep ([],1) _=s1 at hS hP1 hA1 hR
 clear hMF hMo hM hP
 refine c_loopK (X:=Nat×(List Ob×Int)×(Option Addr×Nat)×(Array MapEntry×Nat)) (fun x=>[(5,.int .i64 (x.1:Nat))]) [0] rfl (fun x=>LkM gw rb rp x.2.2.1.1 x.2.2.1.2 x.2.2.2.1 x.2.2.2.2 x.2.1) (fun x=>PlI x.2.2.2.1 x.2.1.1∧AllI B x.2.1∧R=allP B (8 - x.1) x.1 x.2.1∧x.1≤x.2.1.1.length) (fun x=>8 - x.1) (0,s1,(p1,c1),(es1,cc1)) (by exact zS) ⟨hP1,hA1,hR.symm,Nat.zero_le _⟩ hS ?_
 clear hS hP1 hA1 hR
 rintro ⟨n,s,⟨p2,c2⟩,⟨es2,cc2⟩⟩ w2 ⟨hP2,hA2,hR2,hn⟩ hS
 dsimp only [LkM,LkS,List.cons_append,List.nil_append] at hP2 hA2 hR2 hn hS ⊢
 have hlen:=hA2.len
 have hnx:=hA2.hi
 have hnl:=hA2.lo
 by_cases hlt:n < s.1.length
 rotate_left
 ·have hd:s.1[n]?=none:=List.getElem?_eq_none (by omega)
  have hR3:R=some s:=by
   rw [hR2]
   cases 8 - n with
   |zero=>rfl
   |succ k=>unfold allP;rw [hd]
  repeat' (first|refine yO ?_|(refine yS ?_ ?_;all_goals (intro hb hp;try (exfalso;omega))))
  ·refine yR1 ?_
   refine ⟨?_,p2,c2,es2,cc2,s,hP2,hA2,fun s' hs'=>?_,hS⟩
   ·rw [hR3]
    show _=Value.int .i64 (if s.2 > 256 then 3 else 0)
    rw [if_pos (by omega)]
   ·rw [hR3] at hs';exact Option.some.inj hs'
  ·refine yR1 ?_
   refine ⟨?_,p2,c2,es2,cc2,s,hP2,hA2,fun s' hs'=>?_,hS⟩
   ·rw [hR3]
    show _=Value.int .i64 (if s.2 > 256 then 3 else 0)
    rw [if_neg (by omega)]
   ·rw [hR3] at hs';exact Option.some.inj hs'
 obtain ⟨o,ho⟩:=lt_get (l:=s.1) (i:=n) (by omega)
 obtain ⟨a1,hob⟩:=hA2.sub o (List.mem_of_getElem? ho)
 have hoF:=hF _ hob
 have hrow:=map_get (f:=obC) ho
 have hR3:R=match needsP B o.im.needs s with
   |none=>none
   |some s'=>allP B (8 - (n + 1)) (n + 1) s':=by
  rw [hR2,show 8 - n=(8 - (n + 1)) + 1 by omega]
  show (match s.1[n]? with
   |none=>some s
   |some o=>match needsP B o.im.needs s with
    |none=>none
    |some s'=>allP B (8 - (n + 1)) (n + 1) s')=_
  rw [ho]
 clear hR2
 obtain ⟨J,un,us,uy,ur,at_⟩:=o
 have hnd:Sl G w 1 un (J.needs.map stC):=hoF.needs
 obtain ⟨qn,dn,rfl⟩:=(hnd.now hS).len
 have hbn:=(hnd.now hS).bound
 unfold obC at hrow
 rcases hS.rowForm 2 rfl with ⟨h1,h2⟩|⟨b,cap,h1,h2,h3⟩
 ·exfalso
  simp only [Value.slice.injEq] at h1
  omega
 simp only [Value.slice.injEq] at h1
 obtain ⟨rfl,-,rfl⟩:=h1
 dsimp only at hR3 hrow
 clear hob hoF h2 h3
 repeat' (first|refine yO ?_|(refine yS ?_ ?_;all_goals (intro hb hp;try (exfalso;omega))))
 refine c_loopK (X:=Nat×(List Ob×Int)×(Option Addr×Nat)×(Array MapEntry×Nat)) (fun x=>[(32,.int .i64 (x.1:Nat))]) [0,5,30,31] rfl (fun x=>LkM gw rb rp x.2.2.1.1 x.2.2.1.2 x.2.2.2.1 x.2.2.2.2 x.2.1) (fun x=>PlI x.2.2.2.1 x.2.1.1∧AllI B x.2.1∧needsP B J.needs s=needsP B (J.needs.drop x.1) x.2.1∧n < x.2.1.1.length∧x.1≤J.needs.length) (fun x=>J.needs.length - x.1) (0,s,(some ⟨b,0,none⟩,c2),(es2,cc2)) (by exact zS) ⟨hP2,hA2,rfl,hlt,Nat.zero_le _⟩ hS ?_
 clear hS hP2 hrow
 rintro ⟨k,s3,⟨p3,c3⟩,⟨es3,cc3⟩⟩ w3 ⟨hP3,hA3,hN3,hn3,hk3⟩ hS
 dsimp only [LkM,LkS,List.cons_append,List.nil_append] at hP3 hA3 hN3 hn3 hk3 hS ⊢
 have hlen3:=hA3.len
 have hnx3:=hA3.hi
 have hnl3:=hA3.lo
 by_cases hkt:k < J.needs.length
 rotate_left
 ·rw [List.drop_of_length_le (by omega)] at hN3
  rw [hN3] at hR3
  replace hR3:R=allP B (8 - (n + 1)) (n + 1) s3:=hR3
  repeat' (first|refine yO ?_|(refine yS ?_ ?_;all_goals (intro hb hp;try (exfalso;omega))))
  exact q_loopK (n + 1,s3,(p3,c3),(es3,cc3)) (by exact zS) ⟨hP3,hA3,hR3,by show n + 1≤s3.1.length;omega⟩ hS (by show 8 - (n + 1) < 8 - n;omega)
 obtain ⟨nm,hnm⟩:=lt_get (l:=J.needs) (i:=k) (by omega)
 have hrow:=map_get (f:=stC) hnm
 obtain ⟨b2,off2,rfl,hro⟩:=hnd.atF (i:=k) hkt
 rw [needsP_step hnm] at hN3
 unfold stC at hrow
 cases hlk:lookB B nm with
 |none=>
  rw [hlk] at hN3
  replace hN3:needsP B J.needs s=none:=hN3
  rw [hN3] at hR3
  replace hR3:R=none:=hR3
  have hno:∀ v,(stK nm,v) ∉ (B.map fun o=>(stK o.im.name,imgV o)):=fun v hv=>by
   obtain ⟨x,hx,e⟩:=List.mem_map.1 hv
   have e1:=congrArg Prod.fst e
   unfold stK at e1
   exact lookB_none hlk x hx (by simpa using e1)
  repeat' (first|refine yO ?_|(refine yM ?_;clear hS;intro g w' hS)|(refine yN ?_;clear hS;intro w' hS)|(refine yS ?_ ?_;all_goals (intro hb hp;try (exfalso;omega)))|((with_reducible apply l_gets);exact rfl;exact g_lookN hS (i:=3) mt_byName ut_string zt_image rfl rfl rfl hB (k:=stK nm) trivial hno true;rintro _ _ ⟨rfl,rfl⟩))
  refine yR1 ?_
  refine ⟨by rw [hR3];rfl,p3,c3,es3,cc3,s3,hP3,hA3,fun s' hs'=>(by rw [hR3] at hs';cases hs'),?_⟩
  exact hS.drop
 |some y=>
  rw [hlk] at hN3
  replace hN3:needsP B J.needs s=needsP B (J.needs.drop (k + 1)) (plStep s3 y):=hN3
  obtain ⟨hy,hyn⟩:=lookB_mem hlk
  have hv:(stK nm,imgV y) ∈ (B.map fun o=>(stK o.im.name,imgV o)):=List.mem_map.2 ⟨y,hy,by rw [hyn]⟩
  have hyF:=hF _ hy
  have hyo:=hok _ hy
  have hA4:=hA3.step hy hyo
  have hpl:=plStep_len s3 y
  obtain ⟨Y,wn,ws,wy,wr,b0⟩:=y
  have hyv:ImV w3 Y wn ws wy wr:=hyF.now hS
  obtain ⟨rn,en,rfl⟩:=hyv.needs.len
  obtain ⟨rs,es_,rfl⟩:=hyv.segs.len
  obtain ⟨ry,ey,rfl⟩:=hyv.syms.len
  obtain ⟨rr,er,rfl⟩:=hyv.rels.len
  unfold imgV imC at hv
  repeat' (first|refine yO ?_|(refine yM ?_;clear hS;intro g w' hS)|(refine yN ?_;clear hS;intro w' hS)|(refine yS ?_ ?_;all_goals (intro hb hp;try (exfalso;omega)))|((with_reducible apply l_gets);exact rfl;exact g_look hS (i:=3) mt_byName ut_string rfl rfl rfl hB (k:=stK nm) trivial hv true;rintro _ _ ⟨rfl,rfl⟩))
  repeat' (fail)
  replace hS:=St.reorder [1,2,3,4] hS (by decide) rfl
  have hMs1:=hyF.segs.nowM (Θ:=LkM gw rb rp p3 c3 es3 cc3 s3) hS
  have hMv1:=hyF.now hS
  ((with_reducible apply l_call);exact rfl;exact rfl;exact place_fn (p:=p3) (c:=c3) (es:=es3) (cc:=cc3) (os:=s3.1) (next:=s3.2) hS hP3 hMv1 hMs1 hyo.s1 hyo.s2 hyo.s3 (by omega) (by omega) (by omega);exact rfl;rintro _ w' ⟨rfl,p4,c4,es4,cc4,hP4,hS'⟩)
  replace hS:=St.transM (Θ:=LkM gw rb rp p3 c3 es3 cc3 s3) hS hS'
  clear hS' hMs1 hMv1
  obtain ⟨s4,hs4⟩:∃ s4,s4=plStep s3 ⟨Y,.slice rn Y.needs.length en,.slice rs Y.segs.length es_,.slice ry Y.syms.length ey,.slice rr Y.rels.length er,b0⟩:=⟨_,rfl⟩
  rw [← hs4] at hA4 hN3 hpl
  replace hP4:PlI es4 s4.1:=by rw [hs4];exact hP4
  replace hS:St G w w' (LkM gw rb rp p4 c4 es4 cc4 s4++[.obj rb (.map esb cb)]):=by rw [hs4];exact hS
  clear hs4
  simp only [LkM,LkS,List.cons_append,List.nil_append] at hS
  repeat' ((refine yO ?_))
  exact q_loopK (k + 1,s4,(p4,c4),(es4,cc4)) (by exact zS) ⟨hP4,hA4,hN3,Nat.lt_of_lt_of_le hn3 hpl,by show k + 1≤_;omega⟩ hS (by show _ - (k + 1) < _ - k;omega)
end Go.Proofs.Ytejnpppejalhfac
/- Sheets of an object while they are made: boxes. -/
namespace Go.Proofs.Ytejnpppejalhfac
open Go.RowKit Go.Sort
section
variable {F:Nat→Prop} {w0 w w':World} {Γ Δ:List Asr}
theorem St.reorderT (m:Nat) (is:List Nat) (h:St F w0 w Γ) (hn:is.Nodup∧∀ i ∈ is,i < m) (hp:pickL Γ is=some Δ):St F w0 w (appA Δ (Γ.drop m)):=by
 rw [appA_eq]
 have h1:=h.reorder is hn.1 hp
 have h2:=h.sub (List.drop_sublist m Γ)
 refine ⟨h.os,h.tape,h.output,h.size,h.base,fun A hA=>?_,fun A hA=>?_,?_⟩
 ·rcases List.mem_append.1 hA with hA|hA
  ·exact h1.holds A hA
  ·exact h2.holds A hA
 ·rcases List.mem_append.1 hA with hA|hA
  ·exact h1.own A hA
  ·exact h2.own A hA
 ·rw [List.pairwise_append]
  refine ⟨h1.apart,h2.apart,fun a ha b hb=>?_⟩
  obtain ⟨j,hj⟩:=List.mem_iff_getElem?.1 ha
  obtain ⟨k,hk⟩:=List.mem_iff_getElem?.1 hb
  obtain ⟨i,hi,hi2⟩:=pickL_at hp j a hj
  rw [List.getElem?_drop] at hk
  have:=hn.2 i (List.mem_of_getElem? hi)
  exact apart_at h.apart hi2 hk (by omega)
end
structure Bx where
 g:Nat
 pg:Int
 data:List UInt8
 p:Option Addr
 c:Nat
 fx:List Fx
def Bx.v (b:Bx):Value:=.slice b.p b.fx.length b.c
def bxB (b:Bx):Asr:=.blk b.g [.int .i64 b.pg,.string ⟨b.data.toArray⟩,.slice b.p b.fx.length b.c]
def bxR (b:Bx):Asr:=.row 100 2 (.slice b.p b.fx.length b.c) (b.fx.map fxC)
def bxs (l:List Bx):List Asr:=l.map bxB++l.map bxR
def kvB (b:Bx):Value×Value:=(.int .i64 b.pg,.pointer (some ⟨b.g,0,none⟩))
def keyB (b:Bx):Int×List UInt8×List Fx:=(b.pg,b.data,b.fx)
theorem bxs_cons (b:Bx) (l:List Bx):(bxs (b::l)).Perm (bxB b::bxR b::bxs l):=by
 unfold bxs
 simp only [List.map_cons,List.cons_append]
 exact List.Perm.cons _ List.perm_middle
theorem bxs_perm {l m:List Bx} (h:l.Perm m):(bxs l).Perm (bxs m):=(h.map bxB).append (h.map bxR)
theorem bxs_snoc (b:Bx) (l:List Bx):(bxB b::bxR b::bxs l).Perm (bxs (l++[b])):=(bxs_cons b l).symm.trans (bxs_perm (List.perm_append_comm (l₁:=[b]) (l₂:=l)))
theorem perm_erase {α:Type}:∀ {l:List α} {k:Nat} {b:α},l[k]?=some b→l.Perm (b::l.eraseIdx k):=by
 intro l
 induction l with
 |nil=>intro k b h;simp at h
 |cons a l ih=>
  intro k b h
  cases k with
  |zero=>simp at h;subst h;simp
  |succ k=>
   simp only [List.getElem?_cons_succ] at h
   rw [List.eraseIdx_cons_succ]
   exact ((ih h).cons a).trans (List.Perm.swap b a _)
theorem bxs_pick {l:List Bx} {k:Nat} {b:Bx} (h:l[k]?=some b):(bxs l).Perm (bxB b::bxR b::bxs (l.eraseIdx k)):=(bxs_perm (perm_erase h)).trans (bxs_cons b _)
theorem erase_set {α:Type}:∀ {l:List α} {k:Nat} {b:α},(l.set k b).eraseIdx k=l.eraseIdx k:=by
 intro l
 induction l with
 |nil=>intro k b;simp
 |cons a l ih=>
  intro k b
  cases k with
  |zero=>simp
  |succ k=>simp only [List.set_cons_succ,List.eraseIdx_cons_succ,ih]
theorem bxs_put {l:List Bx} {k:Nat} {b0 b:Bx} (h:l[k]?=some b0):(bxB b::bxR b::bxs (l.eraseIdx k)).Perm (bxs (l.set k b)):=by
 have h1:=bxs_pick (l:=l.set k b) (k:=k) (b:=b) (by rw [List.getElem?_set];simp [(List.getElem?_eq_some_iff.1 h).1])
 rw [erase_set] at h1
 exact h1.symm
/-! pages of an object -/
def dataAt (d:List UInt8) (n:Nat):List UInt8:=(d.drop (n * 16)).take 16++List.replicate (16 - ((d.drop (n * 16)).take 16).length) 0
theorem dataAt_len (d:List UInt8) (n:Nat):(dataAt d n).length=16:=by
 unfold dataAt
 simp only [List.length_append,List.length_replicate,List.length_take]
 omega
def pgK (b0:Int) (s:Sg) (n:Nat):Int×List UInt8×List Fx:=(b0 + s.pg + n,dataAt s.data n,[])
def pgsS (b0:Int) (s:Sg) (m:Nat):List (Int×List UInt8×List Fx):=(List.range m).map (pgK b0 s)
def pgsO (b0:Int) (l:List Sg):List (Int×List UInt8×List Fx):=l.flatMap fun s=>pgsS b0 s s.n.toNat
theorem pgsS_succ (b0:Int) (s:Sg) (m:Nat):pgsS b0 s (m + 1)=pgsS b0 s m++[pgK b0 s m]:=by
 unfold pgsS
 rw [List.range_succ,List.map_append]
 rfl
theorem pgsO_step {b0:Int} {l:List Sg} {j:Nat} {s:Sg} (h:l[j]?=some s):pgsO b0 (l.take (j + 1))=pgsO b0 (l.take j)++pgsS b0 s s.n.toNat:=by
 unfold pgsO
 rw [List.take_add_one,h]
 simp
theorem ut_int:(Try.prog).underlying 3=some (.int .i64):=by kernel_rfl
theorem mt_sheets:(Try.prog).underlying 167=some (.map 3 175):=by kernel_rfl
end Go.Proofs.Ytejnpppejalhfac
/- What a relocation lays into a page. -/
namespace Go.Proofs.Ytejnpppejalhfac
open Go.RowKit Go.Sort
def fxOf (at_:Int) (s:List UInt8) (pg:Int):List Fx :=
 let fr:=at_ - 16 * pg
 let a:=max fr 0
 let e:=min (fr + s.length) 16
 if a < e then [⟨a,(s.drop (a - fr).toNat).take (e - a).toNat⟩] else []
theorem take_drop_take {α:Type} (s:List α) (d i m:Nat) (h:i + m≤d):((s.take d).drop i).take m=(s.drop i).take m:=by
 rw [List.drop_take,List.take_take,Nat.min_eq_left (by omega)]
theorem fxOf_step {at_:Int} {s:List UInt8} {d n:Nat} {off:Int} (h0:0≤at_) (hd:d < s.length) (hoff:off=(at_ + d) % 16) (hal:d=0∨off=0) (hn:(n:Int)=min ((s.length:Int) - d) (16 - off)) (pg:Int) :
  fxOf at_ (s.take (d + n)) pg=fxOf at_ (s.take d) pg++(if pg=(at_ + d) / 16 then [⟨off,(s.drop d).take n⟩] else []):=by
 have hl1:(s.take (d + n)).length=d + n:=by rw [List.length_take];omega
 have hl2:(s.take d).length=d:=by rw [List.length_take];omega
 unfold fxOf
 dsimp only []
 rw [hl1,hl2]
 by_cases hp:pg=(at_ + d) / 16
 ·rw [if_pos hp]
  have h1:¬ max (at_ - 16 * pg) 0 < min (at_ - 16 * pg + (d:Nat)) 16:=by omega
  have h2:max (at_ - 16 * pg) 0 < min (at_ - 16 * pg + ((d + n:Nat):Int)) 16:=by omega
  rw [if_neg h1,if_pos h2,List.nil_append]
  have h3:max (at_ - 16 * pg) 0=off:=by omega
  have h4:min (at_ - 16 * pg + ((d + n:Nat):Int)) 16=off + n:=by omega
  rw [h3,h4,show (off - (at_ - 16 * pg)).toNat=d by omega,show (off + n - off).toNat=n by omega,take_drop_take _ _ _ _ (by omega)]
 ·rw [if_neg hp,List.append_nil]
  by_cases hlt:pg < (at_ + d) / 16
  ·have h3:min (at_ - 16 * pg + ((d + n:Nat):Int)) 16=16:=by omega
   have h4:min (at_ - 16 * pg + (d:Int)) 16=16:=by omega
   rw [h3,h4]
   by_cases ha:max (at_ - 16 * pg) 0 < 16
   ·rw [if_pos ha,if_pos ha,take_drop_take _ _ _ _ (by omega),take_drop_take _ _ _ _ (by omega)]
   ·rw [if_neg ha,if_neg ha]
  ·rw [if_neg (by omega),if_neg (by omega)]
theorem fxOf_nil (at_ pg:Int):fxOf at_ [] pg=[]:=by
 unfold fxOf
 rw [if_neg (by simp only [List.length_nil];omega)]
end Go.Proofs.Ytejnpppejalhfac
/- What the linker lays down, in plain Lean. -/
namespace Go.Proofs.Ytejnpppejalhfac
open Go.RowKit Go.Sort
def bytesOf (os:List (Im×Int)) (at_:Int) (r:Rl):Option (List UInt8):=(if r.name=[] then some at_ else adr os r.name).map fun t=>leB (IntKind.i64.wrap (t + r.add)) 8
def bytesT (os:List (Im×Int)) (at_:Int) (r:Rl):List UInt8:=(bytesOf os at_ r).getD []
def symsIn (os:List (Im×Int)) (at_:Int) (l:List Rl):Bool:=l.all fun r=>(bytesOf os at_ r).isSome
def fxAll (os:List (Im×Int)) (at_:Int) (l:List Rl) (pg:Int):List Fx:=l.flatMap fun r=>fxOf (at_ + r.at_) (bytesT os at_ r) pg
def shOf (os:List (Im×Int)) (at_:Int) (l:List Rl) (k:Int×List UInt8×List Fx):Sh:=⟨k.1,k.2.1,fxAll os at_ l k.1⟩
def shO (os:List (Im×Int)) (I:Im) (b0:Int):List Sh:=(pgsO b0 I.segs).map (shOf os (b0 * 16) I.rels)
def rawA (b0:Int) (s:Sg):Ar:=⟨b0 + s.pg,s.n,rgt s,false⟩
def arsO (A:List Ar) (b0:Int) (l:List Sg):List Ar:=(l.map (rawA b0)).foldl joinStep A
theorem fxOf_len (at_:Int) (s:List UInt8) (pg:Int):(fxOf at_ s pg).length≤1:=by
 unfold fxOf
 dsimp only []
 split <;> simp
theorem fxAll_len (os:List (Im×Int)) (at_:Int) (l:List Rl) (pg:Int):(fxAll os at_ l pg).length≤l.length:=by
 unfold fxAll
 induction l with
 |nil=>simp
 |cons r l ih=>
  have:=fxOf_len (at_ + r.at_) (bytesT os at_ r) pg
  simp only [List.flatMap_cons,List.length_append,List.length_cons]
  omega
theorem fxAll_step {os:List (Im×Int)} {at_:Int} {l:List Rl} {j:Nat} {r:Rl} (h:l[j]?=some r) (pg:Int):fxAll os at_ (l.take (j + 1)) pg=fxAll os at_ (l.take j) pg++fxOf (at_ + r.at_) (bytesT os at_ r) pg:=by
 unfold fxAll
 rw [List.take_add_one,h]
 simp
theorem arsO_step {A:List Ar} {b0:Int} {l:List Sg} {j:Nat} {s:Sg} (h:l[j]?=some s):arsO A b0 (l.take (j + 1))=joinStep (arsO A b0 (l.take j)) (rawA b0 s):=by
 unfold arsO
 rw [List.take_add_one,h]
 simp
theorem pgsS_mem {b0:Int} {s:Sg} {m:Nat} {k:Int×List UInt8×List Fx} (h:k ∈ pgsS b0 s m):∃ n:Nat,n < m∧k=pgK b0 s n:=by
 unfold pgsS at h
 obtain ⟨n,hn,rfl⟩:=List.mem_map.1 h
 exact ⟨n,List.mem_range.1 hn,rfl⟩
theorem pgs_rise (b0:Int):∀ {l:List Sg},Ch l→l.all sgOk=true→(∀ k ∈ pgsO b0 l,∀ s,l[0]?=some s→b0 + s.pg≤k.1)∧(pgsO b0 l).Pairwise fun a b=>a.1 < b.1
 |[],_,_=>⟨by simp,by simp [pgsO]⟩
 |s::l,hch,hs=>by
  have hch':Ch l:=fun j a b h1 h2=>hch (j + 1) a b (by simpa using h1) (by simpa using h2)
  simp only [List.all_cons,Bool.and_eq_true] at hs
  obtain ⟨i1,i2⟩:=pgs_rise b0 hch' hs.2
  have e:pgsO b0 (s::l)=pgsS b0 s s.n.toNat++pgsO b0 l:=by unfold pgsO;simp
  have hso:=hs.1
  unfold sgOk at hso
  have hso:=of_decide_eq_true hso
  have later:∀ k ∈ pgsO b0 l,b0 + s.pg + s.n≤k.1:=fun k hk=>by
   cases l with
   |nil=>simp [pgsO] at hk
   |cons t l=>
    have h1:=i1 k hk t rfl
    have h2:=hch 0 s t rfl rfl
    omega
  rw [e]
  refine ⟨fun k hk s' hs'=>?_,?_⟩
  ·simp only [List.getElem?_cons_zero,Option.some.injEq] at hs'
   subst hs'
   rcases List.mem_append.1 hk with h|h
   ·obtain ⟨n,-,rfl⟩:=pgsS_mem h
    show _≤b0 + s.pg + (n:Int)
    omega
   ·have:=later k h
    omega
  ·rw [List.pairwise_append]
   refine ⟨?_,i2,fun a ha b hb=>?_⟩
   ·unfold pgsS
    rw [List.pairwise_map]
    refine List.pairwise_lt_range.imp ?_
    intro a b hab
    show b0 + s.pg + (a:Int) < b0 + s.pg + (b:Int)
    omega
   ·obtain ⟨n,hn,rfl⟩:=pgsS_mem ha
    have:=later b hb
    show b0 + s.pg + (n:Int) < b.1
    omega
theorem pgs_nodup {b0:Int} {l:List Sg} (hch:Ch l) (hs:l.all sgOk=true):((pgsO b0 l).map (·.1)).Nodup:=by
 have:=(pgs_rise b0 hch hs).2
 unfold List.Nodup
 rw [List.pairwise_map]
 exact this.imp fun h=>by omega
theorem pgsS_len (b0:Int) (s:Sg) (m:Nat):(pgsS b0 s m).length=m:=by unfold pgsS;simp
theorem pgsO_at {b0:Int} {l:List Sg} {j n:Nat} {s:Sg} (h:l[j]?=some s) (hn:n < s.n.toNat):(pgsO b0 l)[(pgsO b0 (l.take j)).length + n]?=some (pgK b0 s n):=by
 have e:pgsO b0 l=pgsO b0 (l.take j)++(pgsS b0 s s.n.toNat++pgsO b0 (l.drop (j + 1))):=by
  conv=>lhs;rw [← List.take_append_drop j l,drop_at h]
  unfold pgsO
  simp
 rw [e,List.getElem?_append_right (by omega),Nat.add_sub_cancel_left,List.getElem?_append_left (by rw [pgsS_len];exact hn)]
 unfold pgsS
 rw [List.getElem?_map,List.getElem?_range hn]
 rfl
theorem pgs_len_le {b0:Int} {l:List Sg} (hs:l.all sgOk=true):(pgsO b0 l).length≤255 * l.length:=by
 induction l with
 |nil=>simp [pgsO]
 |cons s l ih=>
  simp only [List.all_cons,Bool.and_eq_true] at hs
  have hso:=hs.1
  unfold sgOk at hso
  have hso:=of_decide_eq_true hso
  have e:pgsO b0 (s::l)=pgsS b0 s s.n.toNat++pgsO b0 l:=by unfold pgsO;simp
  have:=ih hs.2
  rw [e,List.length_append,pgsS_len,List.length_cons]
  omega
theorem pgs_there {b0:Int} {l:List Sg} {x:Int} (h:(own l x).isSome=true):∃ k ∈ pgsO b0 l,k.1=(b0 * 16 + x) / 16:=by
 obtain ⟨s,hs⟩:=Option.isSome_iff_exists.1 h
 unfold own at hs
 have hm:=List.mem_of_find?_eq_some hs
 have hin:=List.find?_some hs
 unfold inSg at hin
 have hin:=of_decide_eq_true hin
 refine ⟨pgK b0 s (x / 16 - s.pg).toNat,?_,?_⟩
 ·unfold pgsO pgsS
  refine List.mem_flatMap.2 ⟨s,hm,List.mem_map.2 ⟨_,List.mem_range.2 ?_,rfl⟩⟩
  omega
 ·show b0 + s.pg + ((x / 16 - s.pg).toNat:Int)=_
  omega
def AOk (A:List Ar):Prop:=∀ a ∈ A,a.z=false∧0≤a.pg∧0≤a.n∧a.pg + a.n≤200000∧0≤a.prot∧a.prot≤3
theorem AOk.step {A:List Ar} {a:Ar} (h:AOk A) (ha:a.z=false∧0≤a.pg∧0≤a.n∧a.pg + a.n≤200000∧0≤a.prot∧a.prot≤3):AOk (joinStep A a):=by
 unfold joinStep
 split
 ·rename_i b hb
  have hbm:=h b (List.mem_of_getLast? hb)
  split
  ·rename_i hal
   unfold Ar.alike at hal
   intro x hx
   rcases List.mem_append.1 hx with h1|h1
   ·exact h x ((List.dropLast_sublist A).subset h1)
   ·obtain rfl:x={ b with n:=b.n + a.n }:=by simpa using h1
    have e1:b.fin=a.pg:=hal.1
    unfold Ar.fin at e1
    obtain ⟨q1,q2,q3,q4,q5,q6⟩:=hbm
    obtain ⟨p1,p2,p3,p4,p5,p6⟩:=ha
    refine ⟨q1,q2,?_,?_,q5,q6⟩
    ·show 0≤b.n + a.n
     omega
    ·show b.pg + (b.n + a.n)≤200000
     omega
  ·intro x hx
   rcases List.mem_append.1 hx with h1|h1
   ·exact h x h1
   ·obtain rfl:x=a:=by simpa using h1
    exact ha
 ·intro x hx
  rcases List.mem_append.1 hx with h1|h1
  ·exact h x h1
  ·obtain rfl:x=a:=by simpa using h1
   exact ha
end Go.Proofs.Ytejnpppejalhfac
/- What a link comes to, in plain Lean. -/
namespace Go.Proofs.Ytejnpppejalhfac
open Go.RowKit Go.Sort
def imR (o:Ob):List Value:=imC o.im o.vn o.vs o.vy o.vr
def endsN:List Ob→Int
 |[]=>0
 |o::l=>lastEnd o.im + endsN l
theorem endsN_app (l m:List Ob):endsN (l++m)=endsN l + endsN m:=by
 induction l with
 |nil=>simp [endsN]
 |cons o l ih=>simp only [List.cons_append,endsN,ih];omega
structure PkI (s:List Ob×Int):Prop where
 nx:s.2=1 + endsN s.1
 at_:∀ (i:Nat) (o:Ob),s.1[i]?=some o→o.at_=(1 + endsN (s.1.take i)) * 16
theorem PkI.start:PkI ([],1):=⟨rfl,fun i o h=>by simp at h⟩
theorem PkI.step {s:List Ob×Int} (o:Ob) (h:PkI s):PkI (plStep s o):=by
 unfold plStep plOs plNext
 by_cases hp:isPl s.1 o.im.name=true
 ·rw [if_pos hp,if_pos hp];exact h
 ·rw [if_neg hp,if_neg hp]
  refine ⟨?_,fun i x hx=>?_⟩
  ·show s.2 + lastEnd o.im=1 + endsN (s.1++[_])
   rw [endsN_app,h.nx]
   simp only [endsN]
   omega
  ·dsimp only at hx ⊢
   rcases Nat.lt_or_ge i s.1.length with hi|hi
   ·rw [List.getElem?_append_left hi] at hx
    rw [List.take_append_of_le_length (by omega)]
    exact h.at_ i x hx
   ·rw [List.getElem?_append_right hi] at hx
    obtain ⟨h1,h2⟩:=List.getElem?_eq_some_iff.1 hx
    simp only [List.length_singleton] at h1
    obtain rfl:i=s.1.length:=by omega
    simp only [Nat.sub_self,List.getElem_cons_zero] at h2
    subst h2
    rw [List.take_left]
    show s.2 * 16=_
    rw [h.nx]
theorem needsP_inv {B:List Ob} {Inv:List Ob×Int→Prop} (hst:∀ s o,Inv s→o ∈ B→Inv (plStep s o)):∀ {l:List (List UInt8)} {s s':List Ob×Int},needsP B l s=some s'→Inv s→Inv s':=by
 intro l
 induction l with
 |nil=>intro s s' h hI;cases h;exact hI
 |cons nm l ih=>
  intro s s' h hI
  unfold needsP at h
  cases hl:lookB B nm with
  |none=>rw [hl] at h;cases h
  |some o=>rw [hl] at h;exact ih h (hst s o hI (lookB_mem hl).1)
theorem allP_inv {B:List Ob} {Inv:List Ob×Int→Prop} (hst:∀ s o,Inv s→o ∈ B→Inv (plStep s o)):∀ {f n:Nat} {s s':List Ob×Int},allP B f n s=some s'→Inv s→Inv s':=by
 intro f
 induction f with
 |zero=>intro n s s' h hI;cases h;exact hI
 |succ f ih=>
  intro n s s' h hI
  unfold allP at h
  split at h
  ·cases h;exact hI
  ·split at h
   ·cases h
   ·rename_i s2 h2
    exact ih h (needsP_inv hst h2 hI)
def linkAr (l:List Ob):List Ar:=(l.flatMap fun o=>o.im.segs.map (rawA (o.at_ / 16))).foldl joinStep []
def linkSh (os:List (Im×Int)) (l:List Ob):List Sh:=l.flatMap fun o=>shO os o.im (o.at_ / 16)
def symsAll (os:List (Im×Int)) (l:List Ob):Bool:=l.all fun o=>symsIn os o.at_ o.im.rels
theorem linkAr_step {l:List Ob} {j:Nat} {o:Ob} (h:l[j]?=some o):linkAr (l.take (j + 1))=arsO (linkAr (l.take j)) (o.at_ / 16) o.im.segs:=by
 unfold linkAr arsO
 rw [List.take_add_one,h]
 simp only [Option.toList_some,List.flatMap_append,List.flatMap_cons,List.flatMap_nil,List.append_nil,List.foldl_append]
theorem linkSh_step {os:List (Im×Int)} {l:List Ob} {j:Nat} {o:Ob} (h:l[j]?=some o):linkSh os (l.take (j + 1))=linkSh os (l.take j)++shO os o.im (o.at_ / 16):=by
 unfold linkSh
 rw [List.take_add_one,h]
 simp only [Option.toList_some,List.flatMap_append,List.flatMap_cons,List.flatMap_nil,List.append_nil]
theorem arsO_ok {A:List Ar} {b0:Int} (hA:AOk A) (h0:1≤b0) (h1:b0≤100000):∀ {l:List Sg},l.all sgOk=true→AOk (arsO A b0 l)∧(arsO A b0 l).length≤A.length + l.length:=by
 intro l
 unfold arsO
 induction l generalizing A with
 |nil=>exact fun _=>⟨hA,Nat.le_refl _⟩
 |cons s l ih=>
  intro hs
  simp only [List.all_cons,Bool.and_eq_true] at hs
  have hso:=hs.1
  unfold sgOk at hso
  have hso:=of_decide_eq_true hso
  have hrg:0≤rgt s∧rgt s≤3:=by unfold rgt;split <;> split <;> decide
  have h2:AOk (joinStep A (rawA b0 s)):=by
   refine hA.step ⟨rfl,?_,?_,?_,hrg⟩
   ·show 0≤b0 + s.pg
    omega
   ·show 0≤s.n
    omega
   ·show b0 + s.pg + s.n≤200000
    omega
  obtain ⟨i1,i2⟩:=ih h2 hs.2
  refine ⟨i1,?_⟩
  have h3:(joinStep A (rawA b0 s)).length≤A.length + 1:=by
   unfold joinStep
   split
   ·split
    ·simp
    ·simp
   ·simp
  simp only [List.map_cons,List.foldl_cons,List.length_cons]
  omega
theorem check_zeroL {I:Im} (h:checkIm I=0):ImOk I∧I.rels.length≤16∧Ch I.segs∧Plc I:=by
 unfold checkIm at h
 have e1:nmsB I=true:=by
  cases hq:nmsB I with
  |true=>rfl
  |false=>rw [if_pos hq] at h;omega
 rw [if_neg (by rw [e1];simp)] at h
 have e2:cntB I=true:=by
  cases hq:cntB I with
  |true=>rfl
  |false=>rw [if_pos hq] at h;omega
 rw [if_neg (by rw [e2];simp)] at h
 have e3:sgsB I=true:=by
  cases hq:sgsB I with
  |true=>rfl
  |false=>rw [if_pos hq] at h;omega
 rw [if_neg (by rw [e3];simp)] at h
 have e4:aptB I=true:=by
  cases hq:aptB I with
  |true=>rfl
  |false=>rw [if_pos hq] at h;omega
 rw [if_neg (by rw [e4];simp)] at h
 have e5:plcB I=true:=by
  cases hq:plcB I with
  |true=>rfl
  |false=>rw [if_pos hq] at h;omega
 have c:=of_decide_eq_true e2
 exact ⟨⟨by omega,e3,by omega⟩,by omega,(pB_iff.1 e4).1,pB_iff.1 e5⟩
theorem own_small {l:List Sg} {x:Int} {s:Sg} (hs:l.all sgOk=true) (h:own l x=some s):0≤x∧x < 4096:=by
 unfold own at h
 have hm:=List.mem_of_find?_eq_some h
 have hin:=List.find?_some h
 unfold inSg at hin
 have hin:=of_decide_eq_true hin
 have hso:=List.all_eq_true.1 hs s hm
 unfold sgOk at hso
 have hso:=of_decide_eq_true hso
 omega
noncomputable def linkC (M:Ob) (Lb:List Ob):Int :=
 if 6 < Lb.length then 2 else
 match (M::Lb).find? (fun o=>!decide (checkIm o.im=0)) with
 |some o=>checkIm o.im
 |none=>if ((M::Lb).map fun o=>o.im.name).Nodup then
   match allP (M::Lb) 8 0 (plStep ([],1) M) with
   |none=>6
   |some s=>if s.2 > 256 then 3 else if symsAll (obP s.1) s.1=true then 0 else 7
  else 5
def Fst (M:Ob) (s:List Ob×Int):Prop:=∃ r,s.1={ M with at_:=16 }::r
theorem fst_start (M:Ob):Fst M (plStep ([],1) M):=⟨[],rfl⟩
theorem fst_step {M:Ob} {s:List Ob×Int} (o:Ob) (h:Fst M s):Fst M (plStep s o):=by
 obtain ⟨r,hr⟩:=h
 unfold plStep plOs
 split
 ·exact ⟨r,hr⟩
 ·exact ⟨r++[_],by show s.1++[_]=_;rw [hr];rfl⟩
end Go.Proofs.Ytejnpppejalhfac
/- The linker's fix. -/
namespace Go.Proofs.Ytejnpppejalhfac
open Go.RowKit Go.Sort
def gK (b:Bx):Nat×Int×List UInt8×List Fx:=(b.g,keyB b)
def gF (at_:Int) (s:List UInt8) (b:Bx):Nat×Int×List UInt8×List Fx:=(b.g,b.pg,b.data,b.fx++fxOf at_ s b.pg)
theorem fix_put {bs bs':List Bx} {at_:Int} {s:List UInt8} {d n k:Nat} {off:Int} {b1 b2:Bx} (hK:bs'.map gK=bs.map (gF at_ (s.take d))) (hnd:(bs.map (·.pg)).Nodup) (hk:bs'[k]?=some b1) (hpg:b1.pg=(at_ + d) / 16) (hb:(b2.g,keyB b2)=(b1.g,b1.pg,b1.data,b1.fx++[⟨off,(s.drop d).take n⟩]))
  (h0:0≤at_) (hd:d < s.length) (hoff:off=(at_ + d) % 16) (hal:d=0∨off=0) (hn:(n:Int)=min ((s.length:Int) - d) (16 - off)):(bs'.set k b2).map gK=bs.map (gF at_ (s.take (d + n))):=by
 have hat:∀ j:Nat,(bs'[j]?).map gK=(bs[j]?).map (gF at_ (s.take d)):=fun j=>by
  have:=congrArg (fun l:List (Nat×Int×List UInt8×List Fx)=>l[j]?) hK
  simpa only [List.getElem?_map] using this
 have hkl:=(List.getElem?_eq_some_iff.1 hk).1
 obtain ⟨b0,hb0⟩:∃ b0,bs[k]?=some b0:=by
  have:=hat k
  rw [hk] at this
  cases h:bs[k]? with
  |none=>rw [h] at this;cases this
  |some x=>exact ⟨x,rfl⟩
 have hk0:=hat k
 rw [hk,hb0] at hk0
 simp only [Option.map_some,Option.some.injEq,gK,gF,keyB,Prod.mk.injEq] at hk0 hb
 obtain ⟨e1,e2,e3,e4⟩:=hk0
 obtain ⟨f1,f2,f3,f4⟩:=hb
 apply List.ext_getElem?
 intro j
 rw [List.getElem?_map,List.getElem?_map,List.getElem?_set]
 by_cases hj:k=j
 ·subst hj
  rw [if_pos rfl,if_pos hkl,hb0]
  simp only [Option.map_some,gK,gF,keyB,Option.some.injEq,Prod.mk.injEq]
  refine ⟨by rw [f1,e1],by rw [f2,e2],by rw [f3,e3],?_⟩
  rw [f4,e4,fxOf_step h0 hd hoff hal hn,if_pos (by rw [← e2];exact hpg),List.append_assoc]
 ·rw [if_neg hj,hat j]
  cases hj2:bs[j]? with
  |none=>rfl
  |some x=>
   have hne:x.pg≠(at_ + d) / 16:=fun e=>by
    have h1:(bs.map (·.pg))[j]?=some ((at_ + d) / 16):=by rw [List.getElem?_map,hj2];simp [e]
    have h2:(bs.map (·.pg))[k]?=some ((at_ + d) / 16):=by rw [List.getElem?_map,hb0];simp [← e2,hpg]
    obtain ⟨l1,v1⟩:=List.getElem?_eq_some_iff.1 h1
    obtain ⟨l2,v2⟩:=List.getElem?_eq_some_iff.1 h2
    exact hj ((List.getElem_inj hnd).1 (v2.trans v1.symm))
   simp only [Option.map_some,gF]
   rw [fxOf_step h0 hd hoff hal hn,if_neg hne,List.append_nil]
theorem keyG_kv {bs bs':List Bx} {f:Bx→Int×List UInt8×List Fx} (hf:∀ b,(f b).1=b.pg) (h:bs'.map gK=bs.map fun b=>(b.g,f b)):bs'.map kvB=bs.map kvB:=by
 have h2:=congrArg (List.map fun (x:Nat×Int×List UInt8×List Fx)=>(Value.int .i64 x.2.1,Value.pointer (some ⟨x.1,0,none⟩))) h
 rw [List.map_map,List.map_map] at h2
 refine Eq.trans ?_ (h2.trans ?_)
 ·rfl
 ·apply List.map_congr_left
  intro b _
  show (Value.int .i64 (f b).1,_)=_
  rw [hf]
  rfl
set_option maxRecDepth 100000 in
set_option maxHeartbeats 8000000 in
theorem fix_fn {F:Nat→Prop} {w0 w:World} {Γ:List Asr} {r c:Nat} {es:Array MapEntry} {bs:List Bx} {at_:Int} {s:List UInt8} (hS0:St F w0 w ((.obj r (.map es c)::bxs bs)++Γ)) (hM:MapG (.int .i64) es (bs.map kvB)) (hs:s.length=8) (h0:0≤at_) (h1:at_≤1000000000) (hp:∀ d:Nat,d < 8→∃ b ∈ bs,b.pg=(at_ + d) / 16) (hnd:(bs.map (·.pg)).Nodup) (hfx:∀ b ∈ bs,b.fx.length≤1000000) :
  Fn Try.prog 80 [.map (some r),.int .i64 at_,.string ⟨s.toArray⟩] w (fun _ w'=>∃ bs':List Bx,bs'.map gK=bs.map (gF at_ s)∧St (fps (.obj r (.map es c)::bxs bs)) w w' (.obj r (.map es c)::bxs bs')):=by
 refine yEn Try.func80 Try.ntmps80 ?_
 have hS:=St.startM hS0
 generalize hG:fps (.obj r (.map es c)::bxs bs)=G at hS ⊢
 repeat' ((refine yO ?_))
 refine c_loopK (Γ:=[]) (X:=Nat×Int×List UInt8×List Bx) (fun x=>[(1,.int .i64 x.2.1),(2,.string ⟨x.2.2.1.toArray⟩)]) [0] rfl (fun x=>.obj r (.map es c)::bxs x.2.2.2) (fun x=>x.1≤8∧x.2.1=at_ + (x.1:Nat)∧x.2.2.1=s.drop x.1∧(x.1=0∨x.1=8∨(at_ + (x.1:Nat)) % 16=0)∧x.2.2.2.map gK=bs.map (gF at_ (s.take x.1))) (fun x=>8 - x.1) (0,at_,s,bs) (by exact zS) ⟨by omega,by simp,rfl,Or.inl rfl,by unfold gF;simp only [List.take_zero,fxOf_nil,List.append_nil];rfl⟩ (by simpa only [List.append_nil] using hS) ?_
 clear hS
 rintro ⟨d,a,t,bs'⟩ w1 ⟨hd,ha,ht,hal,hK⟩ hS
 dsimp only [] at hd ha ht hal hK hS ⊢
 simp only [List.append_nil] at hS
 have hM':MapG (.int .i64) es (bs'.map kvB):=by rw [keyG_kv (f:=fun b=>(b.pg,b.data,b.fx++fxOf at_ (s.take d) b.pg)) (fun _=>rfl) hK];exact hM
 by_cases hlt:d < 8
 rotate_left
 ·obtain rfl:d=8:=by omega
  rw [List.drop_of_length_le (by omega)] at ht
  subst ht
  repeat' ((refine yO ?_))
  refine yR0 ?_
  refine ⟨bs',?_,hS⟩
  rw [hK,List.take_of_length_le (by omega)]
 have hdl:t.length=8 - d:=by rw [ht,List.length_drop];omega
 have hne:(!decide (t=[]))=true:=by rw [decide_eq_false (fun e=>by rw [e] at hdl;simp only [List.length_nil] at hdl;omega)];rfl
 have hat:∀ j:Nat,(bs'[j]?).map gK=(bs[j]?).map (gF at_ (s.take d)):=fun j=>by
  have:=congrArg (fun l:List (Nat×Int×List UInt8×List Fx)=>l[j]?) hK
  simpa only [List.getElem?_map] using this
 obtain ⟨k,b1,hk,hpg,hfl⟩:∃ (k:Nat) (b1:Bx),bs'[k]?=some b1∧b1.pg=(at_ + d) / 16∧b1.fx.length≤1000001:=by
  obtain ⟨b0,hb0,hb0p⟩:=hp d hlt
  obtain ⟨k,hk0⟩:=List.mem_iff_getElem?.1 hb0
  have:=hat k
  rw [hk0] at this
  cases h:bs'[k]? with
  |none=>rw [h] at this;cases this
  |some x=>
   rw [h] at this
   simp only [Option.map_some,Option.some.injEq,gK,gF,keyB,Prod.mk.injEq] at this
   refine ⟨k,x,h,by rw [this.2.1];exact hb0p,?_⟩
   have h1:=hfx b0 hb0
   have h2:=fxOf_len at_ (s.take d) b0.pg
   rw [this.2.2.2,List.length_append]
   omega
 clear hat
 replace hS:=hS.perm ((bxs_pick hk).cons _)
 have hkv:(Value.int .i64 b1.pg,Value.pointer (some ⟨b1.g,0,none⟩)) ∈ bs'.map kvB:=List.mem_map.2 ⟨_,List.mem_of_getElem? hk,rfl⟩
 have e1:a.tmod 16=a % 16:=Int.tmod_eq_emod_of_nonneg (by omega)
 have e2:a.tdiv 16=b1.pg:=by rw [Int.tdiv_eq_ediv_of_nonneg (by omega),ha];exact hpg.symm
 rw [← e2] at hkv
 obtain ⟨n,hn⟩:∃ n:Nat,(n:Int)=min (t.length:Int) (16 - a.tmod 16):=⟨(min (t.length:Int) (16 - a.tmod 16)).toNat,by omega⟩
 have hfin:=fun b2 hb=>fix_put (b2:=b2) (n:=n) hK hnd hk hpg hb h0 (by omega) (off:=a.tmod 16) (by omega) (by omega) (by omega)
 obtain ⟨g,pg,data,p,cp,fx⟩:=b1
 unfold bxB bxR at hS
 dsimp only at hS hkv hfl hpg e2 hfin
 repeat' (first|refine yO ?_|((with_reducible apply l_remT);exact rfl;exact rfl;omega;exact rfl)|((with_reducible apply l_quoT);exact rfl;exact rfl;omega;omega;omega;exact rfl)|((with_reducible apply l_min);(iterate 3 exact rfl);rw [← hn])|((with_reducible apply l_gets);exact rfl;exact g_look hS (i:=0) mt_sheets ut_int rfl rfl rfl hM' (k:=.int .i64 (a.tdiv 16)) rfl hkv false;rintro _ _ ⟨rfl,rfl⟩))
 rw [← ht] at hfin
 refine c_till (fun w'=>(Asr.blk g [Value.int IntKind.i64 pg,Value.string { data:=data.toArray },Value.slice p fx.length cp]).holds w') 14 15 rfl hS (by kernel_rfl) ?_
 intro w10 hS'
 clear hS;have hS:=hS';clear hS'
 have hH:=hS.at_ (i:=1) rfl
 ((with_reducible apply t_pure (nn 0) tabOk);exact rfl;kernel_rfl;kernel_rfl;kernel_rfl;exact rfl;exact (fun _ _ _ h=>h);exact Or.inr hH;exact rfl;exact rfl)
 ((with_reducible apply t_pure (nn 1) tabOk);exact rfl;kernel_rfl;kernel_rfl;kernel_rfl;exact rfl;exact (fun _ _ _ h=>h);exact Or.inr hH;exact rfl;exact rfl)
 ((with_reducible apply t_pure (nn 2) tabOk);exact rfl;kernel_rfl;kernel_rfl;kernel_rfl;exact rfl;exact (fun _ _ _ h=>h);exact Or.inr hH;exact rfl;exact rfl)
 ((with_reducible apply t_pure (nn 3) tabOk);exact rfl;kernel_rfl;kernel_rfl;kernel_rfl;exact rfl;exact (fun _ _ _ h=>h);exact Or.inr hH;exact rfl;exact rfl)
 ((with_reducible apply t_takeL (nn 4));exact rfl;kernel_rfl;kernel_rfl;kernel_rfl;kernel_rfl;exact rfl;exact rfl;exact (fun _ _ _ h=>h);exact hH;exact rfl;(intro w2 hw2;((with_reducible apply Loads.sl tabOk);exact rfl;exact holdC hw2 rfl));exact rfl)
 ((with_reducible apply t_pure (nn 5) tabOk);exact rfl;kernel_rfl;kernel_rfl;kernel_rfl;exact rfl;exact (fun _ _ _ h=>h);exact Or.inr hH;exact rfl;exact rfl)
 ((with_reducible apply t_pure (nn 6) tabOk);exact rfl;kernel_rfl;kernel_rfl;kernel_rfl;exact rfl;exact (fun _ _ _ h=>h);exact Or.inr hH;exact rfl;exact rfl)
 ((with_reducible apply t_pure (nn 7) tabOk);exact rfl;kernel_rfl;kernel_rfl;kernel_rfl;exact rfl;exact (fun _ _ _ h=>h);exact Or.inr hH;exact rfl;exact rfl)
 refine t_one (i:=8) (by kernel_rfl) ?_
 refine p_gets rfl (Gets.of_runs fun a ha=>r_strTo tabOk rfl rfl rfl (by omega) (by omega) a ha _) rfl ?_
 rintro _ _ ⟨rfl,rfl⟩
 refine ⟨Or.inr (Or.inr hH),?_⟩
 refine t_one (i:=9) (by kernel_rfl) ?_
 ((with_reducible apply p_build tabOk);(iterate 3 exact rfl);((exact (rfl:_=some [_,_])));exact rfl)
 refine ⟨Or.inr (Or.inr hH),?_⟩
 refine t_one (i:=10) (by kernel_rfl) ?_
 refine p_gets rfl (g_bslice hS tabOk rfl rfl rfl rfl rfl rfl) rfl ?_
 rintro _ w' ⟨g9,rfl,hS'⟩
 clear hS;have hS:=hS';clear hS'
 have hH:=hS.at_ (i:=2) rfl
 refine ⟨Or.inr (Or.inr hH),?_⟩
 refine t_one (i:=11) (by kernel_rfl) ?_
 refine p_gets rfl (g_append hS tabOk (i:=3) rfl rfl rfl rfl (hS.rowRo 0 rfl) rfl (by simp only [List.length_map];omega)) rfl ?_
 rintro _ w' ⟨p',c',rfl,hS'⟩
 simp only [List.set] at hS'
 clear hS;have hS:=hS';clear hS'
 have hH:=hS.at_ (i:=2) rfl
 refine ⟨Or.inr (Or.inr hH),?_⟩
 ((with_reducible apply t_pure (nn 12) tabOk);exact rfl;kernel_rfl;kernel_rfl;kernel_rfl;exact rfl;exact (fun _ _ _ h=>h);exact Or.inr hH;exact rfl;exact rfl)
 ((with_reducible apply t_pure (nn 13) tabOk);exact rfl;kernel_rfl;kernel_rfl;kernel_rfl;exact rfl;exact (fun _ _ _ h=>h);exact Or.inr hH;exact rfl;exact rfl)
 refine t_one (i:=14) (by kernel_rfl) ?_
 refine p_gets0 (Φ:=fun _ w'=>St _ _ w' _) rfl (g_store hS tabOk (i:=2) rfl rfl rfl rfl rfl (Nat.le_of_ble_eq_true rfl) (by intro u hu;simp [Value.cells] at hu;subst hu;rfl)) ?_
 intro _ w' hS'
 simp only [List.set] at hS'
 clear hS;have hS:=hS';clear hS'
 refine ⟨Or.inl rfl,?_⟩
 refine t_done (by kernel_rfl) ?_
 repeat' ((refine yO ?_))
 (focus (refine yD ?_;(repeat' (first|refine yP ?_|((with_reducible apply d_strFrom tabOk);(iterate 3 exact rfl);omega;omega;exact rfl)));all_goals (refine yZ ?_;clear hS;intro w' hS)))
 repeat' ((refine yO ?_))
 rw [Int.toNat_natCast,List.length_map] at hS
 have hf2:=hfin ⟨g,pg,data,p',c',fx++[⟨a.tmod 16,t.take n⟩]⟩ rfl
 have hS2:=hS.drop
 clear hS
 replace hS2:St G w w' (.obj r (.map es c)::bxB ⟨g,pg,data,p',c',fx++[⟨a.tmod 16,t.take n⟩]⟩::bxR ⟨g,pg,data,p',c',fx++[⟨a.tmod 16,t.take n⟩]⟩::bxs (bs'.eraseIdx k)):=by
  unfold bxB bxR
  dsimp only []
  rw [List.length_append,List.map_append]
  exact hS2
 replace hS2:=hS2.perm ((bxs_put hk).cons _)
 exact q_loopK (d + n,a + n,t.drop (n:Int).toNat,_) (by exact zS) ⟨by show d + n≤8;omega,by show a + n=at_ + ((d + n:Nat):Int);omega,by show t.drop (n:Int).toNat=s.drop (d + n);rw [Int.toNat_natCast,ht,List.drop_drop],by show d + n=0∨d + n=8∨(at_ + ((d + n:Nat):Int)) % 16=0;omega,hf2⟩ (by simpa only [List.append_nil] using hS2) (by show 8 - (d + n) < 8 - d;omega)
end Go.Proofs.Ytejnpppejalhfac
/- The linker's sheets of an object. -/
namespace Go.Proofs.Ytejnpppejalhfac
open Go.RowKit Go.Sort
set_option maxRecDepth 100000 in
set_option maxHeartbeats 8000000 in
theorem sheets_fn {w:World} {I:Im} {vn vs vy vr:Value} {b0:Int} (hI:ImV w I vn vs vy vr) (hs2:I.segs.all sgOk=true) (hch:Ch I.segs) (h0:1≤b0) (h1:b0≤100000) :
  Fn Try.prog 77 [.agg (obC ⟨I,vn,vs,vy,vr,b0 * 16⟩).toArray] w (fun v w'=>∃ r es c bs,v=.map (some r)∧MapG (.int .i64) es (bs.map kvB)∧bs.map keyB=pgsO b0 I.segs∧St nF w w' (.obj r (.map es c)::bxs bs)):=by
 have bn:=hI.needs.bound;have bs:=hI.segs.bound;have by_:=hI.syms.bound;have br:=hI.rels.bound;obtain ⟨pn,cn,rfl⟩:=hI.needs.len;obtain ⟨ps,cs,rfl⟩:=hI.segs.len;obtain ⟨py,cy,rfl⟩:=hI.syms.len;obtain ⟨pr,cr,rfl⟩:=hI.rels.len
 show Fn _ _ [.agg [.string ⟨I.name.toArray⟩,.slice pn I.needs.length cn,.slice ps I.segs.length cs,.slice py I.syms.length cy,.slice pr I.rels.length cr,.int .i64 I.entry,.int .i64 (b0 * 16)].toArray] _ _
 refine yEn Try.func77 Try.ntmps77 ?_
 have hS:=St.start w
 repeat' (first|refine yO ?_|(refine yM ?_;clear hS;intro g w' hS)|((with_reducible apply l_gets);exact rfl;exact g_makeMap hS;rintro _ w' ⟨r,rfl,hS'⟩;clear hS;have hS:=hS';clear hS'))
 obtain ⟨g1,hg1⟩:∃ g1,g1=g:=⟨_,rfl⟩
 rw [← hg1] at hS ⊢
 clear hg1
 refine c_loopK (Γ:=[]) (X:=Nat×List Bx×Array MapEntry×Nat) (fun x=>[(15,.int .i64 (x.1:Nat))]) [1,3,13,14] rfl (fun x=>.obj r (.map x.2.2.1 x.2.2.2)::.blk g1 [.string ⟨I.name.toArray⟩,.slice pn I.needs.length cn,.slice ps I.segs.length cs,.slice py I.syms.length cy,.slice pr I.rels.length cr,.int .i64 I.entry,.int .i64 (b0 * 16)]::bxs x.2.1) (fun x=>x.1≤I.segs.length∧MapG (.int .i64) x.2.2.1 (x.2.1.map kvB)∧x.2.1.map keyB=pgsO b0 (I.segs.take x.1)∧∀ b ∈ x.2.1,∀ s,I.segs[x.1]?=some s→b.pg < b0 + s.pg) (fun x=>I.segs.length - x.1) (0,[],#[],0) (by exact zS) ⟨Nat.zero_le _,MapG.nil _,rfl,fun _ h=>nomatch h⟩ hS ?_
 clear hS
 rintro ⟨j,bs,es,c⟩ w1 ⟨hj,hM,hK,hB⟩ hS
 dsimp only [] at hj hM hK hB hS ⊢
 simp only [List.cons_append,List.append_nil] at hS
 by_cases hlt:j < I.segs.length
 rotate_left
 ·rw [List.take_of_length_le (by omega)] at hK
  repeat' (first|refine yO ?_|(refine yS ?_ ?_;all_goals (intro hb hp;try (exfalso;omega))))
  refine yR1 ?_
  replace hS:=St.reorderT 2 [0] hS (by decide) rfl
  simp only [appA,List.drop_succ_cons,List.drop_zero] at hS
  exact ⟨r,es,c,bs,rfl,hM,hK,hS⟩
 obtain ⟨s,hs⟩:=lt_get (l:=I.segs) (i:=j) (by omega)
 have hrow:=map_get (f:=sgC) hs
 unfold sgC at hrow
 obtain ⟨b,off,rfl,hro⟩:=hI.segs.at_ (i:=j) hlt
 obtain ⟨y1,y2,y3,y4,y5⟩:=sg_ok hs2 hs
 obtain ⟨m,hm⟩:∃ m:Nat,(m:Int)=s.n:=⟨s.n.toNat,by omega⟩
 repeat' (first|refine yO ?_|(refine yM ?_;clear hS;intro g w' hS)|(refine yN ?_;clear hS;intro w' hS)|(refine yS ?_ ?_;all_goals (intro hb hp;try (exfalso;omega))))
 rename Nat=>g5
 refine c_loopK (Γ:=[]) (X:=Nat×List Bx×Array MapEntry×Nat) (fun x=>[(21,.int .i64 (x.1:Nat))]) [1,3,13,14,15,5,20] rfl (fun x=>.blk g5 [.int .i64 s.pg,.int .i64 s.n,.string ⟨s.data.toArray⟩,.bool s.wr,.bool s.ex]::.obj r (.map x.2.2.1 x.2.2.2)::.blk g1 [.string ⟨I.name.toArray⟩,.slice pn I.needs.length cn,.slice (some ⟨b,off,none⟩) I.segs.length cs,.slice py I.syms.length cy,.slice pr I.rels.length cr,.int .i64 I.entry,.int .i64 (b0 * 16)]::bxs x.2.1) (fun x=>x.1≤m∧MapG (.int .i64) x.2.2.1 (x.2.1.map kvB)∧x.2.1.map keyB=pgsO b0 (I.segs.take j)++pgsS b0 s x.1∧∀ b ∈ x.2.1,b.pg < b0 + s.pg + x.1) (fun x=>m - x.1) (0,bs,es,c) (by exact zS) ⟨Nat.zero_le _,hM,by rw [hK];simp [pgsS],fun x hx=>by have:=hB x hx s hs;show _ < _ + ((0:Nat):Int);omega⟩ (by simpa only [List.append_nil] using hS) ?_
 clear hS hM hK hB
 rintro ⟨n,bs,es,c⟩ w2 ⟨hn,hM,hK,hB⟩ hS
 dsimp only [] at hn hM hK hB hS ⊢
 simp only [List.cons_append,List.append_nil] at hS
 by_cases hnt:n < m
 rotate_left
 ·obtain rfl:n=m:=by omega
  repeat' (first|refine yO ?_|(refine yS ?_ ?_;all_goals (intro hb hp;try (exfalso;omega))))
  replace hS:=St.reorderT 3 [1,2] hS (by decide) rfl
  simp only [appA,List.drop_succ_cons,List.drop_zero] at hS
  refine q_loopK (j + 1,bs,es,c) (by exact zS) ⟨by show j + 1≤_;omega,hM,?_,?_⟩ (by simpa only [List.append_nil] using hS) (by show _ - (j + 1) < _ - j;omega)
  ·show bs.map keyB=pgsO b0 (I.segs.take (j + 1))
   rw [pgsO_step hs,hK,show s.n.toNat=n by omega]
  ·intro x hx s' hs'
   have h2:=hB x hx
   have h3:=hch j s s' hs hs'
   show x.pg < b0 + s'.pg
   omega
 have hno:∀ v,(Value.int .i64 (b0 + s.pg + n),v) ∉ bs.map kvB:=fun v hv=>by
  obtain ⟨x,hx,e⟩:=List.mem_map.1 hv
  have h2:=hB x hx
  unfold kvB at e
  simp only [Prod.mk.injEq,Value.int.injEq] at e
  omega
 have hquo:(b0 * 16).tdiv 16=b0:=Int.mul_tdiv_cancel _ (by omega)
 rw [← hquo] at hno
 have fin:∀ (w':World) (g7:Nat),St nF w w' (.row 5 1 (.slice (some ⟨g7,0,none⟩) 16 16) (bR (dataAt s.data n))::.blk g5 [.int .i64 s.pg,.int .i64 s.n,.string ⟨s.data.toArray⟩,.bool s.wr,.bool s.ex]::.obj r (.map es c)::.blk g1 [.string ⟨I.name.toArray⟩,.slice pn I.needs.length cn,.slice (some ⟨b,off,none⟩) I.segs.length cs,.slice py I.syms.length cy,.slice pr I.rels.length cr,.int .i64 I.entry,.int .i64 (b0 * 16)]::bxs bs)→∀ (g9:Nat) (w9:World) (es':Array MapEntry) (c':Nat),St nF w w9 (.blk g9 [.int .i64 ((b0 * 16).tdiv 16 + s.pg + n),.string ⟨(dataAt s.data n).toArray⟩,.slice none 0 0]::.row 5 1 (.slice (some ⟨g7,0,none⟩) 16 16) (bR (dataAt s.data n))::.blk g5 [.int .i64 s.pg,.int .i64 s.n,.string ⟨s.data.toArray⟩,.bool s.wr,.bool s.ex]::.obj r (.map es' c')::.blk g1 [.string ⟨I.name.toArray⟩,.slice pn I.needs.length cn,.slice (some ⟨b,off,none⟩) I.segs.length cs,.slice py I.syms.length cy,.slice pr I.rels.length cr,.int .i64 I.entry,.int .i64 (b0 * 16)]::bxs bs)→MapG (.int .i64) es' (bs.map kvB++[(.int .i64 ((b0 * 16).tdiv 16 + s.pg + n),.pointer (some ⟨g9,0,none⟩))])→∃ bx:Bx,St nF w w9 (.blk g5 [.int .i64 s.pg,.int .i64 s.n,.string ⟨s.data.toArray⟩,.bool s.wr,.bool s.ex]::.obj r (.map es' c')::.blk g1 [.string ⟨I.name.toArray⟩,.slice pn I.needs.length cn,.slice (some ⟨b,off,none⟩) I.segs.length cs,.slice py I.syms.length cy,.slice pr I.rels.length cr,.int .i64 I.entry,.int .i64 (b0 * 16)]::bxs (bs++[bx]))∧MapG (.int .i64) es' ((bs++[bx]).map kvB)∧(bs++[bx]).map keyB=pgsO b0 (I.segs.take j)++pgsS b0 s (n + 1)∧∀ b ∈ bs++[bx],b.pg < b0 + s.pg + ((n + 1:Nat):Int):=by
  intro w' g7 _ g9 w9 es' c' hS hM'
  rw [hquo] at hS hM'
  refine ⟨⟨g9,b0 + s.pg + n,dataAt s.data n,none,0,[]⟩,?_,?_,?_,?_⟩
  ·replace hS:=hS.addNil 100 2
   replace hS:=St.reorderT 6 [3,4,5,1,0] hS (by decide) rfl
   simp only [appA,List.drop_succ_cons,List.drop_zero] at hS
   exact hS.perm ((((bxs_snoc ⟨g9,b0 + s.pg + n,dataAt s.data n,none,0,[]⟩ bs).cons _).cons _).cons _)
  ·rw [List.map_append]
   exact hM'
  ·rw [List.map_append,hK,pgsS_succ,List.append_assoc]
   rfl
  ·intro x hx
   rcases List.mem_append.1 hx with h|h
   ·have:=hB x h;omega
   ·have:x.pg=b0 + s.pg + n:=by simp only [List.mem_singleton] at h;rw [h]
    omega
 by_cases hfr:(n:Int) * 16 < s.data.length
 ·repeat' (first|refine yO ?_|(refine yS ?_ ?_;all_goals (intro hb hp;try (exfalso;omega)))|((with_reducible apply l_make hS tabOk (m:=16));(iterate 5 exact rfl);omega;omega;exact rfl;exact rfl;intro g7 w' hS';clear hS;have hS:=hS';clear hS')|((with_reducible apply l_strFrom tabOk);(iterate 3 exact rfl);omega;omega;exact rfl)|((with_reducible apply l_gets);exact rfl;exact g_copyS hS tabOk (i:=0) (old:=List.replicate 16 0) rfl rfl rfl rfl;rintro _ w' ⟨rfl,hS'⟩;simp only [List.set] at hS';clear hS;have hS:=hS';clear hS')|((with_reducible apply l_quoT);exact rfl;exact rfl;omega;omega;omega;exact rfl))
  have hd:List.take 16 (List.drop ((n:Int) * 16).toNat s.data)++List.drop (List.take 16 (List.drop ((n:Int) * 16).toNat s.data)).length (List.replicate 16 0)=dataAt s.data n:=by
   unfold dataAt
   rw [show ((n:Int) * 16).toNat=n * 16 by omega,List.drop_replicate]
  rw [hd] at hS
  have hf:=fin _ _ hS
  clear fin
  repeat' (first|refine yO ?_|(refine yM ?_;clear hS;intro g w' hS)|((with_reducible apply l_convS hS tabOk 0);(iterate 5 exact rfl);(rw [dataAt_len];omega);exact rfl))
  refine l_gets0 (g_updN hS (i:=3) mt_sheets ut_int rfl rfl rfl rfl hM (k:=.int .i64 ((b0 * 16).tdiv 16 + s.pg + n)) rfl hno) ?_
  rintro - w9 ⟨es',c',hM',hS'⟩
  simp only [List.set] at hS'
  obtain ⟨bx,hS2,hM2,hK2,hB2⟩:=hf _ w9 es' c' hS' hM'
  clear hf hS hS' hM'
  have hS:=hS2
  repeat' ((refine yO ?_))
  exact q_loopK (n + 1,bs++[bx],es',c') (by exact zS) ⟨by show n + 1≤m;omega,hM2,hK2,hB2⟩ (by simpa only [List.append_nil] using hS) (by show m - (n + 1) < m - n;omega)
 ·repeat' (first|refine yO ?_|(refine yS ?_ ?_;all_goals (intro hb hp;try (exfalso;omega)))|((with_reducible apply l_make hS tabOk (m:=16));(iterate 5 exact rfl);omega;omega;exact rfl;exact rfl;intro g7 w' hS';clear hS;have hS:=hS';clear hS')|((with_reducible apply l_quoT);exact rfl;exact rfl;omega;omega;omega;exact rfl))
  have hd:List.replicate 16 [Value.int .u8 0]=bR (dataAt s.data n):=by
   unfold dataAt
   rw [List.drop_of_length_le (by omega)]
   rfl
  rw [hd] at hS
  have hf:=fin _ _ hS
  clear fin
  repeat' (first|refine yO ?_|(refine yM ?_;clear hS;intro g w' hS)|((with_reducible apply l_convS hS tabOk 0);(iterate 5 exact rfl);(rw [dataAt_len];omega);exact rfl))
  refine l_gets0 (g_updN hS (i:=3) mt_sheets ut_int rfl rfl rfl rfl hM (k:=.int .i64 ((b0 * 16).tdiv 16 + s.pg + n)) rfl hno) ?_
  rintro - w9 ⟨es',c',hM',hS'⟩
  simp only [List.set] at hS'
  obtain ⟨bx,hS2,hM2,hK2,hB2⟩:=hf _ w9 es' c' hS' hM'
  clear hf hS hS' hM'
  have hS:=hS2
  repeat' ((refine yO ?_))
  exact q_loopK (n + 1,bs++[bx],es',c') (by exact zS) ⟨by show n + 1≤m;omega,hM2,hK2,hB2⟩ (by simpa only [List.append_nil] using hS) (by show m - (n + 1) < m - n;omega)
end Go.Proofs.Ytejnpppejalhfac
/- The linker lays an object down. -/
namespace Go.Proofs.Ytejnpppejalhfac
open Go.RowKit Go.Sort
theorem put8 (n:Int) (w:World):Fn Try.prog 79 [.int .i64 n,.int .i64 8] w (RBf (.tuple #[.string ⟨(leB n 8).toArray⟩,.int .i64 0]) w) :=
 Fn.of_rb ⟨Try.func79,by kernel_rfl,by kernel_rfl⟩ (rb_below (put_yes n 8 w (by decide) (by decide)))
theorem St.rotA {F:Nat→Prop} {w0 w:World} {Γ:List Asr} (m:Nat) (h:St F w0 w Γ):St F w0 w (Γ.drop m++Γ.take m):=by
 refine h.perm ?_
 conv=>lhs;rw [← List.take_append_drop m Γ]
 exact List.perm_append_comm
abbrev LyS (go:Nat) (pa:Option Addr) (ca:Nat) (ps:Option Addr) (cs:Nat) (en:Int) (A:List Ar) (Lp:List (Sh×Value)):List Asr :=
 [.blk go [.slice pa A.length ca,.slice ps Lp.length cs,.int .i64 en],.row 71 4 (.slice pa A.length ca) (A.map arC),.row 97 3 (.slice ps Lp.length cs) (Lp.map fun p=>shC p.1 p.2)]
def fxRow (p:Sh×Value):Asr:=.row 100 2 p.2 (p.1.fixes.map fxC)
def bxSh (b:Bx):Sh×Value:=(⟨b.pg,b.data,b.fx⟩,b.v)
def keyF (f:Int→List Fx) (k:Int×List UInt8×List Fx):Int×List UInt8×List Fx:=(k.1,k.2.1,f k.1)
theorem bx_keys {bs:List Bx} {K:List (Int×List UInt8×List Fx)} {f:Int→List Fx} (hK:bs.map keyB=K.map (keyF f)):(bs.map (·.pg)=K.map (·.1))∧(∀ k ∈ K,∃ b ∈ bs,b.pg=k.1)∧(∀ b ∈ bs,∃ k ∈ K,b.pg=k.1∧b.data=k.2.1∧b.fx=f k.1):=by
 refine ⟨?_,fun k hk=>?_,fun b hb=>?_⟩
 ·have:=congrArg (List.map (·.1)) hK
  rw [List.map_map,List.map_map] at this
  exact this
 ·have:keyF f k ∈ bs.map keyB:=by rw [hK];exact List.mem_map.2 ⟨k,hk,rfl⟩
  obtain ⟨b,hb,e⟩:=List.mem_map.1 this
  exact ⟨b,hb,congrArg (·.1) e⟩
 ·have:keyB b ∈ K.map (keyF f):=by rw [← hK];exact List.mem_map.2 ⟨b,hb,rfl⟩
  obtain ⟨k,hk,e⟩:=List.mem_map.1 this
  exact ⟨k,hk,(congrArg (·.1) e).symm,(congrArg (·.2.1) e).symm,(congrArg (·.2.2) e).symm⟩
theorem bx_fix {bs bs2:List Bx} {K:List (Int×List UInt8×List Fx)} {f g:Int→List Fx} {at_:Int} {s:List UInt8} (hK:bs.map keyB=K.map (keyF f)) (h2:bs2.map gK=bs.map (gF at_ s)) (hg:∀ p,g p=f p++fxOf at_ s p):bs2.map keyB=K.map (keyF g):=by
 have e1:bs2.map keyB=(bs2.map gK).map (·.2):=by rw [List.map_map];rfl
 have e2:(bs.map (gF at_ s)).map (·.2)=(bs.map keyB).map fun k=>(k.1,k.2.1,k.2.2++fxOf at_ s k.1):=by rw [List.map_map,List.map_map];rfl
 rw [e1,h2,e2,hK,List.map_map]
 apply List.map_congr_left
 intro k _
 show (k.1,k.2.1,f k.1++fxOf at_ s k.1)=keyF g k
 unfold keyF
 rw [hg]
theorem bx_shs {bs:List Bx} {K:List (Int×List UInt8×List Fx)} {f:Int→List Fx} (hK:bs.map keyB=K.map (keyF f)):(bs.map bxSh).map (·.1)=K.map fun k=>⟨k.1,k.2.1,f k.1⟩:=by
 have e:(bs.map bxSh).map (·.1)=(bs.map keyB).map fun k=>(⟨k.1,k.2.1,k.2.2⟩:Sh):=by rw [List.map_map,List.map_map];rfl
 rw [e,hK,List.map_map]
 rfl
theorem c_mid {P:Program} {n:Nat} {ds:List Deferred} {E:Fr} {w:World} {X:Type} (Ef:X→Fr) (I:X→World→Prop) {x y:Code} {Q1 Q2:Exit→Act→World→Prop} (hx:WC P x (Exit.then (fun a' w'=>∃ m,Has n ds a' (Ef m)∧I m w') Q2) n ds E w) (hz:∀ m w',I m w'→WC P y Q1 n ds (Ef m) w'):WC P x (Exit.then (y.wp P Q1) Q2) n ds E w:=fun a ha=>
 Code.wp_mono (fun e a' w' q=>by
  cases e with
  |normal=>obtain ⟨m,h1,h2⟩:=q;exact hz m w' h2 a' h1
  |exit i=>exact q
  |goto l=>exact q
  |ret=>exact q
  |panic c=>exact q
  |outgrown=>exact q) (hx a ha)
theorem c_mid3 {P:Program} {n:Nat} {ds:List Deferred} {E:Fr} {w:World} {X:Type} (Ef:X→Fr) (I:X→World→Prop) {x y z:Code} {Q1 Q2 Q3:Exit→Act→World→Prop} (hx:WC P x (Exit.then (y.wp P (Exit.then (fun a' w'=>∃ m,Has n ds a' (Ef m)∧I m w') Q2)) Q3) n ds E w) (hz:∀ m w',I m w'→WC P z Q1 n ds (Ef m) w'):WC P x (Exit.then (y.wp P (Exit.then (z.wp P Q1) Q2)) Q3) n ds E w:=fun a ha=>
 Code.wp_mono (fun e a' w' q=>by
  cases e with
  |normal=>
   refine Code.wp_mono (fun e a2 w2 q2=>?_) q
   cases e with
   |normal=>obtain ⟨m,h1,h2⟩:=q2;exact hz m w2 h2 a2 h1
   |exit i=>exact q2
   |goto l=>exact q2
   |ret=>exact q2
   |panic c=>exact q2
   |outgrown=>exact q2
  |exit i=>exact q
  |goto l=>exact q
  |ret=>exact q
  |panic c=>exact q
  |outgrown=>exact q) (hx a ha)
theorem a_build {P:Program} {n:Nat} {ds:List Deferred} {E:Fr} {w:World} {Q:Exit→Act→World→Prop} {ops:Array Oper} {d:Nat} {ty:TypeId} {pos:String} {after:Array Edge} {i:Nat} (_C:Nn i) {T:Tab} {S:World→Prop} {fuel:Nat} {li:Array Bool} (hT:TabOk P T) {t s:Nat} {fs:List (Nat×Nat×Bool)} {z L:List Value} {parts:Array (Nat×Operand)} {ps:List (Nat×Value)} (hi:ops[i]?=some ⟨some d,.build t parts,ty,pos,after,none⟩) (hs:Region.noSelect ops=true) (hf:Region.free .any ops li i=true) (hr:(Region.ready .any ops li).contains i=true)
  (hQ:∀ c (a:Act) w v,Q (.panic c) (a.put (some d) v) w→Q (.panic c) a w) (hS:S w) (ht:T.get t=some (.st s fs z)) (hp:evP E parts.toList=some ps) (hL:fillL (fun i=>(fs[i]?).map fun f=>(f.1,f.2.1)) z ps=some L) (hd:Nat.blt d n=true) (k:WA P ops Q S fuel (li.setIfInBounds i true) n ds ((d,.agg L.toArray)::E) w):WA P ops Q S (fuel + 1) li n ds E w :=
 a_takeR _C hi hs hf hr (fun c a w h=>hQ c a w _ h) hS (fun a ha=>r_build hT ht hp hL _ ha) hd k
theorem hold_load {w:World} {x:Bx} (h:(bxB x).holds w):Loads Try.prog 97 ⟨x.g,0,none⟩ (.agg [.int .i64 x.pg,.string ⟨x.data.toArray⟩,.slice x.p x.fx.length x.c].toArray) w:=by
 unfold bxB at h
 (with_reducible apply Loads.st tabOk)
 ·exact rfl
 ·exact fun j v hj=>by rw [Nat.zero_add];exact holdC h hj
 ·exact rfl
theorem join_nil {A:List Ar} {a:Ar} (h:A.length=0):joinStep A a=A++[a]:=by
 obtain rfl:=List.length_eq_zero_iff.1 h
 rfl
theorem last_at {A:List Ar} {k:Nat} {b:Ar} (hk:k + 1=A.length) (hb:A[k]?=some b):A.getLast?=some b:=by
 rw [List.getLast?_eq_getElem?,← hk];exact hb
theorem join_set {A:List Ar} {a b:Ar} {k:Nat} (hk:k + 1=A.length) (hb:A[k]?=some b) (hal:b.alike a):joinStep A a=A.set k { b with n:=b.n + a.n }:=by
 unfold joinStep
 rw [last_at hk hb]
 dsimp only
 rw [if_pos hal]
 obtain ⟨o,rfl⟩:=List.getLast?_eq_some_iff.1 (last_at hk hb)
 rw [List.dropLast_concat]
 rw [List.length_append,List.length_singleton] at hk
 obtain rfl:k=o.length:=by omega
 simp
theorem join_app {A:List Ar} {a b:Ar} {k:Nat} (hk:k + 1=A.length) (hb:A[k]?=some b) (hal:¬ b.alike a):joinStep A a=A++[a]:=by
 unfold joinStep
 rw [last_at hk hb]
 dsimp only
 rw [if_neg hal]
def pgN (b0:Int) (l:List Sg):Nat:=(pgsO b0 l).length
theorem pgN_step {b0:Int} {l:List Sg} {j:Nat} {s:Sg} (h:l[j]?=some s):pgN b0 (l.take (j + 1))=pgN b0 (l.take j) + s.n.toNat:=by
 unfold pgN
 rw [pgsO_step h,List.length_append,pgsS_len]
set_option maxRecDepth 100000 in
set_option maxHeartbeats 8000000 in
theorem lay_fn {F:Nat→Prop} {w0 w:World} {Γ:List Asr} {go gw da dq:Nat} {qa qs:Option Addr} {en:Int} {A:List Ar} {Lp:List (Sh×Value)} {lv:Value} {os:List Ob} {o:Ob} {b0:Int}
  (hS0:St F w0 w (LyS go qa da qs dq en A Lp++Γ)) (hc:Bs (fps (LyS go qa da qs dq en A Lp)) w ⟨gw,2,none⟩ lv) (hl:Sl (fps (LyS go qa da qs dq en A Lp)) w 7 lv (os.map obC)) (hO:∀ x ∈ os,ImF (fps (LyS go qa da qs dq en A Lp)) w x)
  (hr:∀ x ∈ os,∀ s ∈ x.im.syms,-9223372036854775808≤x.at_ + s.at_∧x.at_ + s.at_≤9223372036854775807) (ho:o ∈ os) (hat:o.at_=b0 * 16) (h0:1≤b0) (h1:b0≤100000) (hs2:o.im.segs.all sgOk=true) (hch:Ch o.im.segs) (hpl:Plc o.im) (hrl:o.im.rels.length≤16) (hsl:o.im.segs.length≤6)
  (hA:AOk A) (hAl:A.length≤100000) (hLl:Lp.length≤100000) :
  Fn Try.prog 63 [.pointer (some ⟨gw,0,none⟩),.agg (obC o).toArray,.pointer (some ⟨go,0,none⟩)] w (fun v w'=>(symsIn (obP os) o.at_ o.im.rels=false∧v=.int .i64 7∧St (fps (LyS go qa da qs dq en A Lp)) w w' [])∨(symsIn (obP os) o.at_ o.im.rels=true∧v=.int .i64 0∧∃ qa' da' qs' dq' N,N.map (·.1)=shO (obP os) o.im b0∧St (fps (LyS go qa da qs dq en A Lp)) w w' (LyS go qa' da' qs' dq' en (arsO A b0 o.im.segs) (Lp++N)++N.map fxRow))):=by
 refine yEn Try.func63 Try.ntmps63 ?_
 have hS:=St.startM hS0
 generalize hG:fps (LyS go qa da qs dq en A Lp)=G at hS hc hl hO ⊢
 clear hS0 hG
 have hOo:=hO o ho
 obtain ⟨I,vn,vs,vy,vr,at_⟩:=o
 dsimp only at hat hs2 hch hpl hrl hsl ⊢
 subst hat
 have hI:ImV w I vn vs vy vr:=hOo.now hS
 have bn:=hI.needs.bound;have bs:=hI.segs.bound;have by_:=hI.syms.bound;have br:=hI.rels.bound;obtain ⟨pn,cn,rfl⟩:=hI.needs.len;obtain ⟨ps,cs,rfl⟩:=hI.segs.len;obtain ⟨py,cy,rfl⟩:=hI.syms.len;obtain ⟨pr,cr,rfl⟩:=hI.rels.len
 unfold obC
 simp only [LyS] at hS
 repeat' (first|refine yO ?_|(refine yM ?_;clear hS;intro g w' hS))
 obtain ⟨g4,hg4⟩:∃ g4,g4=g:=⟨_,rfl⟩
 rw [← hg4] at hS ⊢
 clear hg4 hI
 have hI:ImV _ I (.slice pn I.needs.length cn) (.slice ps I.segs.length cs) (.slice py I.syms.length cy) (.slice pr I.rels.length cr):=hOo.now hS
 ((with_reducible apply l_call);exact rfl;exact rfl;exact sheets_fn hI hs2 hch h0 h1;exact rfl;rintro _ w' ⟨r,es,c,bs,rfl,hM,hK,hS'⟩)
 replace hS:=(hS.trans hS').perm List.perm_append_comm
 clear hS'
 simp only [List.cons_append,List.nil_append] at hS
 repeat' ((refine yO ?_))
 refine c_loopK (Γ:=[]) (X:=Nat×List Bx) (fun x=>[(26,.int .i64 (x.1:Nat))]) [0,2,4,7,24,25] rfl (fun x=>.blk g4 [.string ⟨I.name.toArray⟩,.slice pn I.needs.length cn,.slice ps I.segs.length cs,.slice py I.syms.length cy,.slice pr I.rels.length cr,.int .i64 I.entry,.int .i64 (b0 * 16)]::(LyS go qa da qs dq en A Lp++(.obj r (.map es c)::bxs x.2))) (fun x=>x.1≤I.rels.length∧symsIn (obP os) (b0 * 16) (I.rels.take x.1)=true∧MapG (.int .i64) es (x.2.map kvB)∧x.2.map keyB=(pgsO b0 I.segs).map (keyF (fxAll (obP os) (b0 * 16) (I.rels.take x.1)))) (fun x=>I.rels.length - x.1) (0,bs) (by exact zS) ⟨Nat.zero_le _,rfl,hM,?_⟩ (by simpa only [LyS,List.cons_append,List.nil_append,List.append_nil] using hS) ?_
 ·rw [hK]
  refine (List.map_id' _).symm.trans (List.map_congr_left fun k hk=>?_)
  obtain ⟨s,-,hk⟩:=List.mem_flatMap.1 hk
  obtain ⟨m,-,rfl⟩:=pgsS_mem hk
  rfl
 clear hS hM hK
 have hrels:Sl G w 3 (.slice pr I.rels.length cr) (I.rels.map rlC):=hOo.rels
 rintro ⟨i,bs⟩ w1 ⟨hi,hsy,hM,hK⟩ hS
 dsimp only [] at hi hsy hM hK hS ⊢
 simp only [LyS,List.cons_append,List.nil_append,List.append_nil] at hS
 by_cases hlt:i < I.rels.length
 rotate_left
 ·rw [List.take_of_length_le (by omega)] at hsy hK
  repeat' (first|refine yO ?_|(refine yS ?_ ?_;all_goals (intro hb hp;try (exfalso;omega))))
  refine c_loopK (Γ:=[]) (X:=Nat×(Option Addr×Nat)×(Option Addr×Nat)×List Ar×List (Sh×Value)) (fun x=>[(65,.int .i64 (x.1:Nat))]) [2,4,7,63,64] rfl (fun x=>.blk g4 [.string ⟨I.name.toArray⟩,.slice pn I.needs.length cn,.slice ps I.segs.length cs,.slice py I.syms.length cy,.slice pr I.rels.length cr,.int .i64 I.entry,.int .i64 (b0 * 16)]::(LyS go x.2.1.1 x.2.1.2 x.2.2.1.1 x.2.2.1.2 en x.2.2.2.1 x.2.2.2.2++(.obj r (.map es c)::bxs bs))) (fun x=>x.1≤I.segs.length∧x.2.2.2.1=arsO A b0 (I.segs.take x.1)∧x.2.2.2.2=Lp++(bs.take (pgN b0 (I.segs.take x.1))).map bxSh∧AOk x.2.2.2.1∧x.2.2.2.1.length≤A.length + x.1) (fun x=>I.segs.length - x.1) (0,(qa,da),(qs,dq),A,Lp) (by exact zS) ⟨Nat.zero_le _,rfl,by simp [pgN,pgsO],hA,Nat.le_refl _⟩ (by simpa only [LyS,List.cons_append,List.nil_append,List.append_nil] using hS) ?_
  clear hS
  rintro ⟨j,⟨qa,da⟩,⟨qs,dq⟩,A',L'⟩ w2 ⟨hj,hA',hL',hAo,hAl'⟩ hS
  dsimp only [] at hj hA' hL' hAo hAl' hS ⊢
  simp only [LyS,List.cons_append,List.nil_append,List.append_nil] at hS
  have hbl:bs.length=pgN b0 I.segs:=by
   have:=congrArg List.length hK
   rwa [List.length_map,List.length_map] at this
  by_cases hjt:j < I.segs.length
  rotate_left
  ·rw [List.take_of_length_le (l:=I.segs) (by omega)] at hA' hL'
   rw [List.take_of_length_le (l:=bs) (by omega)] at hL'
   repeat' (first|refine yO ?_|(refine yS ?_ ?_;all_goals (intro hb hp;try (exfalso;omega))))
   refine yR1 ?_
   refine Or.inr ⟨hsy,rfl,qa,da,qs,dq,bs.map bxSh,bx_shs hK,?_⟩
   rw [← hA',← hL']
   rw [List.map_map]
   refine hS.drop.sub ?_
   exact (List.Sublist.refl (LyS go qa da qs dq en A' L')).append ((List.sublist_append_right _ _).cons _)
  obtain ⟨s,hs⟩:=lt_get (l:=I.segs) (i:=j) (by omega)
  have hrow:(I.segs.map sgC)[j]?=some [.int .i64 s.pg,.int .i64 s.n,.string ⟨s.data.toArray⟩,.bool s.wr,.bool s.ex]:=map_get (f:=sgC) hs
  have hsegs:Sl G w 5 (.slice ps I.segs.length cs) (I.segs.map sgC):=hOo.segs
  obtain ⟨b,off,rfl,hro⟩:=hsegs.atF (i:=j) hjt
  obtain ⟨y1,y2,y3,y4,y5⟩:=sg_ok hs2 hs
  have hquo:(b0 * 16).tdiv 16=b0:=Int.mul_tdiv_cancel _ (by omega)
  repeat' (first|refine yO ?_|(refine yM ?_;clear hS;intro g w' hS)|(refine yN ?_;clear hS;intro w' hS)|(refine yS ?_ ?_;all_goals (intro hb hp;try (exfalso;omega)))|((with_reducible apply l_quoT);exact rfl;exact rfl;omega;omega;omega;exact rfl))
  rw [hquo]
  obtain ⟨g5,hg5⟩:∃ g5,g5=g:=⟨_,rfl⟩
  rw [← hg5] at hS ⊢
  clear hg5
  refine c_mid (X:=Nat) (fun g6=>[(15,.pointer (some ⟨g5,0,none⟩)),(16,.int .i64 (b0 + s.pg)),(17,.pointer (some ⟨g6,0,none⟩)),(65,.int .i64 (j:Nat)),(2,.pointer (some ⟨go,0,none⟩)),(4,.pointer (some ⟨g4,0,none⟩)),(7,.map (some r)),(63,.slice (some ⟨b,off,none⟩) I.segs.length cs),(64,.int .i64 (I.segs.length:Nat))]) (fun g6 w'=>St G w w' (.blk g6 [.int .i64 (b0 + s.pg),.int .i64 s.n,.int .i64 (rgt s),.bool false]::.blk g5 [.int .i64 s.pg,.int .i64 s.n,.string ⟨s.data.toArray⟩,.bool s.wr,.bool s.ex]::.blk g4 [.string ⟨I.name.toArray⟩,.slice pn I.needs.length cn,.slice (some ⟨b,off,none⟩) I.segs.length cs,.slice py I.syms.length cy,.slice pr I.rels.length cr,.int .i64 I.entry,.int .i64 (b0 * 16)]::(LyS go qa da qs dq en A' L'++(.obj r (.map es c)::bxs bs)))) ?_ ?_
  ·have hrg:=fun w=>rights_fn s w
   unfold sgC at hrg
   refine c_heldS 8 rfl hS (by kernel_rfl) ?_
   intro wh hh
   clear hS
   have hS:=hh
   clear hh
   (refine xA (nn 0) ?_;refine ⟨hS,?_⟩)
   (refine xA (nn 1) ?_;refine ⟨hS,?_⟩)
   (refine xM (nn 2) ?_;refine ⟨hS,?_⟩)
   (refine xM (nn 3) ?_;refine ⟨hS,?_⟩)
   refine a_two (i:=4) (j:=6) (by kernel_rfl) ?_ ?_
   ·refine o_gets rfl (g_call (first:=[]) (caps:=[]) rfl rfl (hrg _)) rfl ?_
    rintro _ w' ⟨rfl,hS'⟩
    replace hS:=hS.transA hS'
    simp only [appA] at hS
    clear hS'
    refine ⟨hS,?_⟩
    (refine xD (nn 5) ?_;refine ⟨hS,?_⟩)
    refine a_one (i:=6) (by kernel_rfl) ?_
    refine o_gets rfl (g_allocT hS tabOk rfl rfl) rfl ?_
    rintro _ w' ⟨g,rfl,hS'⟩
    clear hS;have hS:=hS';clear hS'
    refine ⟨hS.drop,?_⟩
    refine a_one (i:=7) (by kernel_rfl) ?_
    refine o_gets0 (Φ:=fun _ w'=>St _ _ w' _) rfl (g_store hS tabOk (i:=0) rfl rfl rfl rfl rfl (Nat.le_of_ble_eq_true rfl) (List.all_eq_true.1 rfl)) ?_
    intro _ w' hS'
    simp only [List.set] at hS'
    clear hS;have hS:=hS';clear hS'
    refine ⟨hS.drop,?_⟩
    refine a_done (by kernel_rfl) ?_
    exact q_join g (by exact zS) hS
   ·refine o_gets rfl (g_allocT hS tabOk rfl rfl) rfl ?_
    rintro _ w' ⟨g,rfl,hS'⟩
    clear hS;have hS:=hS';clear hS'
    refine ⟨hS.drop,?_⟩
    refine a_one (i:=4) (by kernel_rfl) ?_
    refine o_gets rfl (g_call (first:=[]) (caps:=[]) rfl rfl (hrg _)) rfl ?_
    rintro _ w' ⟨rfl,hS'⟩
    replace hS:=hS.transA hS'
    simp only [appA] at hS
    clear hS'
    refine ⟨hS.drop,?_⟩
    (refine xD (nn 5) ?_;refine ⟨hS.drop,?_⟩)
    refine a_one (i:=7) (by kernel_rfl) ?_
    refine o_gets0 (Φ:=fun _ w'=>St _ _ w' _) rfl (g_store hS tabOk (i:=0) rfl rfl rfl rfl rfl (Nat.le_of_ble_eq_true rfl) (List.all_eq_true.1 rfl)) ?_
    intro _ w' hS'
    simp only [List.set] at hS'
    clear hS;have hS:=hS';clear hS'
    refine ⟨hS.drop,?_⟩
    refine a_done (by kernel_rfl) ?_
    exact q_join g (by exact zS) hS
  clear hS hro hquo
  intro g6 w3 hS
  simp only [LyS,List.cons_append,List.nil_append,List.append_nil] at hS
  repeat' ((refine yO ?_))
  replace hS:=St.reorderT 7 [4,3,0,1,2,5,6] hS (by decide) rfl
  simp only [appA,List.drop_succ_cons,List.drop_zero] at hS
  refine c_mid3 (X:=Option Addr×Nat×List Ar) (fun _=>[(15,.pointer (some ⟨g5,0,none⟩)),(16,.int .i64 (b0 + s.pg)),(65,.int .i64 (j:Nat)),(2,.pointer (some ⟨go,0,none⟩)),(4,.pointer (some ⟨g4,0,none⟩)),(7,.map (some r)),(63,.slice (some ⟨b,off,none⟩) I.segs.length cs),(64,.int .i64 (I.segs.length:Nat))]) (fun m w'=>m.2.2=joinStep A' (rawA b0 s)∧St G w w' (.blk g5 [.int .i64 s.pg,.int .i64 s.n,.string ⟨s.data.toArray⟩,.bool s.wr,.bool s.ex]::.blk g4 [.string ⟨I.name.toArray⟩,.slice pn I.needs.length cn,.slice (some ⟨b,off,none⟩) I.segs.length cs,.slice py I.syms.length cy,.slice pr I.rels.length cr,.int .i64 I.entry,.int .i64 (b0 * 16)]::(LyS go m.1 m.2.1 qs dq en m.2.2 L'++(.obj r (.map es c)::bxs bs)))) ?_ ?_
  ·by_cases hA0:A'.length=0
   ·have hap:=join_nil (a:=rawA b0 s) hA0
    (focus (refine yD ?_;(repeat' (first|refine yP ?_|(refine yQ ?_ ?_;all_goals (intro hb hp;try (exfalso;omega)))));all_goals (refine yZ ?_;clear hS;intro w' hS)))
    repeat' ((refine yO ?_))
    refine c_till (fun w'=>(Asr.blk go [.slice qa A'.length da,.slice qs L'.length dq,.int .i64 en]).holds w'∧(Asr.blk g6 [.int .i64 (b0 + s.pg),.int .i64 s.n,.int .i64 (rgt s),.bool false]).holds w') 10 11 rfl hS (by kernel_rfl) ?_
    intro w10 hS'
    clear hS;have hS:=hS';clear hS'
    have hH:=And.intro (hS.at_ (i:=1) rfl) (hS.at_ (i:=2) rfl)
    (refine xP (nn 0) ?_;refine ⟨Or.inr hH,?_⟩)
    (refine xP (nn 1) ?_;refine ⟨Or.inr hH,?_⟩)
    (refine xP (nn 2) ?_;refine ⟨Or.inr hH,?_⟩)
    (refine xP (nn 3) ?_;refine ⟨Or.inr hH,?_⟩)
    ((with_reducible apply t_takeL (nn 4));exact rfl;kernel_rfl;kernel_rfl;kernel_rfl;kernel_rfl;exact rfl;exact rfl;exact (fun _ _ _ h=>h);exact hH;exact rfl;(intro w2 hw2;((with_reducible apply Loads.sl tabOk);exact rfl;exact holdC hw2.1 rfl));exact rfl)
    ((with_reducible apply t_takeL (nn 5));exact rfl;kernel_rfl;kernel_rfl;kernel_rfl;kernel_rfl;exact rfl;exact rfl;exact (fun _ _ _ h=>h);exact hH;exact rfl;(intro w2 hw2;((with_reducible apply Loads.st tabOk);exact rfl;(exact fun j v hj=>by rw [Nat.zero_add];exact holdC hw2.2 hj);exact rfl));exact rfl)
    refine t_one (i:=6) (by kernel_rfl) ?_
    refine p_gets rfl (g_bslice hS tabOk rfl rfl rfl rfl rfl rfl) rfl ?_
    rintro _ w' ⟨g9,rfl,hS'⟩
    clear hS;have hS:=hS';clear hS'
    have hH:=And.intro (hS.at_ (i:=2) rfl) (hS.at_ (i:=3) rfl)
    refine ⟨Or.inr (Or.inr hH),?_⟩
    refine t_one (i:=7) (by kernel_rfl) ?_
    refine p_gets rfl (g_append hS tabOk (i:=1) rfl rfl rfl rfl (hS.rowRo 0 rfl) rfl (by simp only [List.length_map];omega)) rfl ?_
    rintro _ w' ⟨p',c',rfl,hS'⟩
    simp only [List.set] at hS'
    clear hS;have hS:=hS';clear hS'
    have hH:=And.intro (hS.at_ (i:=2) rfl) (hS.at_ (i:=3) rfl)
    refine ⟨Or.inr (Or.inr hH),?_⟩
    (refine xP (nn 8) ?_;refine ⟨Or.inr hH,?_⟩)
    (refine xP (nn 9) ?_;refine ⟨Or.inr hH,?_⟩)
    refine t_one (i:=10) (by kernel_rfl) ?_
    refine p_gets0 (Φ:=fun _ w'=>St _ _ w' _) rfl (g_store hS tabOk (i:=2) rfl rfl rfl rfl rfl (Nat.le_of_ble_eq_true rfl) (by intro u hu;simp [Value.cells] at hu;subst hu;rfl)) ?_
    intro _ w' hS'
    simp only [List.set] at hS'
    clear hS;have hS:=hS';clear hS'
    refine ⟨Or.inl rfl,?_⟩
    refine t_done (by kernel_rfl) ?_
    repeat' (fail)
    replace hS:=St.reorderT 8 [4,5,2,1,6,7] hS (by decide) rfl
    simp only [appA,List.drop_succ_cons,List.drop_zero] at hS
    rw [List.length_map] at hS
    refine q_join (p',c',A'++[rawA b0 s]) (by exact zS) ⟨hap.symm,?_⟩
    simp only [LyS,List.cons_append,List.nil_append,List.length_append,List.map_append,List.length_cons,List.length_nil,Nat.zero_add]
    exact hS
   ·obtain ⟨k,hk⟩:∃ k,k + 1=A'.length:=⟨A'.length - 1,by omega⟩
    have hix:((k:Nat):Int)=(A'.length:Int) - 1:=by omega
    have hkl:k < A'.length:=by omega
    obtain ⟨y,hy⟩:=lt_get (l:=A') (i:=k) (by omega)
    have hrow:(A'.map arC)[k]?=some [.int .i64 y.pg,.int .i64 y.n,.int .i64 y.prot,.bool y.z]:=map_get (f:=arC) hy
    obtain ⟨u1,u2,u3,u4,u5,u6⟩:=hAo y (List.mem_of_getElem? hy)
    rcases hS.rowForm 0 rfl with ⟨h1,h2⟩|⟨ba,cap,h1,h2,h3⟩
    ·exfalso
     simp only [Value.slice.injEq] at h1
     omega
    simp only [Value.slice.injEq] at h1
    obtain ⟨rfl,-,rfl⟩:=h1
    clear h2 h3
    by_cases e1:y.pg + y.n=b0 + s.pg
    ·have d1:decide (y.pg + y.n=b0 + s.pg)=true:=decide_eq_true e1
     by_cases e2:y.prot=rgt s
     ·have d2:decide (y.prot=rgt s)=true:=decide_eq_true e2
      have hap:=join_set (a:=rawA b0 s) hk hy ⟨e1,e2,u1⟩
      (focus (refine yD ?_;(repeat' (first|refine yP ?_|(refine yQ ?_ ?_;all_goals (intro hb hp;try (exfalso;omega)))));all_goals (refine yZ ?_;clear hS;intro w' hS)))
      repeat' ((refine yO ?_))
      (focus (refine yW (nn 14) ?_;(repeat' ((refine yP ?_)));all_goals (refine yZ ?_;clear hS;intro w' hS)))
      repeat' (first|refine yO ?_|(refine yT0 ?_;clear hS;intro w' hS))
      replace hS:=St.reorderT 7 [3,4,1,0,5,6] hS (by decide) rfl
      simp only [appA,List.drop_succ_cons,List.drop_zero] at hS
      refine q_join (some ⟨ba,0,none⟩,da,A'.set k { y with n:=y.n + s.n }) (by exact zS) ⟨hap.symm,?_⟩
      simp only [LyS,List.cons_append,List.nil_append,List.length_set,List.map_set]
      exact hS
     ·have d2:decide (y.prot=rgt s)=false:=decide_eq_false e2
      have hap:=join_app (a:=rawA b0 s) hk hy (fun h=>e2 h.2.1)
      (focus (refine yD ?_;(repeat' (first|refine yP ?_|(refine yQ ?_ ?_;all_goals (intro hb hp;try (exfalso;omega)))));all_goals (refine yZ ?_;clear hS;intro w' hS)))
      repeat' ((refine yO ?_))
      refine c_till (fun w'=>(Asr.blk go [.slice (some ⟨ba,0,none⟩) A'.length da,.slice qs L'.length dq,.int .i64 en]).holds w'∧(Asr.blk g6 [.int .i64 (b0 + s.pg),.int .i64 s.n,.int .i64 (rgt s),.bool false]).holds w') 10 11 rfl hS (by kernel_rfl) ?_
      intro w10 hS'
      clear hS;have hS:=hS';clear hS'
      have hH:=And.intro (hS.at_ (i:=1) rfl) (hS.at_ (i:=2) rfl)
      (refine xP (nn 0) ?_;refine ⟨Or.inr hH,?_⟩)
      (refine xP (nn 1) ?_;refine ⟨Or.inr hH,?_⟩)
      (refine xP (nn 2) ?_;refine ⟨Or.inr hH,?_⟩)
      (refine xP (nn 3) ?_;refine ⟨Or.inr hH,?_⟩)
      ((with_reducible apply t_takeL (nn 4));exact rfl;kernel_rfl;kernel_rfl;kernel_rfl;kernel_rfl;exact rfl;exact rfl;exact (fun _ _ _ h=>h);exact hH;exact rfl;(intro w2 hw2;((with_reducible apply Loads.sl tabOk);exact rfl;exact holdC hw2.1 rfl));exact rfl)
      ((with_reducible apply t_takeL (nn 5));exact rfl;kernel_rfl;kernel_rfl;kernel_rfl;kernel_rfl;exact rfl;exact rfl;exact (fun _ _ _ h=>h);exact hH;exact rfl;(intro w2 hw2;((with_reducible apply Loads.st tabOk);exact rfl;(exact fun j v hj=>by rw [Nat.zero_add];exact holdC hw2.2 hj);exact rfl));exact rfl)
      refine t_one (i:=6) (by kernel_rfl) ?_
      refine p_gets rfl (g_bslice hS tabOk rfl rfl rfl rfl rfl rfl) rfl ?_
      rintro _ w' ⟨g9,rfl,hS'⟩
      clear hS;have hS:=hS';clear hS'
      have hH:=And.intro (hS.at_ (i:=2) rfl) (hS.at_ (i:=3) rfl)
      refine ⟨Or.inr (Or.inr hH),?_⟩
      refine t_one (i:=7) (by kernel_rfl) ?_
      refine p_gets rfl (g_append hS tabOk (i:=1) rfl rfl rfl rfl (hS.rowRo 0 rfl) rfl (by simp only [List.length_map];omega)) rfl ?_
      rintro _ w' ⟨p',c',rfl,hS'⟩
      simp only [List.set] at hS'
      clear hS;have hS:=hS';clear hS'
      have hH:=And.intro (hS.at_ (i:=2) rfl) (hS.at_ (i:=3) rfl)
      refine ⟨Or.inr (Or.inr hH),?_⟩
      (refine xP (nn 8) ?_;refine ⟨Or.inr hH,?_⟩)
      (refine xP (nn 9) ?_;refine ⟨Or.inr hH,?_⟩)
      refine t_one (i:=10) (by kernel_rfl) ?_
      refine p_gets0 (Φ:=fun _ w'=>St _ _ w' _) rfl (g_store hS tabOk (i:=2) rfl rfl rfl rfl rfl (Nat.le_of_ble_eq_true rfl) (by intro u hu;simp [Value.cells] at hu;subst hu;rfl)) ?_
      intro _ w' hS'
      simp only [List.set] at hS'
      clear hS;have hS:=hS';clear hS'
      refine ⟨Or.inl rfl,?_⟩
      refine t_done (by kernel_rfl) ?_
      repeat' (fail)
      replace hS:=St.reorderT 8 [4,5,2,1,6,7] hS (by decide) rfl
      simp only [appA,List.drop_succ_cons,List.drop_zero] at hS
      rw [List.length_map] at hS
      refine q_join (p',c',A'++[rawA b0 s]) (by exact zS) ⟨hap.symm,?_⟩
      simp only [LyS,List.cons_append,List.nil_append,List.length_append,List.map_append,List.length_cons,List.length_nil,Nat.zero_add]
      exact hS
    ·have d1:decide (y.pg + y.n=b0 + s.pg)=false:=decide_eq_false e1
     have hap:=join_app (a:=rawA b0 s) hk hy (fun h=>e1 h.1)
     (focus (refine yD ?_;(repeat' (first|refine yP ?_|(refine yQ ?_ ?_;all_goals (intro hb hp;try (exfalso;omega)))));all_goals (refine yZ ?_;clear hS;intro w' hS)))
     repeat' ((refine yO ?_))
     refine c_till (fun w'=>(Asr.blk go [.slice (some ⟨ba,0,none⟩) A'.length da,.slice qs L'.length dq,.int .i64 en]).holds w'∧(Asr.blk g6 [.int .i64 (b0 + s.pg),.int .i64 s.n,.int .i64 (rgt s),.bool false]).holds w') 10 11 rfl hS (by kernel_rfl) ?_
     intro w10 hS'
     clear hS;have hS:=hS';clear hS'
     have hH:=And.intro (hS.at_ (i:=1) rfl) (hS.at_ (i:=2) rfl)
     (refine xP (nn 0) ?_;refine ⟨Or.inr hH,?_⟩)
     (refine xP (nn 1) ?_;refine ⟨Or.inr hH,?_⟩)
     (refine xP (nn 2) ?_;refine ⟨Or.inr hH,?_⟩)
     (refine xP (nn 3) ?_;refine ⟨Or.inr hH,?_⟩)
     ((with_reducible apply t_takeL (nn 4));exact rfl;kernel_rfl;kernel_rfl;kernel_rfl;kernel_rfl;exact rfl;exact rfl;exact (fun _ _ _ h=>h);exact hH;exact rfl;(intro w2 hw2;((with_reducible apply Loads.sl tabOk);exact rfl;exact holdC hw2.1 rfl));exact rfl)
     ((with_reducible apply t_takeL (nn 5));exact rfl;kernel_rfl;kernel_rfl;kernel_rfl;kernel_rfl;exact rfl;exact rfl;exact (fun _ _ _ h=>h);exact hH;exact rfl;(intro w2 hw2;((with_reducible apply Loads.st tabOk);exact rfl;(exact fun j v hj=>by rw [Nat.zero_add];exact holdC hw2.2 hj);exact rfl));exact rfl)
     refine t_one (i:=6) (by kernel_rfl) ?_
     refine p_gets rfl (g_bslice hS tabOk rfl rfl rfl rfl rfl rfl) rfl ?_
     rintro _ w' ⟨g9,rfl,hS'⟩
     clear hS;have hS:=hS';clear hS'
     have hH:=And.intro (hS.at_ (i:=2) rfl) (hS.at_ (i:=3) rfl)
     refine ⟨Or.inr (Or.inr hH),?_⟩
     refine t_one (i:=7) (by kernel_rfl) ?_
     refine p_gets rfl (g_append hS tabOk (i:=1) rfl rfl rfl rfl (hS.rowRo 0 rfl) rfl (by simp only [List.length_map];omega)) rfl ?_
     rintro _ w' ⟨p',c',rfl,hS'⟩
     simp only [List.set] at hS'
     clear hS;have hS:=hS';clear hS'
     have hH:=And.intro (hS.at_ (i:=2) rfl) (hS.at_ (i:=3) rfl)
     refine ⟨Or.inr (Or.inr hH),?_⟩
     (refine xP (nn 8) ?_;refine ⟨Or.inr hH,?_⟩)
     (refine xP (nn 9) ?_;refine ⟨Or.inr hH,?_⟩)
     refine t_one (i:=10) (by kernel_rfl) ?_
     refine p_gets0 (Φ:=fun _ w'=>St _ _ w' _) rfl (g_store hS tabOk (i:=2) rfl rfl rfl rfl rfl (Nat.le_of_ble_eq_true rfl) (by intro u hu;simp [Value.cells] at hu;subst hu;rfl)) ?_
     intro _ w' hS'
     simp only [List.set] at hS'
     clear hS;have hS:=hS';clear hS'
     refine ⟨Or.inl rfl,?_⟩
     refine t_done (by kernel_rfl) ?_
     repeat' (fail)
     replace hS:=St.reorderT 8 [4,5,2,1,6,7] hS (by decide) rfl
     simp only [appA,List.drop_succ_cons,List.drop_zero] at hS
     rw [List.length_map] at hS
     refine q_join (p',c',A'++[rawA b0 s]) (by exact zS) ⟨hap.symm,?_⟩
     simp only [LyS,List.cons_append,List.nil_append,List.length_append,List.map_append,List.length_cons,List.length_nil,Nat.zero_add]
     exact hS
  rintro ⟨qa',da',A2⟩ w4 ⟨hA2,hS⟩
  dsimp only [] at hA2 hS ⊢
  have hA3:A2=arsO A b0 (I.segs.take (j + 1)):=by rw [hA2,hA',arsO_step hs]
  have hrg:0≤rgt s∧rgt s≤3:=by unfold rgt;split <;> split <;> decide
  have hA4:AOk A2:=by
   rw [hA2]
   refine hAo.step ⟨rfl,?_,?_,?_,hrg⟩
   ·show 0≤b0 + s.pg
    omega
   ·show 0≤s.n
    omega
   ·show b0 + s.pg + s.n≤200000
    omega
  have hA5:A2.length≤A.length + (j + 1):=by
   have:=joinStep_len A' (rawA b0 s)
   rw [hA2]
   omega
  clear hA2 hA' hAo hAl' hA
  simp only [LyS,List.cons_append,List.nil_append,List.append_nil] at hS
  repeat' ((refine yO ?_))
  obtain ⟨m,hm⟩:∃ m:Nat,(m:Int)=s.n:=⟨s.n.toNat,by omega⟩
  refine c_loopK (Γ:=[]) (X:=Nat×(Option Addr×Nat)×List (Sh×Value)) (fun x=>[(151,.int .i64 (x.1:Nat))]) [16,65,2,4,7,63,64,150] rfl (fun x=>.blk g4 [.string ⟨I.name.toArray⟩,.slice pn I.needs.length cn,.slice (some ⟨b,off,none⟩) I.segs.length cs,.slice py I.syms.length cy,.slice pr I.rels.length cr,.int .i64 I.entry,.int .i64 (b0 * 16)]::(LyS go qa' da' x.2.1.1 x.2.1.2 en A2 x.2.2++(.obj r (.map es c)::bxs bs))) (fun x=>x.1≤m∧x.2.2=Lp++(bs.take (pgN b0 (I.segs.take j) + x.1)).map bxSh) (fun x=>m - x.1) (0,(qs,dq),L') (by exact zS) ⟨Nat.zero_le _,hL'⟩ (by simpa only [LyS,List.cons_append,List.nil_append,List.append_nil] using hS.drop) ?_
  clear hS hL'
  rintro ⟨n,⟨qs,dq⟩,L'⟩ w5 ⟨hn,hL'⟩ hS
  dsimp only [] at hn hL' hS ⊢
  simp only [LyS,List.cons_append,List.nil_append,List.append_nil] at hS
  by_cases hnt:n < m
  rotate_left
  ·obtain rfl:n=m:=by omega
   repeat' (first|refine yO ?_|(refine yS ?_ ?_;all_goals (intro hb hp;try (exfalso;omega))))
   refine q_loopK (j + 1,(qa',da'),(qs,dq),A2,L') (by exact zS) ⟨by show j + 1≤_;omega,hA3,?_,hA4,hA5⟩ (by simpa only [LyS,List.cons_append,List.nil_append,List.append_nil] using hS) (by show _ - (j + 1) < _ - j;omega)
   show L'=Lp++(bs.take (pgN b0 (I.segs.take (j + 1)))).map bxSh
   rw [hL',pgN_step hs,show s.n.toNat=n by omega]
  obtain ⟨x,hx,hxk⟩:∃ x:Bx,bs[pgN b0 (I.segs.take j) + n]?=some x∧x.pg=b0 + s.pg + n:=by
   have h1:=pgsO_at (b0:=b0) hs (show n < s.n.toNat by omega)
   have h2:=congrArg (fun l:List (Int×List UInt8×List Fx)=>l[pgN b0 (I.segs.take j) + n]?) hK
   rw [List.getElem?_map,List.getElem?_map] at h2
   unfold pgN at h2 ⊢
   rw [h1] at h2
   cases h3:bs[(pgsO b0 (I.segs.take j)).length + n]? with
   |none=>rw [h3] at h2;cases h2
   |some x=>
    rw [h3] at h2
    simp only [Option.map_some,Option.some.injEq] at h2
    exact ⟨x,rfl,congrArg (·.1) h2⟩
  have hxm:=List.mem_of_getElem? hx
  have hkv:(Value.int .i64 (b0 + s.pg + n),Value.pointer (some ⟨x.g,0,none⟩)) ∈ bs.map kvB:=List.mem_map.2 ⟨x,hxm,by unfold kvB;rw [hxk]⟩
  have hLl2:L'.length≤101540:=by
   have h1:=pgs_len_le (b0:=b0) hs2
   rw [hL',List.length_append,List.length_map,List.length_take]
   unfold pgN at hbl
   omega
  repeat' (first|refine yO ?_|(refine yS ?_ ?_;all_goals (intro hb hp;try (exfalso;omega))))
  refine c_till (fun w'=>(Asr.blk go [.slice qa' A2.length da',.slice qs L'.length dq,.int .i64 en]).holds w') 16 17 rfl hS (by kernel_rfl) ?_
  intro w10 hS'
  clear hS;have hS:=hS';clear hS'
  have hH:=hS.at_ (i:=1) rfl
  (refine xP (nn 0) ?_;refine ⟨Or.inr hH,?_⟩)
  (refine xP (nn 1) ?_;refine ⟨Or.inr hH,?_⟩)
  (refine xP (nn 2) ?_;refine ⟨Or.inr hH,?_⟩)
  (refine xP (nn 3) ?_;refine ⟨Or.inr hH,?_⟩)
  ((with_reducible apply t_takeL (nn 4));exact rfl;kernel_rfl;kernel_rfl;kernel_rfl;kernel_rfl;exact rfl;exact rfl;exact (fun _ _ _ h=>h);exact hH;exact rfl;(intro w2 hw2;((with_reducible apply Loads.sl tabOk);exact rfl;exact holdC hw2 rfl));exact rfl)
  (refine xP (nn 5) ?_;refine ⟨Or.inr hH,?_⟩)
  (refine xP (nn 6) ?_;refine ⟨Or.inr hH,?_⟩)
  (refine xP (nn 7) ?_;refine ⟨Or.inr hH,?_⟩)
  refine t_one (i:=8) (by kernel_rfl) ?_
  refine p_gets rfl (Gets.of_runs fun a ha=>r_add rfl rfl (by omega) (by omega) a ha _) rfl ?_
  rintro _ _ ⟨rfl,rfl⟩
  refine ⟨Or.inr (Or.inr hH),?_⟩
  refine t_one (i:=9) (by kernel_rfl) ?_
  refine p_gets rfl (g_look hS (i:=4) mt_sheets ut_int rfl rfl rfl hM (k:=.int .i64 (b0 + s.pg + n)) rfl hkv false) rfl ?_
  rintro _ _ ⟨rfl,rfl⟩
  refine ⟨Or.inr (Or.inr hH),?_⟩
  refine t_one (i:=10) (by kernel_rfl) ?_
  refine p_gets rfl (Gets.pure (v:=.pointer (some ⟨x.g,0,none⟩)) tabOk (by exact rfl)) rfl ?_
  rintro _ _ ⟨rfl,rfl⟩
  refine ⟨Or.inr (Or.inr hH),?_⟩
  have hxh:=hS.holds (bxB x) (by simp only [List.mem_cons,bxs,List.mem_append];exact Or.inr (Or.inr (Or.inr (Or.inr (Or.inr (Or.inl (List.mem_map.2 ⟨x,hxm,rfl⟩)))))))
  refine t_one (i:=11) (by kernel_rfl) ?_
  refine p_gets rfl (g_load rfl (hold_load hxh)) rfl ?_
  rintro _ _ ⟨rfl,rfl⟩
  refine ⟨Or.inr (Or.inr hH),?_⟩
  clear hxh
  refine t_one (i:=12) (by kernel_rfl) ?_
  refine p_gets rfl (g_bslice hS tabOk rfl rfl rfl rfl rfl rfl) rfl ?_
  rintro _ w' ⟨g9,rfl,hS'⟩
  clear hS;have hS:=hS';clear hS'
  have hH:=hS.at_ (i:=2) rfl
  refine ⟨Or.inr (Or.inr hH),?_⟩
  refine t_one (i:=13) (by kernel_rfl) ?_
  refine p_gets rfl (g_append hS tabOk (i:=4) rfl rfl rfl rfl (hS.rowRo 0 rfl) rfl (by simp only [List.length_map];omega)) rfl ?_
  rintro _ w' ⟨p',c',rfl,hS'⟩
  simp only [List.set] at hS'
  clear hS;have hS:=hS';clear hS'
  have hH:=hS.at_ (i:=2) rfl
  refine ⟨Or.inr (Or.inr hH),?_⟩
  (refine xP (nn 14) ?_;refine ⟨Or.inr hH,?_⟩)
  (refine xP (nn 15) ?_;refine ⟨Or.inr hH,?_⟩)
  refine t_one (i:=16) (by kernel_rfl) ?_
  refine p_gets0 (Φ:=fun _ w'=>St _ _ w' _) rfl (g_store hS tabOk (i:=2) rfl rfl rfl rfl rfl (Nat.le_of_ble_eq_true rfl) (by intro u hu;simp [Value.cells] at hu;subst hu;rfl)) ?_
  intro _ w' hS'
  simp only [List.set] at hS'
  clear hS;have hS:=hS';clear hS'
  refine ⟨Or.inl rfl,?_⟩
  refine t_done (by kernel_rfl) ?_
  repeat' ((refine yO ?_))
  rw [List.length_map] at hS
  have hS2:=hS.drop
  clear hS
  refine q_loopK (n + 1,(p',c'),L'++[bxSh x]) (by exact zS) ⟨by show n + 1≤m;omega,?_⟩ ?_ (by show m - (n + 1) < m - n;omega)
  ·show L'++[bxSh x]=Lp++(bs.take (pgN b0 (I.segs.take j) + (n + 1))).map bxSh
   rw [hL',← Nat.add_assoc,List.take_add_one,hx]
   simp only [Option.toList_some,List.map_append,List.map_cons,List.map_nil,List.append_assoc]
  ·simp only [LyS,List.cons_append,List.nil_append,List.append_nil,List.length_append,List.map_append,List.length_cons,List.length_nil,Nat.zero_add]
   exact hS2
 obtain ⟨x,hx⟩:=lt_get (l:=I.rels) (i:=i) (by omega)
 have hrow:(I.rels.map rlC)[i]?=some [.int .i64 x.at_,.string ⟨x.name.toArray⟩,.int .i64 x.add]:=map_get (f:=rlC) hx
 obtain ⟨b,off,rfl,hro⟩:=hrels.atF (i:=i) hlt
 obtain ⟨⟨x1,x2⟩,x3⟩:=hpl.rels i x hx
 obtain ⟨k1,k2,k3⟩:=bx_keys hK
 have hnd:(bs.map (·.pg)).Nodup:=by rw [k1];exact pgs_nodup hch hs2
 have hpp:∀ d:Nat,d < 8→∃ b ∈ bs,b.pg=(b0 * 16 + x.at_ + d) / 16:=fun d hd=>by
  obtain ⟨k,hk,e⟩:=pgs_there (b0:=b0) (x3 d (by omega) (by omega))
  obtain ⟨b,hb,e2⟩:=k2 k hk
  exact ⟨b,hb,by rw [e2,e];congr 1;omega⟩
 have hfx:∀ b ∈ bs,b.fx.length≤1000000:=fun b hb=>by
  obtain ⟨k,-,-,-,e⟩:=k3 b hb
  have:=fxAll_len (obP os) (b0 * 16) (I.rels.take i) k.1
  rw [List.length_take] at this
  rw [e]
  omega
 have hnext:∀ (s:List UInt8) (bs2:List Bx),bytesOf (obP os) (b0 * 16) x=some s→bs2.map gK=bs.map (gF (b0 * 16 + x.at_) s)→i + 1≤I.rels.length∧symsIn (obP os) (b0 * 16) (I.rels.take (i + 1))=true∧MapG (.int .i64) es (bs2.map kvB)∧bs2.map keyB=(pgsO b0 I.segs).map (keyF (fxAll (obP os) (b0 * 16) (I.rels.take (i + 1)))):=fun s bs2 hb h2=>by
  refine ⟨by omega,all_take_succ hsy hx (by rw [hb];rfl),?_,bx_fix hK h2 fun p=>?_⟩
  ·rw [keyG_kv (f:=fun b=>(b.pg,b.data,b.fx++fxOf (b0 * 16 + x.at_) s b.pg)) (fun _=>rfl) h2];exact hM
  ·rw [fxAll_step hx]
   unfold bytesT
   rw [hb]
   rfl
 by_cases hn:x.name=[]
 ·have hd:(!decide (x.name=[]))=false:=by rw [decide_eq_true hn];rfl
  have hby:bytesOf (obP os) (b0 * 16) x=some (leB (IntKind.i64.wrap (b0 * 16 + x.add)) 8):=by unfold bytesOf;rw [if_pos hn];rfl
  repeat' (first|refine yO ?_|(refine yM ?_;clear hS;intro g w' hS)|(refine yN ?_;clear hS;intro w' hS)|(refine yS ?_ ?_;all_goals (intro hb hp;try (exfalso;omega)))|((with_reducible apply l_call);exact rfl;exact rfl;exact put8 _ _;exact rfl;rintro _ w' ⟨rfl,hS'⟩;replace hS:=hS.transA hS';simp only [appA] at hS;clear hS'))
  repeat' (fail)
  replace hS:=hS.rotA 5
  simp only [List.drop_succ_cons,List.drop_zero,List.take_succ_cons,List.take_zero] at hS
  ((with_reducible apply l_call);exact rfl;exact rfl;exact fix_fn hS hM (leB_length _ _) (by omega) (by omega) hpp hnd hfx;exact rfl;rintro _ w' ⟨bs2,hK2,hS'⟩)
  replace hS:=(St.transM (Θ:=.obj r (.map es c)::bxs bs) hS hS').perm List.perm_append_comm
  clear hS'
  simp only [List.cons_append,List.nil_append] at hS
  replace hS:=St.reorderT 5 [1,2,3,4] hS (by decide) rfl
  simp only [appA,List.drop_succ_cons,List.drop_zero] at hS
  repeat' ((refine yO ?_))
  exact q_loopK (i + 1,bs2) (by exact zS) (hnext _ _ hby hK2) (by simpa only [LyS,List.cons_append,List.nil_append,List.append_nil] using hS) (by show _ - (i + 1) < _ - i;omega)
 ·have hd:(!decide (x.name=[]))=true:=by rw [decide_eq_false hn];rfl
  repeat' (first|refine yO ?_|(refine yM ?_;clear hS;intro g w' hS)|(refine yN ?_;clear hS;intro w' hS)|(refine yS ?_ ?_;all_goals (intro hb hp;try (exfalso;omega))))
  have hadr:=address_fn (gw:=gw) x.name (Bs.of (hS.bs hc)) (hl.now hS) (fun y hy=>(hO y hy).now hS) hr
  cases had:adr (obP os) x.name with
  |none=>
   rw [had] at hadr
   unfold AdrV at hadr
   repeat' (first|refine yO ?_|((with_reducible apply l_call);exact rfl;exact rfl;exact hadr;exact rfl;rintro _ w' ⟨rfl,hS'⟩;replace hS:=hS.transA hS';simp only [appA] at hS;clear hS'))
   refine yR1 ?_
   refine Or.inl ⟨all_no hx ?_,rfl,hS.sub (List.nil_sublist _)⟩
   unfold bytesOf
   rw [if_neg hn,had]
   rfl
  |some a=>
   have hby:bytesOf (obP os) (b0 * 16) x=some (leB (IntKind.i64.wrap (a + x.add)) 8):=by unfold bytesOf;rw [if_neg hn,had];rfl
   rw [had] at hadr
   unfold AdrV at hadr
   repeat' (first|refine yO ?_|((with_reducible apply l_call);exact rfl;exact rfl;exact hadr;exact rfl;rintro _ w' ⟨rfl,hS'⟩;replace hS:=hS.transA hS';simp only [appA] at hS;clear hS')|((with_reducible apply l_call);exact rfl;exact rfl;exact put8 _ _;exact rfl;rintro _ w' ⟨rfl,hS'⟩;replace hS:=hS.transA hS';simp only [appA] at hS;clear hS'))
   repeat' (fail)
   repeat' (fail)
   replace hS:=hS.rotA 5
   simp only [List.drop_succ_cons,List.drop_zero,List.take_succ_cons,List.take_zero] at hS
   ((with_reducible apply l_call);exact rfl;exact rfl;exact fix_fn hS hM (leB_length _ _) (by omega) (by omega) hpp hnd hfx;exact rfl;rintro _ w' ⟨bs2,hK2,hS'⟩)
   replace hS:=(St.transM (Θ:=.obj r (.map es c)::bxs bs) hS hS').perm List.perm_append_comm
   clear hS'
   simp only [List.cons_append,List.nil_append] at hS
   replace hS:=St.reorderT 5 [1,2,3,4] hS (by decide) rfl
   simp only [appA,List.drop_succ_cons,List.drop_zero] at hS
   repeat' ((refine yO ?_))
   exact q_loopK (i + 1,bs2) (by exact zS) (hnext _ _ hby hK2) (by simpa only [LyS,List.cons_append,List.nil_append,List.append_nil] using hS) (by show _ - (i + 1) < _ - i;omega)
end Go.Proofs.Ytejnpppejalhfac
/- slices.Grow and slices.Concat at images. -/
namespace Go.Proofs.Ytejnpppejalhfac
open Go.RowKit Go.Sort
theorem info_image:∃ i,(Try.prog).info? 116=some i∧i.zero=some (.agg #[.string ⟨#[]⟩,.slice none 0 0,.slice none 0 0,.slice none 0 0,.slice none 0 0,.int .i64 0])∧i.size=6∧i.bytes=120:=by
 have h:((Try.prog).info? 116).map (fun i=>(i.zero,i.size,i.bytes))=some (some (.agg #[.string ⟨#[]⟩,.slice none 0 0,.slice none 0 0,.slice none 0 0,.slice none 0 0,.int .i64 0]),6,120):=by kernel_rfl
 cases hq:(Try.prog).info? 116 with
 |none=>simp [hq] at h
 |some i=>
  simp [hq] at h
  exact ⟨i,rfl,h.1,h.2.1,h.2.2⟩
theorem st_of_row0 {w w':World} {e sz:Nat} {v:Value} (h:w'.ownsRow w.heap.size e sz v 0 []) (hb:Below w.heap.size w w'):St nF w w' [.row e sz v []]:=by
 refine ⟨hb.os,hb.tape,hb.output,hb.size,fun k hk _=>hb.block k hk,?_,?_,List.Pairwise.cons (by simp) List.Pairwise.nil⟩
 ·intro A hA
  simp only [List.mem_singleton] at hA
  subst hA
  refine ⟨?_,by simp,by simp⟩
  refine ⟨h.1,?_⟩
  rcases h.2 with hn|⟨g,cap,cur,rfl,hg,rest⟩
  ·exact .inl hn
  ·exact .inr ⟨g,cap,cur,rfl,Nat.zero_le _,rest⟩
 ·intro A hA k hk
  simp only [List.mem_singleton] at hA
  subst hA
  exact Or.inl (h.lt k hk).1
def GrowPostI (w:World) (e:Ending) (w':World):Prop:=∃ v,e=.returned v∧w'.ownsRow w.heap.size 116 6 v 0 []∧Below w.heap.size w w'
set_option maxRecDepth 100000 in
set_option maxHeartbeats 4000000 in
theorem growI (n:Nat) (hn:n≤3000) (w:World):Calls Try.prog 70 #[.slice none 0 0,.int .i64 n] w (GrowPostI w):=by
 have h1:¬ ((n:Int) < 0):=by omega
 by_cases h0:n=0
 ·subst h0
  go_enter Try.func70,Try.ntmps70
  go_wp2
  go_ret
  exact ⟨_,rfl,World.ownsRow_nil _ _ _ _,Below.refl _ _⟩
 obtain ⟨i0,hi0,hz0,hs0,hy0⟩:=info_image
 have hn1:wrap64 ((n:Int) - 0)=n:=wrap64_small _ (by omega) (by omega)
 have hbys:n * i0.bytes≤140737488355328:=by rw [hy0];omega
 obtain ⟨Z,hZ⟩:∃ Z:Array Value,Z=#[.string ⟨#[]⟩,.slice none 0 0,.slice none 0 0,.slice none 0 0,.slice none 0 0,.int .i64 0]:=⟨_,rfl⟩
 have hrz:∀ ty,(Builtin.append_ #[143,3] ty #[.slice none 0 0,.int .i64 n]).run Try.prog w =
   .ok (.slice (some ⟨w.heap.size,0,none⟩) n (grownCap w n 0 116)) (w.drew.alloc (.cells (#[]++Builtin.zeroCells Z n++Builtin.zeroCells Z (grownCap w n 0 116 - n)) 116)):=fun ty=>by
  have h:=Lib.run_append_grow_zeros (P:=Try.prog) w 143 3 ty 116 i0 _ .i64 .i64 Try.underlying143 Try.underlying3 hi0 hz0 none 0 0 [] (run_firstCells_none w.drew i0.size 0 0 0) n (by omega) (by omega) (by omega) (by omega) (by omega)
   (by rw [Nat.zero_add];exact growslice_fits (by omega) hbys)
  rw [Nat.zero_add] at h
  rw [hZ]
  exact h
 have hge:=grownCap_ge w n 0 116
 have hcm:=grownCap_le_maxLen w n 0 116 (by unfold maxLen;omega)
 have hG63:grownCap w n 0 116≤9223372036854775807:=by unfold maxLen at hcm;exact hcm
 have hzz:∀ k,(Builtin.zeroCells Z k).size=k * 6:=fun k=>by rw [hZ];simp [size_zeroCells]
 generalize grownCap w n 0 116=G at *
 have HZZ:=hid hzz
 have HHI:=hid hbys
 have HCM:=hid hcm
 clear hbys hi0 hz0 hs0 hy0 hzz hcm h1
 obtain ⟨cur,hcur⟩:∃ cur,cur=(#[]++Builtin.zeroCells Z n++Builtin.zeroCells Z (G - n)):=⟨_,rfl⟩
 rw [← hcur] at hrz
 have HCU:Hid (cur.size=G * 6):=hid (by
  rw [hcur,Array.size_append,Array.size_append,HZZ.out,HZZ.out]
  simp
  omega)
 clear hcur hZ
 go_enter Try.func70,Try.ntmps70
 go_wp2_with (at_builtin;refine Lib.wpList_append_run _ rfl _ _ _ _ rfl _ _ rfl rfl _ _ (hrz _) ?_)
 go_ret
 refine ⟨_,rfl,⟨rfl,Or.inr ⟨w.heap.size,G,cur,rfl,Nat.le_refl _,heap_alloc_new w.drew _,Nat.zero_le _,HCM.out,HCU.out,rfl⟩⟩,Below.alloc (Below.drew (Below.refl _ _)) (Nat.le_refl _) _⟩
theorem grow_fn (n:Nat) (hn:n≤3000) (w:World):Fn Try.prog 70 [.slice none 0 0,.int .i64 n] w (fun v w'=>St nF w w' [.row 116 6 v []]):=by
 refine ⟨⟨Try.f70,Try.func70,by kernel_rfl,by kernel_rfl⟩,?_⟩
 exact (growI n hn w).mono fun e w' ⟨v,he,hs,hb⟩=>⟨v,he,st_of_row0 hs hb⟩
end Go.Proofs.Ytejnpppejalhfac
/- slices.Concat of images. -/
namespace Go.Proofs.Ytejnpppejalhfac
open Go.RowKit Go.Sort
set_option maxRecDepth 100000 in
set_option maxHeartbeats 8000000 in
theorem concatI {w:World} {c:Nat} {v0 v1:Value} {ra rb:List (List Value)} (hr:RoAt nF w c 0 1 [[v0],[v1]]) (h0:Sl nF w 6 v0 ra) (h1:Sl nF w 6 v1 rb) (hA:ra.length≤1000) (hB:rb.length≤1000) :
  Fn Try.prog 60 [.slice (some ⟨c,0,none⟩) 2 2] w (fun u w'=>St nF w w' [.row 116 6 u (ra++rb)]):=by
 obtain ⟨p0,c0,rfl⟩:=h0.form
 obtain ⟨p1,c1,rfl⟩:=h1.form
 refine fn_enter (fn:=Try.f60) ⟨Try.func60,by kernel_rfl,by kernel_rfl⟩ (by exact rfl) Try.ntmps60 (by exact rfl) ?_
 have hS:=St.start w
 have hi0:(([[.slice p0 ra.length c0],[.slice p1 rb.length c1]]:List (List Value)))[0]?=some [.slice p0 ra.length c0]:=rfl
 have hi1:(([[.slice p0 ra.length c0],[.slice p1 rb.length c1]]:List (List Value)))[1]?=some [.slice p1 rb.length c1]:=rfl
 repeat' ((refine yO ?_))
 refine c_rounds 3 ?_
 repeat' (first|refine yO ?_|with_reducible apply q_rounds|(with_reducible apply wr_succ))
 have hg:=fun w=>grow_fn (ra.length + rb.length) (by omega) w
 rw [show ((ra.length + rb.length:Nat):Int)=0 + (ra.length:Int) + (rb.length:Int) by omega] at hg
 ((with_reducible apply l_call);exact rfl;exact rfl;exact hg _;exact rfl;rintro v w' hS';replace hS:=hS.transA hS';simp only [appA] at hS;clear hS')
 repeat' ((refine yO ?_))
 refine c_rounds 3 ?_
 repeat' (first|refine yO ?_|with_reducible apply q_rounds|(with_reducible apply wr_succ)|((with_reducible apply l_appendSl hS tabOk 0);(iterate 4 exact rfl);exact h0.now hS;(simp only [List.length_nil,List.length_append];omega);exact rfl;intro p' cap' w' hS';simp only [List.set] at hS';clear hS;have hS:=hS';clear hS')|((with_reducible apply l_appendSl hS tabOk 0);(iterate 4 exact rfl);exact h1.now hS;(simp only [List.length_nil,List.length_append];omega);exact rfl;intro p' cap' w' hS';simp only [List.set] at hS';clear hS;have hS:=hS';clear hS'))
 refine yR1 ?_
 exact hS
end Go.Proofs.Ytejnpppejalhfac
/- An image's names, counts, segments. -/
namespace Go.Proofs.Ytejnpppejalhfac
open Go.RowKit Go.Sort
end Go.Proofs.Ytejnpppejalhfac
