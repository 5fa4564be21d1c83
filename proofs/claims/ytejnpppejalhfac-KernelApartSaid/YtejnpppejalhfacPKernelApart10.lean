/- Texts that the proof stands on, one behind the other: Ke7, PlRun2, PlRun3, PlRun4, PlRun5, PlRun6, PlRun7, Ke16. -/
import Derived.Test.YtejnpppejalhfacPKernelApart9
/- All spaces gone through: the first that is not right. -/
namespace Go.Proofs.Ytejnpppejalhfac
open Go.RowKit Go.Sort
theorem Bs.nowM {F:Nat→Prop} {w0 w:World} {Θ Γ:List Asr} {p:Addr} {v:Value} (hb:Bs F w0 p v) (h:St F w0 w (Θ++Γ)):Bs (fps Θ) w p v:=⟨h.bs hb,fun ⟨A,hA,e⟩=>by
 rcases h.own A (List.mem_append_left _ hA) _ e with h1|h1
 ·have:=World.block_lt_of_cell? w0 p hb.cell
  omega
 ·exact hb.nf h1⟩
structure SpF (F:Nat→Prop) (w:World) (p:Sp):Prop where
 ar:Sl F w 4 p.va (p.s.areas.map arC)
 en:Sl F w 3 p.ve (p.s.entries.map enC)
theorem SpF.nowM {F:Nat→Prop} {w w':World} {Θ Γ:List Asr} {p:Sp} (h:SpF F w p) (hS:St F w w' (Θ++Γ)):SpF (fps Θ) w' p:=⟨h.ar.nowM hS,h.en.nowM hS⟩
def c9 (l:List Sc):List Nm:=l.flatMap fun s=>s.entries.map (dv s)
theorem dM (l:List Sc) (kind:Int) (i:Nat):(c9 l).filter (fun (n:Nm)=>decide (n.1.kind=kind∧n.1.at_=((i:Nat):Int)))=aN l kind i:=by
 induction l with
 |nil=>rfl
 |cons s l ih=>
  have h1:=rg s kind i
  unfold c9 aN at *
  rw [List.flatMap_cons,List.flatMap_cons,List.filter_append,ih,h1,List.flatMap_cons,List.flatMap_nil,List.append_nil]
theorem oV {A:List Ar} {nf ns:Int} (hc:bm A=0):∀ {es:List En} {last:Int},eN A nf ns last es=true→last≤255→last + (es.length:Int)≤255
 |[],last,_,h=>by simpa using h
 |e::es,last,h,_=>by
  replace h:(jZ A nf ns last e && eN A nf ns e.page es)=true:=h
  rw [Bool.and_eq_true] at h
  have h1:=h.1
  unfold jZ at h1
  rw [Bool.and_eq_true,decide_eq_true_eq] at h1
  obtain ⟨hs,hl,-⟩:=h1
  obtain ⟨a,ha⟩:=Option.isSome_iff_exists.1 hs
  have h2:=List.find?_some ha
  have h3:=(du hc ha).1
  unfold dz at h2
  rw [decide_eq_true_eq] at h2
  unfold Ar.ok at h3
  unfold Ar.fin at h2
  have:=oV hc h.2 (by omega)
  rw [List.length_cons]
  omega
theorem fV {l:List Sh} {nf ns:Int} {s:Sc} (h:cj l nf ns s=true):s.entries.length≤255∧0≤bT s.areas∧bT s.areas≤70000:=by
 unfold cj at h
 by_cases hl:s.live=true
 ·rw [if_pos hl,Bool.and_eq_true,Bool.and_eq_true,decide_eq_true_eq] at h
  obtain ⟨hAl,hgood⟩:=cL.1 h.1
  have h1:=oV h.1 h.2.2 (by omega)
  have hsum:=oa (eG hgood) s.areas.length
  rw [List.take_length] at hsum
  omega
 ·rw [if_neg hl,decide_eq_true_eq] at h
  rw [h.1,h.2]
  simp [bT]
theorem jz (l:List Sc) (s:Sc):bu (l++[s])=bu l + bT s.areas:=by unfold bu;simp
theorem lp (l:List Sc) (s:Sc):c9 (l++[s])=c9 l++s.entries.map (dv s):=by unfold c9;simp
theorem kn {l:List Sh} {nf ns:Int}:∀ {L:List Sc},L.all (cj l nf ns)=true→(c9 L).length≤255 * L.length∧0≤bu L∧bu L≤70000 * (L.length:Int)
 |[],_=>by simp [c9,bu]
 |s::L,h=>by
  rw [List.all_cons,Bool.and_eq_true] at h
  have h1:=fV h.1
  have h2:=kn h.2
  have e1:c9 (s::L)=s.entries.map (dv s)++c9 L:=by unfold c9;simp
  have e2:bu (s::L)=bT s.areas + bu L:=by unfold bu;simp
  rw [e1,e2,List.length_append,List.length_map,List.length_cons]
  omega
set_option maxRecDepth 100000 in
set_option maxHeartbeats 8000000 in
theorem xJ {F:Nat→Prop} {w0 w:World} {Γ:List Asr} {gl gk gc:Nat} {vsh vF vS:Value} {room:Int} {l:List (Sh×Value)} {NF NS:NL} {p:Sp}
  (hS0:St F w0 w (lkS gl (.pointer (some ⟨gk,0,none⟩)) vF vS room NF NS++Γ)) (hc:Bs (fps (lkS gl (.pointer (some ⟨gk,0,none⟩)) vF vS room NF NS)) w ⟨gc,0,none⟩ (.pointer (some ⟨gl,0,none⟩))) (hk:Bs (fps (lkS gl (.pointer (some ⟨gk,0,none⟩)) vF vS room NF NS)) w ⟨gk,0,none⟩ vsh) (hL:ShsF (fps (lkS gl (.pointer (some ⟨gk,0,none⟩)) vF vS room NF NS)) w l vsh) (hr:dJ 0 (shs l)=true)
  (hp:SpF (fps (lkS gl (.pointer (some ⟨gk,0,none⟩)) vF vS room NF NS)) w p) (hrm:0≤room∧room≤1000000) (hF:∀ x ∈ NF,x.2.length≤1000) (hSl:∀ x ∈ NS,x.2.length≤1000) :
  Fn Try.prog 26 [.agg (spC p).toArray,.pointer (some ⟨gc,0,none⟩)] w (fun v w'=>v=.bool (!cj (shs l) NF.length NS.length p.s)∧∃ NF' NS' room',St (fps (lkS gl (.pointer (some ⟨gk,0,none⟩)) vF vS room NF NS)) w w' (lkS gl (.pointer (some ⟨gk,0,none⟩)) vF vS room' NF' NS')∧(cj (shs l) NF.length NS.length p.s=true→room'=room + bT p.s.areas∧Grown NF NF' 1 (p.s.entries.map (dv p.s))∧Grown NS NS' 2 (p.s.entries.map (dv p.s)))):=by
 have hS:=St.startM hS0
 obtain ⟨pa,ca,hva⟩:=(hp.ar.now hS).form
 obtain ⟨pe,ce,hve⟩:=(hp.en.now hS).form
 obtain ⟨s,va,ve⟩:=p
 dsimp only at hva hve
 subst hva hve
 have hcall:∀ w1 Γ1,St (fps (lkS gl (.pointer (some ⟨gk,0,none⟩)) vF vS room NF NS)) w w1 (lkS gl (.pointer (some ⟨gk,0,none⟩)) vF vS room NF NS++Γ1)→_:=fun w1 Γ1 h=>uC h (hk.nowM h) (hL.nowM h) hr (hp.ar.nowM h) (hp.en.nowM h) hrm hF hSl
 generalize hG:fps (lkS gl (.pointer (some ⟨gk,0,none⟩)) vF vS room NF NS)=G at hS hk hL hp hcall hc ⊢
 unfold spC at hcall ⊢
 dsimp only at hcall ⊢
 refine ap (fn:=Try.f26) ⟨Try.func26,by kernel_rfl,by kernel_rfl⟩ (by exact rfl) Try.ntmps26 (by exact rfl) ?_
 repeat' (first|(first|((with_reducible apply ae aa);exact rfl;exact rfl)|((with_reducible apply ai);exact rfl;(first|((with_reducible apply Loads.sc aa);exact rfl;((exact hS.bs (by assumption))))|((with_reducible apply Loads.st aa);exact rfl;((exact hS.blkR 0 rfl));exact rfl));exact rfl)|((with_reducible apply bh hS);(iterate 3 exact rfl);intro g w' hS';clear hS;have hS:=hS';clear hS'))|(first|(with_reducible first|apply ah|apply ab|apply af|apply ac)))
 have hS2:=hS.perm (List.perm_append_singleton _ _).symm
 repeat' (first|(((with_reducible apply ae aa);exact rfl;exact rfl))|(first|(with_reducible first|apply af|apply ac|apply ax))|((with_reducible apply al);exact rfl;exact rfl;exact hcall _ _ hS2;exact rfl;rintro _ w2 ⟨rfl,NF',NS',room',h2,hg⟩))
 (apply ay);(repeat (first|exact ResL.nil|(apply ResL.tmp;exact rfl)))
 rw [← hG] at h2
 exact ⟨rfl,NF',NS',room',(St.transM hS2 h2).sub (List.sublist_append_left _ _),hg⟩
set_option maxRecDepth 100000 in
set_option maxHeartbeats 8000000 in
theorem tW {F:Nat→Prop} {w0 w:World} {Γ:List Asr} {gl gk gc:Nat} {vsh vF vS vsp:Value} {l:List (Sh×Value)} {NF NS:NL} {sp:List Sp}
  (hS0:St F w0 w (lkS gl (.pointer (some ⟨gk,0,none⟩)) vF vS 0 NF NS++Γ)) (hc:Bs (fps (lkS gl (.pointer (some ⟨gk,0,none⟩)) vF vS 0 NF NS)) w ⟨gc,0,none⟩ (.pointer (some ⟨gl,0,none⟩))) (hk:Bs (fps (lkS gl (.pointer (some ⟨gk,0,none⟩)) vF vS 0 NF NS)) w ⟨gk,0,none⟩ vsh) (hL:ShsF (fps (lkS gl (.pointer (some ⟨gk,0,none⟩)) vF vS 0 NF NS)) w l vsh) (hr:dJ 0 (shs l)=true)
  (hsl:Sl (fps (lkS gl (.pointer (some ⟨gk,0,none⟩)) vF vS 0 NF NS)) w 3 vsp (sp.map spC)) (hp:∀ p ∈ sp,SpF (fps (lkS gl (.pointer (some ⟨gk,0,none⟩)) vF vS 0 NF NS)) w p) (h4:sp.length≤4) (hF:∀ x ∈ NF,x.2=[]) (hSl:∀ x ∈ NS,x.2=[]) :
  Fn Try.prog 54 [vsp,.func (.func 26) #[] #[.pointer (some ⟨gc,0,none⟩)]] w (fun v w'=>(∃ i:Int,v=.int .i64 i∧decide (0≤i)=!(sp.map (·.s)).all (cj (shs l) NF.length NS.length))∧∃ NF' NS' room',St (fps (lkS gl (.pointer (some ⟨gk,0,none⟩)) vF vS 0 NF NS)) w w' (lkS gl (.pointer (some ⟨gk,0,none⟩)) vF vS room' NF' NS')∧((sp.map (·.s)).all (cj (shs l) NF.length NS.length)=true→room'=bu (sp.map (·.s))∧Grown NF NF' 1 (c9 (sp.map (·.s)))∧Grown NS NS' 2 (c9 (sp.map (·.s))))):=by
 have hS:=St.startM hS0
 have bnd:=(hsl.now hS).bound
 obtain ⟨pp,c,hpp⟩:=(hsl.now hS).form
 rw [List.length_map] at hpp
 subst hpp
 generalize hG:fps (lkS gl (.pointer (some ⟨gk,0,none⟩)) vF vS 0 NF NS)=G at hS hk hL hp hc hsl ⊢
 clear hS0
 refine ap (fn:=Try.f54) ⟨Try.func54,by kernel_rfl,by kernel_rfl⟩ (by exact rfl) Try.ntmps54 (by exact rfl) ?_
 repeat' (first|(((with_reducible apply ae aa);exact rfl;exact rfl))|(first|(with_reducible first|apply ah|apply ab|apply af|apply ac|apply ak)))
 refine be (Γ:=[]) (X:=Nat×NL×NL×Int) (fun x=>[(8,.int .i64 (x.1:Nat))]) [0,1,7] rfl (fun x=>lkS gl (.pointer (some ⟨gk,0,none⟩)) vF vS x.2.2.2 x.2.1 x.2.2.1) (fun x=>x.1≤sp.length∧((sp.map (·.s)).take x.1).all (cj (shs l) NF.length NS.length)=true∧x.2.2.2=bu ((sp.map (·.s)).take x.1)∧Grown NF x.2.1 1 (c9 ((sp.map (·.s)).take x.1))∧Grown NS x.2.2.1 2 (c9 ((sp.map (·.s)).take x.1))) (fun x=>sp.length - x.1) (0,NF,NS,0) (by repeat (first|exact Fr.sub_nil _|(apply Fr.sub_cons;exact rfl))) ⟨Nat.zero_le _,rfl,rfl,Grown.refl _ _,Grown.refl _ _⟩ (by simpa only [List.append_nil] using hS) ?_
 clear hS
 rintro ⟨i,MF,MS,room⟩ w1 ⟨hi,hall,hroom,hGF,hGS⟩ hS
 dsimp only at hi hall hroom hGF hGS hS ⊢
 by_cases hlt:i < sp.length
 rotate_left
 ·obtain rfl:i=sp.length:=by omega
  rw [List.take_of_length_le (by rw [List.length_map];omega)] at hall hroom hGF hGS
  rw [List.append_nil] at hS
  rw [hall]
  repeat' (first|(((with_reducible apply ae aa);exact rfl;exact rfl))|(first|(with_reducible first|apply ah|apply ab|apply af|apply ac|apply aW|apply ax|apply aw|apply aq))|(((with_reducible apply aB);exact rfl;all_goals (intro hb hp;try (exfalso;omega)))))
  (apply ay);(repeat (first|exact ResL.nil|(apply ResL.tmp;exact rfl)))
  exact ⟨⟨-1,rfl,rfl⟩,MF,MS,room,hS,fun _=>⟨hroom,hGF,hGS⟩⟩
 obtain ⟨x,hx⟩:=aK (l:=sp) (i:=i) (by omega)
 have hxs:(sp.map (·.s))[i]?=some x.s:=aA (f:=fun p:Sp=>p.s) hx
 have hrow:=aA (f:=spC) hx
 obtain ⟨b,off,rfl,hro⟩:=hsl.atF (i:=i) hlt
 have hxp:=hp x (List.mem_of_getElem? hx)
 have hbd:=kn hall
 have htl:((sp.map (·.s)).take i).length≤i:=by rw [List.length_take];omega
 have hlen:∀ {N M:NL} {kd:Int},(∀ x ∈ N,x.2=[])→Grown N M kd (c9 ((sp.map (·.s)).take i))→∀ x ∈ M,x.2.length≤1000:=fun {N M kd} hN hg y hy=>by
  obtain ⟨j,hj⟩:=List.mem_iff_getElem?.1 hy
  obtain ⟨z,hz⟩:=aK (l:=N) (i:=j) (by have:=au hj;rw [hg.1] at this;omega)
  obtain ⟨v,hv⟩:=hg.2 j z hz
  rw [hj] at hv
  cases hv
  show (z.2++_).length≤1000
  rw [hN z (List.mem_of_getElem? hz),List.nil_append]
  exact Nat.le_trans (List.length_filter_le _ _) (by omega)
 have hcall:=xJ hS (hc.nowM hS) (hk.nowM hS) (hL.nowM hS) hr (hxp.nowM hS) (by omega) (hlen hF hGF) (hlen hSl hGS)
 rw [hGF.1,hGS.1] at hcall
 obtain ⟨pa,ca,hva⟩:=(hxp.ar.now hS).form
 obtain ⟨pe,ce,hve⟩:=(hxp.en.now hS).form
 obtain ⟨s,va,ve⟩:=x
 dsimp only at hva hve hxs hcall
 subst hva hve
 unfold spC at hrow hcall
 dsimp only at hrow hcall
 have htk:=dK hxs
 repeat' (first|(first|((with_reducible apply aL);exact rfl;exact rfl;omega;omega;exact rfl)|((with_reducible apply ae aa);exact rfl;exact rfl)|((with_reducible apply ai);exact rfl;(((with_reducible apply Loads.st aa);exact rfl;((exact hS.roR (by assumption) (by assumption)));exact rfl));exact rfl)|((with_reducible apply bj aa);(iterate 3 exact rfl);((exact rfl));((omega));exact rfl))|(first|(with_reducible first|apply ah|apply ab|apply af|apply ac|apply ao|apply ak|apply ax|apply aj|apply aD|apply az))|(first|((with_reducible apply aB);exact rfl;all_goals (intro hb hp;try (exfalso;omega)))|((with_reducible apply pj);exact rfl;all_goals (intro hb hp;try (exfalso;omega))))|((with_reducible apply al);exact rfl;exact rfl;exact hcall;exact rfl;rintro _ w2 ⟨rfl,NF',NS',room',h2,hg⟩))
 ·have hbs:cj (shs l) NF.length NS.length s=false:=by simpa using hb
  have hno:(sp.map (·.s)).all (cj (shs l) NF.length NS.length)=false:=by
   rw [List.all_eq_false]
   exact ⟨s,List.mem_of_getElem? hxs,by rw [hbs];simp⟩
  (apply ay);(repeat (first|exact ResL.nil|(apply ResL.tmp;exact rfl)))
  exact ⟨⟨((i:Nat):Int),rfl,by rw [hno,decide_eq_true (by omega)];rfl⟩,NF',NS',room',(St.transM hS h2).sub (List.sublist_append_left _ _),fun h=>by rw [hno] at h;cases h⟩
 ·have hbs:cj (shs l) NF.length NS.length s=true:=by simpa using hb
  obtain ⟨g1,g2,g3⟩:=hg hbs
  refine aO (i + 1,NF',NS',room') (by repeat (first|exact Fr.sub_nil _|(apply Fr.sub_cons;exact rfl))) ⟨by show i + 1≤sp.length;omega,?_,?_,?_,?_⟩ (St.transM hS h2) (by show sp.length - (i + 1) < sp.length - i;omega)
  ·rw [htk,List.all_append,hall,List.all_cons,hbs];rfl
  ·rw [htk,jz,← hroom];exact g1
  ·rw [htk,lp];exact hGF.trans g2
  ·rw [htk,lp];exact hGS.trans g3
end Go.Proofs.Ytejnpppejalhfac
/- A frame put aside: who names what, behind it. -/
namespace Go.Proofs.Ytejnpppejalhfac
open Go.RowKit Go.Sort
def nm1 (s:Sc) (k a:Int):List Nm:=(s.entries.filter fun e=>decide (e.kind=k∧e.at_=a)).map (dv s)
theorem bZ (L:List Sc) (k a:Int):aN L k a=L.flatMap fun s=>nm1 s k a:=rfl
def mvN (t:Int) (n:Nm):Nm:=(⟨n.1.page,2,t⟩,n.2)
theorem lH (f:Int) (t:Option Int) (s:Sc):dv (cQ f t s)=dv s:=rfl
theorem mg {f:Int} {t:Option Int} {k a:Int} (h1:¬(k=1∧a=f)) (h2:k=2→t≠some a):∀ (l:List En),(l.filterMap (bW f t)).filter (fun e=>decide (e.kind=k∧e.at_=a))=l.filter (fun e=>decide (e.kind=k∧e.at_=a))
 |[]=>rfl
 |e::l=>by
  have ih:=mg h1 h2 l
  rw [List.filterMap_cons]
  unfold bW
  by_cases he:e.kind=1∧e.at_=f
  ·rw [if_pos he]
   have hn:¬(e.kind=k∧e.at_=a):=fun h=>h1 ⟨h.1.symm.trans he.1,h.2.symm.trans he.2⟩
   rw [List.filter_cons_of_neg (by simpa using hn)]
   cases t with
   |none=>exact ih
   |some s=>
    show List.filter _ (_::_)=_
    rw [List.filter_cons_of_neg]
    ·exact ih
    ·rw [decide_eq_true_eq]
     rintro ⟨h3,h4⟩
     exact h2 h3.symm (by rw [show s=a from h4])
  ·rw [if_neg he]
   show List.filter _ (e::_)=_
   by_cases hn:e.kind=k∧e.at_=a
   ·rw [List.filter_cons_of_pos (by simpa using hn),List.filter_cons_of_pos (by simpa using hn)]
    exact congrArg _ ih
   ·rw [List.filter_cons_of_neg (by simpa using hn),List.filter_cons_of_neg (by simpa using hn)]
    exact ih
theorem lA {f:Int} {t:Option Int}:∀ (l:List En),(l.filterMap (bW f t)).filter (fun e=>decide (e.kind=1∧e.at_=f))=[]
 |[]=>rfl
 |e::l=>by
  have ih:=lA (f:=f) (t:=t) l
  rw [List.filterMap_cons]
  unfold bW
  by_cases he:e.kind=1∧e.at_=f
  ·rw [if_pos he]
   cases t with
   |none=>exact ih
   |some s=>
    show List.filter _ (_::_)=_
    rw [List.filter_cons_of_neg]
    ·exact ih
    ·rw [decide_eq_true_eq]
     rintro ⟨h3,-⟩
     cases h3
  ·rw [if_neg he]
   show List.filter _ (e::_)=_
   rw [List.filter_cons_of_neg (by simpa using he)]
   exact ih
theorem kJ {f t:Int}:∀ (l:List En),(l.filter fun e=>decide (e.kind=2∧e.at_=t))=[]→(l.filterMap (bW f (some t))).filter (fun e=>decide (e.kind=2∧e.at_=t))=(l.filter fun e=>decide (e.kind=1∧e.at_=f)).map fun e=>⟨e.page,2,t⟩
 |[],_=>rfl
 |e::l,h=>by
  have hn:¬(e.kind=2∧e.at_=t):=fun hh=>by
   rw [List.filter_cons_of_pos (by simpa using hh)] at h
   cases h
  rw [List.filter_cons_of_neg (by simpa using hn)] at h
  have ih:=kJ (f:=f) (t:=t) l h
  rw [List.filterMap_cons]
  unfold bW
  by_cases he:e.kind=1∧e.at_=f
  ·rw [if_pos he,List.filter_cons_of_pos (by simpa using he)]
   show List.filter _ (_::_)=_
   rw [List.filter_cons_of_pos (by simp),List.map_cons]
   exact congrArg _ ih
  ·rw [if_neg he]
   show List.filter _ (e::_)=_
   rw [List.filter_cons_of_neg (by simpa using hn),List.filter_cons_of_neg (by simpa using he)]
   exact ih
theorem uJ {f:Int} {t:Option Int} {k a:Int} (h1:¬(k=1∧a=f)) (h2:k=2→t≠some a) (s:Sc):nm1 (cQ f t s) k a=nm1 s k a:=by
 unfold nm1
 rw [lH]
 exact congrArg _ (mg h1 h2 s.entries)
theorem vq {f:Int} {t:Option Int} (s:Sc):nm1 (cQ f t s) 1 f=[]:=by
 unfold nm1
 rw [show (cQ f t s).entries=s.entries.filterMap (bW f t) from rfl,lA]
 rfl
theorem sO {f t:Int} {s:Sc} (h:nm1 s 2 t=[]):nm1 (cQ f (some t) s) 2 t=(nm1 s 1 f).map (mvN t):=by
 unfold nm1 at h ⊢
 rw [List.map_eq_nil_iff] at h
 rw [lH,show (cQ f (some t) s).entries=s.entries.filterMap (bW f (some t)) from rfl,kJ _ h,List.map_map,List.map_map]
 rfl
theorem ir {f:Int} {t:Option Int} {k a:Int} (h1:¬(k=1∧a=f)) (h2:k=2→t≠some a) (L:List Sc):aN (L.map (cQ f t)) k a=aN L k a:=by
 rw [bZ,bZ,List.flatMap_map]
 exact congrArg (fun g=>List.flatMap g L) (funext fun s=>uJ h1 h2 s)
theorem kL {f:Int} {t:Option Int} (L:List Sc):aN (L.map (cQ f t)) 1 f=[]:=by
 rw [bZ,List.flatMap_map,List.flatMap_eq_nil_iff]
 exact fun s _=>vq s
theorem jC {f t:Int}:∀ {L:List Sc},aN L 2 t=[]→aN (L.map (cQ f (some t))) 2 t=(aN L 1 f).map (mvN t)
 |[],_=>rfl
 |s::L,h=>by
  rw [bZ,List.flatMap_cons,List.append_eq_nil_iff] at h
  rw [List.map_cons,bZ,List.flatMap_cons,bZ,List.flatMap_cons,List.map_append,sO h.1]
  exact congrArg _ (jC h.2)
/-! a space's entries -/
def xP (A:List Ar) (nf ns:Int) (e:En):Prop:=(bN A e.page).isSome=true∧((e.kind=1∧0≤e.at_∧e.at_ < nf)∨(e.kind=2∧0≤e.at_∧e.at_ < ns))
theorem nv {A:List Ar} {nf ns:Int}:∀ {l:List En} {last:Int},eN A nf ns last l=true ↔ (∀ e ∈ l,xP A nf ns e∧last < e.page)∧Rises (aY l)
 |[],last=>by simp [eN,Rises,aY]
 |e::l,last=>by
  show (jZ A nf ns last e && eN A nf ns e.page l)=true ↔ _
  rw [Bool.and_eq_true,nv (l:=l)]
  unfold jZ
  rw [Bool.and_eq_true,decide_eq_true_eq]
  show _ ↔ _∧List.Pairwise _ (e.page::aY l)
  rw [List.pairwise_cons]
  constructor
  ·rintro ⟨⟨h1,h2,h3⟩,h4,h5⟩
   refine ⟨fun x hx=>?_,fun p hp=>?_,h5⟩
   ·rcases List.mem_cons.1 hx with rfl|hx
    ·exact ⟨⟨h1,h3⟩,h2⟩
    ·have:=h4 x hx
     exact ⟨this.1,by omega⟩
   ·obtain ⟨x,hx,rfl⟩:=List.mem_map.1 hp
    exact (h4 x hx).2
  ·rintro ⟨h1,h2,h3⟩
   have h0:=h1 e List.mem_cons_self
   exact ⟨⟨h0.1.1,h0.2,h0.1.2⟩,fun x hx=>⟨(h1 x (List.mem_cons_of_mem _ hx)).1,h2 _ (List.mem_map.2 ⟨x,hx,rfl⟩)⟩,h3⟩
structure rA (sh:List Sh) (nf ns:Int) (s:Sc):Prop where
 dead:s.live=false→s.areas=[]∧s.entries=[]
 ar:bm s.areas=0
 pages:gy sh s.areas=true
 ents:∀ e ∈ s.entries,xP s.areas nf ns e
 rises:Rises (aY s.entries)
theorem dx {sh:List Sh} {nf ns:Int} {s:Sc}:cj sh nf ns s=true ↔ rA sh nf ns s:=by
 unfold cj
 cases hl:s.live with
 |false=>
  rw [if_neg (by simp),decide_eq_true_eq]
  constructor
  ·rintro ⟨h1,h2⟩
   refine ⟨fun _=>⟨h1,h2⟩,by rw [h1];rfl,by rw [h1];rfl,by rw [h2];simp,by rw [h2];exact List.Pairwise.nil⟩
  ·exact fun h=>h.dead hl
 |true=>
  rw [if_pos rfl,Bool.and_eq_true,Bool.and_eq_true,decide_eq_true_eq,nv]
  constructor
  ·rintro ⟨h1,h2,h3,h4⟩
   exact ⟨fun h=>(by rw [hl] at h;cases h),h1,h2,fun e he=>(h3 e he).1,h4⟩
  ·intro h
   exact ⟨h.ar,h.pages,fun e he=>⟨h.ents e he,ql h.ar (h.ents e he).1⟩,h.rises⟩
theorem fF (f:Int) (t:Option Int):∀ (l:List En),(aY (l.filterMap (bW f t))).Sublist (aY l)
 |[]=>List.Sublist.refl _
 |e::l=>by
  have ih:=fF f t l
  rw [List.filterMap_cons]
  unfold bW
  by_cases he:e.kind=1∧e.at_=f
  ·rw [if_pos he]
   cases t with
   |none=>exact List.Sublist.cons _ ih
   |some s=>exact List.Sublist.cons_cons _ ih
  ·rw [if_neg he]
   exact List.Sublist.cons_cons _ ih
theorem tm {sh:List Sh} {nf ns f:Int} {t:Option Int} {s:Sc} (h:rA sh nf ns s) (ht:∀ a,t=some a→0≤a∧a < ns):rA sh nf ns (cQ f t s):=by
 refine ⟨fun hl=>⟨(h.dead hl).1,?_⟩,h.ar,h.pages,fun e he=>?_,h.rises.sublist (fF f t s.entries)⟩
 ·show s.entries.filterMap _=[]
  rw [(h.dead hl).2]
  rfl
 ·replace he:e ∈ s.entries.filterMap (bW f t):=he
  obtain ⟨x,hx,hxe⟩:=List.mem_filterMap.1 he
  have h1:=h.ents x hx
  unfold bW at hxe
  split at hxe
  ·cases t with
   |none=>cases hxe
   |some a=>
    cases hxe
    exact ⟨h1.1,Or.inr ⟨rfl,ht a rfl⟩⟩
  ·cases hxe
   exact h1
theorem kG (f:Int) (t:Option Int) (L:List Sc):bu (L.map (cQ f t))=bu L:=by
 unfold bu
 rw [List.map_map]
 rfl
theorem bi {l:List Fm} {i:Nat} {f:Fm} (h:l[i]?=some f):aI l i=f:=by unfold aI;rw [h];rfl
theorem cW {l:List Sw} {i:Nat} {f:Sw} (h:l[i]?=some f):cx l i=f:=by unfold cx;rw [h];rfl
theorem jp {l:List Sw} {t:Nat} (h:fA l=some t):∃ s,l[t]?=some s∧s.refs=0:=by
 unfold fA at h
 rw [List.findIdx?_eq_some_iff_getElem] at h
 obtain ⟨h1,h2,-⟩:=h
 exact ⟨l[t],List.getElem?_eq_getElem h1,of_decide_eq_true h2⟩
theorem qD {l:List Fm} {t:Nat} (h:jY l=some t):∃ s,l[t]?=some s∧s.refs=0:=by
 unfold jY at h
 rw [List.findIdx?_eq_some_iff_getElem] at h
 obtain ⟨h1,h2,-⟩:=h
 exact ⟨l[t],List.getElem?_eq_getElem h1,of_decide_eq_true h2⟩
theorem jw {l:List Fm} (h:jY l=none):∀ f ∈ l,f.refs≠0:=by
 unfold jY at h
 rw [List.findIdx?_eq_none_iff] at h
 intro f hf
 have:=h f hf
 simpa using this
theorem rz {l:List Sw} (h:fA l=none):∀ f ∈ l,f.refs≠0:=by
 unfold fA at h
 rw [List.findIdx?_eq_none_iff] at h
 intro f hf
 have:=h f hf
 simpa using this
theorem SwOk.free {s:Sw} {N:List Nm} (h:SwOk s N) (h0:s.refs=0):N=[]∧s=sw0:=by
 have h1:=h.refs
 have:N=[]:=List.eq_nil_of_length_eq_zero (by omega)
 exact ⟨this,h.nil this⟩
theorem FmOk.free {sh:List Sh} {s:Fm} {N:List Nm} (h:FmOk sh s N) (h0:s.refs=0):N=[]∧s=fm0:=by
 have h1:=h.refs
 have:N=[]:=List.eq_nil_of_length_eq_zero (by omega)
 exact ⟨this,h.nil this⟩
theorem FmOk.zero (sh:List Sh):FmOk sh fm0 []:=⟨rfl,fun _=>rfl,fun h=>absurd rfl h,(fun _ h=>by cases h),(fun _ h=>by cases h)⟩
theorem SwOk.zero:SwOk sw0 []:=⟨rfl,fun _=>rfl,fun h=>absurd rfl h,(fun _ h=>by cases h)⟩
theorem so {α:Type} {l:List α} {i j:Nat} {x y:α} (h:(l.set i x)[j]?=some y):(i=j∧y=x∧j < l.length)∨(i≠j∧l[j]?=some y):=by
 rw [List.getElem?_set] at h
 by_cases e:i=j
 ·rw [if_pos e] at h
  split at h
  ·rename_i hl;cases h;exact Or.inl ⟨e,rfl,e ▸ hl⟩
  ·cases h
 ·rw [if_neg e] at h
  exact Or.inr ⟨e,h⟩
theorem nQ {K:Ker} (h:Right K) {f:Nat} (hf:f < K.frames.length) (hfree:(aI K.frames f).dirty=true→∃ t,fA K.slots=some t):Right (bO K f):=by
 obtain ⟨hc,hr,hh,hsp,hroom,hfr,hsl⟩:=h
 have hff:=List.getElem?_eq_getElem hf
 have hfo:=hfr f _ hff
 have hmap:∀ (t:Option Int),(∀ a,t=some a→0≤a∧a < (K.slots.length:Int))→∀ s ∈ K.spaces.map (cQ (f:Nat) t),cj K.sheets K.frames.length K.slots.length s=true:=fun t ht s hs=>by
  obtain ⟨x,hx,rfl⟩:=List.mem_map.1 hs
  exact dx.2 (tm (dx.1 (hsp x hx)) ht)
 have hfrn:∀ (t:Option Int) (i:Nat) g,(K.frames.set f fm0)[i]?=some g→FmOk K.sheets g (aN (K.spaces.map (cQ (f:Nat) t)) 1 (i:Nat)):=fun t i g hg=>by
  rcases so hg with ⟨rfl,rfl,_⟩|⟨hne,hg⟩
  ·rw [kL];exact FmOk.zero _
  ·rw [ir (by omega) (fun h=>by omega)]
   exact hfr i g hg
 unfold bO dk
 cases hd:(aI K.frames f).dirty with
 |false=>
  rw [if_neg (by simp)]
  refine ⟨by simpa using hc,hr,by simpa using hh,by simpa using hmap none (fun a h=>by cases h),by rw [kG];exact hroom,hfrn none,fun i s hs=>?_⟩
  dsimp only at hs ⊢
  rw [ir (by omega) (fun _ h=>by cases h)]
  exact hsl i s hs
 |true=>
  obtain ⟨t,ht⟩:=hfree hd
  obtain ⟨s0,hs0,hs1⟩:=jp ht
  have htl:=au hs0
  have hz:=(hsl t s0 hs0).free hs1
  rw [if_pos rfl,ht]
  rw [bi hff] at hd ⊢
  refine ⟨by simpa using hc,hr,by simpa using hh,by simpa using hmap (some (t:Nat)) (fun a h=>by cases h;omega),by rw [kG];simpa using hroom,hfrn (some (t:Nat)),fun i s hs=>?_⟩
  dsimp only [Option.map,Option.getD] at hs ⊢
  rcases so hs with ⟨rfl,rfl,_⟩|⟨hne,hs⟩
  ·rw [jC hz.1]
   refine ⟨by rw [List.length_map];exact hfo.refs,fun hn=>?_,fun hn=>hfo.len (fun e=>hn (by rw [e];rfl)),fun n hn m hm=>?_⟩
   ·rw [List.map_eq_nil_iff] at hn
    rw [hfo.nil hn] at hd
    cases hd
   ·obtain ⟨n',hn',rfl⟩:=List.mem_map.1 hn
    obtain ⟨m',hm',rfl⟩:=List.mem_map.1 hm
    exact hfo.same n' hn' m' hm'
  ·rw [ir (by omega) (fun _ h=>by cases h;omega)]
   exact hsl i s hs
end Go.Proofs.Ytejnpppejalhfac
/- A free slot is there; the clock; a frame that is got. -/
namespace Go.Proofs.Ytejnpppejalhfac
open Go.RowKit Go.Sort
theorem mo:∀ {l:List Int} {lo hi:Int},Rises l→(∀ p ∈ l,lo≤p∧p < hi)→lo≤hi→(l.length:Int)≤hi - lo
 |[],lo,hi,_,_,h=>by simp;omega
 |p::l,lo,hi,hr,hp,h=>by
  have h1:=hp p List.mem_cons_self
  have ih:=mo (l:=l) (lo:=p + 1) (hi:=hi) (List.pairwise_cons.1 hr).2 (fun q hq=>⟨by have:=(List.pairwise_cons.1 hr).1 q hq;omega,(hp q (List.mem_cons_of_mem _ hq)).2⟩) (by omega)
  rw [List.length_cons]
  omega
theorem j5 {α:Type} (p:α→Bool):∀ (l:List α),l.length=(l.filter p).length + (l.filter fun x=>!p x).length
 |[]=>rfl
 |x::l=>by
  have ih:=j5 p l
  cases hx:p x with
  |true=>
   rw [List.filter_cons_of_pos hx,List.filter_cons_of_neg (by simp [hx]),List.length_cons,List.length_cons]
   omega
  |false=>
   rw [List.filter_cons_of_neg (by simp [hx]),List.filter_cons_of_pos (by simp [hx]),List.length_cons,List.length_cons]
   omega
theorem ki {α:Type} (p q:α→Bool):∀ (l:List α),(∀ x ∈ l,¬(p x=true∧q x=true))→(l.filter fun x=>p x||q x).length=(l.filter p).length + (l.filter q).length
 |[],_=>rfl
 |x::l,h=>by
  have ih:=ki p q l (fun y hy=>h y (List.mem_cons_of_mem _ hy))
  have hx:=h x List.mem_cons_self
  cases h1:p x with
  |true=>
   have h2:q x=false:=by simpa [h1] using hx
   rw [List.filter_cons_of_pos (by simp [h1]),List.filter_cons_of_pos h1,List.filter_cons_of_neg (by simp [h2]),List.length_cons,List.length_cons]
   omega
  |false=>
   cases h2:q x with
   |true=>
    rw [List.filter_cons_of_pos (by simp [h2]),List.filter_cons_of_neg (by simp [h1]),List.filter_cons_of_pos h2,List.length_cons,List.length_cons]
    omega
   |false=>
    rw [List.filter_cons_of_neg (by simp [h1,h2]),List.filter_cons_of_neg (by simp [h1]),List.filter_cons_of_neg (by simp [h2])]
    omega
theorem ly:∀ {A:List Ar} {e0:Int},fz e0 A→∀ {l:List Int},Rises l→(∀ p ∈ l,(bN A p).isSome=true)→(l.length:Int)≤bT A
 |[],_,_,l,_,h=>by
  cases l with
  |nil=>simp [bT]
  |cons p l=>have:=h p List.mem_cons_self;simp [bN] at this
 |a::A,e0,hA,l,hr,h=>by
  obtain ⟨h1,h2,h3⟩:=hA
  have hok:=h1
  unfold Ar.ok at hok
  have hlt:∀ b ∈ A,a.fin≤b.pg:=fun b hb=>(tl h3 b hb).1
  rw [j5 (fun p=>decide (p < a.fin)) l]
  have c1:=mo (l:=l.filter fun p=>decide (p < a.fin)) (lo:=a.pg) (hi:=a.fin) (hr.sublist (List.filter_sublist)) (fun p hp=>by
   rw [List.mem_filter,decide_eq_true_eq] at hp
   refine ⟨?_,hp.2⟩
   have hs:=h p hp.1
   unfold bN at hs
   by_cases hb:dz p a=true
   ·unfold dz at hb
    rw [decide_eq_true_eq] at hb
    exact hb.1
   ·rw [List.find?_cons_of_neg hb] at hs
    obtain ⟨b,hbb⟩:=Option.isSome_iff_exists.1 hs
    have h4:=hlt b (List.mem_of_find?_eq_some hbb)
    have h5:=List.find?_some hbb
    unfold dz at h5
    rw [decide_eq_true_eq] at h5
    omega) (by unfold Ar.fin;omega)
  have c2:=ly h3 (l:=l.filter fun p=>!decide (p < a.fin)) (hr.sublist (List.filter_sublist)) (fun p hp=>by
   rw [List.mem_filter,Bool.not_eq_true',decide_eq_false_iff_not] at hp
   have hs:=h p hp.1
   unfold bN at hs ⊢
   rw [List.find?_cons_of_neg] at hs
   ·exact hs
   ·unfold dz
    rw [decide_eq_true_eq]
    omega)
  unfold Ar.fin at c1
  show _≤a.n + bT A
  unfold Ar.fin at c2 ⊢
  push_cast
  omega
theorem vz {sh:List Sh} {nf ns:Int} {s:Sc} (h:rA sh nf ns s):(s.entries.length:Int)≤bT s.areas:=by
 have:=ly (cL.1 h.ar).2.1 h.rises (fun p hp=>by
  obtain ⟨e,he,rfl⟩:=List.mem_map.1 hp
  exact (h.ents e he).1)
 unfold aY at this
 rwa [List.length_map] at this
theorem lg {sh:List Sh} {nf ns:Int}:∀ {L:List Sc},(∀ s ∈ L,rA sh nf ns s)→((c9 L).length:Int)≤bu L
 |[],_=>by simp [c9,bu]
 |s::L,h=>by
  have h1:=vz (h s List.mem_cons_self)
  have h2:=lg (L:=L) (fun x hx=>h x (List.mem_cons_of_mem _ hx))
  have e1:c9 (s::L)=s.entries.map (dv s)++c9 L:=by unfold c9;simp
  have e2:bu (s::L)=bT s.areas + bu L:=by unfold bu;simp
  rw [e1,e2,List.length_append,List.length_map]
  omega
theorem pL (X:List Nm):∀ (n:Nat),(∀ i:Nat,i < n→X.filter (fun (m:Nm)=>decide (m.1.kind=2∧m.1.at_=((i:Nat):Int)))≠[])→n≤(X.filter fun (m:Nm)=>decide (m.1.kind=2∧0≤m.1.at_∧m.1.at_ < ((n:Nat):Int))).length
 |0,_=>Nat.zero_le _
 |n + 1,h=>by
  have ih:=pL X n (fun i hi=>h i (by omega))
  have hn:=List.length_pos_iff.2 (h n (by omega))
  have e:(X.filter fun (m:Nm)=>decide (m.1.kind=2∧0≤m.1.at_∧m.1.at_ < ((n + 1:Nat):Int)))=X.filter (fun (m:Nm)=>(decide (m.1.kind=2∧0≤m.1.at_∧m.1.at_ < ((n:Nat):Int)))||decide (m.1.kind=2∧m.1.at_=((n:Nat):Int))):=by
   refine congrArg (fun p=>List.filter p X) (funext fun m=>?_)
   rw [Bool.eq_iff_iff,Bool.or_eq_true,decide_eq_true_eq,decide_eq_true_eq,decide_eq_true_eq]
   omega
  rw [e,ki _ _ _ (fun x _=>by rw [decide_eq_true_eq,decide_eq_true_eq];omega)]
  omega
theorem ro {α:Type} (p q:α→Bool) (l:List α) (h:∀ x ∈ l,¬(p x=true∧q x=true)):(l.filter p).length + (l.filter q).length≤l.length:=by
 rw [← ki p q l h]
 exact List.length_filter_le _ _
theorem nn {K:Ker} (h:Right K) {f:Nat} (hf:f < K.frames.length) (hr:(aI K.frames f).refs≠0):∃ t,fA K.slots=some t:=by
 cases hfs:fA K.slots with
 |some t=>exact ⟨t,rfl⟩
 |none=>
  exfalso
  have hno:=rz hfs
  have hroom:=lg (L:=K.spaces) (fun s hs=>dx.1 (h.spaces s hs))
  have h1:=h.room
  have hc:=pL (c9 K.spaces) K.slots.length (fun i hi=>by
   rw [dM]
   intro e
   have:=h.sl i _ (List.getElem?_eq_getElem hi)
   rw [e] at this
   exact hno _ (List.getElem_mem hi) this.refs)
  have hff:=List.getElem?_eq_getElem hf
  have h2:=h.fr f _ hff
  rw [bi hff] at hr
  have h3:(aN K.spaces 1 (f:Nat)).length≠0:=fun e=>hr (by rw [h2.refs,e];rfl)
  rw [← dM] at h3
  have h4:=ro (fun (m:Nm)=>decide (m.1.kind=2∧0≤m.1.at_∧m.1.at_ < ((K.slots.length:Nat):Int))) (fun (n:Nm)=>decide (n.1.kind=1∧n.1.at_=((f:Nat):Int))) (c9 K.spaces) (fun x _=>by rw [decide_eq_true_eq,decide_eq_true_eq];omega)
  omega
/-! the clock -/
def mF (l:List Fm):Nat:=l.countP fun f=>f.seen
def nk (n h:Nat) (held:List Nat):Nat:=if h ∈ held then (if cG n h ∈ held then 2 else 1) else 0
def ej (fr:List Fm) (h:Nat) (held:List Nat):Nat:=3 * mF fr + nk fr.length h held
theorem lG {n h:Nat} (hn:h < n):cG n h < n:=by unfold cG;split <;> omega
theorem jO (n h:Nat) (held:List Nat):nk n h held≤2:=by unfold nk;split <;> (try split) <;> omega
theorem l4 {n h:Nat} {held:List Nat} (h3:3≤n) (hn:h < n) (hl:held.length≤2) (hh:h ∈ held):nk n (cG n h) held < nk n h held:=by
 unfold nk
 rw [if_pos hh]
 by_cases h1:cG n h ∈ held
 ·rw [if_pos h1,if_pos h1,if_neg]
  ·omega
  ·intro h2
   have hnd:[h,cG n h,cG n (cG n h)].Nodup:=by
    have e1:h≠cG n h:=by unfold cG;split <;> omega
    have e2:h≠cG n (cG n h):=by unfold cG;split <;> split <;> omega
    have e3:cG n h≠cG n (cG n h):=by unfold cG;split <;> split <;> omega
    simp [e1,e2,e3]
   have:=kp hnd (m:=held) (fun x hx=>by
    rcases List.mem_cons.1 hx with rfl|hx
    ·exact hh
    rcases List.mem_cons.1 hx with rfl|hx
    ·exact h1
    rcases List.mem_cons.1 hx with rfl|hx
    ·exact h2
    ·cases hx)
   simp at this
   omega
 ·rw [if_neg h1,if_neg h1]
  omega
theorem kg:∀ {l:List Fm} {i:Nat} {f x:Fm},l[i]?=some f→f.seen=true→x.seen=false→mF (l.set i x) + 1=mF l
 |[],_,_,_,h,_,_=>by simp at h
 |a::l,0,f,x,h,hf,hx=>by
  simp at h
  subst h
  unfold mF
  rw [List.set_cons_zero,List.countP_cons_of_pos hf,List.countP_cons_of_neg (by simp [hx])]
 |a::l,i + 1,f,x,h,hf,hx=>by
  have ih:=kg (l:=l) (i:=i) (by simpa using h) hf hx
  unfold mF at ih ⊢
  rw [List.set_cons_succ,List.countP_cons,List.countP_cons]
  omega
def q7 (a b:Fm):Prop:=a.data=b.data∧a.refs=b.refs∧a.dirty=b.dirty
theorem ed {l:List Fm} {i j:Nat} {x:Fm}:aI (l.set i x) j=if i=j∧j < l.length then x else aI l j:=by
 unfold aI
 rw [List.getElem?_set]
 by_cases e:i=j
 ·subst e
  rw [if_pos rfl]
  by_cases h:i < l.length
  ·rw [if_pos h,if_pos ⟨rfl,h⟩];rfl
  ·rw [if_neg h,if_neg (fun hh=>h hh.2),List.getElem?_eq_none (by omega)]
 ·rw [if_neg e,if_neg (fun hh=>e hh.1)]
theorem gW {l:List Sw} {i j:Nat} {x:Sw}:cx (l.set i x) j=if i=j∧j < l.length then x else cx l j:=by
 unfold cx
 rw [List.getElem?_set]
 by_cases e:i=j
 ·subst e
  rw [if_pos rfl]
  by_cases h:i < l.length
  ·rw [if_pos h,if_pos ⟨rfl,h⟩];rfl
  ·rw [if_neg h,if_neg (fun hh=>h hh.2),List.getElem?_eq_none (by omega)]
 ·rw [if_neg e,if_neg (fun hh=>e hh.1)]
theorem lk {held:List Nat} (hl:held.length≤2):∀ (k:Nat) {fr:List Fm} {h:Nat},3≤fr.length→h < fr.length→ej fr h held < k →
  (dr k fr h held).2.2 < fr.length∧(dr k fr h held).2.2 ∉ held∧(dr k fr h held).2.1 < fr.length∧(dr k fr h held).1.length=fr.length∧(∀ i,q7 (aI (dr k fr h held).1 i) (aI fr i))∧∀ i ∈ held,aI (dr k fr h held).1 i=aI fr i
 |0,_,_,_,_,hm=>absurd hm (Nat.not_lt_zero _)
 |k + 1,fr,h,h3,hn,hm=>by
  unfold dr
  by_cases hh:h ∈ held
  ·rw [if_pos hh]
   have hd:=l4 h3 hn hl hh
   exact lk hl k h3 (lG hn) (by unfold ej at hm ⊢;omega)
  ·rw [if_neg hh]
   have hget:=List.getElem?_eq_getElem hn
   cases hs:(aI fr h).seen with
   |false=>
    rw [if_neg (by simp)]
    exact ⟨hn,hh,lG hn,rfl,fun i=>⟨rfl,rfl,rfl⟩,fun i _=>rfl⟩
   |true=>
    rw [if_pos rfl]
    have hse:=kg (x:=⟨(aI fr h).data,(aI fr h).refs,(aI fr h).dirty,false⟩) hget (by rw [← bi hget];exact hs) rfl
    have hd2:=jO fr.length (cG fr.length h) held
    have hlen:(fr.set h ⟨(aI fr h).data,(aI fr h).refs,(aI fr h).dirty,false⟩).length=fr.length:=by simp
    have ih:=lk hl k (fr:=fr.set h ⟨(aI fr h).data,(aI fr h).refs,(aI fr h).dirty,false⟩) (h:=cG fr.length h) (by rw [hlen];exact h3) (by rw [hlen];exact lG hn) (by unfold ej at hm ⊢;rw [hlen];omega)
    rw [hlen] at ih
    obtain ⟨i1,i2,i3,i4,i5,i6⟩:=ih
    refine ⟨i1,i2,i3,i4,fun i=>?_,fun i hi=>?_⟩
    ·have h5:=i5 i
     rw [ed] at h5
     by_cases e:h=i∧i < fr.length
     ·rw [if_pos e] at h5
      obtain ⟨rfl,-⟩:=e
      exact h5
     ·rw [if_neg e] at h5
      exact h5
    ·rw [i6 i hi,ed,if_neg]
     rintro ⟨rfl,-⟩
     exact hh hi
theorem nH {fr:List Fm} (h64:fr.length≤64) (h:Nat) (held:List Nat):ej fr h held < 5000:=by
 unfold ej mF
 have h1:=List.countP_le_length (p:=fun (f:Fm)=>f.seen) (l:=fr)
 have h2:=jO fr.length h held
 omega
theorem FmOk.alike {sh:List Sh} {f g:Fm} {N:List Nm} (h:FmOk sh f N) (ha:q7 g f) (hr:f.refs≠0):FmOk sh g N:=by
 obtain ⟨a1,a2,a3⟩:=ha
 refine ⟨by rw [a2];exact h.refs,fun e=>absurd (by rw [h.refs,e];rfl) hr,by rw [a1];exact h.len,h.same,fun n hn=>by rw [a1,a3];exact h.data n hn⟩
theorem nL {K:Ker} (h:Right K) {held:List Nat} (hl:held.length≤2) (hfree:jY K.frames=none) :
  Right ⟨K.sheets,(cR K held).1,K.slots,K.spaces,((cR K held).2.1:Nat)⟩∧(cR K held).2.2 < K.frames.length∧(cR K held).2.2 ∉ held∧(∀ i,q7 (aI (cR K held).1 i) (aI K.frames i))∧(∀ i ∈ held,aI (cR K held).1 i=aI K.frames i)∧(cR K held).1.length=K.frames.length:=by
 have hh:=h.hand
 have hc:=h.cnt
 obtain ⟨c1,c2,c3,c4,c5,c6⟩:=lk hl 5000 (fr:=K.frames) (h:=K.hand.toNat) hc.1 (by omega) (nH hc.2.1 _ _)
 refine ⟨⟨by dsimp only [cR];rw [c4];exact hc,h.rise,?_,?_,h.room,fun i g hg=>?_,h.sl⟩,c1,c2,c5,c6,c4⟩
 ·show 0≤(((dr 5000 K.frames K.hand.toNat held).2.1:Nat):Int)∧(((dr 5000 K.frames K.hand.toNat held).2.1:Nat):Int) < ((dr 5000 K.frames K.hand.toNat held).1.length:Int)
  rw [c4]
  omega
 ·intro s hs
  show cj K.sheets ((dr 5000 K.frames K.hand.toNat held).1.length:Int) K.slots.length s=true
  rw [c4]
  exact h.spaces s hs
 ·replace hg:(dr 5000 K.frames K.hand.toNat held).1[i]?=some g:=hg
  have hil:i < K.frames.length:=by have:=au hg;omega
  have hig:=List.getElem?_eq_getElem hil
  have:=c5 i
  rw [bi hg,bi hig] at this
  exact (h.fr i _ hig).alike this (jw hfree _ (List.getElem_mem hil))
end Go.Proofs.Ytejnpppejalhfac
/- A frame that is got, an entry that is put, a page that is brought: what comes is right, and no page tells another thing. -/
namespace Go.Proofs.Ytejnpppejalhfac
open Go.RowKit Go.Sort
theorem ci {l:List En} {p:Int} {e:En} (h:aZ l p=some e):e ∈ l∧e.page=p:=⟨List.mem_of_find?_eq_some h,by have:=List.find?_some h;simpa using this⟩
theorem ix {l:List En} (hr:Rises (aY l)) {e:En} (h:e ∈ l):aZ l e.page=some e:=by
 induction l with
 |nil=>cases h
 |cons a l ih=>
  unfold aZ
  have hp:=List.pairwise_cons.1 hr
  rcases List.mem_cons.1 h with rfl|h
  ·rw [List.find?_cons_of_pos (by simp)]
  ·have:a.page < e.page:=hp.1 e.page (List.mem_map.2 ⟨e,h,rfl⟩)
   rw [List.find?_cons_of_neg (by simp;omega)]
   exact ih hp.2 h
theorem eE {l:List En} {p:Int}:aZ l p=none ↔ p ∉ aY l:=by
 unfold aZ aY
 rw [List.find?_eq_none,List.mem_map]
 constructor
 ·rintro h ⟨e,he,rfl⟩
  exact h e he (by simp)
 ·intro h e he hp
  exact h ⟨e,he,by simpa using hp⟩
theorem kH {f:Int} {t:Option Int} {e x:En} (h:bW f t e=some x):x.page=e.page:=by
 unfold bW at h
 split at h
 ·cases t with
  |none=>cases h
  |some s=>cases h;rfl
 ·cases h;rfl
theorem o7 {f:Int} {t:Option Int} {l:List En} (hr:Rises (aY l)) (p:Int):aZ (l.filterMap (bW f t)) p=(aZ l p).bind (bW f t):=by
 have hr2:=hr.sublist (fF f t l)
 cases h:aZ l p with
 |none=>
  rw [eE] at h
  exact eE.2 fun hp=>h ((fF f t l).subset hp)
 |some e=>
  obtain ⟨he,rfl⟩:=ci h
  show _=bW f t e
  cases hx:bW f t e with
  |some x=>
   have:=ix hr2 (List.mem_filterMap.2 ⟨e,he,hx⟩)
   rwa [kH hx] at this
  |none=>
   rw [eE]
   intro hp
   obtain ⟨y,hy,hyp⟩:=List.mem_map.1 hp
   obtain ⟨z,hz,hzy⟩:=List.mem_filterMap.1 hy
   have h1:=kH hzy
   have h2:=ix hr hz
   rw [← h1,hyp,h] at h2
   cases h2
   rw [hx] at hzy
   cases hzy
theorem bU {K:Ker} {sp:Nat} {s:Sc} (h:K.spaces[sp]?=some s):bv K sp=s:=by unfold bv;rw [h];rfl
theorem iU {K:Ker} {sp:Nat} (h:K.spaces[sp]?=none):bv K sp=sc0:=by unfold bv;rw [h];rfl
theorem gq {K:Ker} {sp:Nat} {s:Sc} {e:En} (h:K.spaces[sp]?=some s) (he:e ∈ s.entries):dv s e ∈ aN K.spaces e.kind e.at_:=by
 rw [bZ,List.mem_flatMap]
 refine ⟨s,List.mem_of_getElem? h,?_⟩
 unfold nm1
 exact List.mem_map.2 ⟨e,List.mem_filter.2 ⟨he,by simp⟩,rfl⟩
theorem uM {K:Ker} {sp:Nat} {s:Sc} (h:K.spaces[sp]?=some s) (e:En):(dv s e).2.z=zAt K sp e.page:=by
 unfold zAt aH dv
 rw [bU h]
theorem Right.ent {K:Ker} (h:Right K) {sp:Nat} {s:Sc} {e:En} (hs:K.spaces[sp]?=some s) (he:e ∈ s.entries) :
  (bN s.areas e.page).isSome=true∧((e.kind=1∧(∃ f:Nat,e.at_=(f:Nat)∧f < K.frames.length))∨(e.kind=2∧∃ f:Nat,e.at_=(f:Nat)∧f < K.slots.length)):=by
 have h1:=(dx.1 (h.spaces s (List.mem_of_getElem? hs))).ents e he
 refine ⟨h1.1,?_⟩
 rcases h1.2 with ⟨a,b,c⟩|⟨a,b,c⟩
 ·exact Or.inl ⟨a,e.at_.toNat,by omega,by omega⟩
 ·exact Or.inr ⟨a,e.at_.toNat,by omega,by omega⟩
structure SameP (K K':Ker):Prop where
 sheets:K'.sheets=K.sheets
 nfr:K'.frames.length=K.frames.length
 nsl:K'.slots.length=K.slots.length
 nsp:K'.spaces.length=K.spaces.length
 ar:∀ sp,aH K' sp=aH K sp
 live:∀ sp,(bv K' sp).live=(bv K sp).live
 peek:∀ sp p,bz K' sp p=bz K sp p
theorem SameP.refl (K:Ker):SameP K K:=⟨rfl,rfl,rfl,rfl,fun _=>rfl,fun _=>rfl,fun _ _=>rfl⟩
theorem SameP.trans {K K' K2:Ker} (h:SameP K K') (h2:SameP K' K2):SameP K K2:=⟨h2.sheets.trans h.sheets,h2.nfr.trans h.nfr,h2.nsl.trans h.nsl,h2.nsp.trans h.nsp,fun s=>(h2.ar s).trans (h.ar s),fun s=>(h2.live s).trans (h.live s),fun s p=>(h2.peek s p).trans (h.peek s p)⟩
theorem eO {K K':Ker} {sp:Nat} (hs:K'.sheets=K.sheets) (ha:aH K' sp=aH K sp) (p:Int):di K' sp p=di K sp p:=by
 unfold di zAt
 rw [hs,ha]
theorem jE {K K':Ker} {g:Sc→Sc} (h:K'.spaces=K.spaces.map g) (sp:Nat):(K.spaces[sp]?=none∧bv K' sp=sc0∧bv K sp=sc0)∨∃ s,K.spaces[sp]?=some s∧bv K sp=s∧bv K' sp=g s:=by
 unfold bv
 rw [h,List.getElem?_map]
 cases hk:K.spaces[sp]? with
 |none=>exact Or.inl ⟨rfl,rfl,rfl⟩
 |some s=>exact Or.inr ⟨s,rfl,rfl,rfl⟩
theorem pI {K:Ker} (h:Right K) {f:Nat} (hf:f < K.frames.length) (hfree:(aI K.frames f).dirty=true→∃ t,fA K.slots=some t) :
  SameP K (bO K f)∧aI (bO K f).frames f=fm0∧aN (bO K f).spaces 1 (f:Nat)=[]∧(∀ i,i≠f→aI (bO K f).frames i=aI K.frames i)∧(∀ i,(cx K.slots i).refs≠0→cx (bO K f).slots i=cx K.slots i)∧(∀ sp p,aZ (aE (bO K f) sp) p=(aZ (aE K sp) p).bind (bW (f:Nat) ((dk K f).map fun (t:Nat)=>(t:Int)))):=by
 have hff:=List.getElem?_eq_getElem hf
 have hfo:=h.fr f _ hff
 have hent:∀ sp p,aZ (aE (bO K f) sp) p=(aZ (aE K sp) p).bind (bW (f:Nat) ((dk K f).map fun (t:Nat)=>(t:Int))):=fun sp p=>by
  unfold aE
  rcases jE (K':=bO K f) (K:=K) (g:=cQ (f:Nat) ((dk K f).map fun (t:Nat)=>(t:Int))) rfl sp with ⟨-,h1,h2⟩|⟨s,hs,h1,h2⟩
  ·rw [h1,h2];rfl
  ·rw [h1,h2]
   exact o7 (dx.1 (h.spaces s (List.mem_of_getElem? hs))).rises p
 have harea:∀ sp,aH (bO K f) sp=aH K sp:=fun sp=>by
  unfold aH
  rcases jE (K':=bO K f) (K:=K) (g:=cQ (f:Nat) ((dk K f).map fun (t:Nat)=>(t:Int))) rfl sp with ⟨-,h1,h2⟩|⟨s,hs,h1,h2⟩ <;> rw [h1,h2] <;> rfl
 have hlive:∀ sp,(bv (bO K f) sp).live=(bv K sp).live:=fun sp=>by
  rcases jE (K':=bO K f) (K:=K) (g:=cQ (f:Nat) ((dk K f).map fun (t:Nat)=>(t:Int))) rfl sp with ⟨-,h1,h2⟩|⟨s,hs,h1,h2⟩ <;> rw [h1,h2] <;> rfl
 have hfr:∀ i,aI (bO K f).frames i=if f=i then fm0 else aI K.frames i:=fun i=>by
  show aI (K.frames.set f fm0) i=_
  rw [ed]
  by_cases e:f=i
  ·subst e;rw [if_pos ⟨rfl,hf⟩,if_pos rfl]
  ·rw [if_neg (fun hh=>e hh.1),if_neg e]
 have hT:∀ t,dk K f=some t→(aI K.frames f).dirty=true∧(cx K.slots t).refs=0∧t < K.slots.length∧aN K.spaces 2 (t:Nat)=[]∧(bO K f).slots=K.slots.set t ⟨(aI K.frames f).data,(aI K.frames f).refs⟩:=fun t ht=>by
  have ht0:=ht
  unfold dk at ht
  cases hd:(aI K.frames f).dirty with
  |false=>rw [hd] at ht;cases ht
  |true=>
   obtain ⟨u,hu⟩:=hfree hd
   rw [hd,hu] at ht
   obtain rfl:u=t:=by simpa using ht
   obtain ⟨s0,hs0,hs1⟩:=jp hu
   refine ⟨rfl,by rw [cW hs0];exact hs1,au hs0,((h.sl u s0 hs0).free hs1).1,?_⟩
   unfold bO
   rw [ht0]
 have hT0:dk K f=none→(aI K.frames f).dirty=false∧(bO K f).slots=K.slots:=fun ht=>by
  have ht0:=ht
  unfold dk at ht
  cases hd:(aI K.frames f).dirty with
  |false=>exact ⟨rfl,by unfold bO;rw [ht0]⟩
  |true=>rw [hd] at ht;cases ht
 have hsw:∀ i,(cx K.slots i).refs≠0→cx (bO K f).slots i=cx K.slots i:=fun i hi=>by
  cases ht:dk K f with
  |none=>rw [(hT0 ht).2]
  |some t=>
   obtain ⟨-,h2,-,-,h5⟩:=hT t ht
   rw [h5,gW,if_neg]
   rintro ⟨rfl,-⟩
   exact hi h2
 refine ⟨⟨rfl,by show (K.frames.set f fm0).length=_;simp,?_,by show (K.spaces.map _).length=_;simp,harea,hlive,fun sp p=>?_⟩,by rw [hfr,if_pos rfl],kL _,fun i hi=>by rw [hfr,if_neg (Ne.symm hi)],hsw,hent⟩
 ·cases ht:dk K f with
  |none=>rw [(hT0 ht).2]
  |some t=>rw [(hT t ht).2.2.2.2];simp
 ·unfold bz
  rw [hent]
  have hfill:di (bO K f) sp p=di K sp p:=eO (K:=K) (K':=bO K f) rfl (harea sp) p
  cases he:aZ (aE K sp) p with
  |none=>exact hfill
  |some e=>
   obtain ⟨hem,hep⟩:=ci he
   rcases jE (K':=K) (K:=K) (g:=id) (List.map_id _).symm sp with ⟨h0,-,h2⟩|⟨s,hs,h1,-⟩
   ·unfold aE at hem
    rw [h2] at hem
    cases hem
   ·have hes:e ∈ s.entries:=by unfold aE at hem;rwa [h1] at hem
    have hnm:=gq hs hes
    show (match bW (f:Nat) ((dk K f).map fun (t:Nat)=>(t:Int)) e with
     |some e=>bJ (bO K f) e
     |none=>di (bO K f) sp p)=bJ K e
    unfold bW
    by_cases hk:e.kind=1∧e.at_=(f:Nat)
    ·rw [if_pos hk]
     rw [hk.1,hk.2] at hnm
     have hd:=hfo.data _ hnm
     rw [uM hs] at hd
     have hdat:bJ K e=(aI K.frames f).data:=by unfold bJ;rw [if_pos hk.1,hk.2];rfl
     rw [hdat]
     cases ht:dk K f with
     |none=>
      rw [← bi hff] at hd
      rcases hd with hd|hd
      ·rw [(hT0 ht).1] at hd;cases hd
      ·show di (bO K f) sp p=_
       rw [hfill]
       unfold di
       have:(dv s e).1.page=p:=hep
       rw [hep] at hd
       rw [show (dv s e).1.page=p from hep] at hd
       rw [← hd]
       rfl
     |some t=>
      obtain ⟨-,-,h3,-,h5⟩:=hT t ht
      show bJ (bO K f) ⟨e.page,2,(t:Nat)⟩=_
      unfold bJ
      rw [if_neg (by show ¬((2:Int)=1);omega),h5,show ((t:Nat):Int).toNat=t from rfl,gW,if_pos ⟨rfl,h3⟩]
    ·rw [if_neg hk]
     show bJ (bO K f) e=bJ K e
     unfold bJ
     by_cases hk1:e.kind=1
     ·rw [if_pos hk1,if_pos hk1,hfr,if_neg]
      rintro rfl
      rcases (h.ent hs hes).2 with ⟨-,g,hg,-⟩|⟨h2,-⟩
      ·exact hk ⟨hk1,by omega⟩
      ·omega
     ·rw [if_neg hk1,if_neg hk1]
      rcases (h.ent hs hes).2 with ⟨h1,-⟩|⟨h2,g,hg,hgl⟩
      ·exact absurd h1 hk1
      ·rw [hsw]
       rw [hg]
       have hgo:=h.sl g _ (List.getElem?_eq_getElem hgl)
       rw [h2,hg] at hnm
       rw [show ((g:Nat):Int).toNat=g from rfl,cW (List.getElem?_eq_getElem hgl),hgo.refs]
       intro e0
       have:aN K.spaces 2 (g:Nat)=[]:=List.eq_nil_of_length_eq_zero (by omega)
       rw [this] at hnm
       cases hnm
end Go.Proofs.Ytejnpppejalhfac
/- A frame that is got; an entry that is put in a frame that is free. -/
namespace Go.Proofs.Ytejnpppejalhfac
open Go.RowKit Go.Sort
structure xY (K:Ker) (held:List Nat) (r:Ker×Nat):Prop where
 right:Right r.1
 same:SameP K r.1
 lt:r.2 < K.frames.length
 zero:aI r.1.frames r.2=fm0
 nobody:aN r.1.spaces 1 (r.2:Nat)=[]
 kept:∀ i ∈ held,(aI K.frames i).refs≠0→r.2≠i∧aI r.1.frames i=aI K.frames i
 slots:∀ i,(cx K.slots i).refs≠0→cx r.1.slots i=cx K.slots i
 some_:∀ sp p e,aZ (aE K sp) p=some e→(e.kind≠1∨∃ i ∈ held,e.at_=((i:Nat):Int)∧(aI K.frames i).refs≠0)→aZ (aE r.1 sp) p=some e
 none_:∀ sp p,aZ (aE K sp) p=none→aZ (aE r.1 sp) p=none
theorem k7 {K:Ker} (h:Right K) {held:List Nat} (hl:held.length≤2):xY K held (dm K held):=by
 unfold dm
 cases hf:jY K.frames with
 |some i=>
  obtain ⟨f,hfi,h0⟩:=qD hf
  have hz:=(h.fr i f hfi).free h0
  refine ⟨h,SameP.refl K,au hfi,by show aI K.frames i=_;rw [bi hfi];exact hz.2,hz.1,fun j _ hj=>⟨?_,rfl⟩,fun _ _=>rfl,fun _ _ _ h _=>h,fun _ _ h=>h⟩
  rintro rfl
  rw [bi hfi] at hj
  exact hj h0
 |none=>
  obtain ⟨c1,c2,c3,c4,c5,c6⟩:=nL h hl hf
  have hnz:∀ i,i < K.frames.length→(aI K.frames i).refs≠0:=fun i hi=>by
   rw [bi (List.getElem?_eq_getElem hi)]
   exact jw hf _ (List.getElem_mem hi)
  have hfl:(cR K held).2.2 < (⟨K.sheets,(cR K held).1,K.slots,K.spaces,((cR K held).2.1:Nat)⟩:Ker).frames.length:=by show _ < (cR K held).1.length;rw [c6];exact c2
  have hfree:=nn c1 hfl (by show (aI (cR K held).1 _).refs≠0;rw [(c4 _).2.1];exact hnz _ c2)
  have hr:=nQ c1 hfl (fun _=>hfree)
  obtain ⟨s1,s2,s3,s4,s5,s6⟩:=pI c1 hfl (fun _=>hfree)
  have hs0:SameP K ⟨K.sheets,(cR K held).1,K.slots,K.spaces,((cR K held).2.1:Nat)⟩:=by
   refine ⟨rfl,c6,rfl,rfl,fun _=>rfl,fun _=>rfl,fun sp p=>?_⟩
   unfold bz
   show (match aZ (aE K sp) p with
    |some e=>bJ ⟨K.sheets,(cR K held).1,K.slots,K.spaces,((cR K held).2.1:Nat)⟩ e
    |none=>di K sp p)=_
   cases aZ (aE K sp) p with
   |none=>rfl
   |some e=>
    show bJ _ e=bJ K e
    unfold bJ
    rw [(c4 _).1]
  refine ⟨hr,hs0.trans s1,c2,s2,s3,fun i hi h0=>⟨?_,?_⟩,fun i hi=>s5 i hi,fun sp p e he hk=>?_,fun sp p he=>?_⟩
  ·rintro rfl;exact c3 hi
  ·show aI (bO _ _).frames i=_
   rw [s4 i (fun e=>c3 (by rw [← e];exact hi))]
   exact c5 i hi
  ·show aZ (aE (bO _ _) sp) p=_
   rw [s6]
   show ((aZ (aE K sp) p).bind _)=_
   rw [he]
   show bW _ _ e=_
   unfold bW
   rw [if_neg]
   rintro ⟨k1,k2⟩
   rcases hk with hk|⟨i,hi,hk,-⟩
   ·exact hk k1
   ·have:(cR K held).2.2=i:=by omega
    exact c3 (by rw [this];exact hi)
  ·show aZ (aE (bO _ _) sp) p=_
   rw [s6]
   show ((aZ (aE K sp) p).bind _)=_
   rw [he]
   rfl
/-! an entry at its place -/
theorem iO {l:List En} (hr:Rises (aY l)) {q:Int} {x:En}:aZ l q=some x ↔ x ∈ l∧x.page=q:=by
 constructor
 ·exact ci
 ·rintro ⟨h,rfl⟩;exact ix hr h
theorem v6 (a:Int) (l:List Int) (t:Int):lbd (a::l) t=if a < t then lbd l t + 1 else 0:=by
 unfold lbd
 rw [List.takeWhile_cons]
 by_cases h:a < t
 ·rw [if_pos (by simpa using h),if_pos h,List.length_cons]
 ·rw [if_neg (by simpa using h),if_neg h];rfl
theorem mY:∀ {l:List Int} (_:Rises l) (t:Int),(∀ p ∈ l.take (lbd l t),p < t)∧(∀ p ∈ l.drop (lbd l t),t≤p)
 |[],_,t=>by simp
 |a::l,h,t=>by
  have hp:=List.pairwise_cons.1 h
  rw [v6]
  by_cases c:a < t
  ·rw [if_pos c]
   obtain ⟨i1,i2⟩:=mY hp.2 t
   refine ⟨fun p hp'=>?_,by simpa using i2⟩
   rw [List.take_succ_cons] at hp'
   rcases List.mem_cons.1 hp' with rfl|hp'
   ·exact c
   ·exact i1 p hp'
  ·rw [if_neg c]
   refine ⟨by simp,fun p hp'=>?_⟩
   rw [List.drop_zero] at hp'
   rcases List.mem_cons.1 hp' with rfl|hp'
   ·omega
   ·have:=hp.1 p hp';omega
theorem mZ (l:List En) (e:En):(qq l e).Perm (e::l):=by
 unfold qq
 refine List.perm_middle.trans ?_
 rw [List.take_append_drop]
theorem qg {l:List En} (h:Rises (aY l)) {e:En} (hn:e.page ∉ aY l):Rises (aY (qq l e)):=by
 obtain ⟨h1,h2⟩:=mY h e.page
 have h3:Rises ((aY l).take (lbd (aY l) e.page)):=h.sublist (List.take_sublist _ _)
 have h4:Rises ((aY l).drop (lbd (aY l) e.page)):=h.sublist (List.drop_sublist _ _)
 have e1:aY (qq l e)=(aY l).take (lbd (aY l) e.page)++e.page::(aY l).drop (lbd (aY l) e.page):=by
  unfold qq aY
  rw [List.map_append,List.map_cons,List.map_take,List.map_drop]
 rw [e1]
 refine List.pairwise_append.2 ⟨h3,List.pairwise_cons.2 ⟨fun p hp=>?_,h4⟩,fun a ha b hb=>?_⟩
 ·have:=h2 p hp
  have hne:p≠e.page:=fun e0=>hn (by rw [← e0];exact List.mem_of_mem_drop hp)
  omega
 ·have:=h1 a ha
  rcases List.mem_cons.1 hb with rfl|hb
  ·exact this
  ·have:=h2 b hb;omega
theorem nD {l:List En} (h:Rises (aY l)) (e:En):∃ R,l.Perm ((aZ l e.page).toList++R)∧(fy l e).Perm (e::R)∧Rises (aY (fy l e))∧(fy l e).length≤l.length + 1:=by
 unfold fy
 by_cases hm:e.page ∈ aY l
 ·rw [if_pos hm]
  have hi:=(dS h e.page).2 hm
  unfold aY at hi
  rw [List.getElem?_map] at hi
  obtain ⟨x,hx,hxp⟩:=Option.map_eq_some_iff.1 hi
  have he:aZ l e.page=some x:=(iO h).2 ⟨List.mem_of_getElem? hx,hxp⟩
  refine ⟨l.eraseIdx (lbd (aY l) e.page),?_,?_,?_,by simp⟩
  ·rw [he];exact dX hx
  ·have:=dX (l:=l.set (lbd (aY l) e.page) e) (k:=lbd (aY l) e.page) (b:=e) (by rw [List.getElem?_set];simp;exact au hx)
   rwa [ff] at this
  ·have:aY (l.set (lbd (aY l) e.page) e)=aY l:=by
    have e1:aY (l.set (lbd (aY l) e.page) e)=(aY l).set (lbd (aY l) e.page) e.page:=by unfold aY;rw [List.map_set]
    rw [e1]
    refine List.ext_getElem? fun j=>?_
    rw [List.getElem?_set]
    by_cases hj:lbd (aY l) e.page=j
    ·rw [if_pos hj,hj.symm]
     have h9:=(dS h e.page).2 hm
     rw [if_pos (au h9),h9]
    ·rw [if_neg hj]
   rw [this]
   exact h
 ·rw [if_neg hm]
  refine ⟨l,?_,mZ l e,qg h hm,by rw [(mZ l e).length_eq];simp⟩
  rw [eE.2 hm]
  exact List.Perm.refl _
theorem tz {l:List En} (h:Rises (aY l)) (e:En) (q:Int):aZ (fy l e) q=if q=e.page then some e else aZ l q:=by
 obtain ⟨R,h1,h2,h3,-⟩:=nD h e
 by_cases hq:q=e.page
 ·rw [if_pos hq]
  exact (iO h3).2 ⟨h2.mem_iff.2 List.mem_cons_self,hq.symm⟩
 ·rw [if_neg hq]
  cases hx:aZ l q with
  |some x=>
   obtain ⟨hx1,hx2⟩:=ci hx
   refine (iO h3).2 ⟨h2.mem_iff.2 (List.mem_cons_of_mem _ ?_),hx2⟩
   rcases List.mem_append.1 (h1.mem_iff.1 hx1) with h4|h4
   ·exfalso
    rw [Option.mem_toList] at h4
    exact hq (hx2.symm.trans (ci h4).2)
   ·exact h4
  |none=>
   cases hy:aZ (fy l e) q with
   |none=>rfl
   |some y=>
    exfalso
    obtain ⟨hy1,hy2⟩:=ci hy
    rcases List.mem_cons.1 (h2.mem_iff.1 hy1) with rfl|h4
    ·exact hq hy2.symm
    ·have:=(iO h).2 ⟨h1.mem_iff.2 (List.mem_append_right _ h4),hy2⟩
     rw [hx] at this
     cases this
/-! namers, one space set apart -/
def nmL (s:Sc) (k a:Int) (l:List En):List Nm:=(l.filter fun e=>decide (e.kind=k∧e.at_=a)).map (dv s)
theorem lR {s:Sc} {k a:Int} {l m:List En} (h:l.Perm m):(nmL s k a l).Perm (nmL s k a m):=(h.filter _).map _
theorem nJ (s:Sc) (k a:Int) (l m:List En):nmL s k a (l++m)=nmL s k a l++nmL s k a m:=by unfold nmL;rw [List.filter_append,List.map_append]
theorem iP {s:Sc} {k a:Int} {e:En} (l:List En) (h:e.kind=k∧e.at_=a):nmL s k a (e::l)=dv s e::nmL s k a l:=by unfold nmL;rw [List.filter_cons_of_pos (by simpa using h)];rfl
theorem lJ {s:Sc} {k a:Int} {e:En} (l:List En) (h:¬(e.kind=k∧e.at_=a)):nmL s k a (e::l)=nmL s k a l:=by unfold nmL;rw [List.filter_cons_of_neg (by simpa using h)]
theorem dZ {L:List Sc} {sp:Nat} {s s':Sc} (h:L[sp]?=some s) (k a:Int):(aN (L.set sp s') k a).Perm (nm1 s' k a++aN (L.eraseIdx sp) k a)∧(aN L k a).Perm (nm1 s k a++aN (L.eraseIdx sp) k a):=by
 constructor
 ·have:=dX (l:=L.set sp s') (k:=sp) (b:=s') (by rw [List.getElem?_set];simp;exact au h)
  rw [ff] at this
  exact this.flatMap_right _
 ·exact (dX h).flatMap_right _
theorem FmOk.dec {sh:List Sh} {f:Fm} {n:Nm} {N:List Nm} (h:FmOk sh f (n::N)):FmOk sh (gj f) N:=by
 have hr:=h.refs
 rw [List.length_cons] at hr
 unfold gj
 by_cases h0:f.refs - 1=0
 ·rw [if_pos h0]
  obtain rfl:N=[]:=List.eq_nil_of_length_eq_zero (by omega)
  exact FmOk.zero sh
 ·rw [if_neg h0]
  exact ⟨by show f.refs - 1=_;omega,fun e=>absurd (by rw [e] at hr;simp at hr;omega) h0,fun _=>h.len (by simp),fun a ha b hb=>h.same a (List.mem_cons_of_mem _ ha) b (List.mem_cons_of_mem _ hb),fun a ha=>h.data a (List.mem_cons_of_mem _ ha)⟩
theorem SwOk.dec {f:Sw} {n:Nm} {N:List Nm} (h:SwOk f (n::N)):SwOk (gi f) N:=by
 have hr:=h.refs
 rw [List.length_cons] at hr
 unfold gi
 by_cases h0:f.refs - 1=0
 ·rw [if_pos h0]
  obtain rfl:N=[]:=List.eq_nil_of_length_eq_zero (by omega)
  exact SwOk.zero
 ·rw [if_neg h0]
  exact ⟨by show f.refs - 1=_;omega,fun e=>absurd (by rw [e] at hr;simp at hr;omega) h0,fun _=>h.len (by simp),fun a ha b hb=>h.same a (List.mem_cons_of_mem _ ha) b (List.mem_cons_of_mem _ hb)⟩
theorem o8 {sh:List Sh} {f:Fm} {n m:Nm} {N:List Nm} (h:FmOk sh f (n::m::N)):(gj f).data=f.data:=by
 have hr:=h.refs
 rw [List.length_cons,List.length_cons] at hr
 unfold gj
 rw [if_neg (by omega)]
theorem nj {f:Sw} {n m:Nm} {N:List Nm} (h:SwOk f (n::m::N)):(gi f).data=f.data:=by
 have hr:=h.refs
 rw [List.length_cons,List.length_cons] at hr
 unfold gi
 rw [if_neg (by omega)]
theorem kF (K:Ker) (o:Option En):(eu K o).spaces=K.spaces∧(eu K o).sheets=K.sheets∧(eu K o).hand=K.hand∧(eu K o).frames.length=K.frames.length∧(eu K o).slots.length=K.slots.length:=by
 cases o with
 |none=>exact ⟨rfl,rfl,rfl,rfl,rfl⟩
 |some e=>
  show (cC K e).spaces=_∧(cC K e).sheets=_∧(cC K e).hand=_∧(cC K e).frames.length=_∧(cC K e).slots.length=_
  unfold cC
  split
  ·exact ⟨rfl,rfl,rfl,List.length_set,rfl⟩
  ·exact ⟨rfl,rfl,rfl,rfl,List.length_set⟩
end Go.Proofs.Ytejnpppejalhfac
/- An entry put: what comes is right; what each page tells. -/
namespace Go.Proofs.Ytejnpppejalhfac
open Go.RowKit Go.Sort
structure InOk (K K':Ker) (sp:Nat) (page:Int) (f:Nat) (data:List UInt8) (dirty:Bool):Prop where
 right:Right K'
 sheets:K'.sheets=K.sheets
 nfr:K'.frames.length=K.frames.length
 nsl:K'.slots.length=K.slots.length
 nsp:K'.spaces.length=K.spaces.length
 ar:∀ i,aH K' i=aH K i
 live:∀ i,(bv K' i).live=(bv K i).live
 peek:∀ i p,¬(i=sp∧p=page)→bz K' i p=bz K i p
 here:bz K' sp page=data
 ent:∀ i p,aZ (aE K' i) p=if i=sp∧p=page then some ⟨page,1,(f:Nat)⟩ else aZ (aE K i) p
 fm:aI K'.frames f=⟨data,1,dirty,false⟩
 other:∀ i,i≠f→(∀ w0,aZ (aE K sp) page=some w0→¬(w0.kind=1∧w0.at_=((i:Nat):Int)))→aI K'.frames i=aI K.frames i
theorem yw {K:Ker} {sp:Nat} {s:Sc} {page:Int} {f:Nat} {data:List UInt8} {dirty:Bool} (h:Right K) (hs:K.spaces[sp]?=some s) (hlive:s.live=true) (ha:(bN s.areas page).isSome=true) (hf:f < K.frames.length) (hN:aN K.spaces 1 (f:Nat)=[]) (hd:data.length=16) (hfill:dirty=true∨some data=dU K.sheets (zAt K sp page) page):InOk K (inK K sp page f data dirty) sp page f data dirty:=by
 have hsc:=dx.1 (h.spaces s (List.mem_of_getElem? hs))
 have hse:=bU hs
 have hent:aE K sp=s.entries:=by unfold aE;rw [hse]
 obtain ⟨e',he'⟩:∃ e':En,e'=⟨page,1,(f:Nat)⟩:=⟨_,rfl⟩
 obtain ⟨s',hs'⟩:∃ s':Sc,s'=⟨s.live,s.areas,fy s.entries e'⟩:=⟨_,rfl⟩
 obtain ⟨was,hwas⟩:∃ o,o=aZ s.entries page:=⟨_,rfl⟩
 obtain ⟨R,r1,r2,r3,r4⟩:=nD hsc.rises e'
 have hpe:e'.page=page:=by rw [he']
 rw [hpe,← hwas] at r1
 have hM:∀ k a,(aN K.spaces k a).Perm (nmL s k a was.toList++(nmL s k a R++aN (K.spaces.eraseIdx sp) k a)):=fun k a=>by
  refine (dZ (s':=s') hs k a).2.trans ?_
  rw [← List.append_assoc,← nJ]
  exact List.Perm.append_right _ (lR r1)
 have hM':∀ k a,(aN (K.spaces.set sp s') k a).Perm (nmL s k a [e']++(nmL s k a R++aN (K.spaces.eraseIdx sp) k a)):=fun k a=>by
  refine (dZ (s':=s') hs k a).1.trans ?_
  rw [← List.append_assoc,← nJ]
  refine List.Perm.append_right _ ?_
  have:nm1 s' k a=nmL s k a (fy s.entries e'):=by rw [hs'];rfl
  rw [this]
  exact lR r2
 obtain ⟨M,hMd⟩:∃ M:Int→Int→List Nm,M=fun k a=>nmL s k a R++aN (K.spaces.eraseIdx sp) k a:=⟨_,rfl⟩
 have hMe:∀ k a,nmL s k a R++aN (K.spaces.eraseIdx sp) k a=M k a:=fun k a=>by rw [hMd]
 simp only [hMe] at hM hM'
 have hMf:M 1 (f:Nat)=[]:=by
  have:=(hM 1 (f:Nat)).symm.trans (by rw [hN])
  exact (List.append_eq_nil_iff.1 this.eq_nil).2
 have hwf:∀ w0,was=some w0→w0.kind=1→w0.at_≠(f:Nat):=fun w0 hw k1 k2=>by
  have:=(hM 1 (f:Nat)).symm.trans (by rw [hN])
  rw [hw,Option.toList_some,iP [] ⟨k1,k2⟩] at this
  cases this.eq_nil
 have hwin:∀ w0,was=some w0→(w0.kind=1∧∃ b:Nat,w0.at_=(b:Nat)∧b < K.frames.length)∨(w0.kind=2∧∃ b:Nat,w0.at_=(b:Nat)∧b < K.slots.length):=fun w0 hw=>by
  rw [hwas] at hw
  exact (h.ent hs (ci hw).1).2
 -- what comes
 have hK':inK K sp page f data dirty=⟨K.sheets,(eu (cq K f ⟨data,1,dirty,false⟩) was).frames,(eu (cq K f ⟨data,1,dirty,false⟩) was).slots,K.spaces.set sp s',K.hand⟩:=by
  unfold inK n9 m5
  rw [hent,← hwas,hs',he']
  obtain ⟨l1,l2,l3,-⟩:=kF (cq K f ⟨data,1,dirty,false⟩) was
  have hl:bv (eu (cq K f ⟨data,1,dirty,false⟩) was) sp=s:=by
   unfold bv
   rw [l1]
   show (K.spaces[sp]?).getD sc0=s
   rw [hs]
   rfl
  rw [hl,l1,l2,l3]
  rfl
 rw [hK']
 have hlens:=kF (cq K f ⟨data,1,dirty,false⟩) was
 have hlf:(eu (cq K f ⟨data,1,dirty,false⟩) was).frames.length=K.frames.length:=by rw [hlens.2.2.2.1];show (K.frames.set f _).length=_;simp
 have hls:(eu (cq K f ⟨data,1,dirty,false⟩) was).slots.length=K.slots.length:=by rw [hlens.2.2.2.2];rfl
 have hscs:∀ i,bv ⟨K.sheets,(eu (cq K f ⟨data,1,dirty,false⟩) was).frames,(eu (cq K f ⟨data,1,dirty,false⟩) was).slots,K.spaces.set sp s',K.hand⟩ i=if i=sp then s' else bv K i:=fun i=>by
  unfold bv
  show ((K.spaces.set sp s')[i]?).getD sc0=_
  rw [List.getElem?_set]
  by_cases e:sp=i
  ·subst e;rw [if_pos rfl,if_pos (au hs),if_pos rfl];rfl
  ·rw [if_neg e,if_neg (fun hh=>e hh.symm)]
 have har:∀ i,aH ⟨K.sheets,(eu (cq K f ⟨data,1,dirty,false⟩) was).frames,(eu (cq K f ⟨data,1,dirty,false⟩) was).slots,K.spaces.set sp s',K.hand⟩ i=aH K i:=fun i=>by
  unfold aH
  rw [hscs]
  by_cases e:i=sp
  ·subst e;rw [if_pos rfl,hse,hs']
  ·rw [if_neg e]
 have hlv:∀ i,(bv ⟨K.sheets,(eu (cq K f ⟨data,1,dirty,false⟩) was).frames,(eu (cq K f ⟨data,1,dirty,false⟩) was).slots,K.spaces.set sp s',K.hand⟩ i).live=(bv K i).live:=fun i=>by
  rw [hscs]
  by_cases e:i=sp
  ·subst e;rw [if_pos rfl,hse,hs']
  ·rw [if_neg e]
 have hen:∀ i p,aZ (aE ⟨K.sheets,(eu (cq K f ⟨data,1,dirty,false⟩) was).frames,(eu (cq K f ⟨data,1,dirty,false⟩) was).slots,K.spaces.set sp s',K.hand⟩ i) p=if i=sp∧p=page then some ⟨page,1,(f:Nat)⟩ else aZ (aE K i) p:=fun i p=>by
  unfold aE
  rw [hscs]
  by_cases e:i=sp
  ·subst e
   rw [if_pos rfl,hse,hs']
   show aZ (fy s.entries e') p=_
   rw [tz hsc.rises,hpe]
   by_cases e2:p=page
   ·rw [if_pos e2,if_pos ⟨rfl,e2⟩,he']
   ·rw [if_neg e2,if_neg (fun hh=>e2 hh.2)]
  ·rw [if_neg e,if_neg (fun hh=>e hh.1)]
 -- frames and slots
 have hfr:∀ i,aI (eu (cq K f ⟨data,1,dirty,false⟩) was).frames i=if i=f then ⟨data,1,dirty,false⟩ else if (∃ w0,was=some w0∧w0.kind=1∧w0.at_=(i:Nat)) then gj (aI K.frames i) else aI K.frames i:=fun i=>by
  have hset:∀ j,aI (K.frames.set f ⟨data,1,dirty,false⟩) j=if j=f then ⟨data,1,dirty,false⟩ else aI K.frames j:=fun j=>by
   rw [ed]
   by_cases e:f=j
   ·subst e;rw [if_pos ⟨rfl,hf⟩,if_pos rfl]
   ·rw [if_neg (fun hh=>e hh.1),if_neg (fun hh=>e hh.symm)]
  cases hw:was with
  |none=>
   show aI (K.frames.set f _) i=_
   rw [hset]
   by_cases e:i=f
   ·rw [if_pos e,if_pos e]
   ·rw [if_neg e,if_neg e,if_neg]
    rintro ⟨w0,h1,-⟩
    cases h1
  |some w0=>
   have h1:=hwf w0 hw
   show aI (cC (cq K f _) w0).frames i=_
   unfold cC
   rcases hwin w0 hw with ⟨k,b,hb,hbl⟩|⟨k,b,hb,hbl⟩
   ·rw [if_pos k]
    show aI ((K.frames.set f ⟨data,1,dirty,false⟩).set w0.at_.toNat (gj (aI (K.frames.set f ⟨data,1,dirty,false⟩) w0.at_.toNat))) i=_
    rw [hb,show ((b:Nat):Int).toNat=b from rfl,ed,hset,hset]
    have hbf:¬ b=f:=fun e=>h1 k (by rw [hb,e])
    rw [if_neg hbf]
    by_cases e:b=i
    ·subst e
     rw [if_pos ⟨rfl,by simpa using hbl⟩,if_neg hbf,if_pos ⟨w0,rfl,k,hb⟩]
    ·rw [if_neg (fun hh=>e hh.1)]
     by_cases e2:i=f
     ·rw [if_pos e2,if_pos e2]
     ·rw [if_neg e2,if_neg e2,if_neg]
      rintro ⟨w1,h2,-,h3⟩
      cases h2
      rw [hb] at h3
      exact e (by omega)
   ·rw [if_neg (by omega)]
    show aI (K.frames.set f _) i=_
    rw [hset]
    by_cases e:i=f
    ·rw [if_pos e,if_pos e]
    ·rw [if_neg e,if_neg e,if_neg]
     rintro ⟨w1,h2,h3,-⟩
     cases h2
     omega
 have hsl:∀ i,cx (eu (cq K f ⟨data,1,dirty,false⟩) was).slots i=if (∃ w0,was=some w0∧w0.kind=2∧w0.at_=(i:Nat)) then gi (cx K.slots i) else cx K.slots i:=fun i=>by
  cases hw:was with
  |none=>
   show cx K.slots i=_
   rw [if_neg]
   rintro ⟨w0,h1,-⟩
   cases h1
  |some w0=>
   show cx (cC (cq K f _) w0).slots i=_
   unfold cC
   rcases hwin w0 hw with ⟨k,b,hb,hbl⟩|⟨k,b,hb,hbl⟩
   ·rw [if_pos k]
    show cx K.slots i=_
    rw [if_neg]
    rintro ⟨w1,h2,h3,-⟩
    cases h2
    omega
   ·rw [if_neg (by omega)]
    show cx (K.slots.set w0.at_.toNat (gi (cx K.slots w0.at_.toNat))) i=_
    rw [hb,show ((b:Nat):Int).toNat=b from rfl,gW]
    by_cases e:b=i
    ·subst e
     rw [if_pos ⟨rfl,hbl⟩,if_pos ⟨w0,rfl,k,hb⟩]
    ·rw [if_neg (fun hh=>e hh.1),if_neg]
     rintro ⟨w1,h2,-,h3⟩
     cases h2
     rw [hb] at h3
     exact e (by omega)
 -- who names what
 have hN1:∀ i:Nat,(∃ w0,was=some w0∧w0.kind=1∧w0.at_=(i:Nat))→∃ n,(aN K.spaces 1 (i:Nat)).Perm (n::M 1 (i:Nat)):=fun i ⟨w0,hw,h1,h2⟩=>by
  refine ⟨dv s w0,(hM 1 (i:Nat)).trans ?_⟩
  rw [hw,Option.toList_some,iP [] ⟨h1,h2⟩]
  exact List.Perm.refl _
 have hN1':∀ (k:Int) (i:Nat),¬(∃ w0,was=some w0∧w0.kind=k∧w0.at_=(i:Nat))→(aN K.spaces k (i:Nat)).Perm (M k (i:Nat)):=fun k i hno=>by
  refine (hM k (i:Nat)).trans ?_
  cases hw:was with
  |none=>exact List.Perm.refl _
  |some w0=>
   rw [Option.toList_some,lJ [] (fun hh=>hno ⟨w0,hw,hh.1,hh.2⟩)]
   exact List.Perm.refl _
 have hN2:∀ i:Nat,(∃ w0,was=some w0∧w0.kind=2∧w0.at_=(i:Nat))→∃ n,(aN K.spaces 2 (i:Nat)).Perm (n::M 2 (i:Nat)):=fun i ⟨w0,hw,h1,h2⟩=>by
  refine ⟨dv s w0,(hM 2 (i:Nat)).trans ?_⟩
  rw [hw,Option.toList_some,iP [] ⟨h1,h2⟩]
  exact List.Perm.refl _
 have hNn:∀ (k:Int) (i:Nat),¬(k=1∧i=f)→(aN (K.spaces.set sp s') k (i:Nat)).Perm (M k (i:Nat)):=fun k i hno=>by
  refine (hM' k (i:Nat)).trans ?_
  rw [he',lJ []]
  ·exact List.Perm.refl _
  ·rintro ⟨h1,h2⟩
   exact hno ⟨h1.symm,by have:((f:Nat):Int)=(i:Nat):=h2;omega⟩
 have hNf:(aN (K.spaces.set sp s') 1 (f:Nat)).Perm [dv s e']:=by
  refine (hM' 1 (f:Nat)).trans ?_
  rw [hMf,iP [] (by rw [he'];exact ⟨rfl,rfl⟩)]
  exact List.Perm.refl _
 -- an entry that stays: its data
 have hdata:∀ (x:En),(x.kind=1∨x.kind=2)→(∃ b:Nat,x.at_=(b:Nat)∧(x.kind=1→b < K.frames.length)∧(x.kind=2→b < K.slots.length))→M x.kind x.at_≠[]→bJ ⟨K.sheets,(eu (cq K f ⟨data,1,dirty,false⟩) was).frames,(eu (cq K f ⟨data,1,dirty,false⟩) was).slots,K.spaces.set sp s',K.hand⟩ x=bJ K x:=fun x hk ⟨b,hb,hb1,hb2⟩ hne=>by
  unfold bJ
  rcases hk with hk|hk
  ·rw [if_pos hk,if_pos hk]
   dsimp only
   rw [hb,show ((b:Nat):Int).toNat=b from rfl,hfr]
   rw [hk,hb] at hne
   by_cases e:b=f
   ·subst e;exact absurd hMf hne
   ·rw [if_neg e]
    by_cases hw:∃ w0,was=some w0∧w0.kind=1∧w0.at_=(b:Nat)
    ·rw [if_pos hw]
     obtain ⟨n,hn⟩:=hN1 b hw
     have hbo:=(h.fr b _ (List.getElem?_eq_getElem (hb1 hk))).perm hn
     rw [bi (List.getElem?_eq_getElem (hb1 hk))]
     cases hMb:M 1 (b:Nat) with
     |nil=>exact absurd hMb hne
     |cons m N=>
      rw [hMb] at hbo
      exact o8 hbo
    ·rw [if_neg hw]
  ·rw [if_neg (by omega),if_neg (by omega)]
   dsimp only
   rw [hb,show ((b:Nat):Int).toNat=b from rfl,hsl]
   rw [hk,hb] at hne
   by_cases hw:∃ w0,was=some w0∧w0.kind=2∧w0.at_=(b:Nat)
   ·rw [if_pos hw]
    obtain ⟨n,hn⟩:=hN2 b hw
    have hbo:=(h.sl b _ (List.getElem?_eq_getElem (hb2 hk))).perm hn
    rw [cW (List.getElem?_eq_getElem (hb2 hk))]
    cases hMb:M 2 (b:Nat) with
    |nil=>exact absurd hMb hne
    |cons m N=>
     rw [hMb] at hbo
     exact nj hbo
   ·rw [if_neg hw]
 have hfmf:aI (eu (cq K f ⟨data,1,dirty,false⟩) was).frames f=⟨data,1,dirty,false⟩:=by rw [hfr,if_pos rfl]
 have hcnt:=h.cnt
 have hhand:=h.hand
 refine ⟨⟨?_,h.rise,?_,fun x hx=>?_,?_,fun i g hg=>?_,fun i g hg=>?_⟩,rfl,hlf,hls,by simp,har,hlv,fun i p hno=>?_,?_,hen,hfmf,fun i hi hw=>?_⟩
 ·dsimp only
  rw [hlf,hls,List.length_set]
  exact hcnt
 ·dsimp only
  rw [hlf]
  exact hhand
 ·dsimp only at hx ⊢
  rw [hlf,hls]
  rcases List.mem_or_eq_of_mem_set hx with hx|rfl
  ·exact h.spaces x hx
  ·rw [dx,hs']
   refine ⟨fun hl=>(by rw [hlive] at hl;cases hl),hsc.ar,hsc.pages,fun e he=>?_,r3⟩
   rcases List.mem_cons.1 (r2.mem_iff.1 he) with rfl|he
   ·rw [he']
    exact ⟨ha,Or.inl ⟨rfl,Int.natCast_nonneg f,by show ((f:Nat):Int) < _;omega⟩⟩
   ·exact hsc.ents e (r1.mem_iff.2 (List.mem_append_right _ he))
 ·dsimp only
  rw [hls]
  have:bu (K.spaces.set sp s')=bu K.spaces:=by
   unfold bu
   rw [List.map_set,hs']
   congr 1
   refine List.ext_getElem? fun j=>?_
   rw [List.getElem?_set]
   by_cases e:sp=j
   ·subst e
    rw [if_pos rfl,List.length_map,if_pos (au hs),List.getElem?_map,hs]
    rfl
   ·rw [if_neg e]
  rw [this]
  exact h.room
 ·dsimp only at hg ⊢
  have hil:i < K.frames.length:=by have:=au hg;omega
  have hgi:=List.getElem?_eq_getElem hil
  have hge:=hfr i
  rw [bi hg,bi hgi] at hge
  by_cases e:i=f
  ·subst e
   rw [if_pos rfl] at hge
   refine FmOk.perm (N:=[dv s e']) ?_ hNf.symm
   rw [hge]
   refine ⟨rfl,(fun hh=>by cases hh),fun _=>hd,fun n hn m hm=>?_,fun n hn=>?_⟩
   ·rw [List.mem_singleton] at hn hm
    subst hn;subst hm
    exact ⟨rfl,rfl⟩
   ·rw [List.mem_singleton] at hn
    subst hn
    rcases hfill with hh|hh
    ·exact Or.inl hh
    ·right
     rw [uM hs,hpe]
     rw [show (dv s e').1.page=page from hpe]
     exact hh
  ·rw [if_neg e] at hge
   have hpm:=hNn 1 i (fun hh=>e hh.2)
   by_cases hw:∃ w0,was=some w0∧w0.kind=1∧w0.at_=(i:Nat)
   ·rw [if_pos hw] at hge
    obtain ⟨n,hn⟩:=hN1 i hw
    rw [hge]
    exact ((h.fr i _ hgi).perm hn).dec.perm hpm.symm
   ·rw [if_neg hw] at hge
    rw [hge]
    exact (h.fr i _ hgi).perm ((hN1' 1 i hw).trans hpm.symm)
 ·dsimp only at hg ⊢
  have hil:i < K.slots.length:=by have:=au hg;omega
  have hgi:=List.getElem?_eq_getElem hil
  have hge:=hsl i
  rw [cW hg,cW hgi] at hge
  have hpm:=hNn 2 i (fun hh=>by omega)
  by_cases hw:∃ w0,was=some w0∧w0.kind=2∧w0.at_=(i:Nat)
  ·rw [if_pos hw] at hge
   obtain ⟨n,hn⟩:=hN2 i hw
   rw [hge]
   exact ((h.sl i _ hgi).perm hn).dec.perm hpm.symm
  ·rw [if_neg hw] at hge
   rw [hge]
   exact (h.sl i _ hgi).perm ((hN1' 2 i hw).trans hpm.symm)
 ·unfold bz
  rw [hen,if_neg hno]
  cases hx:aZ (aE K i) p with
  |none=>exact eO (hs:=by exact rfl) (ha:=har i) p
  |some x=>
   show bJ _ x=bJ K x
   obtain ⟨hx1,hx2⟩:=ci hx
   cases hi:K.spaces[i]? with
   |none=>unfold aE at hx1;rw [iU hi] at hx1;cases hx1
   |some t=>
    unfold aE at hx1
    rw [bU hi] at hx1
    have hin:=(h.ent hi hx1).2
    have hk:x.kind=1∨x.kind=2:=by rcases hin with ⟨a,-⟩|⟨a,-⟩ <;> omega
    refine hdata x hk ?_ ?_
    ·rcases hin with ⟨a,b,c,d⟩|⟨a,b,c,d⟩
     ·exact ⟨b,c,fun _=>d,fun hh=>by omega⟩
     ·exact ⟨b,c,fun hh=>by omega,fun _=>d⟩
    ·rw [← hMe]
     intro hnil
     obtain ⟨h1,h2⟩:=List.append_eq_nil_iff.1 hnil
     by_cases e:i=sp
     ·subst e
      rw [hs] at hi
      cases hi
      have hxR:x ∈ R:=by
       rcases List.mem_append.1 (r1.mem_iff.1 hx1) with h4|h4
       ·exfalso
        rw [Option.mem_toList,hwas] at h4
        exact hno ⟨rfl,hx2.symm.trans (ci h4).2⟩
       ·exact h4
      have:dv s x ∈ nmL s x.kind x.at_ R:=List.mem_map.2 ⟨x,List.mem_filter.2 ⟨hxR,by simp⟩,rfl⟩
      rw [h1] at this
      cases this
     ·have hte:t ∈ K.spaces.eraseIdx sp:=List.mem_eraseIdx_iff_getElem?.2 ⟨i,e,hi⟩
      have:dv t x ∈ aN (K.spaces.eraseIdx sp) x.kind x.at_:=by
       rw [bZ,List.mem_flatMap]
       exact ⟨t,hte,List.mem_map.2 ⟨x,List.mem_filter.2 ⟨hx1,by simp⟩,rfl⟩⟩
      rw [h2] at this
      cases this
 ·unfold bz
  rw [hen,if_pos ⟨rfl,rfl⟩]
  show bJ _ (⟨page,1,(f:Nat)⟩:En)=data
  unfold bJ
  rw [if_pos rfl]
  show (aI (eu (cq K f ⟨data,1,dirty,false⟩) was).frames f).data=data
  rw [hfmf]
 ·show aI (eu (cq K f ⟨data,1,dirty,false⟩) was).frames i=_
  rw [hfr,if_neg hi,if_neg]
  rintro ⟨w0,h1,h2,h3⟩
  exact hw w0 (by rw [hent,← hwas];exact h1) ⟨h2,h3⟩
end Go.Proofs.Ytejnpppejalhfac
/- A page that is brought: what comes is right, and no page tells another thing. -/
namespace Go.Proofs.Ytejnpppejalhfac
open Go.RowKit Go.Sort
structure At (K:Ker) (sp:Nat) (page:Int):Prop where
 live:(bv K sp).live=true
 ar:(bN (aH K sp) page).isSome=true
theorem At.sc {K:Ker} {sp:Nat} {page:Int} (h:At K sp page):∃ s,K.spaces[sp]?=some s∧s.live=true∧(bN s.areas page).isSome=true:=by
 have h1:=h.live
 have h2:=h.ar
 unfold aH at h2
 cases hs:K.spaces[sp]? with
 |none=>rw [iU hs] at h1;cases h1
 |some s=>rw [bU hs] at h1 h2;exact ⟨s,rfl,h1,h2⟩
theorem At.same {K K':Ker} {sp:Nat} {page:Int} (h:At K sp page) (h1:∀ i,aH K' i=aH K i) (h2:∀ i,(bv K' i).live=(bv K i).live):At K' sp page:=⟨(h2 sp).trans h.live,by rw [h1];exact h.ar⟩
theorem wL {l:List Sh} (h:dJ 0 l=true) {p:Int} {s:Sh} (hs:sJ l p=some s):(ni s).length=16:=by
 exact tC ((gm h).1 s (List.mem_of_find?_eq_some hs)).1
theorem lX {K:Ker} (h:Right K) {sp:Nat} {page:Int} (ha:At K sp page):∃ d,dU K.sheets (zAt K sp page) page=some d∧d.length=16∧di K sp page=d:=by
 obtain ⟨s,hs,hl,hf⟩:=ha.sc
 have hsc:=dx.1 (h.spaces s (List.mem_of_getElem? hs))
 obtain ⟨a,haa⟩:=Option.isSome_iff_exists.1 hf
 have hz:zAt K sp page=a.z:=by unfold zAt aH;rw [bU hs,haa];rfl
 have hm:=List.mem_of_find?_eq_some haa
 have hh:=List.find?_some haa
 unfold dz Ar.fin at hh
 rw [decide_eq_true_eq] at hh
 have hp:=hsc.pages
 unfold gy at hp
 have h3:=List.all_eq_true.1 (List.all_eq_true.1 hp a hm) (page - a.pg).toNat (by rw [List.mem_range];omega)
 rw [show a.pg + (((page - a.pg).toNat:Nat):Int)=page by omega] at h3
 obtain ⟨d,hd⟩:=Option.isSome_iff_exists.1 h3
 refine ⟨d,by rw [hz];exact hd,?_,by unfold di;rw [hz,hd];rfl⟩
 unfold dU at hd
 cases hza:a.z with
 |true=>rw [hza,if_pos rfl] at hd;cases hd;simp
 |false=>
  rw [hza,if_neg (by simp)] at hd
  obtain ⟨x,hx,rfl⟩:=Option.map_eq_some_iff.1 hd
  exact wL h.rise hx
theorem gQ {K:Ker} (h:Right K) {sp:Nat} {p:Int} {e:En} (he:aZ (aE K sp) p=some e) :
  e.page=p∧((e.kind=1∧∃ i:Nat,e.at_=(i:Nat)∧i < K.frames.length∧(aI K.frames i).refs≠0∧(aI K.frames i).data.length=16)∨(e.kind=2∧∃ i:Nat,e.at_=(i:Nat)∧i < K.slots.length∧(cx K.slots i).refs≠0∧(cx K.slots i).data.length=16))∧∃ s,K.spaces[sp]?=some s∧e ∈ s.entries:=by
 obtain ⟨h1,h2⟩:=ci he
 cases hs:K.spaces[sp]? with
 |none=>unfold aE at h1;rw [iU hs] at h1;cases h1
 |some s=>
  have h3:e ∈ s.entries:=by unfold aE at h1;rwa [bU hs] at h1
  have hn:=gq hs h3
  refine ⟨h2,?_,s,rfl,h3⟩
  rcases (h.ent hs h3).2 with ⟨a,i,b,c⟩|⟨a,i,b,c⟩
  ·have ho:=h.fr i _ (List.getElem?_eq_getElem c)
   rw [a,b] at hn
   refine Or.inl ⟨a,i,b,c,?_,?_⟩
   ·rw [bi (List.getElem?_eq_getElem c),ho.refs]
    intro e0
    have:aN K.spaces 1 (i:Nat)=[]:=List.eq_nil_of_length_eq_zero (by omega)
    rw [this] at hn
    cases hn
   ·rw [bi (List.getElem?_eq_getElem c)]
    exact ho.len (fun e0=>by rw [e0] at hn;cases hn)
  ·have ho:=h.sl i _ (List.getElem?_eq_getElem c)
   rw [a,b] at hn
   refine Or.inr ⟨a,i,b,c,?_,?_⟩
   ·rw [cW (List.getElem?_eq_getElem c),ho.refs]
    intro e0
    have:aN K.spaces 2 (i:Nat)=[]:=List.eq_nil_of_length_eq_zero (by omega)
    rw [this] at hn
    cases hn
   ·rw [cW (List.getElem?_eq_getElem c)]
    exact ho.len (fun e0=>by rw [e0] at hn;cases hn)
theorem jT {K:Ker} (h:Right K) {sp sp':Nat} {p q:Int} {i:Nat} (h1:aZ (aE K sp) p=some ⟨p,1,(i:Nat)⟩) (h2:aZ (aE K sp') q=some ⟨q,1,(i:Nat)⟩):p=q:=by
 obtain ⟨-,h3,s,hs,hm⟩:=gQ h h1
 obtain ⟨-,-,s',hs',hm'⟩:=gQ h h2
 have n1:=gq hs hm
 have n2:=gq hs' hm'
 dsimp only at n1 n2
 rcases h3 with ⟨-,j,hj,hjl,-⟩|⟨hk,-⟩
 ·obtain rfl:i=j:=by have:((i:Nat):Int)=(j:Nat):=hj;omega
  have ho:=h.fr i _ (List.getElem?_eq_getElem hjl)
  exact (ho.same _ n2 _ n1).1
 ·cases hk
structure vN (K:Ker) (sp:Nat) (page:Int) (held:List Nat) (r:Ker×Nat):Prop where
 right:Right r.1
 same:SameP K r.1
 lt:r.2 < K.frames.length
 ent:aZ (aE r.1 sp) page=some ⟨page,1,(r.2:Nat)⟩
 kept:∀ i ∈ held,∀ p,p≠page→aZ (aE K sp) p=some ⟨p,1,(i:Nat)⟩→aZ (aE r.1 sp) p=some ⟨p,1,(i:Nat)⟩∧aI r.1.frames i=aI K.frames i
theorem InOk.same {K K' K2:Ker} {sp:Nat} {page:Int} {f:Nat} {data:List UInt8} {dirty:Bool} (h:InOk K' K2 sp page f data dirty) (h0:SameP K K') (hp:data=bz K sp page):SameP K K2:=by
 refine ⟨h.sheets.trans h0.sheets,h.nfr.trans h0.nfr,h.nsl.trans h0.nsl,h.nsp.trans h0.nsp,fun i=>(h.ar i).trans (h0.ar i),fun i=>(h.live i).trans (h0.live i),fun i p=>?_⟩
 by_cases e:i=sp∧p=page
 ·obtain ⟨rfl,rfl⟩:=e
  rw [h.here,hp]
 ·rw [h.peek i p e,h0.peek]
theorem re {K:Ker} (h:Right K) {sp:Nat} {page:Int} (ha:At K sp page) {held more:List Nat} (hl:(held++more).length≤2) {data:List UInt8} {dirty:Bool} (hd:data.length=16) (hfill:dirty=true∨some data=dU K.sheets (zAt K sp page) page) (hp:data=bz K sp page)
  (hne:∀ i ∈ held,aZ (aE K sp) page≠some ⟨page,1,(i:Nat)⟩) (hwas:∀ e,aZ (aE K sp) page=some e→e.kind=1→∃ i ∈ more,e.at_=((i:Nat):Int)) :
  vN K sp page held (inK (dm K (held++more)).1 sp page (dm K (held++more)).2 data dirty,(dm K (held++more)).2)∧aI (inK (dm K (held++more)).1 sp page (dm K (held++more)).2 data dirty).frames (dm K (held++more)).2=⟨data,1,dirty,false⟩:=by
 have g:=k7 h hl
 generalize dm K (held++more)=G at g ⊢
 have ha':=ha.same g.same.ar g.same.live
 obtain ⟨s',hs',hl',hf'⟩:=ha'.sc
 have hz:zAt G.1 sp page=zAt K sp page:=by unfold zAt;rw [g.same.ar]
 have hent:aZ (aE G.1 sp) page=aZ (aE K sp) page:=by
  cases he:aZ (aE K sp) page with
  |none=>exact g.none_ sp page he
  |some e=>
   refine g.some_ sp page e he ?_
   by_cases hk:e.kind=1
   ·obtain ⟨i,hi,hia⟩:=hwas e he hk
    obtain ⟨-,hn,-⟩:=gQ h he
    rcases hn with ⟨-,j,hj,-,hr,-⟩|⟨hk2,-⟩
    ·obtain rfl:i=j:=by omega
     exact Or.inr ⟨i,List.mem_append_right _ hi,hia,hr⟩
    ·omega
   ·exact Or.inl hk
 have hin:=yw (data:=data) (dirty:=dirty) g.right hs' hl' hf' (by rw [g.same.nfr];exact g.lt) g.nobody hd (by rw [g.same.sheets,hz];exact hfill)
 refine ⟨⟨hin.right,hin.same g.same hp,g.lt,?_,fun i hi p hpp he=>?_⟩,hin.fm⟩
 ·rw [hin.ent,if_pos ⟨rfl,rfl⟩]
 ·obtain ⟨-,hn,-⟩:=gQ h he
  have hr:(aI K.frames i).refs≠0:=by
   rcases hn with ⟨-,j,hj,-,hr,-⟩|⟨hk2,-⟩
   ·obtain rfl:i=j:=by have:((i:Nat):Int)=(j:Nat):=hj;omega
    exact hr
   ·cases hk2
  have hk:=g.kept i (List.mem_append_left _ hi) hr
  constructor
  ·rw [hin.ent,if_neg (fun hh=>hpp hh.2)]
   exact g.some_ sp p _ he (Or.inr ⟨i,List.mem_append_left _ hi,rfl,hr⟩)
  ·rw [hin.other i (Ne.symm hk.1) (fun w0 hw ⟨k1,k2⟩=>?_)]
   ·exact hk.2
   ·rw [hent] at hw
    have hpg:=(ci hw).2
    refine hne i hi ?_
    rw [hw]
    cases w0
    dsimp only at k1 k2 hpg
    subst k1 k2 hpg
    rfl
theorem mU {K:Ker} (h:Right K) {sp:Nat} {page:Int} (ha:At K sp page) {held:List Nat} (hl:held.length≤1) (hh:∀ i ∈ held,∃ p,p≠page∧aZ (aE K sp) p=some ⟨p,1,(i:Nat)⟩):vN K sp page held (gD K sp page held):=by
 have hne:∀ i ∈ held,aZ (aE K sp) page≠some ⟨page,1,(i:Nat)⟩:=fun i hi he=>by
  obtain ⟨p,hp,hp2⟩:=hh i hi
  exact hp (jT h hp2 he)
 have hap:=List.append_nil held
 unfold gD
 cases he:aZ (aE K sp) page with
 |none=>
  obtain ⟨d,d1,d2,d3⟩:=lX h ha
  have:=(re h ha (held:=held) (more:=[]) (by rw [hap];omega) (data:=d) (dirty:=false) d2 (Or.inr d1.symm) (by unfold bz;rw [he];exact d3.symm) hne (fun e hee=>by rw [he] at hee;cases hee)).1
  rw [hap] at this
  show vN _ _ _ _ (inK (dm K held).1 sp page (dm K held).2 (di K sp page) false,(dm K held).2)
  rw [d3]
  exact this
 |some e=>
  obtain ⟨hpg,hn,-⟩:=gQ h he
  dsimp only
  by_cases hk:e.kind=2
  ·rw [if_pos hk]
   rcases hn with ⟨hk1,-⟩|⟨-,i,hi,hil,hir,hid⟩
   ·omega
   have:=(re h ha (held:=held) (more:=[]) (by rw [hap];omega) (data:=(cx K.slots e.at_.toNat).data) (dirty:=true) (by rw [hi];exact hid) (Or.inl rfl) (by unfold bz;rw [he];show _=bJ K e;unfold bJ;rw [if_neg (by omega)]) hne (fun x hx hk1=>by rw [he] at hx;cases hx;omega)).1
   rw [hap] at this
   exact this
  ·rw [if_neg hk]
   rcases hn with ⟨hk1,i,hi,hil,hir,hid⟩|⟨hk2,-⟩
   ·refine ⟨h,SameP.refl K,by show e.at_.toNat < _;omega,?_,fun i hi p hp hpp=>⟨hpp,rfl⟩⟩
    show aZ (aE K sp) page=_
    rw [he]
    cases e
    dsimp only at hk1 hi hpg ⊢
    subst hk1 hi hpg
    rfl
   ·omega
theorem mr {K:Ker} (h:Right K) {sp:Nat} {page:Int} (ha:At K sp page) (write:Bool) {held:List Nat} (hl:held.length≤1) (hh:∀ i ∈ held,∃ p,p≠page∧aZ (aE K sp) p=some ⟨p,1,(i:Nat)⟩) :
  vN K sp page held (eI K sp page write held)∧(write=true→(aI (eI K sp page write held).1.frames (eI K sp page write held).2).refs≤1):=by
 have hA:=mU h ha hl hh
 unfold eI
 generalize gD K sp page held=A at hA ⊢
 unfold lI
 by_cases hw:write=true∧1 < (aI A.1.frames A.2).refs
 rotate_left
 ·rw [if_neg hw]
  exact ⟨hA,fun h1=>by
   have:¬ 1 < (aI A.1.frames A.2).refs:=fun h2=>hw ⟨h1,h2⟩
   show (aI A.1.frames A.2).refs≤1
   omega⟩
 rw [if_pos hw]
 have haA:=ha.same hA.same.ar hA.same.live
 obtain ⟨-,hn,-⟩:=gQ hA.right hA.ent
 have hlen:(aI A.1.frames A.2).data.length=16:=by
  rcases hn with ⟨-,j,hj,-,-,hd⟩|⟨hk2,-⟩
  ·obtain rfl:A.2=j:=by have:((A.2:Nat):Int)=(j:Nat):=hj;omega
   exact hd
  ·cases hk2
 have hL:=re hA.right haA (held:=held) (more:=[A.2]) (by rw [List.length_append,List.length_singleton];omega) (data:=(aI A.1.frames A.2).data) (dirty:=true) hlen (Or.inl rfl) (by unfold bz;rw [hA.ent];show _=bJ A.1 ⟨page,1,(A.2:Nat)⟩;unfold bJ;rw [if_pos rfl];rfl)
  (fun i hi he=>by
   obtain ⟨p,hp,hp2⟩:=hh i hi
   exact hp (jT hA.right (hA.kept i hi p hp hp2).1 he)) (fun e hee hk=>by rw [hA.ent] at hee;cases hee;exact ⟨A.2,by simp,rfl⟩)
 obtain ⟨b,hfm⟩:=hL
 refine ⟨⟨b.right,hA.same.trans b.same,by have:=b.lt;rw [hA.same.nfr] at this;exact this,b.ent,fun i hi p hp he=>?_⟩,fun _=>?_⟩
 ·have h1:=hA.kept i hi p hp he
  have h2:=b.kept i hi p hp h1.1
  exact ⟨h2.1,h2.2.trans h1.2⟩
 ·show (aI (inK _ sp page _ _ true).frames _).refs≤1
  rw [hfm]
  exact Int.le_refl _
theorem uf {K:Ker} (h:Right K) {f:Nat} (hf:f < K.frames.length) (hr:(aI K.frames f).refs≠0) (write:Bool):Right (eY K f write)∧SameP K (eY K f write)∧(∀ i,i≠f→aI (eY K f write).frames i=aI K.frames i)∧aI (eY K f write).frames f=⟨(aI K.frames f).data,(aI K.frames f).refs,(aI K.frames f).dirty||write,true⟩:=by
 have hset:∀ j,aI (eY K f write).frames j=if j=f then ⟨(aI K.frames f).data,(aI K.frames f).refs,(aI K.frames f).dirty||write,true⟩ else aI K.frames j:=fun j=>by
  unfold eY cq
  dsimp only
  rw [ed]
  by_cases e:f=j
  ·subst e;rw [if_pos ⟨rfl,hf⟩,if_pos rfl]
  ·rw [if_neg (fun hh=>e hh.1),if_neg (fun hh=>e hh.symm)]
 have hlen:(eY K f write).frames.length=K.frames.length:=by unfold eY cq;simp
 have hsame:∀ i,(aI (eY K f write).frames i).data=(aI K.frames i).data:=fun i=>by
  rw [hset]
  by_cases e:i=f
  ·subst e;rw [if_pos rfl]
  ·rw [if_neg e]
 have hc:=h.cnt
 have hh:=h.hand
 have hsp:=h.spaces
 refine ⟨⟨by rw [hlen];exact hc,h.rise,by rw [hlen];exact hh,fun s hs=>by rw [hlen];exact hsp s hs,h.room,fun i g hg=>?_,h.sl⟩,⟨rfl,hlen,rfl,rfl,fun _=>rfl,fun _=>rfl,fun sp p=>?_⟩,fun i hi=>by rw [hset,if_neg hi],by rw [hset,if_pos rfl]⟩
 ·have hil:i < K.frames.length:=by have:=au hg;omega
  have hgi:=List.getElem?_eq_getElem hil
  have hge:=hset i
  rw [bi hg] at hge
  have ho:=h.fr i _ hgi
  by_cases e:i=f
  ·subst e
   rw [if_pos rfl] at hge
   rw [bi hgi] at hge hr
   rw [hge]
   refine ⟨ho.refs,fun e0=>absurd (by rw [ho.refs];show ((aN K.spaces 1 (i:Nat)).length:Int)=0;rw [show aN K.spaces 1 (i:Nat)=[] from e0];rfl) hr,ho.len,ho.same,fun n hn=>?_⟩
   rcases ho.data n hn with hd|hd
   ·left;show (_||write)=true;rw [hd];rfl
   ·exact Or.inr hd
  ·rw [if_neg e,bi hgi] at hge
   rw [hge]
   exact ho
 ·unfold bz
  show (match aZ (aE K sp) p with
   |some e=>bJ (eY K f write) e
   |none=>di K sp p)=_
  cases aZ (aE K sp) p with
  |none=>rfl
  |some e=>
   show bJ _ e=bJ K e
   unfold bJ
   rw [hsame]
   rfl
theorem fq {K:Ker} (h:Right K) {sp:Nat} {p:Int} {i:Nat} (he:aZ (aE K sp) p=some ⟨p,1,(i:Nat)⟩):i < K.frames.length∧(aI K.frames i).refs≠0∧(aI K.frames i).data.length=16:=by
 obtain ⟨-,hn,-⟩:=gQ h he
 rcases hn with ⟨-,j,hj,h1,h2,h3⟩|⟨hk2,-⟩
 ·obtain rfl:i=j:=by have:((i:Nat):Int)=(j:Nat):=hj;omega
  exact ⟨h1,h2,h3⟩
 ·cases hk2
theorem kB {K:Ker} (h:Right K) {sp:Nat} {page:Int} (ha:At K sp page) (write:Bool) {held:List Nat} (hl:held.length≤1) (hh:∀ i ∈ held,∃ p,p≠page∧aZ (aE K sp) p=some ⟨p,1,(i:Nat)⟩) :
  vN K sp page held (dI K sp page write held)∧(write=true→(aI (dI K sp page write held).1.frames (dI K sp page write held).2).refs=1∧(aI (dI K sp page write held).1.frames (dI K sp page write held).2).dirty=true):=by
 obtain ⟨b,hw⟩:=mr h ha write hl hh
 unfold dI
 generalize eI K sp page write held=B at b hw ⊢
 obtain ⟨n1,n2,n3⟩:=fq b.right b.ent
 obtain ⟨s1,s2,s3,s4⟩:=uf b.right n1 n2 write
 refine ⟨⟨s1,b.same.trans s2,b.lt,b.ent,fun i hi p hp he=>?_⟩,fun hwr=>?_⟩
 ·have hk:=b.kept i hi p hp he
  refine ⟨hk.1,?_⟩
  show aI (eY B.1 B.2 write).frames i=_
  rw [s3 i ?_]
  ·exact hk.2
  ·rintro rfl
   exact hp (jT b.right hk.1 b.ent)
 ·show (aI (eY B.1 B.2 write).frames B.2).refs=1∧(aI (eY B.1 B.2 write).frames B.2).dirty=true
  rw [s4]
  refine ⟨?_,by show (_||write)=true;rw [hwr,Bool.or_true]⟩
  have h1:=hw hwr
  have ho:=b.right.fr B.2 _ (List.getElem?_eq_getElem n1)
  have h2:=ho.refs
  rw [bi (List.getElem?_eq_getElem n1)] at h1 n2 ⊢
  show (B.1.frames[B.2]'n1).refs=1
  omega
end Go.Proofs.Ytejnpppejalhfac
/- A kernel at work, in memory; space, entry and room of it. -/
namespace Go.Proofs.Ytejnpppejalhfac
open Go.RowKit Go.Sort
theorem vX {l:List Sc} {i:Nat} {s:Sc} (h:l[i]?=some s):bu (l.take (i + 1))=bu (l.take i) + bT s.areas:=by rw [dK h,jz]
def wkB (k:KV) (sp:Nat) (vh:Value):List Value:=[k.vsh,k.vfr,k.vsl,k.vsp,.int .i64 k.hand,.int .i64 (sp:Nat),vh]
def hdA (vh:Value) (held:List Nat):Asr:=.row 3 1 vh (held.map fun i=>[.int .i64 (i:Nat)])
def frA (k:KV):Asr:=.row 43 4 k.vfr (k.fr.map fmC)
def slA (k:KV):Asr:=.row 45 2 k.vsl (k.sl.map swC)
def fS (k:KV):Asr:=.row 41 3 k.vsp (k.sp.map spC)
def wkS (g:Nat) (k:KV) (sp:Nat) (vh:Value) (held:List Nat):List Asr:=.blk g (wkB k sp vh)::hdA vh held::frA k::slA k::fS k::k.sp.map cO
structure KRo (F:Nat→Prop) (w:World) (k:KV):Prop where
 sh:ShsF F w k.sh k.vsh
 ar:∀ p ∈ k.sp,Sl F w 4 p.va (p.s.areas.map arC)
theorem KRo.nowM {F:Nat→Prop} {w0 w:World} {Θ Γ:List Asr} {k:KV} (h:KRo F w0 k) (hS:St F w0 w (Θ++Γ)):KRo (fps Θ) w k:=⟨h.sh.nowM hS,fun p hp=>(h.ar p hp).nowM hS⟩
structure KLike (k k':KV):Prop where
 sh:k'.sh=k.sh
 vsh:k'.vsh=k.vsh
 ar:k'.sp.map (fun p=>(p.va,p.s.areas))=k.sp.map (fun p=>(p.va,p.s.areas))
theorem KLike.refl (k:KV):KLike k k:=⟨rfl,rfl,rfl⟩
theorem KLike.trans {k k' k2:KV} (h:KLike k k') (h2:KLike k' k2):KLike k k2:=⟨h2.sh.trans h.sh,h2.vsh.trans h.vsh,h2.ar.trans h.ar⟩
theorem KRo.like {F:Nat→Prop} {w:World} {k k':KV} (h:KRo F w k) (hl:KLike k k'):KRo F w k':=by
 refine ⟨by rw [hl.sh,hl.vsh];exact h.sh,fun p hp=>?_⟩
 have:(p.va,p.s.areas) ∈ k.sp.map (fun p=>(p.va,p.s.areas)):=by rw [← hl.ar];exact List.mem_map.2 ⟨p,hp,rfl⟩
 obtain ⟨q,hq,he⟩:=List.mem_map.1 this
 obtain ⟨e1,e2⟩:=Prod.mk.inj he
 rw [← e1,← e2]
 exact h.ar q hq
structure WkV (w:World) (g:Nat) (k:KV) (sp:Nat) (vh:Value) (held:List Nat):Prop where
 c0:Bs nF w ⟨g,0,none⟩ k.vsh
 c1:Bs nF w ⟨g,1,none⟩ k.vfr
 c2:Bs nF w ⟨g,2,none⟩ k.vsl
 c3:Bs nF w ⟨g,3,none⟩ k.vsp
 c4:Bs nF w ⟨g,4,none⟩ (.int .i64 k.hand)
 c5:Bs nF w ⟨g,5,none⟩ (.int .i64 (sp:Nat))
 c6:Bs nF w ⟨g,6,none⟩ vh
 held:Sl nF w 1 vh (held.map fun i=>[.int .i64 (i:Nat)])
 ker:KerV w k
theorem WkV.of {F:Nat→Prop} {w0 w:World} {Γ:List Asr} {g:Nat} {k:KV} {sp:Nat} {vh:Value} {held:List Nat} (hS:St F w0 w (wkS g k sp vh held++Γ)) (hR:KRo F w0 k):WkV w g k sp vh held:=by
 refine ⟨Bs.of (hS.blkC 0 rfl rfl),Bs.of (hS.blkC 0 rfl rfl),Bs.of (hS.blkC 0 rfl rfl),Bs.of (hS.blkC 0 rfl rfl),Bs.of (hS.blkC 0 rfl rfl),Bs.of (hS.blkC 0 rfl rfl),Bs.of (hS.blkC 0 rfl rfl),hS.rowSl 1 rfl,⟨hR.sh.now hS,hS.rowSl 2 rfl,hS.rowSl 3 rfl,hS.rowSl 4 rfl,fun p hp=>⟨(hR.ar p hp).now hS,?_⟩⟩⟩
 refine hS.slMem (e:=55) (List.mem_append_left _ ?_)
 unfold wkS
 exact List.mem_cons_of_mem _ (List.mem_cons_of_mem _ (List.mem_cons_of_mem _ (List.mem_cons_of_mem _ (List.mem_cons_of_mem _ (List.mem_map.2 ⟨p,hp,rfl⟩)))))
def ef (v:Value) (i:Nat):Value:=match v with
 |.slice (some ⟨b,off,_⟩) _ _=>.pointer (some ⟨b,off + i,none⟩)
 |_=>.pointer none
theorem WkV.now {w w':World} {Γ:List Asr} {g:Nat} {k:KV} {sp:Nat} {vh:Value} {held:List Nat} (h:WkV w g k sp vh held) (hS:St nF w w' Γ):WkV w' g k sp vh held :=
 ⟨Bs.of (hS.bs h.c0),Bs.of (hS.bs h.c1),Bs.of (hS.bs h.c2),Bs.of (hS.bs h.c3),Bs.of (hS.bs h.c4),Bs.of (hS.bs h.c5),Bs.of (hS.bs h.c6),h.held.now hS,h.ker.now hS⟩
set_option maxRecDepth 100000 in
set_option maxHeartbeats 8000000 in
theorem d8 {w:World} {g:Nat} {k:KV} {sp:Nat} {vh:Value} {held:List Nat} (hV:WkV w g k sp vh held) (hsp:sp < k.sp.length):Fn Try.prog 13 [.pointer (some ⟨g,0,none⟩)] w (RBf (ef k.vsp (sp * 3)) w):=by
 obtain ⟨sh,fr,sl,sps,hand,vsh,vfr,vsl,vsp⟩:=k
 obtain ⟨c0,c1,c2,c3,c4,c5,c6,hh,⟨k1,k2,k3,k4,k5⟩⟩:=hV
 dsimp only at c0 c1 c2 c3 c4 c5 k1 k2 k3 k4 k5 hsp ⊢
 obtain ⟨p4,n4,rfl⟩:=k4.len
 obtain ⟨b,off,rfl,hro⟩:=k4.at_ (i:=sp) hsp
 unfold ef
 dsimp only
 refine ap (fn:=Try.f13) ⟨Try.func13,by kernel_rfl,by kernel_rfl⟩ (by exact rfl) Try.ntmps13 (by exact rfl) ?_
 have hS:=St.start w
 repeat' (first|(((with_reducible apply ae aa);exact rfl;exact rfl))|(first|(with_reducible first|apply ah|apply ab|apply af|apply ac)))
 (focus ((with_reducible apply aM _ _ _ (by kernel_rfl) (by kernel_rfl) hS);(repeat' ((first|((with_reducible apply bb aa);exact rfl;exact rfl)|((with_reducible apply aU);exact rfl;(intro wd hd;replace hd:St _ _ wd _:=hd;(first|((with_reducible apply Loads.sc aa);exact rfl;((exact hd.bs (by assumption))))|((with_reducible apply Loads.sl aa);exact rfl;((exact hd.bs (by assumption))))));exact rfl)|((with_reducible apply d5 aa);(iterate 3 exact rfl);((exact rfl));((omega));exact rfl))));all_goals ((with_reducible apply bp);intro w' hS';clear hS;have hS:=hS';clear hS')))
 repeat' ((first|(with_reducible first|apply af|apply ac|apply ax)))
 (apply ay);(repeat (first|exact ResL.nil|(apply ResL.tmp;exact rfl)))
 exact ⟨rfl,hS.sub (List.nil_sublist _)⟩
def te (p:Sp) (page:Int):Value:=if page ∈ aY p.s.entries then .tuple #[ef p.ve (lbd (aY p.s.entries) page * 3),.bool true] else .tuple #[.pointer none,.bool false]
def yh (l:List En) (page:Int):Prop:=∀ q ∈ aY l,-9223372036854775808≤q - page∧q - page≤9223372036854775807
set_option maxRecDepth 100000 in
set_option maxHeartbeats 8000000 in
theorem fe {w:World} {g:Nat} {k:KV} {sp:Nat} {vh:Value} {held:List Nat} (hV:WkV w g k sp vh held) {x:Sp} (hx:k.sp[sp]?=some x) (page:Int) (hr:Rises (aY x.s.entries)) (hb:yh x.s.entries page):Fn Try.prog 20 [.pointer (some ⟨g,0,none⟩),.int .i64 page] w (RBf (te x page) w):=by
 have hsp:=fun w1 (h:WkV w1 g k sp vh held)=>d8 h (au hx)
 have hV0:=hV
 obtain ⟨sh,fr,sl,sps,hand,vsh,vfr,vsl,vsp⟩:=k
 obtain ⟨c0,c1,c2,c3,c4,c5,c6,hh,⟨k1,k2,k3,k4,k5⟩⟩:=hV
 dsimp only at c0 c1 c2 c3 c4 c5 k1 k2 k3 k4 k5 hsp hx ⊢
 have hxv:=k5 x (List.mem_of_getElem? hx)
 have hrow:=aA (f:=spC) hx
 have hlt:=au hx
 obtain ⟨p4,n4,rfl⟩:=k4.len
 obtain ⟨b,off,rfl,hro⟩:=k4.at_ (i:=sp) hlt
 have har:=hxv.ar
 have hen:=hxv.en
 obtain ⟨s,va,ve⟩:=x
 dsimp only at har hen hr hb
 obtain ⟨pa,ca,rfl⟩:=har.len
 obtain ⟨pe,ce,rfl⟩:=hen.len
 unfold spC at hrow
 dsimp only at hrow
 unfold ef at hsp
 dsimp only at hsp
 have hbs:=fun w1 (h:Sl nF w1 3 (.slice pe s.entries.length ce) (s.entries.map enC))=>rT (t:=page) h hr hb
 unfold BsV at hbs
 unfold te aY at *
 dsimp only at hbs ⊢
 by_cases hm:page ∈ s.entries.map fun e=>e.page
 ·rw [if_pos hm]
  rw [decide_eq_true hm] at hbs
  have hlen:=au ((dS hr page).2 hm)
  rw [List.length_map] at hlen
  obtain ⟨b2,off2,rfl,hro2⟩:=hen.at_ (i:=lbd (s.entries.map fun e=>e.page) page) hlen
  unfold ef
  dsimp only
  refine ap (fn:=Try.f20) ⟨Try.func20,by kernel_rfl,by kernel_rfl⟩ (by exact rfl) Try.ntmps20 (by exact rfl) ?_
  have hS:=St.start w
  repeat' (first|(first|((with_reducible apply ae aa);exact rfl;exact rfl)|((with_reducible apply ai);exact rfl;(((with_reducible apply Loads.sl aa);exact rfl;((exact hS.roC (by assumption) (by assumption) rfl))));exact rfl)|((with_reducible apply bj aa);(iterate 3 exact rfl);((exact rfl));((omega));exact rfl))|(first|(with_reducible first|apply ah|apply ab|apply af|apply ac|apply ao|apply ax))|(((with_reducible apply aJ);exact rfl;(exact rfl)))|((with_reducible apply al);exact rfl;exact rfl;exact hsp _ (hV0.now hS);exact rfl;rintro _ w' ⟨rfl,hS'⟩;replace hS:=hS.transA hS';simp only [aC] at hS;clear hS')|((with_reducible apply al);exact rfl;exact rfl;exact hbs _ (hen.now hS);exact rfl;rintro _ w' ⟨rfl,hS'⟩;replace hS:=hS.transA hS';simp only [aC] at hS;clear hS'))
  (apply bF);(repeat (first|exact ResL.nil|(apply ResL.tmp;exact rfl)))
  exact ⟨rfl,hS.sub (List.nil_sublist _)⟩
 ·rw [if_neg hm]
  rw [decide_eq_false hm] at hbs
  refine ap (fn:=Try.f20) ⟨Try.func20,by kernel_rfl,by kernel_rfl⟩ (by exact rfl) Try.ntmps20 (by exact rfl) ?_
  have hS:=St.start w
  repeat' (first|(first|((with_reducible apply ae aa);exact rfl;exact rfl)|((with_reducible apply ai);exact rfl;(((with_reducible apply Loads.sl aa);exact rfl;((exact hS.roC (by assumption) (by assumption) rfl))));exact rfl))|(first|(with_reducible first|apply ah|apply ab|apply af|apply ac|apply ax|apply aj))|(((with_reducible apply aG);exact rfl;(exact rfl)))|((with_reducible apply al);exact rfl;exact rfl;exact hsp _ (hV0.now hS);exact rfl;rintro _ w' ⟨rfl,hS'⟩;replace hS:=hS.transA hS';simp only [aC] at hS;clear hS')|((with_reducible apply al);exact rfl;exact rfl;exact hbs _ (hen.now hS);exact rfl;rintro _ w' ⟨rfl,hS'⟩;replace hS:=hS.transA hS';simp only [aC] at hS;clear hS'))
  (apply bF);(repeat (first|exact ResL.nil|(apply ResL.tmp;exact rfl)))
  exact ⟨rfl,hS.sub (List.nil_sublist _)⟩
set_option maxRecDepth 100000 in
set_option maxHeartbeats 8000000 in
theorem vd {w:World} {g:Nat} {k:KV} {sp:Nat} {vh:Value} {held:List Nat} (hV:WkV w g k sp vh held) (hc:∀ p ∈ k.sp,bm p.s.areas=0) (h4:k.sp.length≤5):Fn Try.prog 11 [.pointer (some ⟨g,0,none⟩)] w (RBf (.int .i64 (bu (k.sp.map (·.s)))) w):=by
 obtain ⟨sh,fr,sl,sps,hand,vsh,vfr,vsl,vsp⟩:=k
 obtain ⟨c0,c1,c2,c3,c4,c5,c6,hh,⟨k1,k2,k3,k4,k5⟩⟩:=hV
 dsimp only at c0 c1 c2 c3 c4 c5 k1 k2 k3 k4 k5 hc h4 ⊢
 obtain ⟨p4,n4,rfl⟩:=k4.len
 refine ap (fn:=Try.f11) ⟨Try.func11,by kernel_rfl,by kernel_rfl⟩ (by exact rfl) Try.ntmps11 (by exact rfl) ?_
 have hS:=St.start w
 repeat' (first|(first|((with_reducible apply ae aa);exact rfl;exact rfl)|((with_reducible apply ai);exact rfl;(((with_reducible apply Loads.sl aa);exact rfl;((exact hS.bs (by assumption)))));exact rfl))|(first|(with_reducible first|apply ah|apply ab|apply af|apply ac|apply ak)))
 refine be (X:=Nat×Int) (fun x=>[(12,.int .i64 (x.1:Nat)),(3,.int .i64 x.2)]) [0,10,11] rfl (fun _=>[]) (fun x=>x.1≤sps.length∧x.2=bu ((sps.map (·.s)).take x.1)∧0≤x.2∧x.2≤70000 * (x.1:Int)) (fun x=>sps.length - x.1) (0,0) (by repeat (first|exact Fr.sub_nil _|(apply Fr.sub_cons;exact rfl))) ⟨Nat.zero_le _,rfl,Int.le_refl _,Int.le_refl _⟩ hS ?_
 clear hS
 rintro ⟨i,room⟩ w1 ⟨hi,hroom,hr0,hr1⟩ hS
 dsimp only [List.cons_append,List.nil_append] at hi hroom hr0 hr1 hS ⊢
 by_cases hlt:i < sps.length
 rotate_left
 ·obtain rfl:i=sps.length:=by omega
  rw [List.take_of_length_le (by rw [List.length_map];omega)] at hroom
  repeat' (first|(((with_reducible apply ae aa);exact rfl;exact rfl))|(first|(with_reducible first|apply ah|apply ab|apply af|apply ac|apply aW|apply ax|apply aw|apply aq))|(((with_reducible apply aB);exact rfl;all_goals (intro hb hp;try (exfalso;omega)))))
  (apply ay);(repeat (first|exact ResL.nil|(apply ResL.tmp;exact rfl)))
  exact ⟨by rw [hroom],hS.sub (List.nil_sublist _)⟩
 obtain ⟨x,hx⟩:=aK (l:=sps) (i:=i) (by omega)
 have hxs:(sps.map (·.s))[i]?=some x.s:=aA (f:=fun p:Sp=>p.s) hx
 have hrow:=aA (f:=spC) hx
 obtain ⟨b,off,rfl,hro⟩:=k4.at_ (i:=i) hlt
 have hxv:=k5 x (List.mem_of_getElem? hx)
 have hcx:=hc x (List.mem_of_getElem? hx)
 have hsum:=oa (eG (cL.1 hcx).2) x.s.areas.length
 have hAl:=(cL.1 hcx).1
 rw [List.take_length] at hsum
 have htk:=vX hxs
 have har:=hxv.ar
 have hen:=hxv.en
 obtain ⟨s,va,ve⟩:=x
 dsimp only at har hen hcx hsum hAl htk
 unfold spC at hrow
 dsimp only at hrow
 obtain ⟨pa,ca,rfl⟩:=har.len
 obtain ⟨pe,ce,rfl⟩:=hen.len
 have htot:=fun w1 (h:Sl nF w1 4 (.slice pa s.areas.length ca) (s.areas.map arC))=>iw h
 rw [if_pos hcx] at htot
 repeat' (first|(first|((with_reducible apply aL);exact rfl;exact rfl;omega;omega;exact rfl)|((with_reducible apply ae aa);exact rfl;exact rfl)|((with_reducible apply ai);exact rfl;(first|((with_reducible apply Loads.sl aa);exact rfl;((exact hS.blkC 0 rfl rfl)))|((with_reducible apply Loads.st aa);exact rfl;((exact hS.roR (by assumption) (by assumption)));exact rfl));exact rfl)|((with_reducible apply bj aa);(iterate 3 exact rfl);((exact rfl));((omega));exact rfl)|((with_reducible apply av hS aa);(iterate 3 exact rfl);intro g w' hS';clear hS;have hS:=hS';clear hS')|(((with_reducible apply am hS aa (i:=0));(iterate 8 exact rfl);((exact (rfl:_=[_,_,_])));intro w' hS';simp only [List.set] at hS';clear hS;have hS:=hS';clear hS')))|(first|(with_reducible first|apply ah|apply ab|apply af|apply ac|apply ao|apply ak|apply aD))|(((with_reducible apply aB);exact rfl;all_goals (intro hb hp;try (exfalso;omega))))|((with_reducible apply al);exact rfl;exact rfl;exact htot _ (har.now hS);exact rfl;rintro _ w' ⟨rfl,hS'⟩;replace hS:=hS.transA hS';simp only [aC] at hS;clear hS'))
 exact aO (i + 1,room + bT s.areas) (by repeat (first|exact Fr.sub_nil _|(apply Fr.sub_cons;exact rfl))) ⟨by show i + 1≤sps.length;omega,by rw [htk,← hroom],by show 0≤room + bT s.areas;omega,by show room + bT s.areas≤70000 * ((i + 1:Nat):Int);omega⟩ (hS.sub (by repeat (first|exact List.Sublist.refl _|apply List.Sublist.cons))) (by show sps.length - (i + 1) < sps.length - i;omega)
end Go.Proofs.Ytejnpppejalhfac
