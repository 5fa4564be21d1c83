/- Texts that the proof stands on, one behind the other: Ke7, PlRun2, PlRun3, PlRun4, PlRun5, PlRun6, PlRun7, Ke16. -/
import Derived.Test.YtejnpppejalhfacPKernelEmpty9
/- All spaces gone through: the first that is not right. -/
namespace Go.Proofs.Ytejnpppejalhfac
open Go.RowKit Go.Sort
theorem Bs.nowM {F:Nat→Prop} {w0 w:World} {Θ Γ:List Asr} {p:Addr} {v:Value} (hb:Bs F w0 p v) (h:St F w0 w (Θ++Γ)):Bs (fps Θ) w p v:=⟨h.bs hb,fun ⟨A,hA,e⟩=>by
 rcases h.own A (List.mem_append_left _ hA) _ e with h1|h1
 ·have:=World.block_lt_of_cell? w0 p hb.cell
  omega
 ·exact hb.nf h1⟩
structure SpF (F:Nat→Prop) (w:World) (p:Sp):Prop where
 ar:Sl F w 4 p.va (p.s.areas.map arC)
 en:Sl F w 3 p.ve (p.s.entries.map enC)
theorem SpF.nowM {F:Nat→Prop} {w w':World} {Θ Γ:List Asr} {p:Sp} (h:SpF F w p) (hS:St F w w' (Θ++Γ)):SpF (fps Θ) w' p:=⟨h.ar.nowM hS,h.en.nowM hS⟩
def a0w (l:List Sc):List Nm:=l.flatMap fun s=>s.entries.map (a0H s)
theorem a0T (l:List Sc) (kind:Int) (i:Nat):(a0w l).filter (fun (n:Nm)=>decide (n.1.kind=kind∧n.1.at_=((i:Nat):Int)))=m8 l kind i:=by
 induction l with
 |nil=>rfl
 |cons s l ih=>
  have h1:=a89 s kind i
  unfold a0w m8 at *
  rw [List.flatMap_cons,List.flatMap_cons,List.filter_append,ih,h1,List.flatMap_cons,List.flatMap_nil,List.append_nil]
theorem a8P {A:List Ar} {nf ns:Int} (hc:q7 A=0):∀ {es:List En} {last:Int},a1u A nf ns last es=true→last≤255→last + (es.length:Int)≤255
 |[],last,_,h=>by simpa using h
 |e::es,last,h,_=>by
  replace h:(a4x A nf ns last e && a1u A nf ns e.page es)=true:=h
  rw [Bool.and_eq_true] at h
  have h1:=h.1
  unfold a4x at h1
  rw [Bool.and_eq_true,decide_eq_true_eq] at h1
  obtain ⟨hs,hl,-⟩:=h1
  obtain ⟨a,ha⟩:=Option.isSome_iff_exists.1 hs
  have h2:=List.find?_some ha
  have h3:=(a0F hc ha).1
  unfold a0K at h2
  rw [decide_eq_true_eq] at h2
  unfold Ar.ok at h3
  unfold Ar.fin at h2
  have:=a8P hc h.2 (by omega)
  rw [List.length_cons]
  omega
theorem a2z {l:List Sh} {nf ns:Int} {s:Sc} (h:z6 l nf ns s=true):s.entries.length≤255∧0≤y6 s.areas∧y6 s.areas≤70000:=by
 unfold z6 at h
 by_cases hl:s.live=true
 ·rw [if_pos hl,Bool.and_eq_true,Bool.and_eq_true,decide_eq_true_eq] at h
  obtain ⟨hAl,hgood⟩:=a0h.1 h.1
  have h1:=a8P h.1 h.2.2 (by omega)
  have hsum:=a7i (a1t hgood) s.areas.length
  rw [List.take_length] at hsum
  omega
 ·rw [if_neg hl,decide_eq_true_eq] at h
  rw [h.1,h.2]
  simp [y6]
theorem a54 (l:List Sc) (s:Sc):r9 (l++[s])=r9 l + y6 s.areas:=by unfold r9;simp
theorem a5H (l:List Sc) (s:Sc):a0w (l++[s])=a0w l++s.entries.map (a0H s):=by unfold a0w;simp
theorem a4L {l:List Sh} {nf ns:Int}:∀ {L:List Sc},L.all (z6 l nf ns)=true→(a0w L).length≤255 * L.length∧0≤r9 L∧r9 L≤70000 * (L.length:Int)
 |[],_=>by simp [a0w,r9]
 |s::L,h=>by
  rw [List.all_cons,Bool.and_eq_true] at h
  have h1:=a2z h.1
  have h2:=a4L h.2
  have e1:a0w (s::L)=s.entries.map (a0H s)++a0w L:=by unfold a0w;simp
  have e2:r9 (s::L)=y6 s.areas + r9 L:=by unfold r9;simp
  rw [e1,e2,List.length_append,List.length_map,List.length_cons]
  omega
set_option maxRecDepth 100000 in
set_option maxHeartbeats 8000000 in
theorem b3v {F:Nat→Prop} {w0 w:World} {Γ:List Asr} {gl gk gc:Nat} {vsh vF vS:Value} {room:Int} {l:List (Sh×Value)} {NF NS:NL} {p:Sp}
  (hS0:St F w0 w (lkS gl (.pointer (some ⟨gk,0,none⟩)) vF vS room NF NS++Γ)) (hc:Bs (fps (lkS gl (.pointer (some ⟨gk,0,none⟩)) vF vS room NF NS)) w ⟨gc,0,none⟩ (.pointer (some ⟨gl,0,none⟩))) (hk:Bs (fps (lkS gl (.pointer (some ⟨gk,0,none⟩)) vF vS room NF NS)) w ⟨gk,0,none⟩ vsh) (hL:ShsF (fps (lkS gl (.pointer (some ⟨gk,0,none⟩)) vF vS room NF NS)) w l vsh) (hr:a0W 0 (shs l)=true)
  (hp:SpF (fps (lkS gl (.pointer (some ⟨gk,0,none⟩)) vF vS room NF NS)) w p) (hrm:0≤room∧room≤1000000) (hF:∀ x ∈ NF,x.2.length≤1000) (hSl:∀ x ∈ NS,x.2.length≤1000) :
  Fn Try.prog 26 [.agg (spC p).toArray,.pointer (some ⟨gc,0,none⟩)] w (fun v w'=>v=.bool (!z6 (shs l) NF.length NS.length p.s)∧∃ NF' NS' room',St (fps (lkS gl (.pointer (some ⟨gk,0,none⟩)) vF vS room NF NS)) w w' (lkS gl (.pointer (some ⟨gk,0,none⟩)) vF vS room' NF' NS')∧(z6 (shs l) NF.length NS.length p.s=true→room'=room + y6 p.s.areas∧Grown NF NF' 1 (p.s.entries.map (a0H p.s))∧Grown NS NS' 2 (p.s.entries.map (a0H p.s)))):=by
 have hS:=St.startM hS0
 obtain ⟨pa,ca,hva⟩:=(hp.ar.now hS).form
 obtain ⟨pe,ce,hve⟩:=(hp.en.now hS).form
 obtain ⟨s,va,ve⟩:=p
 dsimp only at hva hve
 subst hva hve
 have hcall:∀ w1 Γ1,St (fps (lkS gl (.pointer (some ⟨gk,0,none⟩)) vF vS room NF NS)) w w1 (lkS gl (.pointer (some ⟨gk,0,none⟩)) vF vS room NF NS++Γ1)→_:=fun w1 Γ1 h=>b21 h (hk.nowM h) (hL.nowM h) hr (hp.ar.nowM h) (hp.en.nowM h) hrm hF hSl
 generalize hG:fps (lkS gl (.pointer (some ⟨gk,0,none⟩)) vF vS room NF NS)=G at hS hk hL hp hcall hc ⊢
 unfold spC at hcall ⊢
 dsimp only at hcall ⊢
 refine j0 (fn:=Try.f26) ⟨Try.func26,by kernel_rfl,by kernel_rfl⟩ (by exact rfl) Try.ntmps26 (by exact rfl) ?_
 repeat' (first|(first|((with_reducible apply d6 c8);exact rfl;exact rfl)|((with_reducible apply d9);exact rfl;(first|((with_reducible apply Loads.sc c8);exact rfl;((exact hS.bs (by assumption))))|((with_reducible apply Loads.st c8);exact rfl;((exact hS.blkR 0 rfl));exact rfl));exact rfl)|((with_reducible apply p7 hS);(iterate 3 exact rfl);intro g w' hS';clear hS;have hS:=hS';clear hS'))|(first|(with_reducible first|apply d8|apply c9|apply d7|apply d5)))
 have hS2:=hS.perm (List.perm_append_singleton _ _).symm
 repeat' (first|(((with_reducible apply d6 c8);exact rfl;exact rfl))|(first|(with_reducible first|apply d7|apply d5|apply j5))|((with_reducible apply e8);exact rfl;exact rfl;exact hcall _ _ hS2;exact rfl;rintro _ w2 ⟨rfl,NF',NS',room',h2,hg⟩))
 (apply j6);(repeat (first|exact ResL.nil|(apply ResL.tmp;exact rfl)))
 rw [← hG] at h2
 exact ⟨rfl,NF',NS',room',(St.transM hS2 h2).sub (List.sublist_append_left _ _),hg⟩
set_option maxRecDepth 100000 in
set_option maxHeartbeats 8000000 in
theorem b2f {F:Nat→Prop} {w0 w:World} {Γ:List Asr} {gl gk gc:Nat} {vsh vF vS vsp:Value} {l:List (Sh×Value)} {NF NS:NL} {sp:List Sp}
  (hS0:St F w0 w (lkS gl (.pointer (some ⟨gk,0,none⟩)) vF vS 0 NF NS++Γ)) (hc:Bs (fps (lkS gl (.pointer (some ⟨gk,0,none⟩)) vF vS 0 NF NS)) w ⟨gc,0,none⟩ (.pointer (some ⟨gl,0,none⟩))) (hk:Bs (fps (lkS gl (.pointer (some ⟨gk,0,none⟩)) vF vS 0 NF NS)) w ⟨gk,0,none⟩ vsh) (hL:ShsF (fps (lkS gl (.pointer (some ⟨gk,0,none⟩)) vF vS 0 NF NS)) w l vsh) (hr:a0W 0 (shs l)=true)
  (hsl:Sl (fps (lkS gl (.pointer (some ⟨gk,0,none⟩)) vF vS 0 NF NS)) w 3 vsp (sp.map spC)) (hp:∀ p ∈ sp,SpF (fps (lkS gl (.pointer (some ⟨gk,0,none⟩)) vF vS 0 NF NS)) w p) (h4:sp.length≤4) (hF:∀ x ∈ NF,x.2=[]) (hSl:∀ x ∈ NS,x.2=[]) :
  Fn Try.prog 54 [vsp,.func (.func 26) #[] #[.pointer (some ⟨gc,0,none⟩)]] w (fun v w'=>(∃ i:Int,v=.int .i64 i∧decide (0≤i)=!(sp.map (·.s)).all (z6 (shs l) NF.length NS.length))∧∃ NF' NS' room',St (fps (lkS gl (.pointer (some ⟨gk,0,none⟩)) vF vS 0 NF NS)) w w' (lkS gl (.pointer (some ⟨gk,0,none⟩)) vF vS room' NF' NS')∧((sp.map (·.s)).all (z6 (shs l) NF.length NS.length)=true→room'=r9 (sp.map (·.s))∧Grown NF NF' 1 (a0w (sp.map (·.s)))∧Grown NS NS' 2 (a0w (sp.map (·.s))))):=by
 have hS:=St.startM hS0
 have bnd:=(hsl.now hS).bound
 obtain ⟨pp,c,hpp⟩:=(hsl.now hS).form
 rw [List.length_map] at hpp
 subst hpp
 generalize hG:fps (lkS gl (.pointer (some ⟨gk,0,none⟩)) vF vS 0 NF NS)=G at hS hk hL hp hc hsl ⊢
 clear hS0
 refine j0 (fn:=Try.f54) ⟨Try.func54,by kernel_rfl,by kernel_rfl⟩ (by exact rfl) Try.ntmps54 (by exact rfl) ?_
 repeat' (first|(((with_reducible apply d6 c8);exact rfl;exact rfl))|(first|(with_reducible first|apply d8|apply c9|apply d7|apply d5|apply e7)))
 refine o6 (Γ:=[]) (X:=Nat×NL×NL×Int) (fun x=>[(8,.int .i64 (x.1:Nat))]) [0,1,7] rfl (fun x=>lkS gl (.pointer (some ⟨gk,0,none⟩)) vF vS x.2.2.2 x.2.1 x.2.2.1) (fun x=>x.1≤sp.length∧((sp.map (·.s)).take x.1).all (z6 (shs l) NF.length NS.length)=true∧x.2.2.2=r9 ((sp.map (·.s)).take x.1)∧Grown NF x.2.1 1 (a0w ((sp.map (·.s)).take x.1))∧Grown NS x.2.2.1 2 (a0w ((sp.map (·.s)).take x.1))) (fun x=>sp.length - x.1) (0,NF,NS,0) (by repeat (first|exact Fr.sub_nil _|(apply Fr.sub_cons;exact rfl))) ⟨Nat.zero_le _,rfl,rfl,Grown.refl _ _,Grown.refl _ _⟩ (by simpa only [List.append_nil] using hS) ?_
 clear hS
 rintro ⟨i,MF,MS,room⟩ w1 ⟨hi,hall,hroom,hGF,hGS⟩ hS
 dsimp only at hi hall hroom hGF hGS hS ⊢
 by_cases hlt:i < sp.length
 rotate_left
 ·obtain rfl:i=sp.length:=by omega
  rw [List.take_of_length_le (by rw [List.length_map];omega)] at hall hroom hGF hGS
  rw [List.append_nil] at hS
  rw [hall]
  repeat' (first|(((with_reducible apply d6 c8);exact rfl;exact rfl))|(first|(with_reducible first|apply d8|apply c9|apply d7|apply d5|apply n5|apply j5|apply j4|apply i9))|(((with_reducible apply k6);exact rfl;all_goals (intro hb hp;try (exfalso;omega)))))
  (apply j6);(repeat (first|exact ResL.nil|(apply ResL.tmp;exact rfl)))
  exact ⟨⟨-1,rfl,rfl⟩,MF,MS,room,hS,fun _=>⟨hroom,hGF,hGS⟩⟩
 obtain ⟨x,hx⟩:=l8 (l:=sp) (i:=i) (by omega)
 have hxs:(sp.map (·.s))[i]?=some x.s:=j9 (f:=fun p:Sp=>p.s) hx
 have hrow:=j9 (f:=spC) hx
 obtain ⟨b,off,rfl,hro⟩:=hsl.atF (i:=i) hlt
 have hxp:=hp x (List.mem_of_getElem? hx)
 have hbd:=a4L hall
 have htl:((sp.map (·.s)).take i).length≤i:=by rw [List.length_take];omega
 have hlen:∀ {N M:NL} {kd:Int},(∀ x ∈ N,x.2=[])→Grown N M kd (a0w ((sp.map (·.s)).take i))→∀ x ∈ M,x.2.length≤1000:=fun {N M kd} hN hg y hy=>by
  obtain ⟨j,hj⟩:=List.mem_iff_getElem?.1 hy
  obtain ⟨z,hz⟩:=l8 (l:=N) (i:=j) (by have:=j3 hj;rw [hg.1] at this;omega)
  obtain ⟨v,hv⟩:=hg.2 j z hz
  rw [hj] at hv
  cases hv
  show (z.2++_).length≤1000
  rw [hN z (List.mem_of_getElem? hz),List.nil_append]
  exact Nat.le_trans (List.length_filter_le _ _) (by omega)
 have hcall:=b3v hS (hc.nowM hS) (hk.nowM hS) (hL.nowM hS) hr (hxp.nowM hS) (by omega) (hlen hF hGF) (hlen hSl hGS)
 rw [hGF.1,hGS.1] at hcall
 obtain ⟨pa,ca,hva⟩:=(hxp.ar.now hS).form
 obtain ⟨pe,ce,hve⟩:=(hxp.en.now hS).form
 obtain ⟨s,va,ve⟩:=x
 dsimp only at hva hve hxs hcall
 subst hva hve
 unfold spC at hrow hcall
 dsimp only at hrow hcall
 have htk:=a0S hxs
 repeat' (first|(first|((with_reducible apply m0);exact rfl;exact rfl;omega;omega;exact rfl)|((with_reducible apply d6 c8);exact rfl;exact rfl)|((with_reducible apply d9);exact rfl;(((with_reducible apply Loads.st c8);exact rfl;((exact hS.roR (by assumption) (by assumption)));exact rfl));exact rfl)|((with_reducible apply p8 c8);(iterate 3 exact rfl);((exact rfl));((omega));exact rfl))|(first|(with_reducible first|apply d8|apply c9|apply d7|apply d5|apply g8|apply e7|apply j5|apply e6|apply k8|apply j8))|(first|((with_reducible apply k6);exact rfl;all_goals (intro hb hp;try (exfalso;omega)))|((with_reducible apply a8i);exact rfl;all_goals (intro hb hp;try (exfalso;omega))))|((with_reducible apply e8);exact rfl;exact rfl;exact hcall;exact rfl;rintro _ w2 ⟨rfl,NF',NS',room',h2,hg⟩))
 ·have hbs:z6 (shs l) NF.length NS.length s=false:=by simpa using hb
  have hno:(sp.map (·.s)).all (z6 (shs l) NF.length NS.length)=false:=by
   rw [List.all_eq_false]
   exact ⟨s,List.mem_of_getElem? hxs,by rw [hbs];simp⟩
  (apply j6);(repeat (first|exact ResL.nil|(apply ResL.tmp;exact rfl)))
  exact ⟨⟨((i:Nat):Int),rfl,by rw [hno,decide_eq_true (by omega)];rfl⟩,NF',NS',room',(St.transM hS h2).sub (List.sublist_append_left _ _),fun h=>by rw [hno] at h;cases h⟩
 ·have hbs:z6 (shs l) NF.length NS.length s=true:=by simpa using hb
  obtain ⟨g1,g2,g3⟩:=hg hbs
  refine m6 (i + 1,NF',NS',room') (by repeat (first|exact Fr.sub_nil _|(apply Fr.sub_cons;exact rfl))) ⟨by show i + 1≤sp.length;omega,?_,?_,?_,?_⟩ (St.transM hS h2) (by show sp.length - (i + 1) < sp.length - i;omega)
  ·rw [htk,List.all_append,hall,List.all_cons,hbs];rfl
  ·rw [htk,a54,← hroom];exact g1
  ·rw [htk,a5H];exact hGF.trans g2
  ·rw [htk,a5H];exact hGS.trans g3
end Go.Proofs.Ytejnpppejalhfac
/- A frame put aside: who names what, behind it. -/
namespace Go.Proofs.Ytejnpppejalhfac
open Go.RowKit Go.Sort
def nm1 (s:Sc) (k a:Int):List Nm:=(s.entries.filter fun e=>decide (e.kind=k∧e.at_=a)).map (a0H s)
theorem a0a (L:List Sc) (k a:Int):m8 L k a=L.flatMap fun s=>nm1 s k a:=rfl
def mvN (t:Int) (n:Nm):Nm:=(⟨n.1.page,2,t⟩,n.2)
theorem a57 (f:Int) (t:Option Int) (s:Sc):a0H (a0m f t s)=a0H s:=rfl
theorem a5m {f:Int} {t:Option Int} {k a:Int} (h1:¬(k=1∧a=f)) (h2:k=2→t≠some a):∀ (l:List En),(l.filterMap (x9 f t)).filter (fun e=>decide (e.kind=k∧e.at_=a))=l.filter (fun e=>decide (e.kind=k∧e.at_=a))
 |[]=>rfl
 |e::l=>by
  have ih:=a5m h1 h2 l
  rw [List.filterMap_cons]
  unfold x9
  by_cases he:e.kind=1∧e.at_=f
  ·rw [if_pos he]
   have hn:¬(e.kind=k∧e.at_=a):=fun h=>h1 ⟨h.1.symm.trans he.1,h.2.symm.trans he.2⟩
   rw [List.filter_cons_of_neg (by simpa using hn)]
   cases t with
   |none=>exact ih
   |some s=>
    show List.filter _ (_::_)=_
    rw [List.filter_cons_of_neg]
    ·exact ih
    ·rw [decide_eq_true_eq]
     rintro ⟨h3,h4⟩
     exact h2 h3.symm (by rw [show s=a from h4])
  ·rw [if_neg he]
   show List.filter _ (e::_)=_
   by_cases hn:e.kind=k∧e.at_=a
   ·rw [List.filter_cons_of_pos (by simpa using hn),List.filter_cons_of_pos (by simpa using hn)]
    exact congrArg _ ih
   ·rw [List.filter_cons_of_neg (by simpa using hn),List.filter_cons_of_neg (by simpa using hn)]
    exact ih
theorem a5U {f:Int} {t:Option Int}:∀ (l:List En),(l.filterMap (x9 f t)).filter (fun e=>decide (e.kind=1∧e.at_=f))=[]
 |[]=>rfl
 |e::l=>by
  have ih:=a5U (f:=f) (t:=t) l
  rw [List.filterMap_cons]
  unfold x9
  by_cases he:e.kind=1∧e.at_=f
  ·rw [if_pos he]
   cases t with
   |none=>exact ih
   |some s=>
    show List.filter _ (_::_)=_
    rw [List.filter_cons_of_neg]
    ·exact ih
    ·rw [decide_eq_true_eq]
     rintro ⟨h3,-⟩
     cases h3
  ·rw [if_neg he]
   show List.filter _ (e::_)=_
   rw [List.filter_cons_of_neg (by simpa using he)]
   exact ih
theorem a4T {f t:Int}:∀ (l:List En),(l.filter fun e=>decide (e.kind=2∧e.at_=t))=[]→(l.filterMap (x9 f (some t))).filter (fun e=>decide (e.kind=2∧e.at_=t))=(l.filter fun e=>decide (e.kind=1∧e.at_=f)).map fun e=>⟨e.page,2,t⟩
 |[],_=>rfl
 |e::l,h=>by
  have hn:¬(e.kind=2∧e.at_=t):=fun hh=>by
   rw [List.filter_cons_of_pos (by simpa using hh)] at h
   cases h
  rw [List.filter_cons_of_neg (by simpa using hn)] at h
  have ih:=a4T (f:=f) (t:=t) l h
  rw [List.filterMap_cons]
  unfold x9
  by_cases he:e.kind=1∧e.at_=f
  ·rw [if_pos he,List.filter_cons_of_pos (by simpa using he)]
   show List.filter _ (_::_)=_
   rw [List.filter_cons_of_pos (by simp),List.map_cons]
   exact congrArg _ ih
  ·rw [if_neg he]
   show List.filter _ (e::_)=_
   rw [List.filter_cons_of_neg (by simpa using hn),List.filter_cons_of_neg (by simpa using he)]
   exact ih
theorem b29 {f:Int} {t:Option Int} {k a:Int} (h1:¬(k=1∧a=f)) (h2:k=2→t≠some a) (s:Sc):nm1 (a0m f t s) k a=nm1 s k a:=by
 unfold nm1
 rw [a57]
 exact congrArg _ (a5m h1 h2 s.entries)
theorem b2E {f:Int} {t:Option Int} (s:Sc):nm1 (a0m f t s) 1 f=[]:=by
 unfold nm1
 rw [show (a0m f t s).entries=s.entries.filterMap (x9 f t) from rfl,a5U]
 rfl
theorem b0T {f t:Int} {s:Sc} (h:nm1 s 2 t=[]):nm1 (a0m f (some t) s) 2 t=(nm1 s 1 f).map (mvN t):=by
 unfold nm1 at h ⊢
 rw [List.map_eq_nil_iff] at h
 rw [a57,show (a0m f (some t) s).entries=s.entries.filterMap (x9 f (some t)) from rfl,a4T _ h,List.map_map,List.map_map]
 rfl
theorem a23 {f:Int} {t:Option Int} {k a:Int} (h1:¬(k=1∧a=f)) (h2:k=2→t≠some a) (L:List Sc):m8 (L.map (a0m f t)) k a=m8 L k a:=by
 rw [a0a,a0a,List.flatMap_map]
 exact congrArg (fun g=>List.flatMap g L) (funext fun s=>b29 h1 h2 s)
theorem a4Z {f:Int} {t:Option Int} (L:List Sc):m8 (L.map (a0m f t)) 1 f=[]:=by
 rw [a0a,List.flatMap_map,List.flatMap_eq_nil_iff]
 exact fun s _=>b2E s
theorem a31 {f t:Int}:∀ {L:List Sc},m8 L 2 t=[]→m8 (L.map (a0m f (some t))) 2 t=(m8 L 1 f).map (mvN t)
 |[],_=>rfl
 |s::L,h=>by
  rw [a0a,List.flatMap_cons,List.append_eq_nil_iff] at h
  rw [List.map_cons,a0a,List.flatMap_cons,a0a,List.flatMap_cons,List.map_append,b0T h.1]
  exact congrArg _ (a31 h.2)
/-! a space's entries -/
def b4W (A:List Ar) (nf ns:Int) (e:En):Prop:=(v7 A e.page).isSome=true∧((e.kind=1∧0≤e.at_∧e.at_ < nf)∨(e.kind=2∧0≤e.at_∧e.at_ < ns))
theorem a68 {A:List Ar} {nf ns:Int}:∀ {l:List En} {last:Int},a1u A nf ns last l=true ↔ (∀ e ∈ l,b4W A nf ns e∧last < e.page)∧Rises (n9 l)
 |[],last=>by simp [a1u,Rises,n9]
 |e::l,last=>by
  show (a4x A nf ns last e && a1u A nf ns e.page l)=true ↔ _
  rw [Bool.and_eq_true,a68 (l:=l)]
  unfold a4x
  rw [Bool.and_eq_true,decide_eq_true_eq]
  show _ ↔ _∧List.Pairwise _ (e.page::n9 l)
  rw [List.pairwise_cons]
  constructor
  ·rintro ⟨⟨h1,h2,h3⟩,h4,h5⟩
   refine ⟨fun x hx=>?_,fun p hp=>?_,h5⟩
   ·rcases List.mem_cons.1 hx with rfl|hx
    ·exact ⟨⟨h1,h3⟩,h2⟩
    ·have:=h4 x hx
     exact ⟨this.1,by omega⟩
   ·obtain ⟨x,hx,rfl⟩:=List.mem_map.1 hp
    exact (h4 x hx).2
  ·rintro ⟨h1,h2,h3⟩
   have h0:=h1 e List.mem_cons_self
   exact ⟨⟨h0.1.1,h0.2,h0.1.2⟩,fun x hx=>⟨(h1 x (List.mem_cons_of_mem _ hx)).1,h2 _ (List.mem_map.2 ⟨x,hx,rfl⟩)⟩,h3⟩
structure a84 (sh:List Sh) (nf ns:Int) (s:Sc):Prop where
 dead:s.live=false→s.areas=[]∧s.entries=[]
 ar:q7 s.areas=0
 pages:a2L sh s.areas=true
 ents:∀ e ∈ s.entries,b4W s.areas nf ns e
 rises:Rises (n9 s.entries)
theorem a0x {sh:List Sh} {nf ns:Int} {s:Sc}:z6 sh nf ns s=true ↔ a84 sh nf ns s:=by
 unfold z6
 cases hl:s.live with
 |false=>
  rw [if_neg (by simp),decide_eq_true_eq]
  constructor
  ·rintro ⟨h1,h2⟩
   refine ⟨fun _=>⟨h1,h2⟩,by rw [h1];rfl,by rw [h1];rfl,by rw [h2];simp,by rw [h2];exact List.Pairwise.nil⟩
  ·exact fun h=>h.dead hl
 |true=>
  rw [if_pos rfl,Bool.and_eq_true,Bool.and_eq_true,decide_eq_true_eq,a68]
  constructor
  ·rintro ⟨h1,h2,h3,h4⟩
   exact ⟨fun h=>(by rw [hl] at h;cases h),h1,h2,fun e he=>(h3 e he).1,h4⟩
  ·intro h
   exact ⟨h.ar,h.pages,fun e he=>⟨h.ents e he,a8Z h.ar (h.ents e he).1⟩,h.rises⟩
theorem a2f (f:Int) (t:Option Int):∀ (l:List En),(n9 (l.filterMap (x9 f t))).Sublist (n9 l)
 |[]=>List.Sublist.refl _
 |e::l=>by
  have ih:=a2f f t l
  rw [List.filterMap_cons]
  unfold x9
  by_cases he:e.kind=1∧e.at_=f
  ·rw [if_pos he]
   cases t with
   |none=>exact List.Sublist.cons _ ih
   |some s=>exact List.Sublist.cons_cons _ ih
  ·rw [if_neg he]
   exact List.Sublist.cons_cons _ ih
theorem b0F {sh:List Sh} {nf ns f:Int} {t:Option Int} {s:Sc} (h:a84 sh nf ns s) (ht:∀ a,t=some a→0≤a∧a < ns):a84 sh nf ns (a0m f t s):=by
 refine ⟨fun hl=>⟨(h.dead hl).1,?_⟩,h.ar,h.pages,fun e he=>?_,h.rises.sublist (a2f f t s.entries)⟩
 ·show s.entries.filterMap _=[]
  rw [(h.dead hl).2]
  rfl
 ·replace he:e ∈ s.entries.filterMap (x9 f t):=he
  obtain ⟨x,hx,hxe⟩:=List.mem_filterMap.1 he
  have h1:=h.ents x hx
  unfold x9 at hxe
  split at hxe
  ·cases t with
   |none=>cases hxe
   |some a=>
    cases hxe
    exact ⟨h1.1,Or.inr ⟨rfl,ht a rfl⟩⟩
  ·cases hxe
   exact h1
theorem a4S (f:Int) (t:Option Int) (L:List Sc):r9 (L.map (a0m f t))=r9 L:=by
 unfold r9
 rw [List.map_map]
 rfl
theorem q8 {l:List Fm} {i:Nat} {f:Fm} (h:l[i]?=some f):l7 l i=f:=by unfold l7;rw [h];rfl
theorem a0B {l:List Sw} {i:Nat} {f:Sw} (h:l[i]?=some f):a0g l i=f:=by unfold a0g;rw [h];rfl
theorem a3T {l:List Sw} {t:Nat} (h:a19 l=some t):∃ s,l[t]?=some s∧s.refs=0:=by
 unfold a19 at h
 rw [List.findIdx?_eq_some_iff_getElem] at h
 obtain ⟨h1,h2,-⟩:=h
 exact ⟨l[t],List.getElem?_eq_getElem h1,of_decide_eq_true h2⟩
theorem a86 {l:List Fm} {t:Nat} (h:a32 l=some t):∃ s,l[t]?=some s∧s.refs=0:=by
 unfold a32 at h
 rw [List.findIdx?_eq_some_iff_getElem] at h
 obtain ⟨h1,h2,-⟩:=h
 exact ⟨l[t],List.getElem?_eq_getElem h1,of_decide_eq_true h2⟩
theorem a3P {l:List Fm} (h:a32 l=none):∀ f ∈ l,f.refs≠0:=by
 unfold a32 at h
 rw [List.findIdx?_eq_none_iff] at h
 intro f hf
 have:=h f hf
 simpa using this
theorem a9j {l:List Sw} (h:a19 l=none):∀ f ∈ l,f.refs≠0:=by
 unfold a19 at h
 rw [List.findIdx?_eq_none_iff] at h
 intro f hf
 have:=h f hf
 simpa using this
theorem SwOk.free {s:Sw} {N:List Nm} (h:SwOk s N) (h0:s.refs=0):N=[]∧s=sw0:=by
 have h1:=h.refs
 have:N=[]:=List.eq_nil_of_length_eq_zero (by omega)
 exact ⟨this,h.nil this⟩
theorem FmOk.free {sh:List Sh} {s:Fm} {N:List Nm} (h:FmOk sh s N) (h0:s.refs=0):N=[]∧s=fm0:=by
 have h1:=h.refs
 have:N=[]:=List.eq_nil_of_length_eq_zero (by omega)
 exact ⟨this,h.nil this⟩
theorem FmOk.zero (sh:List Sh):FmOk sh fm0 []:=⟨rfl,fun _=>rfl,fun h=>absurd rfl h,(fun _ h=>by cases h),(fun _ h=>by cases h)⟩
theorem SwOk.zero:SwOk sw0 []:=⟨rfl,fun _=>rfl,fun h=>absurd rfl h,(fun _ h=>by cases h)⟩
theorem b0h {α:Type} {l:List α} {i j:Nat} {x y:α} (h:(l.set i x)[j]?=some y):(i=j∧y=x∧j < l.length)∨(i≠j∧l[j]?=some y):=by
 rw [List.getElem?_set] at h
 by_cases e:i=j
 ·rw [if_pos e] at h
  split at h
  ·rename_i hl;cases h;exact Or.inl ⟨e,rfl,e ▸ hl⟩
  ·cases h
 ·rw [if_neg e] at h
  exact Or.inr ⟨e,h⟩
theorem a7o {K:Ker} (h:Right K) {f:Nat} (hf:f < K.frames.length) (hfree:(l7 K.frames f).dirty=true→∃ t,a19 K.slots=some t):Right (v5 K f):=by
 obtain ⟨hc,hr,hh,hsp,hroom,hfr,hsl⟩:=h
 have hff:=List.getElem?_eq_getElem hf
 have hfo:=hfr f _ hff
 have hmap:∀ (t:Option Int),(∀ a,t=some a→0≤a∧a < (K.slots.length:Int))→∀ s ∈ K.spaces.map (a0m (f:Nat) t),z6 K.sheets K.frames.length K.slots.length s=true:=fun t ht s hs=>by
  obtain ⟨x,hx,rfl⟩:=List.mem_map.1 hs
  exact a0x.2 (b0F (a0x.1 (hsp x hx)) ht)
 have hfrn:∀ (t:Option Int) (i:Nat) g,(K.frames.set f fm0)[i]?=some g→FmOk K.sheets g (m8 (K.spaces.map (a0m (f:Nat) t)) 1 (i:Nat)):=fun t i g hg=>by
  rcases b0h hg with ⟨rfl,rfl,_⟩|⟨hne,hg⟩
  ·rw [a4Z];exact FmOk.zero _
  ·rw [a23 (by omega) (fun h=>by omega)]
   exact hfr i g hg
 unfold v5 a0C
 cases hd:(l7 K.frames f).dirty with
 |false=>
  rw [if_neg (by simp)]
  refine ⟨by simpa using hc,hr,by simpa using hh,by simpa using hmap none (fun a h=>by cases h),by rw [a4S];exact hroom,hfrn none,fun i s hs=>?_⟩
  dsimp only at hs ⊢
  rw [a23 (by omega) (fun _ h=>by cases h)]
  exact hsl i s hs
 |true=>
  obtain ⟨t,ht⟩:=hfree hd
  obtain ⟨s0,hs0,hs1⟩:=a3T ht
  have htl:=j3 hs0
  have hz:=(hsl t s0 hs0).free hs1
  rw [if_pos rfl,ht]
  rw [q8 hff] at hd ⊢
  refine ⟨by simpa using hc,hr,by simpa using hh,by simpa using hmap (some (t:Nat)) (fun a h=>by cases h;omega),by rw [a4S];simpa using hroom,hfrn (some (t:Nat)),fun i s hs=>?_⟩
  dsimp only [Option.map,Option.getD] at hs ⊢
  rcases b0h hs with ⟨rfl,rfl,_⟩|⟨hne,hs⟩
  ·rw [a31 hz.1]
   refine ⟨by rw [List.length_map];exact hfo.refs,fun hn=>?_,fun hn=>hfo.len (fun e=>hn (by rw [e];rfl)),fun n hn m hm=>?_⟩
   ·rw [List.map_eq_nil_iff] at hn
    rw [hfo.nil hn] at hd
    cases hd
   ·obtain ⟨n',hn',rfl⟩:=List.mem_map.1 hn
    obtain ⟨m',hm',rfl⟩:=List.mem_map.1 hm
    exact hfo.same n' hn' m' hm'
  ·rw [a23 (by omega) (fun _ h=>by cases h;omega)]
   exact hsl i s hs
end Go.Proofs.Ytejnpppejalhfac
/- A free slot is there; the clock; a frame that is got. -/
namespace Go.Proofs.Ytejnpppejalhfac
open Go.RowKit Go.Sort
theorem a5s:∀ {l:List Int} {lo hi:Int},Rises l→(∀ p ∈ l,lo≤p∧p < hi)→lo≤hi→(l.length:Int)≤hi - lo
 |[],lo,hi,_,_,h=>by simp;omega
 |p::l,lo,hi,hr,hp,h=>by
  have h1:=hp p List.mem_cons_self
  have ih:=a5s (l:=l) (lo:=p + 1) (hi:=hi) (List.pairwise_cons.1 hr).2 (fun q hq=>⟨by have:=(List.pairwise_cons.1 hr).1 q hq;omega,(hp q (List.mem_cons_of_mem _ hq)).2⟩) (by omega)
  rw [List.length_cons]
  omega
theorem a4b {α:Type} (p:α→Bool):∀ (l:List α),l.length=(l.filter p).length + (l.filter fun x=>!p x).length
 |[]=>rfl
 |x::l=>by
  have ih:=a4b p l
  cases hx:p x with
  |true=>
   rw [List.filter_cons_of_pos hx,List.filter_cons_of_neg (by simp [hx]),List.length_cons,List.length_cons]
   omega
  |false=>
   rw [List.filter_cons_of_neg (by simp [hx]),List.filter_cons_of_pos (by simp [hx]),List.length_cons,List.length_cons]
   omega
theorem a4E {α:Type} (p q:α→Bool):∀ (l:List α),(∀ x ∈ l,¬(p x=true∧q x=true))→(l.filter fun x=>p x||q x).length=(l.filter p).length + (l.filter q).length
 |[],_=>rfl
 |x::l,h=>by
  have ih:=a4E p q l (fun y hy=>h y (List.mem_cons_of_mem _ hy))
  have hx:=h x List.mem_cons_self
  cases h1:p x with
  |true=>
   have h2:q x=false:=by simpa [h1] using hx
   rw [List.filter_cons_of_pos (by simp [h1]),List.filter_cons_of_pos h1,List.filter_cons_of_neg (by simp [h2]),List.length_cons,List.length_cons]
   omega
  |false=>
   cases h2:q x with
   |true=>
    rw [List.filter_cons_of_pos (by simp [h2]),List.filter_cons_of_neg (by simp [h1]),List.filter_cons_of_pos h2,List.length_cons,List.length_cons]
    omega
   |false=>
    rw [List.filter_cons_of_neg (by simp [h1,h2]),List.filter_cons_of_neg (by simp [h1]),List.filter_cons_of_neg (by simp [h2])]
    omega
theorem a5P:∀ {A:List Ar} {e0:Int},a14 e0 A→∀ {l:List Int},Rises l→(∀ p ∈ l,(v7 A p).isSome=true)→(l.length:Int)≤y6 A
 |[],_,_,l,_,h=>by
  cases l with
  |nil=>simp [y6]
  |cons p l=>have:=h p List.mem_cons_self;simp [v7] at this
 |a::A,e0,hA,l,hr,h=>by
  obtain ⟨h1,h2,h3⟩:=hA
  have hok:=h1
  unfold Ar.ok at hok
  have hlt:∀ b ∈ A,a.fin≤b.pg:=fun b hb=>(b0H h3 b hb).1
  rw [a4b (fun p=>decide (p < a.fin)) l]
  have c1:=a5s (l:=l.filter fun p=>decide (p < a.fin)) (lo:=a.pg) (hi:=a.fin) (hr.sublist (List.filter_sublist)) (fun p hp=>by
   rw [List.mem_filter,decide_eq_true_eq] at hp
   refine ⟨?_,hp.2⟩
   have hs:=h p hp.1
   unfold v7 at hs
   by_cases hb:a0K p a=true
   ·unfold a0K at hb
    rw [decide_eq_true_eq] at hb
    exact hb.1
   ·rw [List.find?_cons_of_neg hb] at hs
    obtain ⟨b,hbb⟩:=Option.isSome_iff_exists.1 hs
    have h4:=hlt b (List.mem_of_find?_eq_some hbb)
    have h5:=List.find?_some hbb
    unfold a0K at h5
    rw [decide_eq_true_eq] at h5
    omega) (by unfold Ar.fin;omega)
  have c2:=a5P h3 (l:=l.filter fun p=>!decide (p < a.fin)) (hr.sublist (List.filter_sublist)) (fun p hp=>by
   rw [List.mem_filter,Bool.not_eq_true',decide_eq_false_iff_not] at hp
   have hs:=h p hp.1
   unfold v7 at hs ⊢
   rw [List.find?_cons_of_neg] at hs
   ·exact hs
   ·unfold a0K
    rw [decide_eq_true_eq]
    omega)
  unfold Ar.fin at c1
  show _≤a.n + y6 A
  unfold Ar.fin at c2 ⊢
  push_cast
  omega
theorem b2L {sh:List Sh} {nf ns:Int} {s:Sc} (h:a84 sh nf ns s):(s.entries.length:Int)≤y6 s.areas:=by
 have:=a5P (a0h.1 h.ar).2.1 h.rises (fun p hp=>by
  obtain ⟨e,he,rfl⟩:=List.mem_map.1 hp
  exact (h.ents e he).1)
 unfold n9 at this
 rwa [List.length_map] at this
theorem a6f {sh:List Sh} {nf ns:Int}:∀ {L:List Sc},(∀ s ∈ L,a84 sh nf ns s)→((a0w L).length:Int)≤r9 L
 |[],_=>by simp [a0w,r9]
 |s::L,h=>by
  have h1:=b2L (h s List.mem_cons_self)
  have h2:=a6f (L:=L) (fun x hx=>h x (List.mem_cons_of_mem _ hx))
  have e1:a0w (s::L)=s.entries.map (a0H s)++a0w L:=by unfold a0w;simp
  have e2:r9 (s::L)=y6 s.areas + r9 L:=by unfold r9;simp
  rw [e1,e2,List.length_append,List.length_map]
  omega
theorem a7W (X:List Nm):∀ (n:Nat),(∀ i:Nat,i < n→X.filter (fun (m:Nm)=>decide (m.1.kind=2∧m.1.at_=((i:Nat):Int)))≠[])→n≤(X.filter fun (m:Nm)=>decide (m.1.kind=2∧0≤m.1.at_∧m.1.at_ < ((n:Nat):Int))).length
 |0,_=>Nat.zero_le _
 |n + 1,h=>by
  have ih:=a7W X n (fun i hi=>h i (by omega))
  have hn:=List.length_pos_iff.2 (h n (by omega))
  have e:(X.filter fun (m:Nm)=>decide (m.1.kind=2∧0≤m.1.at_∧m.1.at_ < ((n + 1:Nat):Int)))=X.filter (fun (m:Nm)=>(decide (m.1.kind=2∧0≤m.1.at_∧m.1.at_ < ((n:Nat):Int)))||decide (m.1.kind=2∧m.1.at_=((n:Nat):Int))):=by
   refine congrArg (fun p=>List.filter p X) (funext fun m=>?_)
   rw [Bool.eq_iff_iff,Bool.or_eq_true,decide_eq_true_eq,decide_eq_true_eq,decide_eq_true_eq]
   omega
  rw [e,a4E _ _ _ (fun x _=>by rw [decide_eq_true_eq,decide_eq_true_eq];omega)]
  omega
theorem a9q {α:Type} (p q:α→Bool) (l:List α) (h:∀ x ∈ l,¬(p x=true∧q x=true)):(l.filter p).length + (l.filter q).length≤l.length:=by
 rw [← a4E p q l h]
 exact List.length_filter_le _ _
theorem a61 {K:Ker} (h:Right K) {f:Nat} (hf:f < K.frames.length) (hr:(l7 K.frames f).refs≠0):∃ t,a19 K.slots=some t:=by
 cases hfs:a19 K.slots with
 |some t=>exact ⟨t,rfl⟩
 |none=>
  exfalso
  have hno:=a9j hfs
  have hroom:=a6f (L:=K.spaces) (fun s hs=>a0x.1 (h.spaces s hs))
  have h1:=h.room
  have hc:=a7W (a0w K.spaces) K.slots.length (fun i hi=>by
   rw [a0T]
   intro e
   have:=h.sl i _ (List.getElem?_eq_getElem hi)
   rw [e] at this
   exact hno _ (List.getElem_mem hi) this.refs)
  have hff:=List.getElem?_eq_getElem hf
  have h2:=h.fr f _ hff
  rw [q8 hff] at hr
  have h3:(m8 K.spaces 1 (f:Nat)).length≠0:=fun e=>hr (by rw [h2.refs,e];rfl)
  rw [← a0T] at h3
  have h4:=a9q (fun (m:Nm)=>decide (m.1.kind=2∧0≤m.1.at_∧m.1.at_ < ((K.slots.length:Nat):Int))) (fun (n:Nm)=>decide (n.1.kind=1∧n.1.at_=((f:Nat):Int))) (a0w K.spaces) (fun x _=>by rw [decide_eq_true_eq,decide_eq_true_eq];omega)
  omega
/-! the clock -/
def a6H (l:List Fm):Nat:=l.countP fun f=>f.seen
def a60 (n h:Nat) (held:List Nat):Nat:=if h ∈ held then (if a0d n h ∈ held then 2 else 1) else 0
def a1d (fr:List Fm) (h:Nat) (held:List Nat):Nat:=3 * a6H fr + a60 fr.length h held
theorem a5A {n h:Nat} (hn:h < n):a0d n h < n:=by unfold a0d;split <;> omega
theorem a36 (n h:Nat) (held:List Nat):a60 n h held≤2:=by unfold a60;split <;> (try split) <;> omega
theorem a53 {n h:Nat} {held:List Nat} (h3:3≤n) (hn:h < n) (hl:held.length≤2) (hh:h ∈ held):a60 n (a0d n h) held < a60 n h held:=by
 unfold a60
 rw [if_pos hh]
 by_cases h1:a0d n h ∈ held
 ·rw [if_pos h1,if_pos h1,if_neg]
  ·omega
  ·intro h2
   have hnd:[h,a0d n h,a0d n (a0d n h)].Nodup:=by
    have e1:h≠a0d n h:=by unfold a0d;split <;> omega
    have e2:h≠a0d n (a0d n h):=by unfold a0d;split <;> split <;> omega
    have e3:a0d n h≠a0d n (a0d n h):=by unfold a0d;split <;> split <;> omega
    simp [e1,e2,e3]
   have:=a4M hnd (m:=held) (fun x hx=>by
    rcases List.mem_cons.1 hx with rfl|hx
    ·exact hh
    rcases List.mem_cons.1 hx with rfl|hx
    ·exact h1
    rcases List.mem_cons.1 hx with rfl|hx
    ·exact h2
    ·cases hx)
   simp at this
   omega
 ·rw [if_neg h1,if_neg h1]
  omega
theorem a4H:∀ {l:List Fm} {i:Nat} {f x:Fm},l[i]?=some f→f.seen=true→x.seen=false→a6H (l.set i x) + 1=a6H l
 |[],_,_,_,h,_,_=>by simp at h
 |a::l,0,f,x,h,hf,hx=>by
  simp at h
  subst h
  unfold a6H
  rw [List.set_cons_zero,List.countP_cons_of_pos hf,List.countP_cons_of_neg (by simp [hx])]
 |a::l,i + 1,f,x,h,hf,hx=>by
  have ih:=a4H (l:=l) (i:=i) (by simpa using h) hf hx
  unfold a6H at ih ⊢
  rw [List.set_cons_succ,List.countP_cons,List.countP_cons]
  omega
def a9s (a b:Fm):Prop:=a.data=b.data∧a.refs=b.refs∧a.dirty=b.dirty
theorem a1w {l:List Fm} {i j:Nat} {x:Fm}:l7 (l.set i x) j=if i=j∧j < l.length then x else l7 l j:=by
 unfold l7
 rw [List.getElem?_set]
 by_cases e:i=j
 ·subst e
  rw [if_pos rfl]
  by_cases h:i < l.length
  ·rw [if_pos h,if_pos ⟨rfl,h⟩];rfl
  ·rw [if_neg h,if_neg (fun hh=>h hh.2),List.getElem?_eq_none (by omega)]
 ·rw [if_neg e,if_neg (fun hh=>e hh.1)]
theorem a33 {l:List Sw} {i j:Nat} {x:Sw}:a0g (l.set i x) j=if i=j∧j < l.length then x else a0g l j:=by
 unfold a0g
 rw [List.getElem?_set]
 by_cases e:i=j
 ·subst e
  rw [if_pos rfl]
  by_cases h:i < l.length
  ·rw [if_pos h,if_pos ⟨rfl,h⟩];rfl
  ·rw [if_neg h,if_neg (fun hh=>h hh.2),List.getElem?_eq_none (by omega)]
 ·rw [if_neg e,if_neg (fun hh=>e hh.1)]
theorem a5D {held:List Nat} (hl:held.length≤2):∀ (k:Nat) {fr:List Fm} {h:Nat},3≤fr.length→h < fr.length→a1d fr h held < k →
  (a0E k fr h held).2.2 < fr.length∧(a0E k fr h held).2.2 ∉ held∧(a0E k fr h held).2.1 < fr.length∧(a0E k fr h held).1.length=fr.length∧(∀ i,a9s (l7 (a0E k fr h held).1 i) (l7 fr i))∧∀ i ∈ held,l7 (a0E k fr h held).1 i=l7 fr i
 |0,_,_,_,_,hm=>absurd hm (Nat.not_lt_zero _)
 |k + 1,fr,h,h3,hn,hm=>by
  unfold a0E
  by_cases hh:h ∈ held
  ·rw [if_pos hh]
   have hd:=a53 h3 hn hl hh
   exact a5D hl k h3 (a5A hn) (by unfold a1d at hm ⊢;omega)
  ·rw [if_neg hh]
   have hget:=List.getElem?_eq_getElem hn
   cases hs:(l7 fr h).seen with
   |false=>
    rw [if_neg (by simp)]
    exact ⟨hn,hh,a5A hn,rfl,fun i=>⟨rfl,rfl,rfl⟩,fun i _=>rfl⟩
   |true=>
    rw [if_pos rfl]
    have hse:=a4H (x:=⟨(l7 fr h).data,(l7 fr h).refs,(l7 fr h).dirty,false⟩) hget (by rw [← q8 hget];exact hs) rfl
    have hd2:=a36 fr.length (a0d fr.length h) held
    have hlen:(fr.set h ⟨(l7 fr h).data,(l7 fr h).refs,(l7 fr h).dirty,false⟩).length=fr.length:=by simp
    have ih:=a5D hl k (fr:=fr.set h ⟨(l7 fr h).data,(l7 fr h).refs,(l7 fr h).dirty,false⟩) (h:=a0d fr.length h) (by rw [hlen];exact h3) (by rw [hlen];exact a5A hn) (by unfold a1d at hm ⊢;rw [hlen];omega)
    rw [hlen] at ih
    obtain ⟨i1,i2,i3,i4,i5,i6⟩:=ih
    refine ⟨i1,i2,i3,i4,fun i=>?_,fun i hi=>?_⟩
    ·have h5:=i5 i
     rw [a1w] at h5
     by_cases e:h=i∧i < fr.length
     ·rw [if_pos e] at h5
      obtain ⟨rfl,-⟩:=e
      exact h5
     ·rw [if_neg e] at h5
      exact h5
    ·rw [i6 i hi,a1w,if_neg]
     rintro ⟨rfl,-⟩
     exact hh hi
theorem a65 {fr:List Fm} (h64:fr.length≤64) (h:Nat) (held:List Nat):a1d fr h held < 5000:=by
 unfold a1d a6H
 have h1:=List.countP_le_length (p:=fun (f:Fm)=>f.seen) (l:=fr)
 have h2:=a36 fr.length h held
 omega
theorem FmOk.alike {sh:List Sh} {f g:Fm} {N:List Nm} (h:FmOk sh f N) (ha:a9s g f) (hr:f.refs≠0):FmOk sh g N:=by
 obtain ⟨a1,a2,a3⟩:=ha
 refine ⟨by rw [a2];exact h.refs,fun e=>absurd (by rw [h.refs,e];rfl) hr,by rw [a1];exact h.len,h.same,fun n hn=>by rw [a1,a3];exact h.data n hn⟩
theorem a7K {K:Ker} (h:Right K) {held:List Nat} (hl:held.length≤2) (hfree:a32 K.frames=none) :
  Right ⟨K.sheets,(a0j K held).1,K.slots,K.spaces,((a0j K held).2.1:Nat)⟩∧(a0j K held).2.2 < K.frames.length∧(a0j K held).2.2 ∉ held∧(∀ i,a9s (l7 (a0j K held).1 i) (l7 K.frames i))∧(∀ i ∈ held,l7 (a0j K held).1 i=l7 K.frames i)∧(a0j K held).1.length=K.frames.length:=by
 have hh:=h.hand
 have hc:=h.cnt
 obtain ⟨c1,c2,c3,c4,c5,c6⟩:=a5D hl 5000 (fr:=K.frames) (h:=K.hand.toNat) hc.1 (by omega) (a65 hc.2.1 _ _)
 refine ⟨⟨by dsimp only [a0j];rw [c4];exact hc,h.rise,?_,?_,h.room,fun i g hg=>?_,h.sl⟩,c1,c2,c5,c6,c4⟩
 ·show 0≤(((a0E 5000 K.frames K.hand.toNat held).2.1:Nat):Int)∧(((a0E 5000 K.frames K.hand.toNat held).2.1:Nat):Int) < ((a0E 5000 K.frames K.hand.toNat held).1.length:Int)
  rw [c4]
  omega
 ·intro s hs
  show z6 K.sheets ((a0E 5000 K.frames K.hand.toNat held).1.length:Int) K.slots.length s=true
  rw [c4]
  exact h.spaces s hs
 ·replace hg:(a0E 5000 K.frames K.hand.toNat held).1[i]?=some g:=hg
  have hil:i < K.frames.length:=by have:=j3 hg;omega
  have hig:=List.getElem?_eq_getElem hil
  have:=c5 i
  rw [q8 hg,q8 hig] at this
  exact (h.fr i _ hig).alike this (a3P hfree _ (List.getElem_mem hil))
end Go.Proofs.Ytejnpppejalhfac
/- A frame that is got, an entry that is put, a page that is brought: what comes is right, and no page tells another thing. -/
namespace Go.Proofs.Ytejnpppejalhfac
open Go.RowKit Go.Sort
theorem z0 {l:List En} {p:Int} {e:En} (h:o0 l p=some e):e ∈ l∧e.page=p:=⟨List.mem_of_find?_eq_some h,by have:=List.find?_some h;simpa using this⟩
theorem a2W {l:List En} (hr:Rises (n9 l)) {e:En} (h:e ∈ l):o0 l e.page=some e:=by
 induction l with
 |nil=>cases h
 |cons a l ih=>
  unfold o0
  have hp:=List.pairwise_cons.1 hr
  rcases List.mem_cons.1 h with rfl|h
  ·rw [List.find?_cons_of_pos (by simp)]
  ·have:a.page < e.page:=hp.1 e.page (List.mem_map.2 ⟨e,h,rfl⟩)
   rw [List.find?_cons_of_neg (by simp;omega)]
   exact ih hp.2 h
theorem a1l {l:List En} {p:Int}:o0 l p=none ↔ p ∉ n9 l:=by
 unfold o0 n9
 rw [List.find?_eq_none,List.mem_map]
 constructor
 ·rintro h ⟨e,he,rfl⟩
  exact h e he (by simp)
 ·intro h e he hp
  exact h ⟨e,he,by simpa using hp⟩
theorem a4V {f:Int} {t:Option Int} {e x:En} (h:x9 f t e=some x):x.page=e.page:=by
 unfold x9 at h
 split at h
 ·cases t with
  |none=>cases h
  |some s=>cases h;rfl
 ·cases h;rfl
theorem a8b {f:Int} {t:Option Int} {l:List En} (hr:Rises (n9 l)) (p:Int):o0 (l.filterMap (x9 f t)) p=(o0 l p).bind (x9 f t):=by
 have hr2:=hr.sublist (a2f f t l)
 cases h:o0 l p with
 |none=>
  rw [a1l] at h
  exact a1l.2 fun hp=>h ((a2f f t l).subset hp)
 |some e=>
  obtain ⟨he,rfl⟩:=z0 h
  show _=x9 f t e
  cases hx:x9 f t e with
  |some x=>
   have:=a2W hr2 (List.mem_filterMap.2 ⟨e,he,hx⟩)
   rwa [a4V hx] at this
  |none=>
   rw [a1l]
   intro hp
   obtain ⟨y,hy,hyp⟩:=List.mem_map.1 hp
   obtain ⟨z,hz,hzy⟩:=List.mem_filterMap.1 hy
   have h1:=a4V hzy
   have h2:=a2W hr hz
   rw [← h1,hyp,h] at h2
   cases h2
   rw [hx] at hzy
   cases hzy
theorem x7 {K:Ker} {sp:Nat} {s:Sc} (h:K.spaces[sp]?=some s):u7 K sp=s:=by unfold u7;rw [h];rfl
theorem a3t {K:Ker} {sp:Nat} (h:K.spaces[sp]?=none):u7 K sp=sc0:=by unfold u7;rw [h];rfl
theorem a2K {K:Ker} {sp:Nat} {s:Sc} {e:En} (h:K.spaces[sp]?=some s) (he:e ∈ s.entries):a0H s e ∈ m8 K.spaces e.kind e.at_:=by
 rw [a0a,List.mem_flatMap]
 refine ⟨s,List.mem_of_getElem? h,?_⟩
 unfold nm1
 exact List.mem_map.2 ⟨e,List.mem_filter.2 ⟨he,by simp⟩,rfl⟩
theorem b1O {K:Ker} {sp:Nat} {s:Sc} (h:K.spaces[sp]?=some s) (e:En):(a0H s e).2.z=zAt K sp e.page:=by
 unfold zAt l9 a0H
 rw [x7 h]
theorem Right.ent {K:Ker} (h:Right K) {sp:Nat} {s:Sc} {e:En} (hs:K.spaces[sp]?=some s) (he:e ∈ s.entries) :
  (v7 s.areas e.page).isSome=true∧((e.kind=1∧(∃ f:Nat,e.at_=(f:Nat)∧f < K.frames.length))∨(e.kind=2∧∃ f:Nat,e.at_=(f:Nat)∧f < K.slots.length)):=by
 have h1:=(a0x.1 (h.spaces s (List.mem_of_getElem? hs))).ents e he
 refine ⟨h1.1,?_⟩
 rcases h1.2 with ⟨a,b,c⟩|⟨a,b,c⟩
 ·exact Or.inl ⟨a,e.at_.toNat,by omega,by omega⟩
 ·exact Or.inr ⟨a,e.at_.toNat,by omega,by omega⟩
structure SameP (K K':Ker):Prop where
 sheets:K'.sheets=K.sheets
 nfr:K'.frames.length=K.frames.length
 nsl:K'.slots.length=K.slots.length
 nsp:K'.spaces.length=K.spaces.length
 ar:∀ sp,l9 K' sp=l9 K sp
 live:∀ sp,(u7 K' sp).live=(u7 K sp).live
 peek:∀ sp p,t7 K' sp p=t7 K sp p
theorem SameP.refl (K:Ker):SameP K K:=⟨rfl,rfl,rfl,rfl,fun _=>rfl,fun _=>rfl,fun _ _=>rfl⟩
theorem SameP.trans {K K' K2:Ker} (h:SameP K K') (h2:SameP K' K2):SameP K K2:=⟨h2.sheets.trans h.sheets,h2.nfr.trans h.nfr,h2.nsl.trans h.nsl,h2.nsp.trans h.nsp,fun s=>(h2.ar s).trans (h.ar s),fun s=>(h2.live s).trans (h.live s),fun s p=>(h2.peek s p).trans (h.peek s p)⟩
theorem a1y {K K':Ker} {sp:Nat} (hs:K'.sheets=K.sheets) (ha:l9 K' sp=l9 K sp) (p:Int):a0Q K' sp p=a0Q K sp p:=by
 unfold a0Q zAt
 rw [hs,ha]
theorem a37 {K K':Ker} {g:Sc→Sc} (h:K'.spaces=K.spaces.map g) (sp:Nat):(K.spaces[sp]?=none∧u7 K' sp=sc0∧u7 K sp=sc0)∨∃ s,K.spaces[sp]?=some s∧u7 K sp=s∧u7 K' sp=g s:=by
 unfold u7
 rw [h,List.getElem?_map]
 cases hk:K.spaces[sp]? with
 |none=>exact Or.inl ⟨rfl,rfl,rfl⟩
 |some s=>exact Or.inr ⟨s,rfl,rfl,rfl⟩
theorem a8t {K:Ker} (h:Right K) {f:Nat} (hf:f < K.frames.length) (hfree:(l7 K.frames f).dirty=true→∃ t,a19 K.slots=some t) :
  SameP K (v5 K f)∧l7 (v5 K f).frames f=fm0∧m8 (v5 K f).spaces 1 (f:Nat)=[]∧(∀ i,i≠f→l7 (v5 K f).frames i=l7 K.frames i)∧(∀ i,(a0g K.slots i).refs≠0→a0g (v5 K f).slots i=a0g K.slots i)∧(∀ sp p,o0 (l5 (v5 K f) sp) p=(o0 (l5 K sp) p).bind (x9 (f:Nat) ((a0C K f).map fun (t:Nat)=>(t:Int)))):=by
 have hff:=List.getElem?_eq_getElem hf
 have hfo:=h.fr f _ hff
 have hent:∀ sp p,o0 (l5 (v5 K f) sp) p=(o0 (l5 K sp) p).bind (x9 (f:Nat) ((a0C K f).map fun (t:Nat)=>(t:Int))):=fun sp p=>by
  unfold l5
  rcases a37 (K':=v5 K f) (K:=K) (g:=a0m (f:Nat) ((a0C K f).map fun (t:Nat)=>(t:Int))) rfl sp with ⟨-,h1,h2⟩|⟨s,hs,h1,h2⟩
  ·rw [h1,h2];rfl
  ·rw [h1,h2]
   exact a8b (a0x.1 (h.spaces s (List.mem_of_getElem? hs))).rises p
 have harea:∀ sp,l9 (v5 K f) sp=l9 K sp:=fun sp=>by
  unfold l9
  rcases a37 (K':=v5 K f) (K:=K) (g:=a0m (f:Nat) ((a0C K f).map fun (t:Nat)=>(t:Int))) rfl sp with ⟨-,h1,h2⟩|⟨s,hs,h1,h2⟩ <;> rw [h1,h2] <;> rfl
 have hlive:∀ sp,(u7 (v5 K f) sp).live=(u7 K sp).live:=fun sp=>by
  rcases a37 (K':=v5 K f) (K:=K) (g:=a0m (f:Nat) ((a0C K f).map fun (t:Nat)=>(t:Int))) rfl sp with ⟨-,h1,h2⟩|⟨s,hs,h1,h2⟩ <;> rw [h1,h2] <;> rfl
 have hfr:∀ i,l7 (v5 K f).frames i=if f=i then fm0 else l7 K.frames i:=fun i=>by
  show l7 (K.frames.set f fm0) i=_
  rw [a1w]
  by_cases e:f=i
  ·subst e;rw [if_pos ⟨rfl,hf⟩,if_pos rfl]
  ·rw [if_neg (fun hh=>e hh.1),if_neg e]
 have hT:∀ t,a0C K f=some t→(l7 K.frames f).dirty=true∧(a0g K.slots t).refs=0∧t < K.slots.length∧m8 K.spaces 2 (t:Nat)=[]∧(v5 K f).slots=K.slots.set t ⟨(l7 K.frames f).data,(l7 K.frames f).refs⟩:=fun t ht=>by
  have ht0:=ht
  unfold a0C at ht
  cases hd:(l7 K.frames f).dirty with
  |false=>rw [hd] at ht;cases ht
  |true=>
   obtain ⟨u,hu⟩:=hfree hd
   rw [hd,hu] at ht
   obtain rfl:u=t:=by simpa using ht
   obtain ⟨s0,hs0,hs1⟩:=a3T hu
   refine ⟨rfl,by rw [a0B hs0];exact hs1,j3 hs0,((h.sl u s0 hs0).free hs1).1,?_⟩
   unfold v5
   rw [ht0]
 have hT0:a0C K f=none→(l7 K.frames f).dirty=false∧(v5 K f).slots=K.slots:=fun ht=>by
  have ht0:=ht
  unfold a0C at ht
  cases hd:(l7 K.frames f).dirty with
  |false=>exact ⟨rfl,by unfold v5;rw [ht0]⟩
  |true=>rw [hd] at ht;cases ht
 have hsw:∀ i,(a0g K.slots i).refs≠0→a0g (v5 K f).slots i=a0g K.slots i:=fun i hi=>by
  cases ht:a0C K f with
  |none=>rw [(hT0 ht).2]
  |some t=>
   obtain ⟨-,h2,-,-,h5⟩:=hT t ht
   rw [h5,a33,if_neg]
   rintro ⟨rfl,-⟩
   exact hi h2
 refine ⟨⟨rfl,by show (K.frames.set f fm0).length=_;simp,?_,by show (K.spaces.map _).length=_;simp,harea,hlive,fun sp p=>?_⟩,by rw [hfr,if_pos rfl],a4Z _,fun i hi=>by rw [hfr,if_neg (Ne.symm hi)],hsw,hent⟩
 ·cases ht:a0C K f with
  |none=>rw [(hT0 ht).2]
  |some t=>rw [(hT t ht).2.2.2.2];simp
 ·unfold t7
  rw [hent]
  have hfill:a0Q (v5 K f) sp p=a0Q K sp p:=a1y (K:=K) (K':=v5 K f) rfl (harea sp) p
  cases he:o0 (l5 K sp) p with
  |none=>exact hfill
  |some e=>
   obtain ⟨hem,hep⟩:=z0 he
   rcases a37 (K':=K) (K:=K) (g:=id) (List.map_id _).symm sp with ⟨h0,-,h2⟩|⟨s,hs,h1,-⟩
   ·unfold l5 at hem
    rw [h2] at hem
    cases hem
   ·have hes:e ∈ s.entries:=by unfold l5 at hem;rwa [h1] at hem
    have hnm:=a2K hs hes
    show (match x9 (f:Nat) ((a0C K f).map fun (t:Nat)=>(t:Int)) e with
     |some e=>v8 (v5 K f) e
     |none=>a0Q (v5 K f) sp p)=v8 K e
    unfold x9
    by_cases hk:e.kind=1∧e.at_=(f:Nat)
    ·rw [if_pos hk]
     rw [hk.1,hk.2] at hnm
     have hd:=hfo.data _ hnm
     rw [b1O hs] at hd
     have hdat:v8 K e=(l7 K.frames f).data:=by unfold v8;rw [if_pos hk.1,hk.2];rfl
     rw [hdat]
     cases ht:a0C K f with
     |none=>
      rw [← q8 hff] at hd
      rcases hd with hd|hd
      ·rw [(hT0 ht).1] at hd;cases hd
      ·show a0Q (v5 K f) sp p=_
       rw [hfill]
       unfold a0Q
       have:(a0H s e).1.page=p:=hep
       rw [hep] at hd
       rw [show (a0H s e).1.page=p from hep] at hd
       rw [← hd]
       rfl
     |some t=>
      obtain ⟨-,-,h3,-,h5⟩:=hT t ht
      show v8 (v5 K f) ⟨e.page,2,(t:Nat)⟩=_
      unfold v8
      rw [if_neg (by show ¬((2:Int)=1);omega),h5,show ((t:Nat):Int).toNat=t from rfl,a33,if_pos ⟨rfl,h3⟩]
    ·rw [if_neg hk]
     show v8 (v5 K f) e=v8 K e
     unfold v8
     by_cases hk1:e.kind=1
     ·rw [if_pos hk1,if_pos hk1,hfr,if_neg]
      rintro rfl
      rcases (h.ent hs hes).2 with ⟨-,g,hg,-⟩|⟨h2,-⟩
      ·exact hk ⟨hk1,by omega⟩
      ·omega
     ·rw [if_neg hk1,if_neg hk1]
      rcases (h.ent hs hes).2 with ⟨h1,-⟩|⟨h2,g,hg,hgl⟩
      ·exact absurd h1 hk1
      ·rw [hsw]
       rw [hg]
       have hgo:=h.sl g _ (List.getElem?_eq_getElem hgl)
       rw [h2,hg] at hnm
       rw [show ((g:Nat):Int).toNat=g from rfl,a0B (List.getElem?_eq_getElem hgl),hgo.refs]
       intro e0
       have:m8 K.spaces 2 (g:Nat)=[]:=List.eq_nil_of_length_eq_zero (by omega)
       rw [this] at hnm
       cases hnm
end Go.Proofs.Ytejnpppejalhfac
/- A frame that is got; an entry that is put in a frame that is free. -/
namespace Go.Proofs.Ytejnpppejalhfac
open Go.RowKit Go.Sort
structure b4T (K:Ker) (held:List Nat) (r:Ker×Nat):Prop where
 right:Right r.1
 same:SameP K r.1
 lt:r.2 < K.frames.length
 zero:l7 r.1.frames r.2=fm0
 nobody:m8 r.1.spaces 1 (r.2:Nat)=[]
 kept:∀ i ∈ held,(l7 K.frames i).refs≠0→r.2≠i∧l7 r.1.frames i=l7 K.frames i
 slots:∀ i,(a0g K.slots i).refs≠0→a0g r.1.slots i=a0g K.slots i
 some_:∀ sp p e,o0 (l5 K sp) p=some e→(e.kind≠1∨∃ i ∈ held,e.at_=((i:Nat):Int)∧(l7 K.frames i).refs≠0)→o0 (l5 r.1 sp) p=some e
 none_:∀ sp p,o0 (l5 K sp) p=none→o0 (l5 r.1 sp) p=none
theorem a5d {K:Ker} (h:Right K) {held:List Nat} (hl:held.length≤2):b4T K held (a0D K held):=by
 unfold a0D
 cases hf:a32 K.frames with
 |some i=>
  obtain ⟨f,hfi,h0⟩:=a86 hf
  have hz:=(h.fr i f hfi).free h0
  refine ⟨h,SameP.refl K,j3 hfi,by show l7 K.frames i=_;rw [q8 hfi];exact hz.2,hz.1,fun j _ hj=>⟨?_,rfl⟩,fun _ _=>rfl,fun _ _ _ h _=>h,fun _ _ h=>h⟩
  rintro rfl
  rw [q8 hfi] at hj
  exact hj h0
 |none=>
  obtain ⟨c1,c2,c3,c4,c5,c6⟩:=a7K h hl hf
  have hnz:∀ i,i < K.frames.length→(l7 K.frames i).refs≠0:=fun i hi=>by
   rw [q8 (List.getElem?_eq_getElem hi)]
   exact a3P hf _ (List.getElem_mem hi)
  have hfl:(a0j K held).2.2 < (⟨K.sheets,(a0j K held).1,K.slots,K.spaces,((a0j K held).2.1:Nat)⟩:Ker).frames.length:=by show _ < (a0j K held).1.length;rw [c6];exact c2
  have hfree:=a61 c1 hfl (by show (l7 (a0j K held).1 _).refs≠0;rw [(c4 _).2.1];exact hnz _ c2)
  have hr:=a7o c1 hfl (fun _=>hfree)
  obtain ⟨s1,s2,s3,s4,s5,s6⟩:=a8t c1 hfl (fun _=>hfree)
  have hs0:SameP K ⟨K.sheets,(a0j K held).1,K.slots,K.spaces,((a0j K held).2.1:Nat)⟩:=by
   refine ⟨rfl,c6,rfl,rfl,fun _=>rfl,fun _=>rfl,fun sp p=>?_⟩
   unfold t7
   show (match o0 (l5 K sp) p with
    |some e=>v8 ⟨K.sheets,(a0j K held).1,K.slots,K.spaces,((a0j K held).2.1:Nat)⟩ e
    |none=>a0Q K sp p)=_
   cases o0 (l5 K sp) p with
   |none=>rfl
   |some e=>
    show v8 _ e=v8 K e
    unfold v8
    rw [(c4 _).1]
  refine ⟨hr,hs0.trans s1,c2,s2,s3,fun i hi h0=>⟨?_,?_⟩,fun i hi=>s5 i hi,fun sp p e he hk=>?_,fun sp p he=>?_⟩
  ·rintro rfl;exact c3 hi
  ·show l7 (v5 _ _).frames i=_
   rw [s4 i (fun e=>c3 (by rw [← e];exact hi))]
   exact c5 i hi
  ·show o0 (l5 (v5 _ _) sp) p=_
   rw [s6]
   show ((o0 (l5 K sp) p).bind _)=_
   rw [he]
   show x9 _ _ e=_
   unfold x9
   rw [if_neg]
   rintro ⟨k1,k2⟩
   rcases hk with hk|⟨i,hi,hk,-⟩
   ·exact hk k1
   ·have:(a0j K held).2.2=i:=by omega
    exact c3 (by rw [this];exact hi)
  ·show o0 (l5 (v5 _ _) sp) p=_
   rw [s6]
   show ((o0 (l5 K sp) p).bind _)=_
   rw [he]
   rfl
/-! an entry at its place -/
theorem a3z {l:List En} (hr:Rises (n9 l)) {q:Int} {x:En}:o0 l q=some x ↔ x ∈ l∧x.page=q:=by
 constructor
 ·exact z0
 ·rintro ⟨h,rfl⟩;exact a2W hr h
theorem b22 (a:Int) (l:List Int) (t:Int):lbd (a::l) t=if a < t then lbd l t + 1 else 0:=by
 unfold lbd
 rw [List.takeWhile_cons]
 by_cases h:a < t
 ·rw [if_pos (by simpa using h),if_pos h,List.length_cons]
 ·rw [if_neg (by simpa using h),if_neg h];rfl
theorem a6E:∀ {l:List Int} (_:Rises l) (t:Int),(∀ p ∈ l.take (lbd l t),p < t)∧(∀ p ∈ l.drop (lbd l t),t≤p)
 |[],_,t=>by simp
 |a::l,h,t=>by
  have hp:=List.pairwise_cons.1 h
  rw [b22]
  by_cases c:a < t
  ·rw [if_pos c]
   obtain ⟨i1,i2⟩:=a6E hp.2 t
   refine ⟨fun p hp'=>?_,by simpa using i2⟩
   rw [List.take_succ_cons] at hp'
   rcases List.mem_cons.1 hp' with rfl|hp'
   ·exact c
   ·exact i1 p hp'
  ·rw [if_neg c]
   refine ⟨by simp,fun p hp'=>?_⟩
   rw [List.drop_zero] at hp'
   rcases List.mem_cons.1 hp' with rfl|hp'
   ·omega
   ·have:=hp.1 p hp';omega
theorem a63 (l:List En) (e:En):(a9t l e).Perm (e::l):=by
 unfold a9t
 refine List.perm_middle.trans ?_
 rw [List.take_append_drop]
theorem a9c {l:List En} (h:Rises (n9 l)) {e:En} (hn:e.page ∉ n9 l):Rises (n9 (a9t l e)):=by
 obtain ⟨h1,h2⟩:=a6E h e.page
 have h3:Rises ((n9 l).take (lbd (n9 l) e.page)):=h.sublist (List.take_sublist _ _)
 have h4:Rises ((n9 l).drop (lbd (n9 l) e.page)):=h.sublist (List.drop_sublist _ _)
 have e1:n9 (a9t l e)=(n9 l).take (lbd (n9 l) e.page)++e.page::(n9 l).drop (lbd (n9 l) e.page):=by
  unfold a9t n9
  rw [List.map_append,List.map_cons,List.map_take,List.map_drop]
 rw [e1]
 refine List.pairwise_append.2 ⟨h3,List.pairwise_cons.2 ⟨fun p hp=>?_,h4⟩,fun a ha b hb=>?_⟩
 ·have:=h2 p hp
  have hne:p≠e.page:=fun e0=>hn (by rw [← e0];exact List.mem_of_mem_drop hp)
  omega
 ·have:=h1 a ha
  rcases List.mem_cons.1 hb with rfl|hb
  ·exact this
  ·have:=h2 b hb;omega
theorem a6N {l:List En} (h:Rises (n9 l)) (e:En):∃ R,l.Perm ((o0 l e.page).toList++R)∧(a1Z l e).Perm (e::R)∧Rises (n9 (a1Z l e))∧(a1Z l e).length≤l.length + 1:=by
 unfold a1Z
 by_cases hm:e.page ∈ n9 l
 ·rw [if_pos hm]
  have hi:=(a01 h e.page).2 hm
  unfold n9 at hi
  rw [List.getElem?_map] at hi
  obtain ⟨x,hx,hxp⟩:=Option.map_eq_some_iff.1 hi
  have he:o0 l e.page=some x:=(a3z h).2 ⟨List.mem_of_getElem? hx,hxp⟩
  refine ⟨l.eraseIdx (lbd (n9 l) e.page),?_,?_,?_,by simp⟩
  ·rw [he];exact a03 hx
  ·have:=a03 (l:=l.set (lbd (n9 l) e.page) e) (k:=lbd (n9 l) e.page) (b:=e) (by rw [List.getElem?_set];simp;exact j3 hx)
   rwa [a1Q] at this
  ·have:n9 (l.set (lbd (n9 l) e.page) e)=n9 l:=by
    have e1:n9 (l.set (lbd (n9 l) e.page) e)=(n9 l).set (lbd (n9 l) e.page) e.page:=by unfold n9;rw [List.map_set]
    rw [e1]
    refine List.ext_getElem? fun j=>?_
    rw [List.getElem?_set]
    by_cases hj:lbd (n9 l) e.page=j
    ·rw [if_pos hj,hj.symm]
     have h9:=(a01 h e.page).2 hm
     rw [if_pos (j3 h9),h9]
    ·rw [if_neg hj]
   rw [this]
   exact h
 ·rw [if_neg hm]
  refine ⟨l,?_,a63 l e,a9c h hm,by rw [(a63 l e).length_eq];simp⟩
  rw [a1l.2 hm]
  exact List.Perm.refl _
theorem b1l {l:List En} (h:Rises (n9 l)) (e:En) (q:Int):o0 (a1Z l e) q=if q=e.page then some e else o0 l q:=by
 obtain ⟨R,h1,h2,h3,-⟩:=a6N h e
 by_cases hq:q=e.page
 ·rw [if_pos hq]
  exact (a3z h3).2 ⟨h2.mem_iff.2 List.mem_cons_self,hq.symm⟩
 ·rw [if_neg hq]
  cases hx:o0 l q with
  |some x=>
   obtain ⟨hx1,hx2⟩:=z0 hx
   refine (a3z h3).2 ⟨h2.mem_iff.2 (List.mem_cons_of_mem _ ?_),hx2⟩
   rcases List.mem_append.1 (h1.mem_iff.1 hx1) with h4|h4
   ·exfalso
    rw [Option.mem_toList] at h4
    exact hq (hx2.symm.trans (z0 h4).2)
   ·exact h4
  |none=>
   cases hy:o0 (a1Z l e) q with
   |none=>rfl
   |some y=>
    exfalso
    obtain ⟨hy1,hy2⟩:=z0 hy
    rcases List.mem_cons.1 (h2.mem_iff.1 hy1) with rfl|h4
    ·exact hq hy2.symm
    ·have:=(a3z h).2 ⟨h1.mem_iff.2 (List.mem_append_right _ h4),hy2⟩
     rw [hx] at this
     cases this
/-! namers, one space set apart -/
def nmL (s:Sc) (k a:Int) (l:List En):List Nm:=(l.filter fun e=>decide (e.kind=k∧e.at_=a)).map (a0H s)
theorem a5x {s:Sc} {k a:Int} {l m:List En} (h:l.Perm m):(nmL s k a l).Perm (nmL s k a m):=(h.filter _).map _
theorem a7O (s:Sc) (k a:Int) (l m:List En):nmL s k a (l++m)=nmL s k a l++nmL s k a m:=by unfold nmL;rw [List.filter_append,List.map_append]
theorem a3u {s:Sc} {k a:Int} {e:En} (l:List En) (h:e.kind=k∧e.at_=a):nmL s k a (e::l)=a0H s e::nmL s k a l:=by unfold nmL;rw [List.filter_cons_of_pos (by simpa using h)];rfl
theorem a6i {s:Sc} {k a:Int} {e:En} (l:List En) (h:¬(e.kind=k∧e.at_=a)):nmL s k a (e::l)=nmL s k a l:=by unfold nmL;rw [List.filter_cons_of_neg (by simpa using h)]
theorem a04 {L:List Sc} {sp:Nat} {s s':Sc} (h:L[sp]?=some s) (k a:Int):(m8 (L.set sp s') k a).Perm (nm1 s' k a++m8 (L.eraseIdx sp) k a)∧(m8 L k a).Perm (nm1 s k a++m8 (L.eraseIdx sp) k a):=by
 constructor
 ·have:=a03 (l:=L.set sp s') (k:=sp) (b:=s') (by rw [List.getElem?_set];simp;exact j3 h)
  rw [a1Q] at this
  exact this.flatMap_right _
 ·exact (a03 h).flatMap_right _
theorem FmOk.dec {sh:List Sh} {f:Fm} {n:Nm} {N:List Nm} (h:FmOk sh f (n::N)):FmOk sh (a2o f) N:=by
 have hr:=h.refs
 rw [List.length_cons] at hr
 unfold a2o
 by_cases h0:f.refs - 1=0
 ·rw [if_pos h0]
  obtain rfl:N=[]:=List.eq_nil_of_length_eq_zero (by omega)
  exact FmOk.zero sh
 ·rw [if_neg h0]
  exact ⟨by show f.refs - 1=_;omega,fun e=>absurd (by rw [e] at hr;simp at hr;omega) h0,fun _=>h.len (by simp),fun a ha b hb=>h.same a (List.mem_cons_of_mem _ ha) b (List.mem_cons_of_mem _ hb),fun a ha=>h.data a (List.mem_cons_of_mem _ ha)⟩
theorem SwOk.dec {f:Sw} {n:Nm} {N:List Nm} (h:SwOk f (n::N)):SwOk (a2p f) N:=by
 have hr:=h.refs
 rw [List.length_cons] at hr
 unfold a2p
 by_cases h0:f.refs - 1=0
 ·rw [if_pos h0]
  obtain rfl:N=[]:=List.eq_nil_of_length_eq_zero (by omega)
  exact SwOk.zero
 ·rw [if_neg h0]
  exact ⟨by show f.refs - 1=_;omega,fun e=>absurd (by rw [e] at hr;simp at hr;omega) h0,fun _=>h.len (by simp),fun a ha b hb=>h.same a (List.mem_cons_of_mem _ ha) b (List.mem_cons_of_mem _ hb)⟩
theorem a73 {sh:List Sh} {f:Fm} {n m:Nm} {N:List Nm} (h:FmOk sh f (n::m::N)):(a2o f).data=f.data:=by
 have hr:=h.refs
 rw [List.length_cons,List.length_cons] at hr
 unfold a2o
 rw [if_neg (by omega)]
theorem a6R {f:Sw} {n m:Nm} {N:List Nm} (h:SwOk f (n::m::N)):(a2p f).data=f.data:=by
 have hr:=h.refs
 rw [List.length_cons,List.length_cons] at hr
 unfold a2p
 rw [if_neg (by omega)]
theorem a4R (K:Ker) (o:Option En):(a1n K o).spaces=K.spaces∧(a1n K o).sheets=K.sheets∧(a1n K o).hand=K.hand∧(a1n K o).frames.length=K.frames.length∧(a1n K o).slots.length=K.slots.length:=by
 cases o with
 |none=>exact ⟨rfl,rfl,rfl,rfl,rfl⟩
 |some e=>
  show (a0c K e).spaces=_∧(a0c K e).sheets=_∧(a0c K e).hand=_∧(a0c K e).frames.length=_∧(a0c K e).slots.length=_
  unfold a0c
  split
  ·exact ⟨rfl,rfl,rfl,List.length_set,rfl⟩
  ·exact ⟨rfl,rfl,rfl,rfl,List.length_set⟩
end Go.Proofs.Ytejnpppejalhfac
/- An entry put: what comes is right; what each page tells. -/
namespace Go.Proofs.Ytejnpppejalhfac
open Go.RowKit Go.Sort
structure InOk (K K':Ker) (sp:Nat) (page:Int) (f:Nat) (data:List UInt8) (dirty:Bool):Prop where
 right:Right K'
 sheets:K'.sheets=K.sheets
 nfr:K'.frames.length=K.frames.length
 nsl:K'.slots.length=K.slots.length
 nsp:K'.spaces.length=K.spaces.length
 ar:∀ i,l9 K' i=l9 K i
 live:∀ i,(u7 K' i).live=(u7 K i).live
 peek:∀ i p,¬(i=sp∧p=page)→t7 K' i p=t7 K i p
 here:t7 K' sp page=data
 ent:∀ i p,o0 (l5 K' i) p=if i=sp∧p=page then some ⟨page,1,(f:Nat)⟩ else o0 (l5 K i) p
 fm:l7 K'.frames f=⟨data,1,dirty,false⟩
 other:∀ i,i≠f→(∀ w0,o0 (l5 K sp) page=some w0→¬(w0.kind=1∧w0.at_=((i:Nat):Int)))→l7 K'.frames i=l7 K.frames i
theorem b5e {K:Ker} {sp:Nat} {s:Sc} {page:Int} {f:Nat} {data:List UInt8} {dirty:Bool} (h:Right K) (hs:K.spaces[sp]?=some s) (hlive:s.live=true) (ha:(v7 s.areas page).isSome=true) (hf:f < K.frames.length) (hN:m8 K.spaces 1 (f:Nat)=[]) (hd:data.length=16) (hfill:dirty=true∨some data=a09 K.sheets (zAt K sp page) page):InOk K (inK K sp page f data dirty) sp page f data dirty:=by
 have hsc:=a0x.1 (h.spaces s (List.mem_of_getElem? hs))
 have hse:=x7 hs
 have hent:l5 K sp=s.entries:=by unfold l5;rw [hse]
 obtain ⟨e',he'⟩:∃ e':En,e'=⟨page,1,(f:Nat)⟩:=⟨_,rfl⟩
 obtain ⟨s',hs'⟩:∃ s':Sc,s'=⟨s.live,s.areas,a1Z s.entries e'⟩:=⟨_,rfl⟩
 obtain ⟨was,hwas⟩:∃ o,o=o0 s.entries page:=⟨_,rfl⟩
 obtain ⟨R,r1,r2,r3,r4⟩:=a6N hsc.rises e'
 have hpe:e'.page=page:=by rw [he']
 rw [hpe,← hwas] at r1
 have hM:∀ k a,(m8 K.spaces k a).Perm (nmL s k a was.toList++(nmL s k a R++m8 (K.spaces.eraseIdx sp) k a)):=fun k a=>by
  refine (a04 (s':=s') hs k a).2.trans ?_
  rw [← List.append_assoc,← a7O]
  exact List.Perm.append_right _ (a5x r1)
 have hM':∀ k a,(m8 (K.spaces.set sp s') k a).Perm (nmL s k a [e']++(nmL s k a R++m8 (K.spaces.eraseIdx sp) k a)):=fun k a=>by
  refine (a04 (s':=s') hs k a).1.trans ?_
  rw [← List.append_assoc,← a7O]
  refine List.Perm.append_right _ ?_
  have:nm1 s' k a=nmL s k a (a1Z s.entries e'):=by rw [hs'];rfl
  rw [this]
  exact a5x r2
 obtain ⟨M,hMd⟩:∃ M:Int→Int→List Nm,M=fun k a=>nmL s k a R++m8 (K.spaces.eraseIdx sp) k a:=⟨_,rfl⟩
 have hMe:∀ k a,nmL s k a R++m8 (K.spaces.eraseIdx sp) k a=M k a:=fun k a=>by rw [hMd]
 simp only [hMe] at hM hM'
 have hMf:M 1 (f:Nat)=[]:=by
  have:=(hM 1 (f:Nat)).symm.trans (by rw [hN])
  exact (List.append_eq_nil_iff.1 this.eq_nil).2
 have hwf:∀ w0,was=some w0→w0.kind=1→w0.at_≠(f:Nat):=fun w0 hw k1 k2=>by
  have:=(hM 1 (f:Nat)).symm.trans (by rw [hN])
  rw [hw,Option.toList_some,a3u [] ⟨k1,k2⟩] at this
  cases this.eq_nil
 have hwin:∀ w0,was=some w0→(w0.kind=1∧∃ b:Nat,w0.at_=(b:Nat)∧b < K.frames.length)∨(w0.kind=2∧∃ b:Nat,w0.at_=(b:Nat)∧b < K.slots.length):=fun w0 hw=>by
  rw [hwas] at hw
  exact (h.ent hs (z0 hw).1).2
 -- what comes
 have hK':inK K sp page f data dirty=⟨K.sheets,(a1n (z7 K f ⟨data,1,dirty,false⟩) was).frames,(a1n (z7 K f ⟨data,1,dirty,false⟩) was).slots,K.spaces.set sp s',K.hand⟩:=by
  unfold inK a7x a69
  rw [hent,← hwas,hs',he']
  obtain ⟨l1,l2,l3,-⟩:=a4R (z7 K f ⟨data,1,dirty,false⟩) was
  have hl:u7 (a1n (z7 K f ⟨data,1,dirty,false⟩) was) sp=s:=by
   unfold u7
   rw [l1]
   show (K.spaces[sp]?).getD sc0=s
   rw [hs]
   rfl
  rw [hl,l1,l2,l3]
  rfl
 rw [hK']
 have hlens:=a4R (z7 K f ⟨data,1,dirty,false⟩) was
 have hlf:(a1n (z7 K f ⟨data,1,dirty,false⟩) was).frames.length=K.frames.length:=by rw [hlens.2.2.2.1];show (K.frames.set f _).length=_;simp
 have hls:(a1n (z7 K f ⟨data,1,dirty,false⟩) was).slots.length=K.slots.length:=by rw [hlens.2.2.2.2];rfl
 have hscs:∀ i,u7 ⟨K.sheets,(a1n (z7 K f ⟨data,1,dirty,false⟩) was).frames,(a1n (z7 K f ⟨data,1,dirty,false⟩) was).slots,K.spaces.set sp s',K.hand⟩ i=if i=sp then s' else u7 K i:=fun i=>by
  unfold u7
  show ((K.spaces.set sp s')[i]?).getD sc0=_
  rw [List.getElem?_set]
  by_cases e:sp=i
  ·subst e;rw [if_pos rfl,if_pos (j3 hs),if_pos rfl];rfl
  ·rw [if_neg e,if_neg (fun hh=>e hh.symm)]
 have har:∀ i,l9 ⟨K.sheets,(a1n (z7 K f ⟨data,1,dirty,false⟩) was).frames,(a1n (z7 K f ⟨data,1,dirty,false⟩) was).slots,K.spaces.set sp s',K.hand⟩ i=l9 K i:=fun i=>by
  unfold l9
  rw [hscs]
  by_cases e:i=sp
  ·subst e;rw [if_pos rfl,hse,hs']
  ·rw [if_neg e]
 have hlv:∀ i,(u7 ⟨K.sheets,(a1n (z7 K f ⟨data,1,dirty,false⟩) was).frames,(a1n (z7 K f ⟨data,1,dirty,false⟩) was).slots,K.spaces.set sp s',K.hand⟩ i).live=(u7 K i).live:=fun i=>by
  rw [hscs]
  by_cases e:i=sp
  ·subst e;rw [if_pos rfl,hse,hs']
  ·rw [if_neg e]
 have hen:∀ i p,o0 (l5 ⟨K.sheets,(a1n (z7 K f ⟨data,1,dirty,false⟩) was).frames,(a1n (z7 K f ⟨data,1,dirty,false⟩) was).slots,K.spaces.set sp s',K.hand⟩ i) p=if i=sp∧p=page then some ⟨page,1,(f:Nat)⟩ else o0 (l5 K i) p:=fun i p=>by
  unfold l5
  rw [hscs]
  by_cases e:i=sp
  ·subst e
   rw [if_pos rfl,hse,hs']
   show o0 (a1Z s.entries e') p=_
   rw [b1l hsc.rises,hpe]
   by_cases e2:p=page
   ·rw [if_pos e2,if_pos ⟨rfl,e2⟩,he']
   ·rw [if_neg e2,if_neg (fun hh=>e2 hh.2)]
  ·rw [if_neg e,if_neg (fun hh=>e hh.1)]
 -- frames and slots
 have hfr:∀ i,l7 (a1n (z7 K f ⟨data,1,dirty,false⟩) was).frames i=if i=f then ⟨data,1,dirty,false⟩ else if (∃ w0,was=some w0∧w0.kind=1∧w0.at_=(i:Nat)) then a2o (l7 K.frames i) else l7 K.frames i:=fun i=>by
  have hset:∀ j,l7 (K.frames.set f ⟨data,1,dirty,false⟩) j=if j=f then ⟨data,1,dirty,false⟩ else l7 K.frames j:=fun j=>by
   rw [a1w]
   by_cases e:f=j
   ·subst e;rw [if_pos ⟨rfl,hf⟩,if_pos rfl]
   ·rw [if_neg (fun hh=>e hh.1),if_neg (fun hh=>e hh.symm)]
  cases hw:was with
  |none=>
   show l7 (K.frames.set f _) i=_
   rw [hset]
   by_cases e:i=f
   ·rw [if_pos e,if_pos e]
   ·rw [if_neg e,if_neg e,if_neg]
    rintro ⟨w0,h1,-⟩
    cases h1
  |some w0=>
   have h1:=hwf w0 hw
   show l7 (a0c (z7 K f _) w0).frames i=_
   unfold a0c
   rcases hwin w0 hw with ⟨k,b,hb,hbl⟩|⟨k,b,hb,hbl⟩
   ·rw [if_pos k]
    show l7 ((K.frames.set f ⟨data,1,dirty,false⟩).set w0.at_.toNat (a2o (l7 (K.frames.set f ⟨data,1,dirty,false⟩) w0.at_.toNat))) i=_
    rw [hb,show ((b:Nat):Int).toNat=b from rfl,a1w,hset,hset]
    have hbf:¬ b=f:=fun e=>h1 k (by rw [hb,e])
    rw [if_neg hbf]
    by_cases e:b=i
    ·subst e
     rw [if_pos ⟨rfl,by simpa using hbl⟩,if_neg hbf,if_pos ⟨w0,rfl,k,hb⟩]
    ·rw [if_neg (fun hh=>e hh.1)]
     by_cases e2:i=f
     ·rw [if_pos e2,if_pos e2]
     ·rw [if_neg e2,if_neg e2,if_neg]
      rintro ⟨w1,h2,-,h3⟩
      cases h2
      rw [hb] at h3
      exact e (by omega)
   ·rw [if_neg (by omega)]
    show l7 (K.frames.set f _) i=_
    rw [hset]
    by_cases e:i=f
    ·rw [if_pos e,if_pos e]
    ·rw [if_neg e,if_neg e,if_neg]
     rintro ⟨w1,h2,h3,-⟩
     cases h2
     omega
 have hsl:∀ i,a0g (a1n (z7 K f ⟨data,1,dirty,false⟩) was).slots i=if (∃ w0,was=some w0∧w0.kind=2∧w0.at_=(i:Nat)) then a2p (a0g K.slots i) else a0g K.slots i:=fun i=>by
  cases hw:was with
  |none=>
   show a0g K.slots i=_
   rw [if_neg]
   rintro ⟨w0,h1,-⟩
   cases h1
  |some w0=>
   show a0g (a0c (z7 K f _) w0).slots i=_
   unfold a0c
   rcases hwin w0 hw with ⟨k,b,hb,hbl⟩|⟨k,b,hb,hbl⟩
   ·rw [if_pos k]
    show a0g K.slots i=_
    rw [if_neg]
    rintro ⟨w1,h2,h3,-⟩
    cases h2
    omega
   ·rw [if_neg (by omega)]
    show a0g (K.slots.set w0.at_.toNat (a2p (a0g K.slots w0.at_.toNat))) i=_
    rw [hb,show ((b:Nat):Int).toNat=b from rfl,a33]
    by_cases e:b=i
    ·subst e
     rw [if_pos ⟨rfl,hbl⟩,if_pos ⟨w0,rfl,k,hb⟩]
    ·rw [if_neg (fun hh=>e hh.1),if_neg]
     rintro ⟨w1,h2,-,h3⟩
     cases h2
     rw [hb] at h3
     exact e (by omega)
 -- who names what
 have hN1:∀ i:Nat,(∃ w0,was=some w0∧w0.kind=1∧w0.at_=(i:Nat))→∃ n,(m8 K.spaces 1 (i:Nat)).Perm (n::M 1 (i:Nat)):=fun i ⟨w0,hw,h1,h2⟩=>by
  refine ⟨a0H s w0,(hM 1 (i:Nat)).trans ?_⟩
  rw [hw,Option.toList_some,a3u [] ⟨h1,h2⟩]
  exact List.Perm.refl _
 have hN1':∀ (k:Int) (i:Nat),¬(∃ w0,was=some w0∧w0.kind=k∧w0.at_=(i:Nat))→(m8 K.spaces k (i:Nat)).Perm (M k (i:Nat)):=fun k i hno=>by
  refine (hM k (i:Nat)).trans ?_
  cases hw:was with
  |none=>exact List.Perm.refl _
  |some w0=>
   rw [Option.toList_some,a6i [] (fun hh=>hno ⟨w0,hw,hh.1,hh.2⟩)]
   exact List.Perm.refl _
 have hN2:∀ i:Nat,(∃ w0,was=some w0∧w0.kind=2∧w0.at_=(i:Nat))→∃ n,(m8 K.spaces 2 (i:Nat)).Perm (n::M 2 (i:Nat)):=fun i ⟨w0,hw,h1,h2⟩=>by
  refine ⟨a0H s w0,(hM 2 (i:Nat)).trans ?_⟩
  rw [hw,Option.toList_some,a3u [] ⟨h1,h2⟩]
  exact List.Perm.refl _
 have hNn:∀ (k:Int) (i:Nat),¬(k=1∧i=f)→(m8 (K.spaces.set sp s') k (i:Nat)).Perm (M k (i:Nat)):=fun k i hno=>by
  refine (hM' k (i:Nat)).trans ?_
  rw [he',a6i []]
  ·exact List.Perm.refl _
  ·rintro ⟨h1,h2⟩
   exact hno ⟨h1.symm,by have:((f:Nat):Int)=(i:Nat):=h2;omega⟩
 have hNf:(m8 (K.spaces.set sp s') 1 (f:Nat)).Perm [a0H s e']:=by
  refine (hM' 1 (f:Nat)).trans ?_
  rw [hMf,a3u [] (by rw [he'];exact ⟨rfl,rfl⟩)]
  exact List.Perm.refl _
 -- an entry that stays: its data
 have hdata:∀ (x:En),(x.kind=1∨x.kind=2)→(∃ b:Nat,x.at_=(b:Nat)∧(x.kind=1→b < K.frames.length)∧(x.kind=2→b < K.slots.length))→M x.kind x.at_≠[]→v8 ⟨K.sheets,(a1n (z7 K f ⟨data,1,dirty,false⟩) was).frames,(a1n (z7 K f ⟨data,1,dirty,false⟩) was).slots,K.spaces.set sp s',K.hand⟩ x=v8 K x:=fun x hk ⟨b,hb,hb1,hb2⟩ hne=>by
  unfold v8
  rcases hk with hk|hk
  ·rw [if_pos hk,if_pos hk]
   dsimp only
   rw [hb,show ((b:Nat):Int).toNat=b from rfl,hfr]
   rw [hk,hb] at hne
   by_cases e:b=f
   ·subst e;exact absurd hMf hne
   ·rw [if_neg e]
    by_cases hw:∃ w0,was=some w0∧w0.kind=1∧w0.at_=(b:Nat)
    ·rw [if_pos hw]
     obtain ⟨n,hn⟩:=hN1 b hw
     have hbo:=(h.fr b _ (List.getElem?_eq_getElem (hb1 hk))).perm hn
     rw [q8 (List.getElem?_eq_getElem (hb1 hk))]
     cases hMb:M 1 (b:Nat) with
     |nil=>exact absurd hMb hne
     |cons m N=>
      rw [hMb] at hbo
      exact a73 hbo
    ·rw [if_neg hw]
  ·rw [if_neg (by omega),if_neg (by omega)]
   dsimp only
   rw [hb,show ((b:Nat):Int).toNat=b from rfl,hsl]
   rw [hk,hb] at hne
   by_cases hw:∃ w0,was=some w0∧w0.kind=2∧w0.at_=(b:Nat)
   ·rw [if_pos hw]
    obtain ⟨n,hn⟩:=hN2 b hw
    have hbo:=(h.sl b _ (List.getElem?_eq_getElem (hb2 hk))).perm hn
    rw [a0B (List.getElem?_eq_getElem (hb2 hk))]
    cases hMb:M 2 (b:Nat) with
    |nil=>exact absurd hMb hne
    |cons m N=>
     rw [hMb] at hbo
     exact a6R hbo
   ·rw [if_neg hw]
 have hfmf:l7 (a1n (z7 K f ⟨data,1,dirty,false⟩) was).frames f=⟨data,1,dirty,false⟩:=by rw [hfr,if_pos rfl]
 have hcnt:=h.cnt
 have hhand:=h.hand
 refine ⟨⟨?_,h.rise,?_,fun x hx=>?_,?_,fun i g hg=>?_,fun i g hg=>?_⟩,rfl,hlf,hls,by simp,har,hlv,fun i p hno=>?_,?_,hen,hfmf,fun i hi hw=>?_⟩
 ·dsimp only
  rw [hlf,hls,List.length_set]
  exact hcnt
 ·dsimp only
  rw [hlf]
  exact hhand
 ·dsimp only at hx ⊢
  rw [hlf,hls]
  rcases List.mem_or_eq_of_mem_set hx with hx|rfl
  ·exact h.spaces x hx
  ·rw [a0x,hs']
   refine ⟨fun hl=>(by rw [hlive] at hl;cases hl),hsc.ar,hsc.pages,fun e he=>?_,r3⟩
   rcases List.mem_cons.1 (r2.mem_iff.1 he) with rfl|he
   ·rw [he']
    exact ⟨ha,Or.inl ⟨rfl,Int.natCast_nonneg f,by show ((f:Nat):Int) < _;omega⟩⟩
   ·exact hsc.ents e (r1.mem_iff.2 (List.mem_append_right _ he))
 ·dsimp only
  rw [hls]
  have:r9 (K.spaces.set sp s')=r9 K.spaces:=by
   unfold r9
   rw [List.map_set,hs']
   congr 1
   refine List.ext_getElem? fun j=>?_
   rw [List.getElem?_set]
   by_cases e:sp=j
   ·subst e
    rw [if_pos rfl,List.length_map,if_pos (j3 hs),List.getElem?_map,hs]
    rfl
   ·rw [if_neg e]
  rw [this]
  exact h.room
 ·dsimp only at hg ⊢
  have hil:i < K.frames.length:=by have:=j3 hg;omega
  have hgi:=List.getElem?_eq_getElem hil
  have hge:=hfr i
  rw [q8 hg,q8 hgi] at hge
  by_cases e:i=f
  ·subst e
   rw [if_pos rfl] at hge
   refine FmOk.perm (N:=[a0H s e']) ?_ hNf.symm
   rw [hge]
   refine ⟨rfl,(fun hh=>by cases hh),fun _=>hd,fun n hn m hm=>?_,fun n hn=>?_⟩
   ·rw [List.mem_singleton] at hn hm
    subst hn;subst hm
    exact ⟨rfl,rfl⟩
   ·rw [List.mem_singleton] at hn
    subst hn
    rcases hfill with hh|hh
    ·exact Or.inl hh
    ·right
     rw [b1O hs,hpe]
     rw [show (a0H s e').1.page=page from hpe]
     exact hh
  ·rw [if_neg e] at hge
   have hpm:=hNn 1 i (fun hh=>e hh.2)
   by_cases hw:∃ w0,was=some w0∧w0.kind=1∧w0.at_=(i:Nat)
   ·rw [if_pos hw] at hge
    obtain ⟨n,hn⟩:=hN1 i hw
    rw [hge]
    exact ((h.fr i _ hgi).perm hn).dec.perm hpm.symm
   ·rw [if_neg hw] at hge
    rw [hge]
    exact (h.fr i _ hgi).perm ((hN1' 1 i hw).trans hpm.symm)
 ·dsimp only at hg ⊢
  have hil:i < K.slots.length:=by have:=j3 hg;omega
  have hgi:=List.getElem?_eq_getElem hil
  have hge:=hsl i
  rw [a0B hg,a0B hgi] at hge
  have hpm:=hNn 2 i (fun hh=>by omega)
  by_cases hw:∃ w0,was=some w0∧w0.kind=2∧w0.at_=(i:Nat)
  ·rw [if_pos hw] at hge
   obtain ⟨n,hn⟩:=hN2 i hw
   rw [hge]
   exact ((h.sl i _ hgi).perm hn).dec.perm hpm.symm
  ·rw [if_neg hw] at hge
   rw [hge]
   exact (h.sl i _ hgi).perm ((hN1' 2 i hw).trans hpm.symm)
 ·unfold t7
  rw [hen,if_neg hno]
  cases hx:o0 (l5 K i) p with
  |none=>exact a1y (hs:=by exact rfl) (ha:=har i) p
  |some x=>
   show v8 _ x=v8 K x
   obtain ⟨hx1,hx2⟩:=z0 hx
   cases hi:K.spaces[i]? with
   |none=>unfold l5 at hx1;rw [a3t hi] at hx1;cases hx1
   |some t=>
    unfold l5 at hx1
    rw [x7 hi] at hx1
    have hin:=(h.ent hi hx1).2
    have hk:x.kind=1∨x.kind=2:=by rcases hin with ⟨a,-⟩|⟨a,-⟩ <;> omega
    refine hdata x hk ?_ ?_
    ·rcases hin with ⟨a,b,c,d⟩|⟨a,b,c,d⟩
     ·exact ⟨b,c,fun _=>d,fun hh=>by omega⟩
     ·exact ⟨b,c,fun hh=>by omega,fun _=>d⟩
    ·rw [← hMe]
     intro hnil
     obtain ⟨h1,h2⟩:=List.append_eq_nil_iff.1 hnil
     by_cases e:i=sp
     ·subst e
      rw [hs] at hi
      cases hi
      have hxR:x ∈ R:=by
       rcases List.mem_append.1 (r1.mem_iff.1 hx1) with h4|h4
       ·exfalso
        rw [Option.mem_toList,hwas] at h4
        exact hno ⟨rfl,hx2.symm.trans (z0 h4).2⟩
       ·exact h4
      have:a0H s x ∈ nmL s x.kind x.at_ R:=List.mem_map.2 ⟨x,List.mem_filter.2 ⟨hxR,by simp⟩,rfl⟩
      rw [h1] at this
      cases this
     ·have hte:t ∈ K.spaces.eraseIdx sp:=List.mem_eraseIdx_iff_getElem?.2 ⟨i,e,hi⟩
      have:a0H t x ∈ m8 (K.spaces.eraseIdx sp) x.kind x.at_:=by
       rw [a0a,List.mem_flatMap]
       exact ⟨t,hte,List.mem_map.2 ⟨x,List.mem_filter.2 ⟨hx1,by simp⟩,rfl⟩⟩
      rw [h2] at this
      cases this
 ·unfold t7
  rw [hen,if_pos ⟨rfl,rfl⟩]
  show v8 _ (⟨page,1,(f:Nat)⟩:En)=data
  unfold v8
  rw [if_pos rfl]
  show (l7 (a1n (z7 K f ⟨data,1,dirty,false⟩) was).frames f).data=data
  rw [hfmf]
 ·show l7 (a1n (z7 K f ⟨data,1,dirty,false⟩) was).frames i=_
  rw [hfr,if_neg hi,if_neg]
  rintro ⟨w0,h1,h2,h3⟩
  exact hw w0 (by rw [hent,← hwas];exact h1) ⟨h2,h3⟩
end Go.Proofs.Ytejnpppejalhfac
/- A page that is brought: what comes is right, and no page tells another thing. -/
namespace Go.Proofs.Ytejnpppejalhfac
open Go.RowKit Go.Sort
structure At (K:Ker) (sp:Nat) (page:Int):Prop where
 live:(u7 K sp).live=true
 ar:(v7 (l9 K sp) page).isSome=true
theorem At.sc {K:Ker} {sp:Nat} {page:Int} (h:At K sp page):∃ s,K.spaces[sp]?=some s∧s.live=true∧(v7 s.areas page).isSome=true:=by
 have h1:=h.live
 have h2:=h.ar
 unfold l9 at h2
 cases hs:K.spaces[sp]? with
 |none=>rw [a3t hs] at h1;cases h1
 |some s=>rw [x7 hs] at h1 h2;exact ⟨s,rfl,h1,h2⟩
theorem At.same {K K':Ker} {sp:Nat} {page:Int} (h:At K sp page) (h1:∀ i,l9 K' i=l9 K i) (h2:∀ i,(u7 K' i).live=(u7 K i).live):At K' sp page:=⟨(h2 sp).trans h.live,by rw [h1];exact h.ar⟩
theorem b3X {l:List Sh} (h:a0W 0 l=true) {p:Int} {s:Sh} (hs:b0U l p=some s):(a7d s).length=16:=by
 exact b1e ((a2s h).1 s (List.mem_of_find?_eq_some hs)).1
theorem a5L {K:Ker} (h:Right K) {sp:Nat} {page:Int} (ha:At K sp page):∃ d,a09 K.sheets (zAt K sp page) page=some d∧d.length=16∧a0Q K sp page=d:=by
 obtain ⟨s,hs,hl,hf⟩:=ha.sc
 have hsc:=a0x.1 (h.spaces s (List.mem_of_getElem? hs))
 obtain ⟨a,haa⟩:=Option.isSome_iff_exists.1 hf
 have hz:zAt K sp page=a.z:=by unfold zAt l9;rw [x7 hs,haa];rfl
 have hm:=List.mem_of_find?_eq_some haa
 have hh:=List.find?_some haa
 unfold a0K Ar.fin at hh
 rw [decide_eq_true_eq] at hh
 have hp:=hsc.pages
 unfold a2L at hp
 have h3:=List.all_eq_true.1 (List.all_eq_true.1 hp a hm) (page - a.pg).toNat (by rw [List.mem_range];omega)
 rw [show a.pg + (((page - a.pg).toNat:Nat):Int)=page by omega] at h3
 obtain ⟨d,hd⟩:=Option.isSome_iff_exists.1 h3
 refine ⟨d,by rw [hz];exact hd,?_,by unfold a0Q;rw [hz,hd];rfl⟩
 unfold a09 at hd
 cases hza:a.z with
 |true=>rw [hza,if_pos rfl] at hd;cases hd;simp
 |false=>
  rw [hza,if_neg (by simp)] at hd
  obtain ⟨x,hx,rfl⟩:=Option.map_eq_some_iff.1 hd
  exact b3X h.rise hx
theorem a2Q {K:Ker} (h:Right K) {sp:Nat} {p:Int} {e:En} (he:o0 (l5 K sp) p=some e) :
  e.page=p∧((e.kind=1∧∃ i:Nat,e.at_=(i:Nat)∧i < K.frames.length∧(l7 K.frames i).refs≠0∧(l7 K.frames i).data.length=16)∨(e.kind=2∧∃ i:Nat,e.at_=(i:Nat)∧i < K.slots.length∧(a0g K.slots i).refs≠0∧(a0g K.slots i).data.length=16))∧∃ s,K.spaces[sp]?=some s∧e ∈ s.entries:=by
 obtain ⟨h1,h2⟩:=z0 he
 cases hs:K.spaces[sp]? with
 |none=>unfold l5 at h1;rw [a3t hs] at h1;cases h1
 |some s=>
  have h3:e ∈ s.entries:=by unfold l5 at h1;rwa [x7 hs] at h1
  have hn:=a2K hs h3
  refine ⟨h2,?_,s,rfl,h3⟩
  rcases (h.ent hs h3).2 with ⟨a,i,b,c⟩|⟨a,i,b,c⟩
  ·have ho:=h.fr i _ (List.getElem?_eq_getElem c)
   rw [a,b] at hn
   refine Or.inl ⟨a,i,b,c,?_,?_⟩
   ·rw [q8 (List.getElem?_eq_getElem c),ho.refs]
    intro e0
    have:m8 K.spaces 1 (i:Nat)=[]:=List.eq_nil_of_length_eq_zero (by omega)
    rw [this] at hn
    cases hn
   ·rw [q8 (List.getElem?_eq_getElem c)]
    exact ho.len (fun e0=>by rw [e0] at hn;cases hn)
  ·have ho:=h.sl i _ (List.getElem?_eq_getElem c)
   rw [a,b] at hn
   refine Or.inr ⟨a,i,b,c,?_,?_⟩
   ·rw [a0B (List.getElem?_eq_getElem c),ho.refs]
    intro e0
    have:m8 K.spaces 2 (i:Nat)=[]:=List.eq_nil_of_length_eq_zero (by omega)
    rw [this] at hn
    cases hn
   ·rw [a0B (List.getElem?_eq_getElem c)]
    exact ho.len (fun e0=>by rw [e0] at hn;cases hn)
theorem a4o {K:Ker} (h:Right K) {sp sp':Nat} {p q:Int} {i:Nat} (h1:o0 (l5 K sp) p=some ⟨p,1,(i:Nat)⟩) (h2:o0 (l5 K sp') q=some ⟨q,1,(i:Nat)⟩):p=q:=by
 obtain ⟨-,h3,s,hs,hm⟩:=a2Q h h1
 obtain ⟨-,-,s',hs',hm'⟩:=a2Q h h2
 have n1:=a2K hs hm
 have n2:=a2K hs' hm'
 dsimp only at n1 n2
 rcases h3 with ⟨-,j,hj,hjl,-⟩|⟨hk,-⟩
 ·obtain rfl:i=j:=by have:((i:Nat):Int)=(j:Nat):=hj;omega
  have ho:=h.fr i _ (List.getElem?_eq_getElem hjl)
  exact (ho.same _ n2 _ n1).1
 ·cases hk
structure b2z (K:Ker) (sp:Nat) (page:Int) (held:List Nat) (r:Ker×Nat):Prop where
 right:Right r.1
 same:SameP K r.1
 lt:r.2 < K.frames.length
 ent:o0 (l5 r.1 sp) page=some ⟨page,1,(r.2:Nat)⟩
 kept:∀ i ∈ held,∀ p,p≠page→o0 (l5 K sp) p=some ⟨p,1,(i:Nat)⟩→o0 (l5 r.1 sp) p=some ⟨p,1,(i:Nat)⟩∧l7 r.1.frames i=l7 K.frames i
theorem InOk.same {K K' K2:Ker} {sp:Nat} {page:Int} {f:Nat} {data:List UInt8} {dirty:Bool} (h:InOk K' K2 sp page f data dirty) (h0:SameP K K') (hp:data=t7 K sp page):SameP K K2:=by
 refine ⟨h.sheets.trans h0.sheets,h.nfr.trans h0.nfr,h.nsl.trans h0.nsl,h.nsp.trans h0.nsp,fun i=>(h.ar i).trans (h0.ar i),fun i=>(h.live i).trans (h0.live i),fun i p=>?_⟩
 by_cases e:i=sp∧p=page
 ·obtain ⟨rfl,rfl⟩:=e
  rw [h.here,hp]
 ·rw [h.peek i p e,h0.peek]
theorem a9g {K:Ker} (h:Right K) {sp:Nat} {page:Int} (ha:At K sp page) {held more:List Nat} (hl:(held++more).length≤2) {data:List UInt8} {dirty:Bool} (hd:data.length=16) (hfill:dirty=true∨some data=a09 K.sheets (zAt K sp page) page) (hp:data=t7 K sp page)
  (hne:∀ i ∈ held,o0 (l5 K sp) page≠some ⟨page,1,(i:Nat)⟩) (hwas:∀ e,o0 (l5 K sp) page=some e→e.kind=1→∃ i ∈ more,e.at_=((i:Nat):Int)) :
  b2z K sp page held (inK (a0D K (held++more)).1 sp page (a0D K (held++more)).2 data dirty,(a0D K (held++more)).2)∧l7 (inK (a0D K (held++more)).1 sp page (a0D K (held++more)).2 data dirty).frames (a0D K (held++more)).2=⟨data,1,dirty,false⟩:=by
 have g:=a5d h hl
 generalize a0D K (held++more)=G at g ⊢
 have ha':=ha.same g.same.ar g.same.live
 obtain ⟨s',hs',hl',hf'⟩:=ha'.sc
 have hz:zAt G.1 sp page=zAt K sp page:=by unfold zAt;rw [g.same.ar]
 have hent:o0 (l5 G.1 sp) page=o0 (l5 K sp) page:=by
  cases he:o0 (l5 K sp) page with
  |none=>exact g.none_ sp page he
  |some e=>
   refine g.some_ sp page e he ?_
   by_cases hk:e.kind=1
   ·obtain ⟨i,hi,hia⟩:=hwas e he hk
    obtain ⟨-,hn,-⟩:=a2Q h he
    rcases hn with ⟨-,j,hj,-,hr,-⟩|⟨hk2,-⟩
    ·obtain rfl:i=j:=by omega
     exact Or.inr ⟨i,List.mem_append_right _ hi,hia,hr⟩
    ·omega
   ·exact Or.inl hk
 have hin:=b5e (data:=data) (dirty:=dirty) g.right hs' hl' hf' (by rw [g.same.nfr];exact g.lt) g.nobody hd (by rw [g.same.sheets,hz];exact hfill)
 refine ⟨⟨hin.right,hin.same g.same hp,g.lt,?_,fun i hi p hpp he=>?_⟩,hin.fm⟩
 ·rw [hin.ent,if_pos ⟨rfl,rfl⟩]
 ·obtain ⟨-,hn,-⟩:=a2Q h he
  have hr:(l7 K.frames i).refs≠0:=by
   rcases hn with ⟨-,j,hj,-,hr,-⟩|⟨hk2,-⟩
   ·obtain rfl:i=j:=by have:((i:Nat):Int)=(j:Nat):=hj;omega
    exact hr
   ·cases hk2
  have hk:=g.kept i (List.mem_append_left _ hi) hr
  constructor
  ·rw [hin.ent,if_neg (fun hh=>hpp hh.2)]
   exact g.some_ sp p _ he (Or.inr ⟨i,List.mem_append_left _ hi,rfl,hr⟩)
  ·rw [hin.other i (Ne.symm hk.1) (fun w0 hw ⟨k1,k2⟩=>?_)]
   ·exact hk.2
   ·rw [hent] at hw
    have hpg:=(z0 hw).2
    refine hne i hi ?_
    rw [hw]
    cases w0
    dsimp only at k1 k2 hpg
    subst k1 k2 hpg
    rfl
theorem a7c {K:Ker} (h:Right K) {sp:Nat} {page:Int} (ha:At K sp page) {held:List Nat} (hl:held.length≤1) (hh:∀ i ∈ held,∃ p,p≠page∧o0 (l5 K sp) p=some ⟨p,1,(i:Nat)⟩):b2z K sp page held (a2M K sp page held):=by
 have hne:∀ i ∈ held,o0 (l5 K sp) page≠some ⟨page,1,(i:Nat)⟩:=fun i hi he=>by
  obtain ⟨p,hp,hp2⟩:=hh i hi
  exact hp (a4o h hp2 he)
 have hap:=List.append_nil held
 unfold a2M
 cases he:o0 (l5 K sp) page with
 |none=>
  obtain ⟨d,d1,d2,d3⟩:=a5L h ha
  have:=(a9g h ha (held:=held) (more:=[]) (by rw [hap];omega) (data:=d) (dirty:=false) d2 (Or.inr d1.symm) (by unfold t7;rw [he];exact d3.symm) hne (fun e hee=>by rw [he] at hee;cases hee)).1
  rw [hap] at this
  show b2z _ _ _ _ (inK (a0D K held).1 sp page (a0D K held).2 (a0Q K sp page) false,(a0D K held).2)
  rw [d3]
  exact this
 |some e=>
  obtain ⟨hpg,hn,-⟩:=a2Q h he
  dsimp only
  by_cases hk:e.kind=2
  ·rw [if_pos hk]
   rcases hn with ⟨hk1,-⟩|⟨-,i,hi,hil,hir,hid⟩
   ·omega
   have:=(a9g h ha (held:=held) (more:=[]) (by rw [hap];omega) (data:=(a0g K.slots e.at_.toNat).data) (dirty:=true) (by rw [hi];exact hid) (Or.inl rfl) (by unfold t7;rw [he];show _=v8 K e;unfold v8;rw [if_neg (by omega)]) hne (fun x hx hk1=>by rw [he] at hx;cases hx;omega)).1
   rw [hap] at this
   exact this
  ·rw [if_neg hk]
   rcases hn with ⟨hk1,i,hi,hil,hir,hid⟩|⟨hk2,-⟩
   ·refine ⟨h,SameP.refl K,by show e.at_.toNat < _;omega,?_,fun i hi p hp hpp=>⟨hpp,rfl⟩⟩
    show o0 (l5 K sp) page=_
    rw [he]
    cases e
    dsimp only at hk1 hi hpg ⊢
    subst hk1 hi hpg
    rfl
   ·omega
theorem a50 {K:Ker} (h:Right K) {sp:Nat} {page:Int} (ha:At K sp page) (write:Bool) {held:List Nat} (hl:held.length≤1) (hh:∀ i ∈ held,∃ p,p≠page∧o0 (l5 K sp) p=some ⟨p,1,(i:Nat)⟩) :
  b2z K sp page held (a1s K sp page write held)∧(write=true→(l7 (a1s K sp page write held).1.frames (a1s K sp page write held).2).refs≤1):=by
 have hA:=a7c h ha hl hh
 unfold a1s
 generalize a2M K sp page held=A at hA ⊢
 unfold a5F
 by_cases hw:write=true∧1 < (l7 A.1.frames A.2).refs
 rotate_left
 ·rw [if_neg hw]
  exact ⟨hA,fun h1=>by
   have:¬ 1 < (l7 A.1.frames A.2).refs:=fun h2=>hw ⟨h1,h2⟩
   show (l7 A.1.frames A.2).refs≤1
   omega⟩
 rw [if_pos hw]
 have haA:=ha.same hA.same.ar hA.same.live
 obtain ⟨-,hn,-⟩:=a2Q hA.right hA.ent
 have hlen:(l7 A.1.frames A.2).data.length=16:=by
  rcases hn with ⟨-,j,hj,-,-,hd⟩|⟨hk2,-⟩
  ·obtain rfl:A.2=j:=by have:((A.2:Nat):Int)=(j:Nat):=hj;omega
   exact hd
  ·cases hk2
 have hL:=a9g hA.right haA (held:=held) (more:=[A.2]) (by rw [List.length_append,List.length_singleton];omega) (data:=(l7 A.1.frames A.2).data) (dirty:=true) hlen (Or.inl rfl) (by unfold t7;rw [hA.ent];show _=v8 A.1 ⟨page,1,(A.2:Nat)⟩;unfold v8;rw [if_pos rfl];rfl)
  (fun i hi he=>by
   obtain ⟨p,hp,hp2⟩:=hh i hi
   exact hp (a4o hA.right (hA.kept i hi p hp hp2).1 he)) (fun e hee hk=>by rw [hA.ent] at hee;cases hee;exact ⟨A.2,by simp,rfl⟩)
 obtain ⟨b,hfm⟩:=hL
 refine ⟨⟨b.right,hA.same.trans b.same,by have:=b.lt;rw [hA.same.nfr] at this;exact this,b.ent,fun i hi p hp he=>?_⟩,fun _=>?_⟩
 ·have h1:=hA.kept i hi p hp he
  have h2:=b.kept i hi p hp h1.1
  exact ⟨h2.1,h2.2.trans h1.2⟩
 ·show (l7 (inK _ sp page _ _ true).frames _).refs≤1
  rw [hfm]
  exact Int.le_refl _
theorem b1U {K:Ker} (h:Right K) {f:Nat} (hf:f < K.frames.length) (hr:(l7 K.frames f).refs≠0) (write:Bool):Right (a1H K f write)∧SameP K (a1H K f write)∧(∀ i,i≠f→l7 (a1H K f write).frames i=l7 K.frames i)∧l7 (a1H K f write).frames f=⟨(l7 K.frames f).data,(l7 K.frames f).refs,(l7 K.frames f).dirty||write,true⟩:=by
 have hset:∀ j,l7 (a1H K f write).frames j=if j=f then ⟨(l7 K.frames f).data,(l7 K.frames f).refs,(l7 K.frames f).dirty||write,true⟩ else l7 K.frames j:=fun j=>by
  unfold a1H z7
  dsimp only
  rw [a1w]
  by_cases e:f=j
  ·subst e;rw [if_pos ⟨rfl,hf⟩,if_pos rfl]
  ·rw [if_neg (fun hh=>e hh.1),if_neg (fun hh=>e hh.symm)]
 have hlen:(a1H K f write).frames.length=K.frames.length:=by unfold a1H z7;simp
 have hsame:∀ i,(l7 (a1H K f write).frames i).data=(l7 K.frames i).data:=fun i=>by
  rw [hset]
  by_cases e:i=f
  ·subst e;rw [if_pos rfl]
  ·rw [if_neg e]
 have hc:=h.cnt
 have hh:=h.hand
 have hsp:=h.spaces
 refine ⟨⟨by rw [hlen];exact hc,h.rise,by rw [hlen];exact hh,fun s hs=>by rw [hlen];exact hsp s hs,h.room,fun i g hg=>?_,h.sl⟩,⟨rfl,hlen,rfl,rfl,fun _=>rfl,fun _=>rfl,fun sp p=>?_⟩,fun i hi=>by rw [hset,if_neg hi],by rw [hset,if_pos rfl]⟩
 ·have hil:i < K.frames.length:=by have:=j3 hg;omega
  have hgi:=List.getElem?_eq_getElem hil
  have hge:=hset i
  rw [q8 hg] at hge
  have ho:=h.fr i _ hgi
  by_cases e:i=f
  ·subst e
   rw [if_pos rfl] at hge
   rw [q8 hgi] at hge hr
   rw [hge]
   refine ⟨ho.refs,fun e0=>absurd (by rw [ho.refs];show ((m8 K.spaces 1 (i:Nat)).length:Int)=0;rw [show m8 K.spaces 1 (i:Nat)=[] from e0];rfl) hr,ho.len,ho.same,fun n hn=>?_⟩
   rcases ho.data n hn with hd|hd
   ·left;show (_||write)=true;rw [hd];rfl
   ·exact Or.inr hd
  ·rw [if_neg e,q8 hgi] at hge
   rw [hge]
   exact ho
 ·unfold t7
  show (match o0 (l5 K sp) p with
   |some e=>v8 (a1H K f write) e
   |none=>a0Q K sp p)=_
  cases o0 (l5 K sp) p with
  |none=>rfl
  |some e=>
   show v8 _ e=v8 K e
   unfold v8
   rw [hsame]
   rfl
theorem a12 {K:Ker} (h:Right K) {sp:Nat} {p:Int} {i:Nat} (he:o0 (l5 K sp) p=some ⟨p,1,(i:Nat)⟩):i < K.frames.length∧(l7 K.frames i).refs≠0∧(l7 K.frames i).data.length=16:=by
 obtain ⟨-,hn,-⟩:=a2Q h he
 rcases hn with ⟨-,j,hj,h1,h2,h3⟩|⟨hk2,-⟩
 ·obtain rfl:i=j:=by have:((i:Nat):Int)=(j:Nat):=hj;omega
  exact ⟨h1,h2,h3⟩
 ·cases hk2
theorem a4I {K:Ker} (h:Right K) {sp:Nat} {page:Int} (ha:At K sp page) (write:Bool) {held:List Nat} (hl:held.length≤1) (hh:∀ i ∈ held,∃ p,p≠page∧o0 (l5 K sp) p=some ⟨p,1,(i:Nat)⟩) :
  b2z K sp page held (a0O K sp page write held)∧(write=true→(l7 (a0O K sp page write held).1.frames (a0O K sp page write held).2).refs=1∧(l7 (a0O K sp page write held).1.frames (a0O K sp page write held).2).dirty=true):=by
 obtain ⟨b,hw⟩:=a50 h ha write hl hh
 unfold a0O
 generalize a1s K sp page write held=B at b hw ⊢
 obtain ⟨n1,n2,n3⟩:=a12 b.right b.ent
 obtain ⟨s1,s2,s3,s4⟩:=b1U b.right n1 n2 write
 refine ⟨⟨s1,b.same.trans s2,b.lt,b.ent,fun i hi p hp he=>?_⟩,fun hwr=>?_⟩
 ·have hk:=b.kept i hi p hp he
  refine ⟨hk.1,?_⟩
  show l7 (a1H B.1 B.2 write).frames i=_
  rw [s3 i ?_]
  ·exact hk.2
  ·rintro rfl
   exact hp (a4o b.right hk.1 b.ent)
 ·show (l7 (a1H B.1 B.2 write).frames B.2).refs=1∧(l7 (a1H B.1 B.2 write).frames B.2).dirty=true
  rw [s4]
  refine ⟨?_,by show (_||write)=true;rw [hwr,Bool.or_true]⟩
  have h1:=hw hwr
  have ho:=b.right.fr B.2 _ (List.getElem?_eq_getElem n1)
  have h2:=ho.refs
  rw [q8 (List.getElem?_eq_getElem n1)] at h1 n2 ⊢
  show (B.1.frames[B.2]'n1).refs=1
  omega
end Go.Proofs.Ytejnpppejalhfac
/- A kernel at work, in memory; space, entry and room of it. -/
namespace Go.Proofs.Ytejnpppejalhfac
open Go.RowKit Go.Sort
theorem b3p {l:List Sc} {i:Nat} {s:Sc} (h:l[i]?=some s):r9 (l.take (i + 1))=r9 (l.take i) + y6 s.areas:=by rw [a0S h,a54]
def wkB (k:KV) (sp:Nat) (vh:Value):List Value:=[k.vsh,k.vfr,k.vsl,k.vsp,.int .i64 k.hand,.int .i64 (sp:Nat),vh]
def hdA (vh:Value) (held:List Nat):Asr:=.row 3 1 vh (held.map fun i=>[.int .i64 (i:Nat)])
def frA (k:KV):Asr:=.row 43 4 k.vfr (k.fr.map fmC)
def slA (k:KV):Asr:=.row 45 2 k.vsl (k.sl.map swC)
def a2n (k:KV):Asr:=.row 41 3 k.vsp (k.sp.map spC)
def wkS (g:Nat) (k:KV) (sp:Nat) (vh:Value) (held:List Nat):List Asr:=.blk g (wkB k sp vh)::hdA vh held::frA k::slA k::a2n k::k.sp.map a0k
structure KRo (F:Nat→Prop) (w:World) (k:KV):Prop where
 sh:ShsF F w k.sh k.vsh
 ar:∀ p ∈ k.sp,Sl F w 4 p.va (p.s.areas.map arC)
theorem KRo.nowM {F:Nat→Prop} {w0 w:World} {Θ Γ:List Asr} {k:KV} (h:KRo F w0 k) (hS:St F w0 w (Θ++Γ)):KRo (fps Θ) w k:=⟨h.sh.nowM hS,fun p hp=>(h.ar p hp).nowM hS⟩
structure KLike (k k':KV):Prop where
 sh:k'.sh=k.sh
 vsh:k'.vsh=k.vsh
 ar:k'.sp.map (fun p=>(p.va,p.s.areas))=k.sp.map (fun p=>(p.va,p.s.areas))
theorem KLike.refl (k:KV):KLike k k:=⟨rfl,rfl,rfl⟩
theorem KLike.trans {k k' k2:KV} (h:KLike k k') (h2:KLike k' k2):KLike k k2:=⟨h2.sh.trans h.sh,h2.vsh.trans h.vsh,h2.ar.trans h.ar⟩
theorem KRo.like {F:Nat→Prop} {w:World} {k k':KV} (h:KRo F w k) (hl:KLike k k'):KRo F w k':=by
 refine ⟨by rw [hl.sh,hl.vsh];exact h.sh,fun p hp=>?_⟩
 have:(p.va,p.s.areas) ∈ k.sp.map (fun p=>(p.va,p.s.areas)):=by rw [← hl.ar];exact List.mem_map.2 ⟨p,hp,rfl⟩
 obtain ⟨q,hq,he⟩:=List.mem_map.1 this
 obtain ⟨e1,e2⟩:=Prod.mk.inj he
 rw [← e1,← e2]
 exact h.ar q hq
structure WkV (w:World) (g:Nat) (k:KV) (sp:Nat) (vh:Value) (held:List Nat):Prop where
 c0:Bs nF w ⟨g,0,none⟩ k.vsh
 c1:Bs nF w ⟨g,1,none⟩ k.vfr
 c2:Bs nF w ⟨g,2,none⟩ k.vsl
 c3:Bs nF w ⟨g,3,none⟩ k.vsp
 c4:Bs nF w ⟨g,4,none⟩ (.int .i64 k.hand)
 c5:Bs nF w ⟨g,5,none⟩ (.int .i64 (sp:Nat))
 c6:Bs nF w ⟨g,6,none⟩ vh
 held:Sl nF w 1 vh (held.map fun i=>[.int .i64 (i:Nat)])
 ker:KerV w k
theorem WkV.of {F:Nat→Prop} {w0 w:World} {Γ:List Asr} {g:Nat} {k:KV} {sp:Nat} {vh:Value} {held:List Nat} (hS:St F w0 w (wkS g k sp vh held++Γ)) (hR:KRo F w0 k):WkV w g k sp vh held:=by
 refine ⟨Bs.of (hS.blkC 0 rfl rfl),Bs.of (hS.blkC 0 rfl rfl),Bs.of (hS.blkC 0 rfl rfl),Bs.of (hS.blkC 0 rfl rfl),Bs.of (hS.blkC 0 rfl rfl),Bs.of (hS.blkC 0 rfl rfl),Bs.of (hS.blkC 0 rfl rfl),hS.rowSl 1 rfl,⟨hR.sh.now hS,hS.rowSl 2 rfl,hS.rowSl 3 rfl,hS.rowSl 4 rfl,fun p hp=>⟨(hR.ar p hp).now hS,?_⟩⟩⟩
 refine hS.slMem (e:=55) (List.mem_append_left _ ?_)
 unfold wkS
 exact List.mem_cons_of_mem _ (List.mem_cons_of_mem _ (List.mem_cons_of_mem _ (List.mem_cons_of_mem _ (List.mem_cons_of_mem _ (List.mem_map.2 ⟨p,hp,rfl⟩)))))
def a1c (v:Value) (i:Nat):Value:=match v with
 |.slice (some ⟨b,off,_⟩) _ _=>.pointer (some ⟨b,off + i,none⟩)
 |_=>.pointer none
theorem WkV.now {w w':World} {Γ:List Asr} {g:Nat} {k:KV} {sp:Nat} {vh:Value} {held:List Nat} (h:WkV w g k sp vh held) (hS:St nF w w' Γ):WkV w' g k sp vh held :=
 ⟨Bs.of (hS.bs h.c0),Bs.of (hS.bs h.c1),Bs.of (hS.bs h.c2),Bs.of (hS.bs h.c3),Bs.of (hS.bs h.c4),Bs.of (hS.bs h.c5),Bs.of (hS.bs h.c6),h.held.now hS,h.ker.now hS⟩
set_option maxRecDepth 100000 in
set_option maxHeartbeats 8000000 in
theorem a08 {w:World} {g:Nat} {k:KV} {sp:Nat} {vh:Value} {held:List Nat} (hV:WkV w g k sp vh held) (hsp:sp < k.sp.length):Fn Try.prog 13 [.pointer (some ⟨g,0,none⟩)] w (RBf (a1c k.vsp (sp * 3)) w):=by
 obtain ⟨sh,fr,sl,sps,hand,vsh,vfr,vsl,vsp⟩:=k
 obtain ⟨c0,c1,c2,c3,c4,c5,c6,hh,⟨k1,k2,k3,k4,k5⟩⟩:=hV
 dsimp only at c0 c1 c2 c3 c4 c5 k1 k2 k3 k4 k5 hsp ⊢
 obtain ⟨p4,n4,rfl⟩:=k4.len
 obtain ⟨b,off,rfl,hro⟩:=k4.at_ (i:=sp) hsp
 unfold a1c
 dsimp only
 refine j0 (fn:=Try.f13) ⟨Try.func13,by kernel_rfl,by kernel_rfl⟩ (by exact rfl) Try.ntmps13 (by exact rfl) ?_
 have hS:=St.start w
 repeat' (first|(((with_reducible apply d6 c8);exact rfl;exact rfl))|(first|(with_reducible first|apply d8|apply c9|apply d7|apply d5)))
 (focus ((with_reducible apply m7 _ _ _ (by kernel_rfl) (by kernel_rfl) hS);(repeat' ((first|((with_reducible apply o5 c8);exact rfl;exact rfl)|((with_reducible apply n6);exact rfl;(intro wd hd;replace hd:St _ _ wd _:=hd;(first|((with_reducible apply Loads.sc c8);exact rfl;((exact hd.bs (by assumption))))|((with_reducible apply Loads.sl c8);exact rfl;((exact hd.bs (by assumption))))));exact rfl)|((with_reducible apply a05 c8);(iterate 3 exact rfl);((exact rfl));((omega));exact rfl))));all_goals ((with_reducible apply r5);intro w' hS';clear hS;have hS:=hS';clear hS')))
 repeat' ((first|(with_reducible first|apply d7|apply d5|apply j5)))
 (apply j6);(repeat (first|exact ResL.nil|(apply ResL.tmp;exact rfl)))
 exact ⟨rfl,hS.sub (List.nil_sublist _)⟩
def b0Q (p:Sp) (page:Int):Value:=if page ∈ n9 p.s.entries then .tuple #[a1c p.ve (lbd (n9 p.s.entries) page * 3),.bool true] else .tuple #[.pointer none,.bool false]
def b5E (l:List En) (page:Int):Prop:=∀ q ∈ n9 l,-9223372036854775808≤q - page∧q - page≤9223372036854775807
set_option maxRecDepth 100000 in
set_option maxHeartbeats 8000000 in
theorem a1S {w:World} {g:Nat} {k:KV} {sp:Nat} {vh:Value} {held:List Nat} (hV:WkV w g k sp vh held) {x:Sp} (hx:k.sp[sp]?=some x) (page:Int) (hr:Rises (n9 x.s.entries)) (hb:b5E x.s.entries page):Fn Try.prog 20 [.pointer (some ⟨g,0,none⟩),.int .i64 page] w (RBf (b0Q x page) w):=by
 have hsp:=fun w1 (h:WkV w1 g k sp vh held)=>a08 h (j3 hx)
 have hV0:=hV
 obtain ⟨sh,fr,sl,sps,hand,vsh,vfr,vsl,vsp⟩:=k
 obtain ⟨c0,c1,c2,c3,c4,c5,c6,hh,⟨k1,k2,k3,k4,k5⟩⟩:=hV
 dsimp only at c0 c1 c2 c3 c4 c5 k1 k2 k3 k4 k5 hsp hx ⊢
 have hxv:=k5 x (List.mem_of_getElem? hx)
 have hrow:=j9 (f:=spC) hx
 have hlt:=j3 hx
 obtain ⟨p4,n4,rfl⟩:=k4.len
 obtain ⟨b,off,rfl,hro⟩:=k4.at_ (i:=sp) hlt
 have har:=hxv.ar
 have hen:=hxv.en
 obtain ⟨s,va,ve⟩:=x
 dsimp only at har hen hr hb
 obtain ⟨pa,ca,rfl⟩:=har.len
 obtain ⟨pe,ce,rfl⟩:=hen.len
 unfold spC at hrow
 dsimp only at hrow
 unfold a1c at hsp
 dsimp only at hsp
 have hbs:=fun w1 (h:Sl nF w1 3 (.slice pe s.entries.length ce) (s.entries.map enC))=>b0p (t:=page) h hr hb
 unfold BsV at hbs
 unfold b0Q n9 at *
 dsimp only at hbs ⊢
 by_cases hm:page ∈ s.entries.map fun e=>e.page
 ·rw [if_pos hm]
  rw [decide_eq_true hm] at hbs
  have hlen:=j3 ((a01 hr page).2 hm)
  rw [List.length_map] at hlen
  obtain ⟨b2,off2,rfl,hro2⟩:=hen.at_ (i:=lbd (s.entries.map fun e=>e.page) page) hlen
  unfold a1c
  dsimp only
  refine j0 (fn:=Try.f20) ⟨Try.func20,by kernel_rfl,by kernel_rfl⟩ (by exact rfl) Try.ntmps20 (by exact rfl) ?_
  have hS:=St.start w
  repeat' (first|(first|((with_reducible apply d6 c8);exact rfl;exact rfl)|((with_reducible apply d9);exact rfl;(((with_reducible apply Loads.sl c8);exact rfl;((exact hS.roC (by assumption) (by assumption) rfl))));exact rfl)|((with_reducible apply p8 c8);(iterate 3 exact rfl);((exact rfl));((omega));exact rfl))|(first|(with_reducible first|apply d8|apply c9|apply d7|apply d5|apply g8|apply j5))|(((with_reducible apply l6);exact rfl;(exact rfl)))|((with_reducible apply e8);exact rfl;exact rfl;exact hsp _ (hV0.now hS);exact rfl;rintro _ w' ⟨rfl,hS'⟩;replace hS:=hS.transA hS';simp only [k7] at hS;clear hS')|((with_reducible apply e8);exact rfl;exact rfl;exact hbs _ (hen.now hS);exact rfl;rintro _ w' ⟨rfl,hS'⟩;replace hS:=hS.transA hS';simp only [k7] at hS;clear hS'))
  (apply s9);(repeat (first|exact ResL.nil|(apply ResL.tmp;exact rfl)))
  exact ⟨rfl,hS.sub (List.nil_sublist _)⟩
 ·rw [if_neg hm]
  rw [decide_eq_false hm] at hbs
  refine j0 (fn:=Try.f20) ⟨Try.func20,by kernel_rfl,by kernel_rfl⟩ (by exact rfl) Try.ntmps20 (by exact rfl) ?_
  have hS:=St.start w
  repeat' (first|(first|((with_reducible apply d6 c8);exact rfl;exact rfl)|((with_reducible apply d9);exact rfl;(((with_reducible apply Loads.sl c8);exact rfl;((exact hS.roC (by assumption) (by assumption) rfl))));exact rfl))|(first|(with_reducible first|apply d8|apply c9|apply d7|apply d5|apply j5|apply e6))|(((with_reducible apply k9);exact rfl;(exact rfl)))|((with_reducible apply e8);exact rfl;exact rfl;exact hsp _ (hV0.now hS);exact rfl;rintro _ w' ⟨rfl,hS'⟩;replace hS:=hS.transA hS';simp only [k7] at hS;clear hS')|((with_reducible apply e8);exact rfl;exact rfl;exact hbs _ (hen.now hS);exact rfl;rintro _ w' ⟨rfl,hS'⟩;replace hS:=hS.transA hS';simp only [k7] at hS;clear hS'))
  (apply s9);(repeat (first|exact ResL.nil|(apply ResL.tmp;exact rfl)))
  exact ⟨rfl,hS.sub (List.nil_sublist _)⟩
set_option maxRecDepth 100000 in
set_option maxHeartbeats 8000000 in
theorem b2n {w:World} {g:Nat} {k:KV} {sp:Nat} {vh:Value} {held:List Nat} (hV:WkV w g k sp vh held) (hc:∀ p ∈ k.sp,q7 p.s.areas=0) (h4:k.sp.length≤5):Fn Try.prog 11 [.pointer (some ⟨g,0,none⟩)] w (RBf (.int .i64 (r9 (k.sp.map (·.s)))) w):=by
 obtain ⟨sh,fr,sl,sps,hand,vsh,vfr,vsl,vsp⟩:=k
 obtain ⟨c0,c1,c2,c3,c4,c5,c6,hh,⟨k1,k2,k3,k4,k5⟩⟩:=hV
 dsimp only at c0 c1 c2 c3 c4 c5 k1 k2 k3 k4 k5 hc h4 ⊢
 obtain ⟨p4,n4,rfl⟩:=k4.len
 refine j0 (fn:=Try.f11) ⟨Try.func11,by kernel_rfl,by kernel_rfl⟩ (by exact rfl) Try.ntmps11 (by exact rfl) ?_
 have hS:=St.start w
 repeat' (first|(first|((with_reducible apply d6 c8);exact rfl;exact rfl)|((with_reducible apply d9);exact rfl;(((with_reducible apply Loads.sl c8);exact rfl;((exact hS.bs (by assumption)))));exact rfl))|(first|(with_reducible first|apply d8|apply c9|apply d7|apply d5|apply e7)))
 refine o6 (X:=Nat×Int) (fun x=>[(12,.int .i64 (x.1:Nat)),(3,.int .i64 x.2)]) [0,10,11] rfl (fun _=>[]) (fun x=>x.1≤sps.length∧x.2=r9 ((sps.map (·.s)).take x.1)∧0≤x.2∧x.2≤70000 * (x.1:Int)) (fun x=>sps.length - x.1) (0,0) (by repeat (first|exact Fr.sub_nil _|(apply Fr.sub_cons;exact rfl))) ⟨Nat.zero_le _,rfl,Int.le_refl _,Int.le_refl _⟩ hS ?_
 clear hS
 rintro ⟨i,room⟩ w1 ⟨hi,hroom,hr0,hr1⟩ hS
 dsimp only [List.cons_append,List.nil_append] at hi hroom hr0 hr1 hS ⊢
 by_cases hlt:i < sps.length
 rotate_left
 ·obtain rfl:i=sps.length:=by omega
  rw [List.take_of_length_le (by rw [List.length_map];omega)] at hroom
  repeat' (first|(((with_reducible apply d6 c8);exact rfl;exact rfl))|(first|(with_reducible first|apply d8|apply c9|apply d7|apply d5|apply n5|apply j5|apply j4|apply i9))|(((with_reducible apply k6);exact rfl;all_goals (intro hb hp;try (exfalso;omega)))))
  (apply j6);(repeat (first|exact ResL.nil|(apply ResL.tmp;exact rfl)))
  exact ⟨by rw [hroom],hS.sub (List.nil_sublist _)⟩
 obtain ⟨x,hx⟩:=l8 (l:=sps) (i:=i) (by omega)
 have hxs:(sps.map (·.s))[i]?=some x.s:=j9 (f:=fun p:Sp=>p.s) hx
 have hrow:=j9 (f:=spC) hx
 obtain ⟨b,off,rfl,hro⟩:=k4.at_ (i:=i) hlt
 have hxv:=k5 x (List.mem_of_getElem? hx)
 have hcx:=hc x (List.mem_of_getElem? hx)
 have hsum:=a7i (a1t (a0h.1 hcx).2) x.s.areas.length
 have hAl:=(a0h.1 hcx).1
 rw [List.take_length] at hsum
 have htk:=b3p hxs
 have har:=hxv.ar
 have hen:=hxv.en
 obtain ⟨s,va,ve⟩:=x
 dsimp only at har hen hcx hsum hAl htk
 unfold spC at hrow
 dsimp only at hrow
 obtain ⟨pa,ca,rfl⟩:=har.len
 obtain ⟨pe,ce,rfl⟩:=hen.len
 have htot:=fun w1 (h:Sl nF w1 4 (.slice pa s.areas.length ca) (s.areas.map arC))=>a29 h
 rw [if_pos hcx] at htot
 repeat' (first|(first|((with_reducible apply m0);exact rfl;exact rfl;omega;omega;exact rfl)|((with_reducible apply d6 c8);exact rfl;exact rfl)|((with_reducible apply d9);exact rfl;(first|((with_reducible apply Loads.sl c8);exact rfl;((exact hS.blkC 0 rfl rfl)))|((with_reducible apply Loads.st c8);exact rfl;((exact hS.roR (by assumption) (by assumption)));exact rfl));exact rfl)|((with_reducible apply p8 c8);(iterate 3 exact rfl);((exact rfl));((omega));exact rfl)|((with_reducible apply j7 hS c8);(iterate 3 exact rfl);intro g w' hS';clear hS;have hS:=hS';clear hS')|(((with_reducible apply i7 hS c8 (i:=0));(iterate 8 exact rfl);((exact (rfl:_=[_,_,_])));intro w' hS';simp only [List.set] at hS';clear hS;have hS:=hS';clear hS')))|(first|(with_reducible first|apply d8|apply c9|apply d7|apply d5|apply g8|apply e7|apply k8))|(((with_reducible apply k6);exact rfl;all_goals (intro hb hp;try (exfalso;omega))))|((with_reducible apply e8);exact rfl;exact rfl;exact htot _ (har.now hS);exact rfl;rintro _ w' ⟨rfl,hS'⟩;replace hS:=hS.transA hS';simp only [k7] at hS;clear hS'))
 exact m6 (i + 1,room + y6 s.areas) (by repeat (first|exact Fr.sub_nil _|(apply Fr.sub_cons;exact rfl))) ⟨by show i + 1≤sps.length;omega,by rw [htk,← hroom],by show 0≤room + y6 s.areas;omega,by show room + y6 s.areas≤70000 * ((i + 1:Nat):Int);omega⟩ (hS.sub (by repeat (first|exact List.Sublist.refl _|apply List.Sublist.cons))) (by show sps.length - (i + 1) < sps.length - i;omega)
end Go.Proofs.Ytejnpppejalhfac
