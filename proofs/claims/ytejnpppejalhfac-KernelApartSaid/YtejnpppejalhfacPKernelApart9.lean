/- Texts that the proof stands on, one behind the other: Ke16, Ke17, Ke18, Ke19, Ke20, PlRun8, Ke21, Ke22. -/
import Derived.Test.YtejnpppejalhfacPKernelApart8
/- A kernel at work, in memory; space, entry and room of it. -/
namespace Go.Proofs.Ytejnpppejalhfac
open Go.RowKit Go.Sort
theorem roomI_tk {l:List Sc} {i:Nat} {s:Sc} (h:l[i]?=some s):roomI (l.take (i + 1))=roomI (l.take i) + sumN s.areas:=by rw [take_snocE h,roomI_snoc]
def wkB (k:KV) (sp:Nat) (vh:Value):List Value:=[k.vsh,k.vfr,k.vsl,k.vsp,.int .i64 k.hand,.int .i64 (sp:Nat),vh]
def hdA (vh:Value) (held:List Nat):Asr:=.row 3 1 vh (held.map fun i=>[.int .i64 (i:Nat)])
def frA (k:KV):Asr:=.row 43 4 k.vfr (k.fr.map fmC)
def slA (k:KV):Asr:=.row 45 2 k.vsl (k.sl.map swC)
def spA0 (k:KV):Asr:=.row 41 3 k.vsp (k.sp.map spC)
def wkS (g:Nat) (k:KV) (sp:Nat) (vh:Value) (held:List Nat):List Asr:=.blk g (wkB k sp vh)::hdA vh held::frA k::slA k::spA0 k::k.sp.map enAp
structure KRo (F:Nat→Prop) (w:World) (k:KV):Prop where
 sh:ShsF F w k.sh k.vsh
 ar:∀ p ∈ k.sp,Sl F w 4 p.va (p.s.areas.map arC)
theorem KRo.nowM {F:Nat→Prop} {w0 w:World} {Θ Γ:List Asr} {k:KV} (h:KRo F w0 k) (hS:St F w0 w (Θ++Γ)):KRo (fps Θ) w k:=⟨h.sh.nowM hS,fun p hp=>(h.ar p hp).nowM hS⟩
structure KLike (k k':KV):Prop where
 sh:k'.sh=k.sh
 vsh:k'.vsh=k.vsh
 ar:k'.sp.map (fun p=>(p.va,p.s.areas))=k.sp.map (fun p=>(p.va,p.s.areas))
theorem KLike.refl (k:KV):KLike k k:=⟨rfl,rfl,rfl⟩
theorem KLike.trans {k k' k2:KV} (h:KLike k k') (h2:KLike k' k2):KLike k k2:=⟨h2.sh.trans h.sh,h2.vsh.trans h.vsh,h2.ar.trans h.ar⟩
theorem KRo.like {F:Nat→Prop} {w:World} {k k':KV} (h:KRo F w k) (hl:KLike k k'):KRo F w k':=by
 refine ⟨by rw [hl.sh,hl.vsh];exact h.sh,fun p hp=>?_⟩
 have:(p.va,p.s.areas) ∈ k.sp.map (fun p=>(p.va,p.s.areas)):=by rw [← hl.ar];exact List.mem_map.2 ⟨p,hp,rfl⟩
 obtain ⟨q,hq,he⟩:=List.mem_map.1 this
 obtain ⟨e1,e2⟩:=Prod.mk.inj he
 rw [← e1,← e2]
 exact h.ar q hq
structure WkV (w:World) (g:Nat) (k:KV) (sp:Nat) (vh:Value) (held:List Nat):Prop where
 c0:Bs nF w ⟨g,0,none⟩ k.vsh
 c1:Bs nF w ⟨g,1,none⟩ k.vfr
 c2:Bs nF w ⟨g,2,none⟩ k.vsl
 c3:Bs nF w ⟨g,3,none⟩ k.vsp
 c4:Bs nF w ⟨g,4,none⟩ (.int .i64 k.hand)
 c5:Bs nF w ⟨g,5,none⟩ (.int .i64 (sp:Nat))
 c6:Bs nF w ⟨g,6,none⟩ vh
 held:Sl nF w 1 vh (held.map fun i=>[.int .i64 (i:Nat)])
 ker:KerV w k
theorem WkV.of {F:Nat→Prop} {w0 w:World} {Γ:List Asr} {g:Nat} {k:KV} {sp:Nat} {vh:Value} {held:List Nat} (hS:St F w0 w (wkS g k sp vh held++Γ)) (hR:KRo F w0 k):WkV w g k sp vh held:=by
 refine ⟨Bs.of (hS.blkC 0 rfl rfl),Bs.of (hS.blkC 0 rfl rfl),Bs.of (hS.blkC 0 rfl rfl),Bs.of (hS.blkC 0 rfl rfl),Bs.of (hS.blkC 0 rfl rfl),Bs.of (hS.blkC 0 rfl rfl),Bs.of (hS.blkC 0 rfl rfl),hS.rowSl 1 rfl,⟨hR.sh.now hS,hS.rowSl 2 rfl,hS.rowSl 3 rfl,hS.rowSl 4 rfl,fun p hp=>⟨(hR.ar p hp).now hS,?_⟩⟩⟩
 refine hS.slMem (e:=55) (List.mem_append_left _ ?_)
 unfold wkS
 exact List.mem_cons_of_mem _ (List.mem_cons_of_mem _ (List.mem_cons_of_mem _ (List.mem_cons_of_mem _ (List.mem_cons_of_mem _ (List.mem_map.2 ⟨p,hp,rfl⟩)))))
def elemP (v:Value) (i:Nat):Value:=match v with
 |.slice (some ⟨b,off,_⟩) _ _=>.pointer (some ⟨b,off + i,none⟩)
 |_=>.pointer none
theorem WkV.now {w w':World} {Γ:List Asr} {g:Nat} {k:KV} {sp:Nat} {vh:Value} {held:List Nat} (h:WkV w g k sp vh held) (hS:St nF w w' Γ):WkV w' g k sp vh held :=
 ⟨Bs.of (hS.bs h.c0),Bs.of (hS.bs h.c1),Bs.of (hS.bs h.c2),Bs.of (hS.bs h.c3),Bs.of (hS.bs h.c4),Bs.of (hS.bs h.c5),Bs.of (hS.bs h.c6),h.held.now hS,h.ker.now hS⟩
set_option maxRecDepth 100000 in
set_option maxHeartbeats 8000000 in
theorem wspace_fn {w:World} {g:Nat} {k:KV} {sp:Nat} {vh:Value} {held:List Nat} (hV:WkV w g k sp vh held) (hsp:sp < k.sp.length):Fn Try.prog 13 [.pointer (some ⟨g,0,none⟩)] w (RBf (elemP k.vsp (sp * 3)) w):=by
 obtain ⟨sh,fr,sl,sps,hand,vsh,vfr,vsl,vsp⟩:=k
 obtain ⟨c0,c1,c2,c3,c4,c5,c6,hh,⟨k1,k2,k3,k4,k5⟩⟩:=hV
 dsimp only at c0 c1 c2 c3 c4 c5 k1 k2 k3 k4 k5 hsp ⊢
 obtain ⟨p4,n4,rfl⟩:=k4.len
 obtain ⟨b,off,rfl,hro⟩:=k4.at_ (i:=sp) hsp
 unfold elemP
 dsimp only
 refine yEn Try.func13 Try.ntmps13 ?_
 have hS:=St.start w
 repeat' ((refine yO ?_))
 (focus (refine yD ?_;(repeat' ((refine yP ?_)));all_goals (refine yZ ?_;clear hS;intro w' hS)))
 repeat' ((refine yO ?_))
 refine yR1 ?_
 exact ⟨rfl,hS.sub (List.nil_sublist _)⟩
def entV (p:Sp) (page:Int):Value:=if page ∈ pagesE p.s.entries then .tuple #[elemP p.ve (lbd (pagesE p.s.entries) page * 3),.bool true] else .tuple #[.pointer none,.bool false]
def PgBd (l:List En) (page:Int):Prop:=∀ q ∈ pagesE l,-9223372036854775808≤q - page∧q - page≤9223372036854775807
set_option maxRecDepth 100000 in
set_option maxHeartbeats 8000000 in
theorem wentry_fn {w:World} {g:Nat} {k:KV} {sp:Nat} {vh:Value} {held:List Nat} (hV:WkV w g k sp vh held) {x:Sp} (hx:k.sp[sp]?=some x) (page:Int) (hr:Rises (pagesE x.s.entries)) (hb:PgBd x.s.entries page):Fn Try.prog 20 [.pointer (some ⟨g,0,none⟩),.int .i64 page] w (RBf (entV x page) w):=by
 have hsp:=fun w1 (h:WkV w1 g k sp vh held)=>wspace_fn h (lt_of_getE hx)
 have hV0:=hV
 obtain ⟨sh,fr,sl,sps,hand,vsh,vfr,vsl,vsp⟩:=k
 obtain ⟨c0,c1,c2,c3,c4,c5,c6,hh,⟨k1,k2,k3,k4,k5⟩⟩:=hV
 dsimp only at c0 c1 c2 c3 c4 c5 k1 k2 k3 k4 k5 hsp hx ⊢
 have hxv:=k5 x (List.mem_of_getElem? hx)
 have hrow:=map_get (f:=spC) hx
 have hlt:=lt_of_getE hx
 obtain ⟨p4,n4,rfl⟩:=k4.len
 obtain ⟨b,off,rfl,hro⟩:=k4.at_ (i:=sp) hlt
 have har:=hxv.ar
 have hen:=hxv.en
 obtain ⟨s,va,ve⟩:=x
 dsimp only at har hen hr hb
 obtain ⟨pa,ca,rfl⟩:=har.len
 obtain ⟨pe,ce,rfl⟩:=hen.len
 unfold spC at hrow
 dsimp only at hrow
 unfold elemP at hsp
 dsimp only at hsp
 have hbs:=fun w1 (h:Sl nF w1 3 (.slice pe s.entries.length ce) (s.entries.map enC))=>bsEn_fn (t:=page) h hr hb
 unfold BsV at hbs
 unfold entV pagesE at *
 dsimp only at hbs ⊢
 by_cases hm:page ∈ s.entries.map fun e=>e.page
 ·rw [if_pos hm]
  rw [decide_eq_true hm] at hbs
  have hlen:=lt_of_getE ((lbd_find hr page).2 hm)
  rw [List.length_map] at hlen
  obtain ⟨b2,off2,rfl,hro2⟩:=hen.at_ (i:=lbd (s.entries.map fun e=>e.page) page) hlen
  unfold elemP
  dsimp only
  refine yEn Try.func20 Try.ntmps20 ?_
  have hS:=St.start w
  repeat' (first|refine yO ?_|(refine yC ?_;refine ⟨_,hsp _ (hV0.now hS),?_⟩;clear hS;intro w' hS)|(refine yC ?_;refine ⟨_,hbs _ (hen.now hS),?_⟩;clear hS;intro w' hS))
  refine yR2 ?_
  exact ⟨rfl,hS.sub (List.nil_sublist _)⟩
 ·rw [if_neg hm]
  rw [decide_eq_false hm] at hbs
  refine yEn Try.func20 Try.ntmps20 ?_
  have hS:=St.start w
  repeat' (first|refine yO ?_|(refine yC ?_;refine ⟨_,hsp _ (hV0.now hS),?_⟩;clear hS;intro w' hS)|(refine yC ?_;refine ⟨_,hbs _ (hen.now hS),?_⟩;clear hS;intro w' hS))
  refine yR2 ?_
  exact ⟨rfl,hS.sub (List.nil_sublist _)⟩
set_option maxRecDepth 100000 in
set_option maxHeartbeats 8000000 in
theorem wroom_fn {w:World} {g:Nat} {k:KV} {sp:Nat} {vh:Value} {held:List Nat} (hV:WkV w g k sp vh held) (hc:∀ p ∈ k.sp,checkI p.s.areas=0) (h4:k.sp.length≤5):Fn Try.prog 11 [.pointer (some ⟨g,0,none⟩)] w (RBf (.int .i64 (roomI (k.sp.map (·.s)))) w):=by
 obtain ⟨sh,fr,sl,sps,hand,vsh,vfr,vsl,vsp⟩:=k
 obtain ⟨c0,c1,c2,c3,c4,c5,c6,hh,⟨k1,k2,k3,k4,k5⟩⟩:=hV
 dsimp only at c0 c1 c2 c3 c4 c5 k1 k2 k3 k4 k5 hc h4 ⊢
 obtain ⟨p4,n4,rfl⟩:=k4.len
 refine yEn Try.func11 Try.ntmps11 ?_
 have hS:=St.start w
 repeat' ((refine yO ?_))
 refine c_loopK (X:=Nat×Int) (fun x=>[(12,.int .i64 (x.1:Nat)),(3,.int .i64 x.2)]) [0,10,11] rfl (fun _=>[]) (fun x=>x.1≤sps.length∧x.2=roomI ((sps.map (·.s)).take x.1)∧0≤x.2∧x.2≤70000 * (x.1:Int)) (fun x=>sps.length - x.1) (0,0) (by exact zS) ⟨Nat.zero_le _,rfl,Int.le_refl _,Int.le_refl _⟩ hS ?_
 clear hS
 rintro ⟨i,room⟩ w1 ⟨hi,hroom,hr0,hr1⟩ hS
 dsimp only [List.cons_append,List.nil_append] at hi hroom hr0 hr1 hS ⊢
 by_cases hlt:i < sps.length
 rotate_left
 ·obtain rfl:i=sps.length:=by omega
  rw [List.take_of_length_le (by rw [List.length_map];omega)] at hroom
  repeat' (first|refine yO ?_|(refine yS ?_ ?_;all_goals (intro hb hp;try (exfalso;omega))))
  refine yR1 ?_
  exact ⟨by rw [hroom],hS.sub (List.nil_sublist _)⟩
 obtain ⟨x,hx⟩:=lt_get (l:=sps) (i:=i) (by omega)
 have hxs:(sps.map (·.s))[i]?=some x.s:=map_get (f:=fun p:Sp=>p.s) hx
 have hrow:=map_get (f:=spC) hx
 obtain ⟨b,off,rfl,hro⟩:=k4.at_ (i:=i) hlt
 have hxv:=k5 x (List.mem_of_getElem? hx)
 have hcx:=hc x (List.mem_of_getElem? hx)
 have hsum:=sumN_bd (good_ok (checkI_zero.1 hcx).2) x.s.areas.length
 have hAl:=(checkI_zero.1 hcx).1
 rw [List.take_length] at hsum
 have htk:=roomI_tk hxs
 have har:=hxv.ar
 have hen:=hxv.en
 obtain ⟨s,va,ve⟩:=x
 dsimp only at har hen hcx hsum hAl htk
 unfold spC at hrow
 dsimp only at hrow
 obtain ⟨pa,ca,rfl⟩:=har.len
 obtain ⟨pe,ce,rfl⟩:=hen.len
 have htot:=fun w1 (h:Sl nF w1 4 (.slice pa s.areas.length ca) (s.areas.map arC))=>Total_fn h
 rw [if_pos hcx] at htot
 repeat' (first|refine yO ?_|(refine yM ?_;clear hS;intro g w' hS)|(refine yN ?_;clear hS;intro w' hS)|(refine yS ?_ ?_;all_goals (intro hb hp;try (exfalso;omega)))|(refine yC ?_;refine ⟨_,htot _ (har.now hS),?_⟩;clear hS;intro w' hS))
 exact q_loopK (i + 1,room + sumN s.areas) (by exact zS) ⟨by show i + 1≤sps.length;omega,by rw [htk,← hroom],by show 0≤room + sumN s.areas;omega,by show room + sumN s.areas≤70000 * ((i + 1:Nat):Int);omega⟩ (hS.sub (by repeat (first|exact List.Sublist.refl _|apply List.Sublist.cons))) (by show sps.length - (i + 1) < sps.length - i;omega)
end Go.Proofs.Ytejnpppejalhfac
/- Entries let go, and put: (*work).let and in. -/
namespace Go.Proofs.Ytejnpppejalhfac
open Go.RowKit Go.Sort
def letV (k:KV) (e:En):KV:=if e.kind=1 then ⟨k.sh,k.fr.set e.at_.toNat (decFm (fmAt k.fr e.at_.toNat)),k.sl,k.sp,k.hand,k.vsh,k.vfr,k.vsl,k.vsp⟩ else ⟨k.sh,k.fr,k.sl.set e.at_.toNat (decSw (swAt k.sl e.at_.toNat)),k.sp,k.hand,k.vsh,k.vfr,k.vsl,k.vsp⟩
theorem letV_K (k:KV) (e:En):(letV k e).K=letK k.K e:=by
 unfold letV letK
 split <;> rfl
theorem letV_sp (k:KV) (e:En):(letV k e).sp=k.sp∧(letV k e).vsp=k.vsp∧(letV k e).fr.length=k.fr.length∧(letV k e).sl.length=k.sl.length:=by
 unfold letV
 split
 ·exact ⟨rfl,rfl,List.length_set,rfl⟩
 ·exact ⟨rfl,rfl,rfl,List.length_set⟩
structure EntOk (k:KV) (e:En):Prop where
 names:(e.kind=1∧∃ i:Nat,e.at_=(i:Nat)∧i < k.fr.length)∨(e.kind≠1∧∃ i:Nat,e.at_=(i:Nat)∧i < k.sl.length)
 fr:∀ f ∈ k.fr,0≤f.refs∧f.refs≤100000
 sl:∀ f ∈ k.sl,0≤f.refs∧f.refs≤100000
theorem set_at {α:Type} {l:List α} {i:Nat} {x:α} (h:i < l.length):(l.set i x)[i]?=some x:=by rw [List.getElem?_set,if_pos rfl,if_pos h]
theorem setL_fm (a y:Fm):setL (fmC a) 0 (fmC y)=fmC y:=setL_all (fmC a) (fmC y) rfl
theorem setL_sw (a y:Sw):setL (swC a) 0 (swC y)=swC y:=setL_all (swC a) (swC y) rfl
set_option maxRecDepth 100000 in
set_option maxHeartbeats 8000000 in
theorem wlet_fn {F:Nat→Prop} {w0 w:World} {Γ:List Asr} {g:Nat} {k:KV} {sp:Nat} {vh:Value} {held:List Nat} (hS0:St F w0 w (wkS g k sp vh held++Γ)) {e:En} (he:EntOk k e):Fn Try.prog 52 [.pointer (some ⟨g,0,none⟩),.agg (enC e).toArray] w (fun v w'=>v=.tuple #[]∧St (fps (wkS g k sp vh held)) w w' (wkS g (letV k e) sp vh held)):=by
 have hS:=St.startM hS0
 obtain ⟨hn,hfr,hsl⟩:=he
 generalize fps (wkS g k sp vh held)=G at hS ⊢
 obtain ⟨sh,fr,sl,sps,hand,vsh,vfr,vsl,vsp⟩:=k
 dsimp only at hn hfr hsl
 unfold wkS wkB hdA frA slA spA0 at hS
 dsimp only [List.cons_append,List.nil_append] at hS
 unfold enC
 rcases hn with ⟨hk,i,hi,hil⟩|⟨hk,i,hi,hil⟩
 ·have hlv:letV ⟨sh,fr,sl,sps,hand,vsh,vfr,vsl,vsp⟩ e=⟨sh,fr.set i (decFm (fmAt fr i)),sl,sps,hand,vsh,vfr,vsl,vsp⟩:=by unfold letV;rw [if_pos hk,hi];rfl
  rw [hlv]
  obtain ⟨f,hf⟩:=lt_get (l:=fr) (i:=i) (by omega)
  have hrf:=hfr f (List.mem_of_getElem? hf)
  rw [fmAt_eq hf]
  have hrow:=map_get (f:=fmC) hf
  obtain ⟨pf,cf,rfl⟩:=hS.rowSlice 2 rfl
  rw [List.length_map] at hS
  obtain ⟨gf,rfl⟩:=hS.rowSome 2 rfl (by omega)
  have hd:decide (e.kind=1)=true:=decide_eq_true hk
  obtain ⟨epg,ekd,eat⟩:=e
  dsimp only at hd hi hk hlv ⊢
  subst hi
  unfold fmC at hrow
  unfold decFm
  have e1:(fr.map fmC).set i (setL [.string ⟨f.data.toArray⟩,.int .i64 f.refs,.bool f.dirty,.bool f.seen] 1 [.int .i64 (f.refs - 1)])=(fr.set i ⟨f.data,f.refs - 1,f.dirty,f.seen⟩).map fmC:=by rw [List.map_set];rfl
  have hrow1:((fr.set i ⟨f.data,f.refs - 1,f.dirty,f.seen⟩).map fmC)[i]?=some [.string ⟨f.data.toArray⟩,.int .i64 (f.refs - 1),.bool f.dirty,.bool f.seen]:=map_get (f:=fmC) (set_at (x:=(⟨f.data,f.refs - 1,f.dirty,f.seen⟩:Fm)) hil)
  by_cases h0:f.refs - 1=0
  ·have hd0:decide (f.refs - 1=0)=true:=decide_eq_true h0
   rw [if_pos h0]
   have e2:((fr.set i ⟨f.data,f.refs - 1,f.dirty,f.seen⟩).map fmC).set i (setL [.string ⟨f.data.toArray⟩,.int .i64 (f.refs - 1),.bool f.dirty,.bool f.seen] 0 [.string ⟨#[]⟩,.int .i64 0,.bool false,.bool false])=(fr.set i fm0).map fmC:=by
    rw [List.map_set,List.map_set,List.set_set]
    rfl
   refine yEn Try.func52 Try.ntmps52 ?_
   repeat' (first|refine yO ?_|(refine yM ?_;clear hS;intro g w' hS))
   (focus (refine yD ?_;(repeat' ((refine yP ?_)));all_goals (refine yZ ?_;clear hS;intro w' hS)))
   repeat' (first|refine yO ?_|(refine yT3 ?_;clear hS;intro w' hS))
   rw [e1] at hS
   repeat' (first|refine yO ?_|(refine yT3 ?_;clear hS;intro w' hS))
   rw [e2] at hS
   refine yR0 ?_
   exact ⟨rfl,by rw [List.length_map];exact hS.drop⟩
  ·have hd0:decide (f.refs - 1=0)=false:=decide_eq_false h0
   rw [if_neg h0]
   refine yEn Try.func52 Try.ntmps52 ?_
   repeat' (first|refine yO ?_|(refine yM ?_;clear hS;intro g w' hS))
   (focus (refine yD ?_;(repeat' ((refine yP ?_)));all_goals (refine yZ ?_;clear hS;intro w' hS)))
   repeat' (first|refine yO ?_|(refine yT3 ?_;clear hS;intro w' hS))
   rw [e1] at hS
   repeat' ((refine yO ?_))
   refine yR0 ?_
   exact ⟨rfl,by rw [List.length_map];exact hS.drop⟩
 ·have hlv:letV ⟨sh,fr,sl,sps,hand,vsh,vfr,vsl,vsp⟩ e=⟨sh,fr,sl.set i (decSw (swAt sl i)),sps,hand,vsh,vfr,vsl,vsp⟩:=by unfold letV;rw [if_neg hk,hi];rfl
  rw [hlv]
  obtain ⟨f,hf⟩:=lt_get (l:=sl) (i:=i) (by omega)
  have hrf:=hsl f (List.mem_of_getElem? hf)
  rw [swAt_eq hf]
  have hrow:=map_get (f:=swC) hf
  obtain ⟨pf,cf,rfl⟩:=hS.rowSlice 3 rfl
  rw [List.length_map] at hS
  obtain ⟨gf,rfl⟩:=hS.rowSome 3 rfl (by omega)
  have hd:decide (e.kind=1)=false:=decide_eq_false hk
  obtain ⟨epg,ekd,eat⟩:=e
  dsimp only at hd hi hk hlv ⊢
  subst hi
  unfold swC at hrow
  unfold decSw
  have e1:(sl.map swC).set i (setL [.string ⟨f.data.toArray⟩,.int .i64 f.refs] 1 [.int .i64 (f.refs - 1)])=(sl.set i ⟨f.data,f.refs - 1⟩).map swC:=by rw [List.map_set];rfl
  have hrow1:((sl.set i ⟨f.data,f.refs - 1⟩).map swC)[i]?=some [.string ⟨f.data.toArray⟩,.int .i64 (f.refs - 1)]:=map_get (f:=swC) (set_at (x:=(⟨f.data,f.refs - 1⟩:Sw)) hil)
  by_cases h0:f.refs - 1=0
  ·have hd0:decide (f.refs - 1=0)=true:=decide_eq_true h0
   rw [if_pos h0]
   have e2:((sl.set i ⟨f.data,f.refs - 1⟩).map swC).set i (setL [.string ⟨f.data.toArray⟩,.int .i64 (f.refs - 1)] 0 [.string ⟨#[]⟩,.int .i64 0])=(sl.set i sw0).map swC:=by
    rw [List.map_set,List.map_set,List.set_set]
    rfl
   refine yEn Try.func52 Try.ntmps52 ?_
   repeat' (first|refine yO ?_|(refine yM ?_;clear hS;intro g w' hS))
   (focus (refine yD ?_;(repeat' ((refine yP ?_)));all_goals (refine yZ ?_;clear hS;intro w' hS)))
   repeat' (first|refine yO ?_|(refine yT4 ?_;clear hS;intro w' hS)|((with_reducible apply l_load);exact rfl;(((with_reducible apply Loads.sc tabOk);exact rfl;(exact hS.rowCj 4 rfl hrow rfl)));exact rfl))
   rw [e1] at hS
   repeat' (first|refine yO ?_|(refine yT4 ?_;clear hS;intro w' hS)|((with_reducible apply l_load);exact rfl;(((with_reducible apply Loads.sc tabOk);exact rfl;(exact hS.rowCj 4 rfl hrow1 rfl)));exact rfl))
   rw [e2] at hS
   refine yV0 ?_
   exact ⟨rfl,by rw [List.length_map];exact hS.drop⟩
  ·have hd0:decide (f.refs - 1=0)=false:=decide_eq_false h0
   rw [if_neg h0]
   refine yEn Try.func52 Try.ntmps52 ?_
   repeat' (first|refine yO ?_|(refine yM ?_;clear hS;intro g w' hS))
   (focus (refine yD ?_;(repeat' ((refine yP ?_)));all_goals (refine yZ ?_;clear hS;intro w' hS)))
   repeat' (first|refine yO ?_|(refine yT4 ?_;clear hS;intro w' hS)|((with_reducible apply l_load);exact rfl;(((with_reducible apply Loads.sc tabOk);exact rfl;(exact hS.rowCj 4 rfl hrow rfl)));exact rfl))
   rw [e1] at hS
   repeat' (first|refine yO ?_|((with_reducible apply l_load);exact rfl;(((with_reducible apply Loads.sc tabOk);exact rfl;(exact hS.rowCj 4 rfl hrow1 rfl)));exact rfl))
   refine yV0 ?_
   exact ⟨rfl,by rw [List.length_map];exact hS.drop⟩
end Go.Proofs.Ytejnpppejalhfac
/- (*work).in: a page is present in a frame that was got. -/
namespace Go.Proofs.Ytejnpppejalhfac
open Go.RowKit Go.Sort
theorem enR_pick {l:List Sp} {i:Nat} {x:Sp} (h:l[i]?=some x):(l.map enAp).Perm (enAp x::(l.eraseIdx i).map enAp):=(perm_erase h).map enAp
theorem enR_put {l:List Sp} {i:Nat} {x y:Sp} (h:l[i]?=some x):(enAp y::(l.eraseIdx i).map enAp).Perm ((l.set i y).map enAp):=by
 have h1:=enR_pick (l:=l.set i y) (i:=i) (x:=y) (set_at (lt_of_getE h))
 rw [erase_set] at h1
 exact h1.symm
theorem St.pullE {F:Nat→Prop} {w0 w:World} {Γ:List Asr} (h:St F w0 w Γ) (m:Nat) {l:List Sp} {i:Nat} {x:Sp} (hx:l[i]?=some x) (hΓ:Γ.drop m=l.map enAp):St F w0 w (enAp x::appA (Γ.take m) ((l.eraseIdx i).map enAp)):=by
 rw [appA_eq]
 refine h.perm ?_
 have h1:Γ.Perm (Γ.take m++(enAp x::(l.eraseIdx i).map enAp)):=by
  conv=>lhs;rw [← List.take_append_drop m Γ,hΓ]
  exact (enR_pick hx).append_left _
 exact h1.trans List.perm_middle
theorem St.pushE {F:Nat→Prop} {w0 w:World} {Γ:List Asr} {y:Sp} (h:St F w0 w (enAp y::Γ)) (m:Nat) {l:List Sp} {i:Nat} {x:Sp} (hx:l[i]?=some x) (hΓ:Γ.drop m=(l.eraseIdx i).map enAp):St F w0 w (appA (Γ.take m) ((l.set i y).map enAp)):=by
 rw [appA_eq]
 refine h.perm ?_
 have h1:(enAp y::Γ).Perm (Γ.take m++(enAp y::(l.eraseIdx i).map enAp)):=by
  conv=>lhs;rw [← List.take_append_drop m Γ,hΓ]
  exact List.perm_middle.symm
 exact h1.trans ((enR_put hx).append_left _)
theorem map_same {α β:Type} {φ:α→β} {l:List α} {i:Nat} {x y:α} (h:l[i]?=some x) (e:φ y=φ x):(l.set i y).map φ=l.map φ:=by
 refine List.ext_getElem? fun j=>?_
 rw [List.getElem?_map,List.getElem?_map,List.getElem?_set]
 by_cases hj:i=j
 ·subst hj
  rw [if_pos rfl,if_pos (lt_of_getE h),h]
  exact congrArg some e
 ·rw [if_neg hj]
theorem Sl.rng {w:World} {sz b off n c:Nat} {rows:List (List Value)} (h:Sl nF w sz (.slice (some ⟨b,off,none⟩) n c) rows) {k:Nat} {r:List Value} (hk:rows[k]?=some r):w.rangeAt b (off + k * sz) r:=by
 rcases h with ⟨p,c',h1,h2⟩|⟨b',off',cap,h1,-,-,hro⟩
 ·rw [h2] at hk;simp at hk
 ·cases h1
  exact (St.start w).roR hro hk
theorem inV_K {sh:List (Sh×Value)} {fr fr':List Fm} {sl sl':List Sw} {sps:List Sp} {hand:Int} {vsh vfr vsl vsp va ve ve':Value} {s:Sc} {sp:Nat} {page:Int} {f:Nat} {data:List UInt8} {dirty:Bool} (hx:sps[sp]?=some ⟨s,va,ve⟩)
  (hl:letO (setFm (⟨sh,fr,sl,sps,hand,vsh,vfr,vsl,vsp⟩:KV).K f ⟨data,1,dirty,false⟩) (entAt s.entries page)=(⟨sh,fr',sl',sps,hand,vsh,vfr,vsl,vsp⟩:KV).K) :
  (⟨sh,fr',sl',sps.set sp ⟨⟨s.live,s.areas,putE s.entries ⟨page,1,(f:Nat)⟩⟩,va,ve'⟩,hand,vsh,vfr,vsl,vsp⟩:KV).K=inK (⟨sh,fr,sl,sps,hand,vsh,vfr,vsl,vsp⟩:KV).K sp page f data dirty:=by
 have hsc:∀ fr sl,scAt (⟨sh,fr,sl,sps,hand,vsh,vfr,vsl,vsp⟩:KV).K sp=s:=fun fr sl=>by
  unfold scAt KV.K
  dsimp only
  rw [List.getElem?_map,hx]
  rfl
 unfold inK
 have he:entsOf (⟨sh,fr,sl,sps,hand,vsh,vfr,vsl,vsp⟩:KV).K sp=s.entries:=by unfold entsOf;rw [hsc]
 rw [he,hl]
 unfold setEnts setSc
 rw [hsc]
 unfold KV.K
 dsimp only
 rw [List.map_set]
set_option maxRecDepth 100000 in
set_option maxHeartbeats 8000000 in
theorem win_fn {F:Nat→Prop} {w0 w:World} {Γ:List Asr} {g0:Nat} {k:KV} {sp:Nat} {vh:Value} {held:List Nat} (hS0:St F w0 w (wkS g0 k sp vh held++Γ)) (hR:KRo (fps (wkS g0 k sp vh held)) w k) {x:Sp} (hx:k.sp[sp]?=some x) {page:Int} {f:Nat} {data:List UInt8} {dirty:Bool} (hf:f < k.fr.length) (hr:Rises (pagesE x.s.entries)) (hb:PgBd x.s.entries page) (hl:x.s.entries.length≤1000) (hE:∀ e,entAt x.s.entries page=some e→EntOk k e) :
  Fn Try.prog 82 [.pointer (some ⟨g0,0,none⟩),.int .i64 page,.int .i64 (f:Nat),.string ⟨data.toArray⟩,.bool dirty] w (fun v w'=>v=.tuple #[]∧∃ k',k'.K=inK k.K sp page f data dirty∧KLike k k'∧St (fps (wkS g0 k sp vh held)) w w' (wkS g0 k' sp vh held)):=by
 have hS:=St.startM hS0
 have hxe0:entsOf k.K sp=x.s.entries:=by
  unfold entsOf scAt KV.K
  dsimp only
  rw [List.getElem?_map,hx]
  rfl
 generalize fps (wkS g0 k sp vh held)=G at hS hR ⊢
 obtain ⟨sh,fr,sl,sps,hand,vsh,vfr,vsl,vsp⟩:=k
 dsimp only at hf hx
 obtain ⟨e',he'⟩:∃ e':En,e'=⟨page,1,(f:Nat)⟩:=⟨_,rfl⟩
 have hR1:KRo G w ⟨sh,fr.set f ⟨data,1,dirty,false⟩,sl,sps,hand,vsh,vfr,vsl,vsp⟩:=hR.like ⟨rfl,rfl,rfl⟩
 have hwv:=fun w1 (h:St G w w1 (wkS g0 ⟨sh,fr.set f ⟨data,1,dirty,false⟩,sl,sps,hand,vsh,vfr,vsl,vsp⟩ sp vh held))=>WkV.of (Γ:=[]) (by rw [List.append_nil];exact h) hR1
 have hent:=fun w1 h=>wentry_fn (hwv w1 h) (x:=x) hx page hr hb
 obtain ⟨fm,hfm⟩:=lt_get (l:=fr) (i:=f) (by omega)
 have hrow:=map_get (f:=fmC) hfm
 unfold wkS wkB hdA frA slA spA0 at hS
 dsimp only [List.cons_append,List.nil_append] at hS
 obtain ⟨pf,cf,rfl⟩:=hS.rowSlice 2 rfl
 rw [List.length_map] at hS hent hwv
 obtain ⟨gf,rfl⟩:=hS.rowSome 2 rfl (by omega)
 have hrw:(fr.map fmC).set f (setL (fmC fm) 0 [.string ⟨data.toArray⟩,.int .i64 1,.bool dirty,.bool false])=(fr.set f ⟨data,1,dirty,false⟩).map fmC:=by
  rw [List.map_set]
  exact congrArg (List.set _ _) (setL_fm fm ⟨data,1,dirty,false⟩)
 have hxr:=map_get (f:=enAp) hx
 unfold enAp at hxr
 have hxsp:=map_get (f:=spC) hx
 obtain ⟨s,va,ve⟩:=x
 dsimp only at hr hb hl hE hxr hent hxe0 hxsp
 obtain ⟨ps,cs,rfl⟩:=hS.rowSlice 4 rfl
 rw [List.length_map] at hS hent hwv
 have hlt:=lt_of_getE hx
 obtain ⟨gs,rfl⟩:=hS.rowSome 4 rfl (by omega)
 have hspc:=fun w1 h=>wspace_fn (hwv w1 h) hlt
 unfold elemP at hspc
 dsimp only at hspc
 have hxm:=List.mem_of_getElem? hx
 have hbs:=fun w1 h=>bsEn_fn (t:=page) ((hwv w1 h).ker.spv _ hxm).en hr hb
 unfold BsV at hbs
 dsimp only at hbs
 unfold spC at hxsp
 dsimp only at hxsp
 cases hwas:entAt s.entries page with
 |some was=>
  have hEw:=hE was hwas
  obtain ⟨hwm,hwp⟩:=entAt_mem hwas
  have hm:page ∈ pagesE s.entries:=List.mem_map.2 ⟨was,hwm,hwp⟩
  have hat:=(lbd_find hr page).2 hm
  obtain ⟨i,hi⟩:∃ i,i=lbd (pagesE s.entries) page:=⟨_,rfl⟩
  have hwi:s.entries[i]?=some was:=by
   rw [← hi] at hat
   unfold pagesE at hat
   rw [List.getElem?_map] at hat
   obtain ⟨y,hy,hyp⟩:=Option.map_eq_some_iff.1 hat
   have h1:=entAt_of hr (List.mem_of_getElem? hy)
   rw [hyp,hwas] at h1
   cases h1
   exact hy
  unfold entV at hent
  dsimp only at hent
  rw [if_pos hm,← hi] at hent
  have hS2:=hS.pullE 5 hx rfl
  obtain ⟨pe,ce,hve⟩:=hS2.rowSlice 0 rfl
  dsimp only at hve
  rw [List.length_map] at hve
  subst hve
  have hel:=lt_of_getE hwi
  obtain ⟨ge,hge⟩:=hS2.rowSome (p:=pe) (n:=s.entries.length) (cap:=ce) (sz:=3) (rows:=s.entries.map enC) 0 rfl (by omega)
  subst hge
  clear hS2
  unfold elemP at hent
  dsimp only at hent
  have hrowE:=map_get (f:=enC) hwi
  have hEw1:EntOk ⟨sh,fr.set f ⟨data,1,dirty,false⟩,sl,sps,hand,vsh,.slice (some ⟨gf,0,none⟩) fr.length cf,vsl,.slice (some ⟨gs,0,none⟩) sps.length cs⟩ was:=by
   refine ⟨?_,fun x hx=>?_,hEw.sl⟩
   ·have:=hEw.names
    dsimp only at this ⊢
    rw [List.length_set]
    exact this
   ·rcases List.mem_or_eq_of_mem_set hx with h1|rfl
    ·exact hEw.fr x h1
    ·exact ⟨by show (0:Int)≤1;omega,by show (1:Int)≤100000;omega⟩
  obtain ⟨fr',sl',hlv,hlK⟩:∃ fr' sl',letV ⟨sh,fr.set f ⟨data,1,dirty,false⟩,sl,sps,hand,vsh,.slice (some ⟨gf,0,none⟩) fr.length cf,vsl,.slice (some ⟨gs,0,none⟩) sps.length cs⟩ was=⟨sh,fr',sl',sps,hand,vsh,.slice (some ⟨gf,0,none⟩) fr.length cf,vsl,.slice (some ⟨gs,0,none⟩) sps.length cs⟩∧letK (⟨sh,fr.set f ⟨data,1,dirty,false⟩,sl,sps,hand,vsh,.slice (some ⟨gf,0,none⟩) fr.length cf,vsl,.slice (some ⟨gs,0,none⟩) sps.length cs⟩:KV).K was=(⟨sh,fr',sl',sps,hand,vsh,.slice (some ⟨gf,0,none⟩) fr.length cf,vsl,.slice (some ⟨gs,0,none⟩) sps.length cs⟩:KV).K:=by
   rw [← letV_K]
   unfold letV
   split
   ·exact ⟨_,_,rfl,rfl⟩
   ·exact ⟨_,_,rfl,rfl⟩
  have hlet:=fun w1 Γ1 (h:St G w w1 (wkS g0 ⟨sh,fr.set f ⟨data,1,dirty,false⟩,sl,sps,hand,vsh,.slice (some ⟨gf,0,none⟩) fr.length cf,vsl,.slice (some ⟨gs,0,none⟩) sps.length cs⟩ sp vh held++Γ1))=>wlet_fn h hEw1
  rw [hlv] at hlet
  unfold enC at hlet
  refine yEn Try.func82 Try.ntmps82 ?_
  repeat' (first|refine yO ?_|(refine yM ?_;clear hS;intro g w' hS)|(refine yN ?_;clear hS;intro w' hS)|(refine yT2 ?_;clear hS;intro w' hS))
  rw [hrw] at hS
  repeat' (first|refine yO ?_|(refine yC ?_;refine ⟨_,hent _ hS.drop,?_⟩;clear hS;intro w' hS)|(refine yC2 ?_;refine ⟨_,((hwv _ hS.drop).ker.spv _ hxm).en.rng hrowE,rfl,?_⟩))
  replace hS:=hS.perm (List.perm_append_singleton _ _).symm
  repeat' (first|refine yO ?_|(refine yL ?_;refine ⟨_,hlet _ [_] hS,?_⟩;rintro _ w2 ⟨rfl,h2⟩))
  replace hS:=St.transM hS h2
  clear h2
  replace hS:=hS.perm (List.perm_append_singleton _ _)
  unfold wkS wkB hdA frA slA spA0 at hS
  dsimp only [List.cons_append,List.nil_append] at hS
  replace hS:=hS.pullE 6 hx rfl
  simp only [List.take_succ_cons,List.take_zero,appA] at hS
  have hpu:putE s.entries e'=s.entries.set i e':=by
   unfold putE
   rw [if_pos (by rw [he'];exact hm)]
   rw [he',hi]
  have hst:(s.entries.map enC).set i (setL (enC was) 0 [.int .i64 page,.int .i64 1,.int .i64 (f:Nat)])=(putE s.entries e').map enC:=by
   rw [hpu,List.map_set,he']
   exact congrArg (List.set _ _) (setL_en was ⟨page,1,(f:Nat)⟩)
  unfold enAp at hS
  dsimp only at hS
  repeat' (first|refine yO ?_|(refine yT0 ?_;clear hS;intro w' hS))
  refine yR0 ?_
  rw [hst] at hS
  replace hS:=St.pushE (y:=⟨⟨s.live,s.areas,putE s.entries e'⟩,va,.slice (some ⟨ge,0,none⟩) s.entries.length ce⟩) hS 6 hx rfl
  simp only [List.take_succ_cons,List.take_zero,appA] at hS
  simp only [List.length_map]
  have hspm:(sps.set sp ⟨⟨s.live,s.areas,putE s.entries e'⟩,va,.slice (some ⟨ge,0,none⟩) s.entries.length ce⟩).map spC=sps.map spC:=map_same hx rfl
  rw [← hspm] at hS
  refine ⟨trivial,⟨sh,fr',sl',sps.set sp ⟨⟨s.live,s.areas,putE s.entries e'⟩,va,.slice (some ⟨ge,0,none⟩) s.entries.length ce⟩,hand,vsh,.slice (some ⟨gf,0,none⟩) fr.length cf,vsl,.slice (some ⟨gs,0,none⟩) sps.length cs⟩,?_,⟨rfl,rfl,map_same hx rfl⟩,hS.drop⟩
  rw [he']
  refine inV_K hx ?_
  rw [hwas]
  exact hlK
 |none=>
  have hm:page ∉ pagesE s.entries:=entAt_none.1 hwas
  unfold entV at hent
  dsimp only at hent
  rw [if_neg hm] at hent
  rw [decide_eq_false (show page ∉ s.entries.map fun e=>e.page from hm)] at hbs
  refine yEn Try.func82 Try.ntmps82 ?_
  repeat' (first|refine yO ?_|(refine yM ?_;clear hS;intro g w' hS)|(refine yN ?_;clear hS;intro w' hS)|(refine yT2 ?_;clear hS;intro w' hS))
  rw [hrw] at hS
  repeat' (first|refine yO ?_|(refine yC ?_;refine ⟨_,hent _ hS.drop,?_⟩;clear hS;intro w' hS)|(refine yC ?_;refine ⟨_,hspc _ hS.drop,?_⟩;clear hS;intro w' hS)|(refine yC ?_;refine ⟨_,hbs _ hS.drop,?_⟩;clear hS;intro w' hS)|((with_reducible apply l_load);exact rfl;(((with_reducible apply Loads.sl tabOk);exact rfl;(exact hS.rowCj 5 rfl hxsp rfl)));exact rfl))
  refine c_tillP 6 11 12 rfl hS (by kernel_rfl) ?_
  intro w10 hS'
  clear hS;have hS:=hS';clear hS'
  simp only [List.take_succ_cons,List.take_zero]
  have hH:=hS.sub (List.sublist_append_left [_,_,_,_,_,_] _)
  (refine xP (nn 0) ?_;refine ⟨Or.inr hH,?_⟩)
  (refine xP (nn 1) ?_;refine ⟨Or.inr hH,?_⟩)
  (refine xP (nn 2) ?_;refine ⟨Or.inr hH,?_⟩)
  (refine xP (nn 3) ?_;refine ⟨Or.inr hH,?_⟩)
  ((with_reducible apply t_takeL (nn 4));exact rfl;kernel_rfl;kernel_rfl;kernel_rfl;kernel_rfl;exact rfl;exact rfl;exact (fun _ _ _ h=>h);exact hH;exact rfl;(intro w2 hw2;(replace hw2:St _ _ w2 _:=hw2;(with_reducible apply Loads.sl tabOk);exact rfl;exact hw2.rowCj 5 rfl hxsp rfl));exact rfl)
  (refine xP (nn 5) ?_;refine ⟨Or.inr hH,?_⟩)
  (refine xL (nn 6) ?_;refine ⟨hH,?_⟩)
  refine t_one (i:=7) (by kernel_rfl) ?_
  refine p_gets rfl (g_bslice hS tabOk rfl rfl rfl rfl rfl rfl) rfl ?_
  rintro _ w' ⟨gu,rfl,hS'⟩
  clear hS;have hS:=hS';clear hS'
  have hH:=hS.drop.sub (List.sublist_append_left [_,_,_,_,_,_] _)
  refine ⟨Or.inr (Or.inr hH),?_⟩
  refine t_one (i:=8) (by kernel_rfl) ?_
  replace hS:=hS.pullE 7 hx rfl
  simp only [List.take_succ_cons,List.take_zero,appA] at hS
  replace hS:=hS.reorderT 2 [0,1] (by decide) rfl
  simp only [appA,List.drop_succ_cons,List.drop_zero] at hS
  have hi:=lbd_le (pagesE s.entries) page
  unfold pagesE at hi
  rw [List.length_map] at hi
  have hins:=insEn_fn (e:=e') (i:=lbd (s.entries.map fun e=>e.page) page) (v:=ve) (u:=.slice (some ⟨gu,0,none⟩) 1 1) (by rw [he'];exact hS) hi (by omega)
  refine p_gets rfl (g_call (first:=[]) (caps:=[]) rfl rfl hins) rfl ?_
  rintro _ w' ⟨q,c,rfl,h2⟩
  replace hS:=St.transM (Θ:=[enA ve s.entries,enA (.slice (some ⟨gu,0,none⟩) 1 1) [e']]) (by rw [he'];exact hS) h2
  dsimp only [List.cons_append,List.nil_append] at hS
  clear h2 hins
  have hH:=hS.drop.sub (List.sublist_append_left [_,_,_,_,_,_] _)
  refine ⟨Or.inr (Or.inr hH),?_⟩
  (refine xP (nn 9) ?_;refine ⟨Or.inr hH,?_⟩)
  (refine xP (nn 10) ?_;refine ⟨Or.inr hH,?_⟩)
  refine t_one (i:=11) (by kernel_rfl) ?_
  refine p_gets0 (Φ:=fun _ w'=>St _ _ w' _) rfl (g_storeR hS tabOk (i:=6) (kk:=sp) (j:=2) rfl rfl rfl rfl rfl hxsp (celL_eq rfl) rfl (Nat.le_refl _) rfl) ?_
  intro _ w' hS'
  simp only [List.set,setL] at hS'
  clear hS;have hS:=hS';clear hS'
  refine ⟨Or.inl rfl,?_⟩
  refine t_done (by kernel_rfl) ?_
  refine yV0 ?_
  have hsp1:(sps.map spC).set sp ((([.bool s.live,va,ve]:List Value).set 2 (.slice q (s.entries.length + 1) c)))=(sps.set sp ⟨⟨s.live,s.areas,putE s.entries e'⟩,va,.slice q (s.entries.length + 1) c⟩).map spC:=by
   rw [List.map_set]
   rfl
  have hpu:putE s.entries e'=insE s.entries e':=by
   unfold putE
   rw [if_neg]
   rw [he']
   exact hm
  have hS2:=hS
  replace hS2:St G w w' (enAp ⟨⟨s.live,s.areas,putE s.entries e'⟩,va,.slice q (s.entries.length + 1) c⟩::.blk g [.int .i64 page,.int .i64 1,.int .i64 (f:Nat)]::.blk g0 [vsh,.slice (some ⟨gf,0,none⟩) fr.length cf,vsl,.slice (some ⟨gs,0,none⟩) sps.length cs,.int .i64 hand,.int .i64 (sp:Nat),vh]::.row 3 1 vh (held.map fun i=>[.int .i64 (i:Nat)])::.row 43 4 (.slice (some ⟨gf,0,none⟩) fr.length cf) ((fr.set f ⟨data,1,dirty,false⟩).map fmC)::.row 45 2 vsl (sl.map swC)::.row 41 3 (.slice (some ⟨gs,0,none⟩) sps.length cs) ((sps.set sp ⟨⟨s.live,s.areas,putE s.entries e'⟩,va,.slice q (s.entries.length + 1) c⟩).map spC)::(sps.eraseIdx sp).map enAp):=by
   rw [← hsp1,hpu,he']
   rw [he'] at hS
   exact hS
  clear hS
  have hS:=hS2
  replace hS:=hS.pushE 6 hx rfl
  simp only [List.take_succ_cons,List.take_zero,appA] at hS
  simp only [List.length_map]
  refine ⟨trivial,⟨sh,fr.set f ⟨data,1,dirty,false⟩,sl,sps.set sp ⟨⟨s.live,s.areas,putE s.entries e'⟩,va,.slice q (s.entries.length + 1) c⟩,hand,vsh,.slice (some ⟨gf,0,none⟩) fr.length cf,vsl,.slice (some ⟨gs,0,none⟩) sps.length cs⟩,?_,⟨rfl,rfl,map_same hx rfl⟩,hS.drop⟩
  rw [he']
  refine inV_K hx ?_
  rw [hwas]
  rfl
end Go.Proofs.Ytejnpppejalhfac
/- (*work).aside: a frame put aside. -/
namespace Go.Proofs.Ytejnpppejalhfac
open Go.RowKit Go.Sort
set_option maxRecDepth 100000 in
theorem asideF1_fn (s:Sw) (w:World):Fn Try.prog 98 [.agg (swC s).toArray] w (RBf (.bool (decide (s.refs=0))) w):=by
 unfold swC
 refine yEn Try.func98 Try.ntmps98 ?_
 have hS:=St.start w
 repeat' (first|refine yO ?_|(refine yM ?_;clear hS;intro g w' hS))
 refine yR1 ?_
 exact ⟨rfl,hS.sub (List.nil_sublist _)⟩
set_option maxRecDepth 100000 in
theorem asideF2_fn (e:En) (w:World):Fn Try.prog 99 [.agg (enC e).toArray] w (RBf (.bool (decide (e.kind=0))) w):=by
 unfold enC
 refine yEn Try.func99 Try.ntmps99 ?_
 have hS:=St.start w
 repeat' (first|refine yO ?_|(refine yM ?_;clear hS;intro g w' hS))
 refine yR1 ?_
 exact ⟨rfl,hS.sub (List.nil_sublist _)⟩
set_option maxRecDepth 100000 in
theorem frameF1_fn (f:Fm) (w:World):Fn Try.prog 89 [.agg (fmC f).toArray] w (RBf (.bool (decide (f.refs=0))) w):=by
 unfold fmC
 refine yEn Try.func89 Try.ntmps89 ?_
 have hS:=St.start w
 repeat' (first|refine yO ?_|(refine yM ?_;clear hS;intro g w' hS))
 refine yR1 ?_
 exact ⟨rfl,hS.sub (List.nil_sublist _)⟩
def markE (f a b:Int) (e:En):En:=if e.kind=1∧e.at_=f then ⟨e.page,a,b⟩ else e
theorem mark_filter {f:Int} {t:Option Int} {a b:Int} (ht:(t=none∧a=0∧b=0)∨∃ s,t=some s∧a=2∧b=s):∀ {l:List En},(∀ e ∈ l,e.kind≠0)→(l.map (markE f a b)).filter (fun e=>!decide (e.kind=0))=l.filterMap (asideE f t)
 |[],_=>rfl
 |e::l,h=>by
  have ih:=mark_filter (f:=f) ht (l:=l) (fun x hx=>h x (List.mem_cons_of_mem _ hx))
  have h0:=h e List.mem_cons_self
  rw [List.map_cons,List.filterMap_cons]
  unfold asideE
  by_cases he:e.kind=1∧e.at_=f
  ·rw [if_pos he]
   have hm:markE f a b e=⟨e.page,a,b⟩:=by unfold markE;rw [if_pos he]
   rw [hm]
   rcases ht with ⟨rfl,rfl,rfl⟩|⟨s,rfl,rfl,rfl⟩
   ·rw [List.filter_cons_of_neg (by simp)]
    exact ih
   ·rw [List.filter_cons_of_pos (by simp)]
    exact congrArg _ ih
  ·rw [if_neg he]
   have hm:markE f a b e=e:=by unfold markE;rw [if_neg he]
   rw [hm,List.filter_cons_of_pos (by simpa using h0)]
   exact congrArg _ ih
theorem mark_step {f a b:Int} {l:List En} {j:Nat} {e:En} (h:l[j]?=some e):(((l.take j).map (markE f a b))++l.drop j).set j (markE f a b e)=((l.take (j + 1)).map (markE f a b))++l.drop (j + 1):=by
 have hj:=lt_of_getE h
 rw [take_snocE h,List.map_append,List.set_append_right _ _ (by rw [List.length_map,List.length_take];omega),List.length_map,List.length_take,Nat.min_eq_left (by omega),Nat.sub_self,drop_at h,List.set_cons_zero,List.append_assoc]
 rfl
theorem mark_at {f a b:Int} {l:List En} {j:Nat} {e:En} (h:l[j]?=some e):(((l.take j).map (markE f a b))++l.drop j)[j]?=some e:=by
 have hj:=lt_of_getE h
 rw [List.getElem?_append_right (by rw [List.length_map,List.length_take];omega),List.length_map,List.length_take,Nat.min_eq_left (by omega),Nat.sub_self,drop_at h]
 rfl
theorem mark_len {f a b:Int} {l:List En} (j:Nat):(((l.take j).map (markE f a b))++l.drop j).length=l.length:=by
 rw [List.length_append,List.length_map,List.length_take,List.length_drop]
 omega
def slT (o:Option Nat) (sl:List Sw) (x:Sw):List Sw:=match o with
 |some t=>sl.set t x
 |none=>sl
structure AsideOk (k:KV) (f:Nat):Prop where
 lt:f < k.fr.length
 free:(fmAt k.fr f).dirty=true→∃ t,freeS k.sl=some t
 len:∀ x ∈ k.sp,x.s.entries.length≤1000
 kind:∀ x ∈ k.sp,∀ e ∈ x.s.entries,e.kind≠0
 sp:k.sp.length≤1000
theorem idxI_free {l:List Sw} {t:Nat} (h:freeS l=some t):idxI (fun s:Sw=>decide (s.refs=0)) l=((t:Nat):Int):=by
 unfold idxI
 unfold freeS at h
 rw [h]
set_option maxRecDepth 100000 in
set_option maxHeartbeats 8000000 in
theorem waside_fn {F:Nat→Prop} {w0 w:World} {Γ:List Asr} {g0:Nat} {k:KV} {sp:Nat} {vh:Value} {held:List Nat} (hS0:St F w0 w (wkS g0 k sp vh held++Γ)) {f:Nat} (hA:AsideOk k f):Fn Try.prog 91 [.pointer (some ⟨g0,0,none⟩),.int .i64 (f:Nat)] w (fun v w'=>v=.tuple #[]∧∃ k',k'.K=asideK k.K f∧KLike k k'∧St (fps (wkS g0 k sp vh held)) w w' (wkS g0 k' sp vh held)):=by
 have hS:=St.startM hS0
 obtain ⟨hfl,hfree,hlen,hkd,hspl⟩:=hA
 generalize fps (wkS g0 k sp vh held)=G at hS ⊢
 obtain ⟨sh,fr,sl,sps,hand,vsh,vfr,vsl,vsp⟩:=k
 dsimp only at hfl hfree hlen hkd hspl
 obtain ⟨fm,hfm⟩:=lt_get (l:=fr) (i:=f) (by omega)
 have hrow:=map_get (f:=fmC) hfm
 rw [fmAt_eq hfm] at hfree
 unfold wkS wkB hdA frA slA spA0 at hS
 dsimp only [List.cons_append,List.nil_append] at hS
 obtain ⟨pf,cf,rfl⟩:=hS.rowSlice 2 rfl
 rw [List.length_map] at hS
 obtain ⟨gf,rfl⟩:=hS.rowSome 2 rfl (by omega)
 obtain ⟨psl,csl,rfl⟩:=hS.rowSlice 3 rfl
 rw [List.length_map] at hS
 obtain ⟨psp,csp,rfl⟩:=hS.rowSlice 4 rfl
 rw [List.length_map] at hS
 unfold fmC at hrow
 have hsw:=fun w1 (h:Sl nF w1 2 (.slice psl sl.length csl) (sl.map swC))=>idxSw_fn (p:=fun s:Sw=>decide (s.refs=0)) (k:=98) (caps:=[]) h (fun x _ w' _=>asideF1_fn x w')
 obtain ⟨aT,haT⟩:∃ o,o=asideT (⟨sh,fr,sl,sps,hand,vsh,.slice (some ⟨gf,0,none⟩) fr.length cf,.slice psl sl.length csl,.slice psp sps.length csp⟩:KV).K f:=⟨_,rfl⟩
 have haT2:aT=if fm.dirty then some ((freeS sl).getD 0) else none:=by
  rw [haT]
  unfold asideT KV.K
  dsimp only
  rw [fmAt_eq hfm]
 refine yEn Try.func91 Try.ntmps91 ?_
 repeat' (first|refine yO1 ?_|(refine yM ?_;clear hS;intro g w' hS)|(refine yN ?_;clear hS;intro w' hS))
 rename Nat=>gt
 refine c_varX (F:=G) (w0:=w) (X:=List Sw×Int×Int) (fun _=>[(0,.pointer (some ⟨g0,0,none⟩)),(1,.int .i64 (f:Nat)),(4,.pointer (some ⟨gt,0,none⟩))]) (fun x=>[.blk gt [.int .i64 0,.int .i64 x.2.1,.int .i64 x.2.2],.blk g0 [vsh,.slice (some ⟨gf,0,none⟩) fr.length cf,.slice psl sl.length csl,.slice psp sps.length csp,.int .i64 hand,.int .i64 (sp:Nat),vh],.row 3 1 vh (held.map fun i=>[.int .i64 (i:Nat)]),.row 43 4 (.slice (some ⟨gf,0,none⟩) fr.length cf) (fr.map fmC),.row 45 2 (.slice psl sl.length csl) (x.1.map swC),.row 41 3 (.slice psp sps.length csp) (sps.map spC)]++sps.map enAp) (fun x=>(aT=none∧x=(sl,0,0))∨∃ t:Nat,aT=some t∧t < sl.length∧x=(sl.set t ⟨fm.data,fm.refs⟩,2,((t:Nat):Int))) ?_ ?_
 ·cases hd:fm.dirty with
  |false=>
   rw [hd,if_neg (by simp)] at haT2
   repeat' ((refine yO ?_))
   exact q_varX (sl,0,0) (by exact zS) (Or.inl ⟨haT2,rfl⟩) hS
  |true=>
   obtain ⟨t,ht⟩:=hfree hd
   rw [hd,if_pos rfl,ht] at haT2
   rw [idxI_free ht] at hsw
   obtain ⟨s0,hs0,-⟩:=freeS_some ht
   have htl:=lt_of_getE hs0
   have hrowS:=map_get (f:=swC) hs0
   obtain ⟨gsl,rfl⟩:=hS.rowSome 4 rfl (by omega)
   have est:(sl.map swC).set t (setL (swC s0) 0 [.string ⟨fm.data.toArray⟩,.int .i64 fm.refs])=(sl.set t ⟨fm.data,fm.refs⟩).map swC:=by
    rw [List.map_set]
    exact congrArg (List.set _ _) (setL_sw s0 ⟨fm.data,fm.refs⟩)
   repeat' (first|refine yO ?_|(refine yC ?_;refine ⟨_,hsw _ (hS.rowSl 4 rfl),?_⟩;clear hS;intro w' hS))
   (focus (refine yW (nn 26) ?_;(repeat' ((refine yP ?_)));all_goals (refine yZ ?_;clear hS;intro w' hS)))
   repeat' (first|refine yO ?_|(refine yN ?_;clear hS;intro w' hS)|(refine yT4 ?_;clear hS;intro w' hS))
   rw [est] at hS
   exact q_varX (sl.set t ⟨fm.data,fm.refs⟩,2,((t:Nat):Int)) (by exact zS) (Or.inr ⟨t,haT2,htl,rfl⟩) hS
 clear hS hsw
 rintro ⟨sl',a,b⟩ w1 hp hS
 dsimp only [List.cons_append,List.nil_append] at hp hS
 obtain ⟨T,hT⟩:∃ T:Option Int,T=aT.map fun (t:Nat)=>(t:Int):=⟨_,rfl⟩
 have ht:(T=none∧a=0∧b=0)∨∃ s,T=some s∧a=2∧b=s:=by
  rcases hp with ⟨h1,h2⟩|⟨t,h1,-,h2⟩
  ·cases h2
   rw [h1] at hT
   exact Or.inl ⟨hT,rfl,rfl⟩
  ·cases h2
   rw [h1] at hT
   exact Or.inr ⟨_,hT,rfl,rfl⟩
 have hsl':sl'=slT aT sl ⟨fm.data,fm.refs⟩:=by
  rcases hp with ⟨h1,h2⟩|⟨t,h1,-,h2⟩
  ·cases h2;rw [h1];rfl
  ·cases h2;rw [h1];rfl
 have hsll:sl'.length=sl.length:=by
  rw [hsl']
  cases aT with
  |none=>rfl
  |some t=>exact List.length_set
 clear hp
 repeat' ((refine yO ?_))
 refine c_loopK (F:=G) (w0:=w) (X:=Nat×List Sp) (fun x=>[(59,.int .i64 (x.1:Nat))]) [0,1,4,58] rfl (fun x=>[.blk gt [.int .i64 0,.int .i64 a,.int .i64 b],.blk g0 [vsh,.slice (some ⟨gf,0,none⟩) fr.length cf,.slice psl sl.length csl,.slice psp sps.length csp,.int .i64 hand,.int .i64 (sp:Nat),vh],.row 3 1 vh (held.map fun i=>[.int .i64 (i:Nat)]),.row 43 4 (.slice (some ⟨gf,0,none⟩) fr.length cf) (fr.map fmC),.row 45 2 (.slice psl sl.length csl) (sl'.map swC),.row 41 3 (.slice psp sps.length csp) (x.2.map spC)]++x.2.map enAp) (Γ:=[]) (fun x=>x.1≤sps.length∧x.2.length=sps.length∧∀ (j:Nat) y,sps[j]?=some y→(x.1≤j→x.2[j]?=some y)∧(j < x.1→∃ ve',x.2[j]?=some ⟨asideS (f:Nat) T y.s,y.va,ve'⟩)) (fun x=>sps.length - x.1) (0,sps) (by exact zS) ⟨Nat.zero_le _,rfl,fun j y hy=>⟨fun _=>hy,fun h=>absurd h (Nat.not_lt_zero _)⟩⟩ (by rw [List.append_nil];exact hS) ?_
 clear hS
 rintro ⟨i,SPS⟩ w2 ⟨hi,hSl,hinv⟩ hS
 dsimp only [List.cons_append,List.nil_append] at hi hSl hinv hS ⊢
 rw [List.append_nil] at hS
 by_cases hlt:i < sps.length
 rotate_left
 ·obtain rfl:i=sps.length:=by omega
  repeat' (first|refine yO ?_|(refine yS ?_ ?_;all_goals (intro hb hp;try (exfalso;omega)))|(refine yT3 ?_;clear hS;intro w' hS))
  refine yV0 ?_
  have hfs:(fr.map fmC).set f (setL [.string ⟨fm.data.toArray⟩,.int .i64 fm.refs,.bool fm.dirty,.bool fm.seen] 0 [.string ⟨#[]⟩,.int .i64 0,.bool false,.bool false])=(fr.set f fm0).map fmC:=by
   rw [List.map_set]
   rfl
  rw [hfs] at hS
  have hinv2:∀ (j:Nat) y,sps[j]?=some y→∃ ve',SPS[j]?=some ⟨asideS (f:Nat) T y.s,y.va,ve'⟩:=fun j y hy=>(hinv j y hy).2 (lt_of_getE hy)
  refine ⟨rfl,⟨sh,fr.set f fm0,sl',SPS,hand,vsh,.slice (some ⟨gf,0,none⟩) fr.length cf,.slice psl sl.length csl,.slice psp sps.length csp⟩,?_,⟨rfl,rfl,?_⟩,?_⟩
  ·unfold KV.K asideK
   have h1:SPS.map (·.s)=(sps.map (·.s)).map (asideS (f:Nat) T):=by
    refine List.ext_getElem? fun j=>?_
    rw [List.getElem?_map,List.getElem?_map,List.getElem?_map]
    cases hj:sps[j]? with
    |none=>
     rw [List.getElem?_eq_none_iff] at hj
     rw [List.getElem?_eq_none (by omega)]
     rfl
    |some y=>
     obtain ⟨ve',h⟩:=hinv2 j y hj
     rw [h]
     rfl
   dsimp only
   rw [h1,hsl',hT]
   have h2:asideT (⟨shs sh,fr,sl,sps.map (·.s),hand⟩:Ker) f=aT:=by rw [haT];rfl
   rw [h2,fmAt_eq hfm]
   cases aT <;> rfl
  ·show (SPS.map fun p=>(p.va,p.s.areas))=sps.map fun p=>(p.va,p.s.areas)
   refine List.ext_getElem? fun j=>?_
   rw [List.getElem?_map,List.getElem?_map]
   cases hj:sps[j]? with
   |none=>
    rw [List.getElem?_eq_none_iff] at hj
    rw [List.getElem?_eq_none (by omega)]
   |some y=>
    obtain ⟨ve',h⟩:=hinv2 j y hj
    rw [h]
    rfl
  ·exact hS.drop
 obtain ⟨x,hx0⟩:=lt_get (l:=sps) (i:=i) (by omega)
 have hx:=(hinv i x hx0).1 (Nat.le_refl _)
 have hlx:=hlen x (List.mem_of_getElem? hx0)
 have hkx:=hkd x (List.mem_of_getElem? hx0)
 have hrowi:=map_get (f:=spC) hx
 obtain ⟨gs,rfl⟩:=hS.rowSome 5 rfl (by omega)
 obtain ⟨s,va,ve⟩:=x
 dsimp only at hlx hkx
 unfold spC at hrowi
 dsimp only at hrowi
 replace hS:=hS.pullE 6 hx rfl
 simp only [List.take_succ_cons,List.take_zero,appA] at hS
 unfold enAp at hS
 dsimp only at hS
 obtain ⟨pe,ce,rfl⟩:=hS.rowSlice 0 rfl
 simp only [List.length_map] at hS hx0 hx hrowi
 repeat' (first|refine yO ?_|(refine yS ?_ ?_;all_goals (intro hb hp;try (exfalso;omega)))|((with_reducible apply l_load);exact rfl;(((with_reducible apply Loads.sl tabOk);exact rfl;(exact hS.rowCj 6 rfl hrowi rfl)));exact rfl))
 refine c_loopK (X:=Nat) (fun x=>[(73,.int .i64 (x:Nat))]) [0,1,4,58,59,6,7,72] rfl (fun x=>[.row 55 3 (.slice pe s.entries.length ce) ((((s.entries.take x).map (markE (f:Nat) a b))++s.entries.drop x).map enC)]) (fun x=>x≤s.entries.length) (fun x=>s.entries.length - x) 0 (by exact zS) (Nat.zero_le _) hS ?_
 clear hS
 rintro j w3 hj hS
 dsimp only [List.cons_append,List.nil_append] at hj hS ⊢
 by_cases hjl:j < s.entries.length
 ·obtain ⟨e,he⟩:=lt_get (l:=s.entries) (i:=j) (by omega)
  have hrowj:=map_get (f:=enC) (mark_at (f:=(f:Nat)) (a:=a) (b:=b) he)
  have hstep:=mark_step (f:=(f:Nat)) (a:=a) (b:=b) he
  obtain ⟨ge,hge⟩:=hS.rowSome (p:=pe) (n:=s.entries.length) (cap:=ce) (sz:=3) 0 rfl (by omega)
  subst hge
  unfold enC at hrowj
  by_cases hk:e.kind=1∧e.at_=(f:Nat)
  ·have hd1:decide (e.kind=1)=true:=decide_eq_true hk.1
   have hd2:decide (e.at_=((f:Nat):Int))=true:=decide_eq_true hk.2
   have hm:markE (f:Nat) a b e=⟨e.page,a,b⟩:=by unfold markE;rw [if_pos hk]
   rw [hm] at hstep
   have hst:((((s.entries.take j).map (markE (f:Nat) a b))++s.entries.drop j).map enC).set j (setL [.int .i64 e.page,.int .i64 e.kind,.int .i64 e.at_] 0 [.int .i64 e.page,.int .i64 a,.int .i64 b])=(((s.entries.take (j + 1)).map (markE (f:Nat) a b))++s.entries.drop (j + 1)).map enC:=by
    rw [← hstep,List.map_set]
    exact congrArg (List.set _ _) (setL_en e ⟨e.page,a,b⟩)
   repeat' (first|refine yO ?_|(refine yS ?_ ?_;all_goals (intro hb hp;try (exfalso;omega))))
   (focus (refine yW (nn 13) ?_;(repeat' ((refine yP ?_)));all_goals (refine yZ ?_;clear hS;intro w' hS)))
   repeat' (first|refine yO ?_|(refine yT0 ?_;clear hS;intro w' hS))
   rw [hst] at hS
   exact q_loopK (j + 1) (by exact zS) (by show j + 1≤s.entries.length;omega) hS (by show s.entries.length - (j + 1) < s.entries.length - j;omega)
  ·have hm:markE (f:Nat) a b e=e:=by unfold markE;rw [if_neg hk]
   rw [hm] at hstep
   have hst:((s.entries.take j).map (markE (f:Nat) a b))++s.entries.drop j=((s.entries.take (j + 1)).map (markE (f:Nat) a b))++s.entries.drop (j + 1):=by
    rw [← hstep]
    refine (List.ext_getElem? fun q=>?_).symm
    rw [List.getElem?_set]
    by_cases hq:j=q
    ·subst hq
     rw [if_pos rfl,mark_at he,if_pos (by rw [mark_len];omega)]
    ·rw [if_neg hq]
   by_cases hk1:e.kind=1
   ·have hd1:decide (e.kind=1)=true:=decide_eq_true hk1
    have hd2:decide (e.at_=((f:Nat):Int))=false:=decide_eq_false (fun h=>hk ⟨hk1,h⟩)
    repeat' (first|refine yO ?_|(refine yS ?_ ?_;all_goals (intro hb hp;try (exfalso;omega))))
    rw [hst] at hS
    exact q_loopK (j + 1) (by exact zS) (by show j + 1≤s.entries.length;omega) hS (by show s.entries.length - (j + 1) < s.entries.length - j;omega)
   ·have hd1:decide (e.kind=1)=false:=decide_eq_false hk1
    repeat' (first|refine yO ?_|(refine yS ?_ ?_;all_goals (intro hb hp;try (exfalso;omega))))
    rw [hst] at hS
    exact q_loopK (j + 1) (by exact zS) (by show j + 1≤s.entries.length;omega) hS (by show s.entries.length - (j + 1) < s.entries.length - j;omega)
 ·obtain rfl:j=s.entries.length:=by omega
  rw [List.take_length,List.drop_length,List.append_nil] at hS
  repeat' (first|refine yO ?_|(refine yS ?_ ?_;all_goals (intro hb hp;try (exfalso;omega))))
  replace hS:=hS.reorderT 3 [2,1,0] (by decide) rfl
  simp only [appA,List.drop_succ_cons,List.drop_zero] at hS
  refine c_tillP 2 10 11 rfl hS (by kernel_rfl) ?_
  intro w10 hS'
  clear hS;have hS:=hS';clear hS'
  simp only [List.take_succ_cons,List.take_zero]
  have hH:=hS.sub (List.sublist_append_left [_,_] _)
  (refine xP (nn 0) ?_;refine ⟨Or.inr hH,?_⟩)
  (refine xP (nn 1) ?_;refine ⟨Or.inr hH,?_⟩)
  (refine xP (nn 2) ?_;refine ⟨Or.inr hH,?_⟩)
  (refine xP (nn 3) ?_;refine ⟨Or.inr hH,?_⟩)
  (refine xL (nn 4) ?_;refine ⟨hH,?_⟩)
  (refine xP (nn 5) ?_;refine ⟨Or.inr hH,?_⟩)
  (refine xP (nn 6) ?_;refine ⟨Or.inr hH,?_⟩)
  replace hS:=hS.reorderT 3 [2,0,1] (by decide) rfl
  simp only [appA,List.drop_succ_cons,List.drop_zero] at hS
  have hdel:=delEn_fn (p:=fun e:En=>decide (e.kind=0)) (k:=99) (caps:=[]) (v:=.slice pe s.entries.length ce) (l:=s.entries.map (markE (f:Nat) a b)) hS (fun x _ w' Γ' _=>asideF2_fn x w')
  rw [mark_filter ht hkx] at hdel
  refine t_one (i:=7) (by kernel_rfl) ?_
  refine p_gets rfl (g_call (first:=[]) (caps:=[]) rfl rfl hdel) rfl ?_
  rintro _ w' ⟨q,c,rfl,h2⟩
  replace hS:=St.transM (Θ:=[enA (.slice pe s.entries.length ce) (s.entries.map (markE (f:Nat) a b))]) hS h2
  dsimp only [List.cons_append,List.nil_append] at hS
  clear h2 hdel
  have hH:=hS.drop.sub (List.sublist_append_left [_,_] _)
  refine ⟨Or.inr (Or.inr hH),?_⟩
  ((with_reducible apply t_runs (nn 8));exact rfl;kernel_rfl;kernel_rfl;kernel_rfl;exact rfl;exact (fun _ _ _ h=>h);exact Or.inr hH;(intro a ha;exact r_ix tabOk (j:=i) rfl rfl rfl rfl (by omega) a ha _);exact rfl)
  (refine xP (nn 9) ?_;refine ⟨Or.inr hH,?_⟩)
  refine t_one (i:=10) (by kernel_rfl) ?_
  refine p_gets0 (Φ:=fun _ w'=>St _ _ w' _) rfl (g_storeR hS tabOk (i:=6) (kk:=i) (j:=2) rfl rfl rfl rfl rfl hrowi (celL_eq rfl) rfl (Nat.le_refl _) rfl) ?_
  intro _ w' hS'
  simp only [List.set,setL] at hS'
  clear hS;have hS:=hS';clear hS'
  refine ⟨Or.inl rfl,?_⟩
  refine t_done (by kernel_rfl) ?_
  have hsp1:(SPS.map spC).set i [.bool s.live,va,.slice q (s.entries.filterMap (asideE (f:Nat) T)).length c]=(SPS.set i ⟨asideS (f:Nat) T s,va,.slice q (s.entries.filterMap (asideE (f:Nat) T)).length c⟩).map spC:=by
   rw [List.map_set]
   rfl
  rw [hsp1] at hS
  replace hS:=St.pushE (y:=⟨asideS (f:Nat) T s,va,.slice q (s.entries.filterMap (asideE (f:Nat) T)).length c⟩) hS 6 hx rfl
  simp only [List.take_succ_cons,List.take_zero,appA] at hS
  replace hS:=hS.reorderT 2 [1,0] (by decide) rfl
  simp only [appA,List.drop_succ_cons,List.drop_zero] at hS
  repeat' ((refine yO ?_))
  refine q_loopK (i + 1,SPS.set i ⟨asideS (f:Nat) T s,va,.slice q (s.entries.filterMap (asideE (f:Nat) T)).length c⟩) (by exact zS) ⟨by show i + 1≤sps.length;omega,by show (SPS.set i _).length=_;rw [List.length_set];exact hSl,fun j y hy=>?_⟩ (by rw [List.append_nil];exact hS) (by show sps.length - (i + 1) < sps.length - i;omega)
  obtain ⟨h1,h2⟩:=hinv j y hy
  refine ⟨fun h=>?_,fun h=>?_⟩
  ·show (SPS.set i _)[j]?=some y
   rw [List.getElem?_set_ne (by have:i + 1≤j:=h;omega)]
   exact h1 (by have:i + 1≤j:=h;omega)
  ·show ∃ ve',(SPS.set i _)[j]?=_
   by_cases hij:i=j
   ·subst hij
    rw [hx0] at hy
    cases hy
    exact ⟨_,set_at (by omega)⟩
   ·rw [List.getElem?_set_ne hij]
    exact h2 (by have:j < i + 1:=h;omega)
end Go.Proofs.Ytejnpppejalhfac
/- (*work).frame: a frame that is got. -/
namespace Go.Proofs.Ytejnpppejalhfac
open Go.RowKit Go.Sort
def natC (i:Nat):List Value:=[.int .i64 (i:Nat)]
set_option maxRecDepth 100000 in
set_option maxHeartbeats 8000000 in
theorem indexInt_fn {l:List Nat} {w:World} {v:Value} (hL:Sl nF w 1 v (l.map natC)) (x:Nat):Fn Try.prog 96 [v,.int .i64 (x:Nat)] w (RBf (.int .i64 (idxI (fun y:Nat=>decide (y=x)) l)) w):=by
 have bnd:=hL.bound
 obtain ⟨pp,c,rfl⟩:=hL.len
 refine yEn Try.func96 Try.ntmps96 ?_
 have hS:=St.start w
 repeat' ((refine yO ?_))
 refine c_loopK (X:=Nat) (fun x=>[(8,.int .i64 (x:Nat))]) [0,1,7] rfl (fun _=>[]) (fun i=>i≤l.length∧(l.take i).all (fun y=>!decide (y=x))=true) (fun x=>l.length - x) 0 (by exact zS) (by simp) hS ?_
 clear hS
 rintro i w1 ⟨hi,hall⟩ hS
 dsimp only [List.cons_append,List.nil_append] at hi hall hS ⊢
 by_cases hlt:i < l.length
 ·obtain ⟨y,hy⟩:=lt_get (l:=l) (i:=i) (by omega)
  have hrow:=map_get (f:=natC) hy
  obtain ⟨b,off,rfl,hro⟩:=hL.at_ (i:=i) hlt
  unfold natC at hrow
  by_cases hxy:y=x
  ·have hd:decide ((x:Int)=(y:Int))=true:=decide_eq_true (by omega)
   rw [idxI_hit hall hy (decide_eq_true hxy)]
   repeat' (first|refine yO ?_|(refine yS ?_ ?_;all_goals (intro hb hp;try (exfalso;omega))))
   refine yR1 ?_
   exact ⟨rfl,hS.sub (List.nil_sublist _)⟩
  ·have hd:decide ((x:Int)=(y:Int))=false:=decide_eq_false (by omega)
   repeat' (first|refine yO ?_|(refine yS ?_ ?_;all_goals (intro hb hp;try (exfalso;omega))))
   exact q_loopK (i + 1) (by exact zS) ⟨by show i + 1≤_;omega,all_take_succ hall hy (by simp [hxy])⟩ hS (by show _ - (i + 1) < _ - i;omega)
 ·rw [idxI_miss hall (by omega)]
  repeat' (first|refine yO ?_|(refine yS ?_ ?_;all_goals (intro hb hp;try (exfalso;omega))))
  refine yR1 ?_
  exact ⟨rfl,hS.sub (List.nil_sublist _)⟩
set_option maxRecDepth 100000 in
set_option maxHeartbeats 8000000 in
theorem containsInt_fn {l:List Nat} {w:World} {v:Value} (hL:Sl nF w 1 v (l.map natC)) (x:Nat):Fn Try.prog 90 [v,.int .i64 (x:Nat)] w (RBf (.bool (decide (x ∈ l))) w):=by
 have hi:=fun w1 (h:Sl nF w1 1 v (l.map natC))=>indexInt_fn h x
 have hd:decide (0≤idxI (fun y:Nat=>decide (y=x)) l)=decide (x ∈ l):=by
  rw [idxI_neg,Bool.eq_iff_iff,List.any_eq_true,decide_eq_true_eq]
  constructor
  ·rintro ⟨y,hy,hyx⟩
   obtain rfl:y=x:=by simpa using hyx
   exact hy
  ·exact fun h=>⟨x,h,by simp⟩
 rw [← hd]
 obtain ⟨pp,c,rfl⟩:=hL.len
 refine yEn Try.func90 Try.ntmps90 ?_
 have hS:=St.start w
 repeat' (first|refine yO ?_|(refine yC ?_;refine ⟨_,hi _ (hL.now hS),?_⟩;clear hS;intro w' hS))
 refine yR1 ?_
 exact ⟨rfl,hS.sub (List.nil_sublist _)⟩
structure FrameOk (k:KV) (held:List Nat):Prop where
 hand:0≤k.hand∧k.hand < k.fr.length
 nfr:3≤k.fr.length∧k.fr.length≤64
 held:held.length≤2
 free:freeF k.fr=none→∃ t,freeS k.sl=some t
 len:∀ x ∈ k.sp,x.s.entries.length≤1000
 kind:∀ x ∈ k.sp,∀ e ∈ x.s.entries,e.kind≠0
 sp:k.sp.length≤1000
set_option maxRecDepth 100000 in
set_option maxHeartbeats 8000000 in
theorem wframe_fn {F:Nat→Prop} {w0 w:World} {Γ:List Asr} {g0:Nat} {k:KV} {sp:Nat} {vh:Value} {held:List Nat} (hS0:St F w0 w (wkS g0 k sp vh held++Γ)) (hA:FrameOk k held):Fn Try.prog 83 [.pointer (some ⟨g0,0,none⟩)] w (fun v w'=>v=.int .i64 ((getK k.K held).2:Nat)∧∃ k',k'.K=(getK k.K held).1∧KLike k k'∧St (fps (wkS g0 k sp vh held)) w w' (wkS g0 k' sp vh held)):=by
 have hS:=St.startM hS0
 have hA0:=hA
 obtain ⟨hhand,hnf,hheld,hfree,hlen,hkd,hspl⟩:=hA
 generalize fps (wkS g0 k sp vh held)=G at hS ⊢
 obtain ⟨sh,fr,sl,sps,hand,vsh,vfr,vsl,vsp⟩:=k
 dsimp only at hhand hnf hfree hlen hkd hspl
 unfold wkS wkB hdA frA slA spA0 at hS
 dsimp only [List.cons_append,List.nil_append] at hS
 obtain ⟨pf,cf,rfl⟩:=hS.rowSlice 2 rfl
 simp only [List.length_map] at hS
 obtain ⟨gf,rfl⟩:=hS.rowSome 2 rfl (by omega)
 have hidx:=fun w1 (h:Sl nF w1 4 (.slice (some ⟨gf,0,none⟩) fr.length cf) (fr.map fmC))=>idxFm_fn (p:=fun s:Fm=>decide (s.refs=0)) (k:=89) (caps:=[]) h (fun x _ w' _=>frameF1_fn x w')
 unfold getK
 cases hff:freeF (KV.K ⟨sh,fr,sl,sps,hand,vsh,.slice (some ⟨gf,0,none⟩) (fr.map fmC).length cf,vsl,vsp⟩).frames with
 |some i=>
  have hii:idxI (fun s:Fm=>decide (s.refs=0)) fr=((i:Nat):Int):=by
   unfold idxI
   replace hff:fr.findIdx? (fun s:Fm=>decide (s.refs=0))=some i:=hff
   rw [hff]
  rw [hii] at hidx
  refine yEn Try.func83 Try.ntmps83 ?_
  repeat' (first|refine yO ?_|(refine yC ?_;refine ⟨_,hidx _ (hS.rowSl 2 rfl),?_⟩;clear hS;intro w' hS))
  refine yR1 ?_
  exact ⟨rfl,_,rfl,KLike.refl _,by unfold wkS wkB hdA frA slA spA0;dsimp only;rw [List.length_map];exact hS⟩
 |none=>
  have hii:idxI (fun s:Fm=>decide (s.refs=0)) fr=-1:=by
   unfold idxI
   replace hff:fr.findIdx? (fun s:Fm=>decide (s.refs=0))=none:=hff
   rw [hff]
  rw [hii] at hidx
  dsimp only
  refine yEn Try.func83 Try.ntmps83 ?_
  repeat' (first|refine yO ?_|(refine yC ?_;refine ⟨_,hidx _ (hS.rowSl 2 rfl),?_⟩;clear hS;intro w' hS))
  obtain ⟨h0,rfl⟩:∃ h0:Nat,hand=(h0:Nat):=⟨hand.toNat,by omega⟩
  have hclk:clockK (KV.K ⟨sh,fr,sl,sps,((h0:Nat):Int),vsh,.slice (some ⟨gf,0,none⟩) (fr.map fmC).length cf,vsl,vsp⟩) held=clockF 5000 fr h0 held:=rfl
  rw [hclk]
  generalize hRR:clockF 5000 fr h0 held=R
  refine c_loopK (F:=G) (w0:=w) (X:=Nat×List Fm×Nat) (fun _=>[]) [0] rfl (fun x=>[.blk g0 [vsh,.slice (some ⟨gf,0,none⟩) fr.length cf,vsl,vsp,.int .i64 (x.2.2:Nat),.int .i64 (sp:Nat),vh],.row 3 1 vh (held.map fun i=>[.int .i64 (i:Nat)]),.row 43 4 (.slice (some ⟨gf,0,none⟩) fr.length cf) (x.2.1.map fmC)]) (fun x=>clockF x.1 x.2.1 x.2.2 held=R∧mClock x.2.1 x.2.2 held < x.1∧x.2.2 < fr.length∧x.2.1.length=fr.length) (fun x=>x.1) (5000,fr,h0) (by exact zS) ⟨hRR,mClock_lt hnf.2 _ _,by show h0 < fr.length;omega,rfl⟩ hS ?_
  clear hS hidx
  rintro ⟨n,fr',h⟩ w1 ⟨hcl,hm,hh,hfl⟩ hS
  dsimp only [List.cons_append,List.nil_append] at hcl hm hh hfl hS ⊢
  obtain ⟨m,rfl⟩:∃ m,n=m + 1:=⟨n - 1,by omega⟩
  have hcon:=fun w1 (h':Sl nF w1 1 vh (held.map natC))=>containsInt_fn h' h
  obtain ⟨fm,hfm⟩:=lt_get (l:=fr') (i:=h) (by omega)
  have hrow:=map_get (f:=fmC) hfm
  unfold fmC at hrow
  unfold clockF at hcl
  obtain ⟨pn,cn,hvn⟩:=hS.rowSlice 1 rfl
  by_cases hhl:h ∈ held
  ·rw [if_pos hhl] at hcl
   rw [decide_eq_true hhl] at hcon
   have hdd:=distC_next (n:=fr'.length) (by omega) (by omega) hheld hhl
   by_cases hn:h + 1=fr.length
   ·have hd:decide (((h:Nat):Int) + 1=((fr.length:Nat):Int))=true:=decide_eq_true (by omega)
    have hnx:nextH fr'.length h=0:=by unfold nextH;rw [hfl,if_pos hn]
    rw [hnx] at hcl hdd
    repeat' (first|refine yO ?_|(refine yN ?_;clear hS;intro w' hS))
    (focus (refine yD ?_;(repeat' ((refine yP ?_)));all_goals (refine yZ ?_;clear hS;intro w' hS)))
    repeat' (first|refine yO ?_|(refine yN ?_;clear hS;intro w' hS)|(refine yC ?_;refine ⟨_,hcon _ (hS.rowSl 1 rfl),?_⟩;clear hS;intro w' hS))
    exact q_loopK (m,fr',0) (by exact zS) ⟨hcl,by show mClock fr' 0 held < m;unfold mClock at hm ⊢;omega,by show 0 < fr.length;omega,hfl⟩ hS (by show m < m + 1;omega)
   ·have hd:decide (((h:Nat):Int) + 1=((fr.length:Nat):Int))=false:=decide_eq_false (by omega)
    have hnx:nextH fr'.length h=h + 1:=by unfold nextH;rw [hfl,if_neg hn]
    rw [hnx] at hcl hdd
    repeat' (first|refine yO ?_|(refine yN ?_;clear hS;intro w' hS))
    (focus (refine yD ?_;(repeat' ((refine yP ?_)));all_goals (refine yZ ?_;clear hS;intro w' hS)))
    repeat' (first|refine yO ?_|(refine yC ?_;refine ⟨_,hcon _ (hS.rowSl 1 rfl),?_⟩;clear hS;intro w' hS))
    exact q_loopK (m,fr',h + 1) (by exact zS) ⟨hcl,by show mClock fr' (h + 1) held < m;unfold mClock at hm ⊢;omega,by show h + 1 < fr.length;omega,hfl⟩ hS (by show m < m + 1;omega)
  ·rw [if_neg hhl,fmAt_eq hfm] at hcl
   rw [decide_eq_false hhl] at hcon
   have hdd:=distC_le fr'.length 0 held
   have hdd1:=distC_le fr'.length (h + 1) held
   by_cases hsn:fm.seen=true
   ·rw [if_pos hsn] at hcl
    have hse:=seenN_set (x:=⟨fm.data,fm.refs,fm.dirty,false⟩) hfm hsn rfl
    rw [hsn] at hrow
    have hst:(fr'.map fmC).set h (setL [.string ⟨fm.data.toArray⟩,.int .i64 fm.refs,.bool fm.dirty,.bool true] 3 [.bool false])=(fr'.set h ⟨fm.data,fm.refs,fm.dirty,false⟩).map fmC:=by
     rw [List.map_set]
     rfl
    by_cases hn:h + 1=fr.length
    ·have hd:decide (((h:Nat):Int) + 1=((fr.length:Nat):Int))=true:=decide_eq_true (by omega)
     have hnx:nextH fr'.length h=0:=by unfold nextH;rw [hfl,if_pos hn]
     rw [hnx] at hcl
     repeat' (first|refine yO ?_|(refine yN ?_;clear hS;intro w' hS))
     (focus (refine yD ?_;(repeat' ((refine yP ?_)));all_goals (refine yZ ?_;clear hS;intro w' hS)))
     repeat' (first|refine yO ?_|(refine yN ?_;clear hS;intro w' hS)|(refine yC ?_;refine ⟨_,hcon _ (hS.rowSl 1 rfl),?_⟩;clear hS;intro w' hS)|(refine yT2 ?_;clear hS;intro w' hS))
     rw [hst] at hS
     exact q_loopK (m,fr'.set h ⟨fm.data,fm.refs,fm.dirty,false⟩,0) (by exact zS) ⟨hcl,by show mClock (fr'.set h ⟨fm.data,fm.refs,fm.dirty,false⟩) (0) held < m;unfold mClock at hm ⊢;rw [List.length_set];omega,by show 0 < fr.length;omega,by show (fr'.set h _).length=_;rw [List.length_set];exact hfl⟩ hS (by show m < m + 1;omega)
    ·have hd:decide (((h:Nat):Int) + 1=((fr.length:Nat):Int))=false:=decide_eq_false (by omega)
     have hnx:nextH fr'.length h=h + 1:=by unfold nextH;rw [hfl,if_neg hn]
     rw [hnx] at hcl
     repeat' (first|refine yO ?_|(refine yN ?_;clear hS;intro w' hS))
     (focus (refine yD ?_;(repeat' ((refine yP ?_)));all_goals (refine yZ ?_;clear hS;intro w' hS)))
     repeat' (first|refine yO ?_|(refine yC ?_;refine ⟨_,hcon _ (hS.rowSl 1 rfl),?_⟩;clear hS;intro w' hS)|(refine yT2 ?_;clear hS;intro w' hS))
     rw [hst] at hS
     exact q_loopK (m,fr'.set h ⟨fm.data,fm.refs,fm.dirty,false⟩,h + 1) (by exact zS) ⟨hcl,by show mClock (fr'.set h ⟨fm.data,fm.refs,fm.dirty,false⟩) (h + 1) held < m;unfold mClock at hm ⊢;rw [List.length_set];omega,by show h + 1 < fr.length;omega,by show (fr'.set h _).length=_;rw [List.length_set];exact hfl⟩ hS (by show m < m + 1;omega)
   ·rw [if_neg hsn] at hcl
    have hsf:fm.seen=false:=by simpa using hsn
    rw [hsf] at hrow
    by_cases hn:h + 1=fr.length
    ·have hd:decide (((h:Nat):Int) + 1=((fr.length:Nat):Int))=true:=decide_eq_true (by omega)
     have hnx:nextH fr'.length h=0:=by unfold nextH;rw [hfl,if_pos hn]
     rw [hnx] at hcl
     repeat' (first|refine yO ?_|(refine yN ?_;clear hS;intro w' hS))
     (focus (refine yD ?_;(repeat' ((refine yP ?_)));all_goals (refine yZ ?_;clear hS;intro w' hS)))
     have hall:=fun w2 (h':St G w w2 (wkS g0 ⟨sh,fr',sl,sps,((0:Nat):Int),vsh,.slice (some ⟨gf,0,none⟩) fr.length cf,vsl,vsp⟩ sp vh held))=>waside_fn (Γ:=[]) (by rw [List.append_nil];exact h') (f:=h) ⟨by show h < fr'.length;omega,fun _=>hfree hff,hlen,hkd,hspl⟩
     repeat' (first|refine yO ?_|(refine yN ?_;clear hS;intro w' hS)|(refine yC ?_;refine ⟨_,hcon _ (hS.rowSl 1 rfl),?_⟩;clear hS;intro w' hS)|(refine yL ?_;refine ⟨_,hall _ hS,?_⟩;rintro _ w2 ⟨rfl,k',hk1,hk2,h2⟩))
     refine yR1 ?_
     replace hS:=St.transM (Γ:=[]) (by rw [List.append_nil];exact hS) h2
     rw [List.append_nil] at hS
     rw [← hcl]
     dsimp only
     refine ⟨rfl,k',?_,?_,hS⟩
     ·rw [hk1]
      rfl
     ·exact ⟨hk2.sh,hk2.vsh,hk2.ar⟩
    ·have hd:decide (((h:Nat):Int) + 1=((fr.length:Nat):Int))=false:=decide_eq_false (by omega)
     have hnx:nextH fr'.length h=h + 1:=by unfold nextH;rw [hfl,if_neg hn]
     rw [hnx] at hcl
     repeat' (first|refine yO ?_|(refine yN ?_;clear hS;intro w' hS))
     (focus (refine yD ?_;(repeat' ((refine yP ?_)));all_goals (refine yZ ?_;clear hS;intro w' hS)))
     have hall:=fun w2 (h':St G w w2 (wkS g0 ⟨sh,fr',sl,sps,((h + 1:Nat):Int),vsh,.slice (some ⟨gf,0,none⟩) fr.length cf,vsl,vsp⟩ sp vh held))=>waside_fn (Γ:=[]) (by rw [List.append_nil];exact h') (f:=h) ⟨by show h < fr'.length;omega,fun _=>hfree hff,hlen,hkd,hspl⟩
     repeat' (first|refine yO ?_|(refine yC ?_;refine ⟨_,hcon _ (hS.rowSl 1 rfl),?_⟩;clear hS;intro w' hS)|(refine yL ?_;refine ⟨_,hall _ hS,?_⟩;rintro _ w2 ⟨rfl,k',hk1,hk2,h2⟩))
     refine yR1 ?_
     replace hS:=St.transM (Γ:=[]) (by rw [List.append_nil];exact hS) h2
     rw [List.append_nil] at hS
     rw [← hcl]
     dsimp only
     refine ⟨rfl,k',?_,?_,hS⟩
     ·rw [hk1]
      rfl
     ·exact ⟨hk2.sh,hk2.vsh,hk2.ar⟩
end Go.Proofs.Ytejnpppejalhfac
/- Bytes that are reached, loaded and stored. -/
namespace Go.Proofs.Ytejnpppejalhfac
open Go.RowKit Go.Sort
def Pres (K:Ker) (sp:Nat) (write:Bool) (p:Int):Prop:=∃ f:Nat,entAt (entsOf K sp) p=some ⟨p,1,(f:Nat)⟩∧(write=true→(fmAt K.frames f).refs=1∧(fmAt K.frames f).dirty=true)
theorem reachK_ok {K:Ker} (h:Right K) {sp:Nat} {addr size:Int} (h0:0≤addr) (h1:1≤size) (h2:size≤8) (ha:∀ i,0≤i→i < size→At K sp ((addr + i) / 16)) (write:Bool) :
  Right (reachK K sp addr size write)∧SameP K (reachK K sp addr size write)∧∀ i,0≤i→i < size→Pres (reachK K sp addr size write) sp write ((addr + i) / 16):=by
 have ha1:=ha 0 (by omega) (by omega)
 rw [Int.add_zero] at ha1
 have ha2:=ha (size - 1) (by omega) (by omega)
 rw [show addr + (size - 1)=addr + size - 1 by omega] at ha2
 obtain ⟨b,hb⟩:=bringK_ok h ha1 write (held:=[]) (by simp) (by simp)
 unfold reachK
 generalize bringK K sp (addr / 16) write []=B at b hb ⊢
 by_cases hp:(addr + size - 1) / 16=addr / 16
 ·rw [if_pos hp]
  refine ⟨b.right,b.same,fun i hi1 hi2=>⟨B.2,?_,hb⟩⟩
  rw [show (addr + i) / 16=addr / 16 by omega]
  exact b.ent
 ·rw [if_neg hp]
  obtain ⟨c,hc⟩:=bringK_ok b.right (ha2.same b.same.ar b.same.live) write (held:=[B.2]) (by simp) (fun i hi=>by
   rw [List.mem_singleton] at hi
   subst hi
   exact ⟨addr / 16,by omega,b.ent⟩)
  generalize bringK B.1 sp ((addr + size - 1) / 16) write [B.2]=C at c hc ⊢
  have hk:=c.kept B.2 (by simp) (addr / 16) (by omega) b.ent
  refine ⟨c.right,b.same.trans c.same,fun i hi1 hi2=>?_⟩
  by_cases e:(addr + i) / 16=addr / 16
  ·rw [e]
   exact ⟨B.2,hk.1,fun hw=>by rw [hk.2];exact hb hw⟩
  ·rw [show (addr + i) / 16=(addr + size - 1) / 16 by omega]
   exact ⟨C.2,c.ent,hc⟩
def storeS (K:Ker) (sp:Nat) (a:Int) (c:UInt8):Ker:=match entAt (entsOf K sp) (a / 16) with
 |some e=>setFm K e.at_.toNat ⟨(fmAt K.frames e.at_.toNat).data.set (a % 16).toNat c,(fmAt K.frames e.at_.toNat).refs,(fmAt K.frames e.at_.toNat).dirty,(fmAt K.frames e.at_.toNat).seen⟩
 |none=>K
def storeN (K:Ker) (sp:Nat) (addr:Int) (s:List UInt8):Nat→Ker
 |0=>K
 |n + 1=>storeS (storeN K sp addr s n) sp (addr + (n:Nat)) (s.getD n 0)
def loadN (K:Ker) (sp:Nat) (addr:Int) (n:Nat):List UInt8:=(List.range n).map fun i=>(peekK K sp ((addr + (i:Nat)) / 16)).getD ((addr + (i:Nat)) % 16).toNat 0
theorem alone {K:Ker} (h:Right K) {sp sp':Nat} {p q:Int} {f:Nat} (h1:entAt (entsOf K sp) p=some ⟨p,1,(f:Nat)⟩) (hr:(fmAt K.frames f).refs=1) (h2:entAt (entsOf K sp') q=some ⟨q,1,(f:Nat)⟩):sp'=sp∧q=p:=by
 have hpq:=apart_fm h h1 h2
 subst hpq
 refine ⟨?_,rfl⟩
 apply Classical.byContradiction
 intro hne
 obtain ⟨hfl,-,-⟩:=named_fm h h1
 obtain ⟨-,-,s,hs,hm⟩:=named h h1
 obtain ⟨-,-,s',hs',hm'⟩:=named h h2
 have ho:=(h.fr f _ (List.getElem?_eq_getElem hfl)).refs
 rw [fmAt_eq (List.getElem?_eq_getElem hfl)] at hr
 have hp:=((namers_set (s':=s) hs 1 (f:Nat)).2).length_eq
 rw [List.length_append] at hp
 have n1:nmOf s ⟨p,1,(f:Nat)⟩ ∈ nm1 s 1 (f:Nat):=List.mem_map.2 ⟨_,List.mem_filter.2 ⟨hm,by simp⟩,rfl⟩
 have n2:nmOf s' ⟨p,1,(f:Nat)⟩ ∈ namers (K.spaces.eraseIdx sp) 1 (f:Nat):=by
  rw [namers_flat,List.mem_flatMap]
  exact ⟨s',List.mem_eraseIdx_iff_getElem?.2 ⟨sp',hne,hs'⟩,List.mem_map.2 ⟨_,List.mem_filter.2 ⟨hm',by simp⟩,rfl⟩⟩
 have l1:=List.length_pos_of_mem n1
 have l2:=List.length_pos_of_mem n2
 omega
structure StOk (K K':Ker) (sp:Nat) (a:Int) (c:UInt8):Prop where
 right:Right K'
 sheets:K'.sheets=K.sheets
 spaces:K'.spaces=K.spaces
 slots:K'.slots=K.slots
 hand:K'.hand=K.hand
 nfr:K'.frames.length=K.frames.length
 refs:∀ i,(fmAt K'.frames i).refs=(fmAt K.frames i).refs∧(fmAt K'.frames i).dirty=(fmAt K.frames i).dirty
 peek:∀ i q,peekK K' i q=if i=sp∧q=a / 16 then (peekK K i q).set (a % 16).toNat c else peekK K i q
theorem storeS_ok {K:Ker} (h:Right K) {sp:Nat} {a:Int} (hp:Pres K sp true (a / 16)) (c:UInt8):StOk K (storeS K sp a c) sp a c:=by
 obtain ⟨f,he,hw⟩:=hp
 obtain ⟨hr,hd⟩:=hw rfl
 obtain ⟨hfl,-,hlen⟩:=named_fm h he
 unfold storeS
 rw [he]
 show StOk K (setFm K f ⟨(fmAt K.frames f).data.set (a % 16).toNat c,(fmAt K.frames f).refs,(fmAt K.frames f).dirty,(fmAt K.frames f).seen⟩) sp a c
 have hset:∀ j,fmAt (setFm K f ⟨(fmAt K.frames f).data.set (a % 16).toNat c,(fmAt K.frames f).refs,(fmAt K.frames f).dirty,(fmAt K.frames f).seen⟩).frames j=if j=f then ⟨(fmAt K.frames f).data.set (a % 16).toNat c,(fmAt K.frames f).refs,(fmAt K.frames f).dirty,(fmAt K.frames f).seen⟩ else fmAt K.frames j:=fun j=>by
  unfold setFm
  dsimp only
  rw [fmAt_set]
  by_cases e:f=j
  ·subst e;rw [if_pos ⟨rfl,hfl⟩,if_pos rfl]
  ·rw [if_neg (fun hh=>e hh.1),if_neg (fun hh=>e hh.symm)]
 generalize hKe:setFm K f ⟨(fmAt K.frames f).data.set (a % 16).toNat c,(fmAt K.frames f).refs,(fmAt K.frames f).dirty,(fmAt K.frames f).seen⟩=K' at hset
 have e1:K'.sheets=K.sheets:=by rw [← hKe];rfl
 have e2:K'.spaces=K.spaces:=by rw [← hKe];rfl
 have e3:K'.slots=K.slots:=by rw [← hKe];rfl
 have e4:K'.hand=K.hand:=by rw [← hKe];rfl
 have e5:K'.frames.length=K.frames.length:=by rw [← hKe];unfold setFm;simp
 have hent:∀ i q,entAt (entsOf K' i) q=entAt (entsOf K i) q:=fun i q=>by unfold entsOf scAt;rw [e2]
 have hc:=h.cnt
 have hh:=h.hand
 have hsp:=h.spaces
 refine ⟨⟨by rw [e1,e2,e3,e5];exact hc,by rw [e1];exact h.rise,by rw [e4,e5];exact hh,fun s hs=>by rw [e1,e3,e5];rw [e2] at hs;exact hsp s hs,by rw [e2,e3];exact h.room,fun i g hg=>?_,by rw [e2,e3];exact h.sl⟩,e1,e2,e3,e4,e5,fun i=>?_,fun i q=>?_⟩
 ·have hil:i < K.frames.length:=by have:=lt_of_getE hg;omega
  have hgi:=List.getElem?_eq_getElem hil
  have hge:=hset i
  rw [fmAt_eq hg] at hge
  have ho:=h.fr i _ hgi
  rw [e1,e2]
  by_cases e:i=f
  ·subst e
   rw [if_pos rfl] at hge
   rw [fmAt_eq hgi] at hge hr hd
   rw [hge]
   refine ⟨ho.refs,fun e0=>?_,fun hne=>?_,ho.same,fun n hn=>Or.inl hd⟩
   ·exfalso
    have:=ho.refs
    rw [show namers K.spaces 1 (i:Nat)=[] from e0,hr] at this
    cases this
   ·show ((K.frames[i]'hil).data.set _ c).length=16
    rw [List.length_set]
    exact ho.len hne
  ·rw [if_neg e,fmAt_eq hgi] at hge
   rw [hge]
   exact ho
 ·rw [hset]
  by_cases e:i=f
  ·subst e;rw [if_pos rfl];exact ⟨rfl,rfl⟩
  ·rw [if_neg e];exact ⟨rfl,rfl⟩
 ·have hfill:fillAt K' i q=fillAt K i q:=fillAt_same (hs:=e1) (ha:=by unfold areasOf scAt;rw [e2]) q
  by_cases e:i=sp∧q=a / 16
  ·obtain ⟨rfl,rfl⟩:=e
   rw [if_pos ⟨rfl,rfl⟩]
   unfold peekK
   rw [hent,he]
   show dataE K' ⟨a / 16,1,(f:Nat)⟩=(dataE K ⟨a / 16,1,(f:Nat)⟩).set _ c
   unfold dataE
   rw [if_pos rfl,if_pos rfl]
   show (fmAt K'.frames f).data=(fmAt K.frames f).data.set _ c
   rw [hset,if_pos rfl]
  ·rw [if_neg e]
   unfold peekK
   rw [hent,hfill]
   cases hx:entAt (entsOf K i) q with
   |none=>rfl
   |some x=>
    show dataE K' x=dataE K x
    obtain ⟨hxp,hn,-⟩:=named h hx
    unfold dataE
    rcases hn with ⟨hk,j,hj,-,-,-⟩|⟨hk,-⟩
    ·rw [if_pos hk,if_pos hk,hj]
     show (fmAt K'.frames j).data=(fmAt K.frames j).data
     rw [hset,if_neg]
     rintro rfl
     refine e (alone h he hr ?_)
     rw [hx]
     cases x
     dsimp only at hk hj hxp
     subst hk hj hxp
     rfl
    ·rw [if_neg (by omega),if_neg (by omega),e3]
theorem Pres.of_st {K K':Ker} {sp:Nat} {a:Int} {c:UInt8} (h:StOk K K' sp a c) {p:Int} (hp:Pres K sp true p):Pres K' sp true p:=by
 obtain ⟨f,he,hw⟩:=hp
 refine ⟨f,?_,fun hh=>?_⟩
 ·unfold entsOf scAt at he ⊢
  rw [h.spaces]
  exact he
 ·rw [(h.refs f).1,(h.refs f).2]
  exact hw hh
structure StNOk (K K':Ker) (sp:Nat) (addr:Int) (s:List UInt8) (n:Nat):Prop where
 right:Right K'
 sheets:K'.sheets=K.sheets
 spaces:K'.spaces=K.spaces
 slots:K'.slots=K.slots
 hand:K'.hand=K.hand
 nfr:K'.frames.length=K.frames.length
 pres:∀ p,Pres K sp true p→Pres K' sp true p
 len:∀ i q,(peekK K' i q).length=(peekK K i q).length
 peek:∀ i q (j:Nat),(peekK K' i q)[j]?=if i=sp∧addr≤q * 16 + j∧q * 16 + j < addr + (n:Nat)∧j < 16∧j < (peekK K i q).length then s[(q * 16 + j - addr).toNat]? else (peekK K i q)[j]?
theorem storeN_ok {K:Ker} (h:Right K) {sp:Nat} {addr:Int} {s:List UInt8} (h0:0≤addr) (hp:∀ i:Nat,i < s.length→Pres K sp true ((addr + (i:Nat)) / 16)):∀ (n:Nat),n≤s.length→StNOk K (storeN K sp addr s n) sp addr s n
 |0,_=>⟨h,rfl,rfl,rfl,rfl,rfl,fun _ hp=>hp,fun _ _=>rfl,fun i q j=>by rw [if_neg];rfl;omega⟩
 |n + 1,hn=>by
  have ih:=storeN_ok h h0 hp n (by omega)
  have hst:=storeS_ok ih.right (a:=addr + (n:Nat)) (ih.pres _ (hp n (by omega))) (s.getD n 0)
  show StNOk K (storeS (storeN K sp addr s n) sp (addr + (n:Nat)) (s.getD n 0)) sp addr s (n + 1)
  have hlen:∀ i q,(peekK (storeS (storeN K sp addr s n) sp (addr + (n:Nat)) (s.getD n 0)) i q).length=(peekK K i q).length:=fun i q=>by
   rw [hst.peek,← ih.len i q]
   split <;> simp
  refine ⟨hst.right,hst.sheets.trans ih.sheets,hst.spaces.trans ih.spaces,hst.slots.trans ih.slots,hst.hand.trans ih.hand,hst.nfr.trans ih.nfr,fun p hp'=>(ih.pres p hp').of_st hst,hlen,fun i q j=>?_⟩
  rw [hst.peek]
  have hihp:=ih.peek i q j
  have hle:=ih.len i q
  have hsn:s[n]?=some (s.getD n 0):=by rw [List.getD_eq_getElem?_getD,List.getElem?_eq_getElem (by omega)];rfl
  by_cases e:i=sp∧q=(addr + (n:Nat)) / 16
  ·rw [if_pos e,List.getElem?_set]
   by_cases e2:((addr + (n:Nat)) % 16).toNat=j
   ·rw [if_pos e2]
    by_cases e3:((addr + (n:Nat)) % 16).toNat < (peekK (storeN K sp addr s n) i q).length
    ·rw [if_pos e3,if_pos ⟨e.1,by omega,by omega,by omega,by omega⟩,show (q * 16 + (j:Nat) - addr).toNat=n by omega,hsn]
    ·rw [if_neg e3,if_neg (by omega)]
     rw [List.getElem?_eq_none (by omega)]
   ·rw [if_neg e2,hihp]
    by_cases e4:i=sp∧addr≤q * 16 + (j:Nat)∧q * 16 + (j:Nat) < addr + (n:Nat)∧j < 16∧j < (peekK K i q).length
    ·rw [if_pos e4,if_pos ⟨e4.1,e4.2.1,by omega,e4.2.2.2⟩]
    ·rw [if_neg e4,if_neg]
     rintro ⟨f1,f2,f3,f4,f5⟩
     refine e4 ⟨f1,f2,?_,f4,f5⟩
     omega
  ·rw [if_neg e,hihp]
   by_cases e4:i=sp∧addr≤q * 16 + (j:Nat)∧q * 16 + (j:Nat) < addr + (n:Nat)∧j < 16∧j < (peekK K i q).length
   ·rw [if_pos e4,if_pos ⟨e4.1,e4.2.1,by omega,e4.2.2.2⟩]
   ·rw [if_neg e4,if_neg]
    rintro ⟨f1,f2,f3,f4,f5⟩
    by_cases e5:q=(addr + (n:Nat)) / 16
    ·exact e ⟨f1,e5⟩
    ·refine e4 ⟨f1,f2,?_,f4,f5⟩
     omega
end Go.Proofs.Ytejnpppejalhfac
/- What the steps of a kernel at work want, out of its being right. -/
namespace Go.Proofs.Ytejnpppejalhfac
open Go.RowKit Go.Sort
theorem kv_sp {k:KV} {sp:Nat} {x:Sp} (h:k.sp[sp]?=some x):k.K.spaces[sp]?=some x.s:=by
 show (k.sp.map (·.s))[sp]?=_
 rw [List.getElem?_map,h]
 rfl
theorem kv_at {k:KV} {sp:Nat} {page:Int} (h:At k.K sp page):∃ x,k.sp[sp]?=some x∧x.s.live=true∧(findA x.s.areas page).isSome=true∧entsOf k.K sp=x.s.entries∧areasOf k.K sp=x.s.areas:=by
 obtain ⟨s,hs,h1,h2⟩:=h.sc
 have:(k.sp.map (·.s))[sp]?=some s:=hs
 rw [List.getElem?_map] at this
 obtain ⟨x,hx,rfl⟩:=Option.map_eq_some_iff.1 this
 refine ⟨x,hx,h1,h2,?_,?_⟩
 ·unfold entsOf;rw [scAt_eq hs]
 ·unfold areasOf;rw [scAt_eq hs]
theorem right_bd {K:Ker} (h:Right K):∀ s ∈ K.spaces,ScOk K.sheets K.frames.length K.slots.length s∧s.entries.length≤255:=fun s hs=>⟨scOk_iff.1 (h.spaces s hs),(space_len (h.spaces s hs)).1⟩
theorem page_bd {A:List Ar} (hc:checkI A=0) {p:Int} (h:(findA A p).isSome=true):1≤p∧p≤255:=by
 obtain ⟨a,ha⟩:=Option.isSome_iff_exists.1 h
 have h1:=(good_pos hc ha).1
 have h2:=(good_pos hc ha).2
 have h3:=List.find?_some ha
 unfold holdsB Ar.fin at h3
 rw [decide_eq_true_eq] at h3
 unfold Ar.ok at h1
 omega
theorem pgBd_of {sh:List Sh} {nf ns:Int} {s:Sc} (h:ScOk sh nf ns s) {page:Int} (hp:-1000000≤page∧page≤1000000):PgBd s.entries page:=fun q hq=>by
 obtain ⟨e,he,rfl⟩:=List.mem_map.1 hq
 have:=page_bd h.ar (h.ents e he).1
 omega
theorem refs_bd {K:Ker} (h:Right K):(∀ f ∈ K.frames,0≤f.refs∧f.refs≤100000)∧∀ f ∈ K.slots,0≤f.refs∧f.refs≤100000:=by
 have hb:=spaces_bd (L:=K.spaces) (List.all_eq_true.2 h.spaces)
 have hc:=h.cnt
 have hl:∀ k (i:Nat),(namers K.spaces k (i:Nat)).length≤2000:=fun k i=>by
  rw [← allNm_filter]
  have:=List.length_filter_le (fun (n:Nm)=>decide (n.1.kind=k∧n.1.at_=((i:Nat):Int))) (allNm K.spaces)
  omega
 constructor
 ·intro f hf
  obtain ⟨i,hi⟩:=List.mem_iff_getElem?.1 hf
  rw [(h.fr i f hi).refs]
  have:=hl 1 i
  omega
 ·intro f hf
  obtain ⟨i,hi⟩:=List.mem_iff_getElem?.1 hf
  rw [(h.sl i f hi).refs]
  have:=hl 2 i
  omega
theorem entOk_of {k:KV} (h:Right k.K) {sp:Nat} {x:Sp} (hx:k.sp[sp]?=some x) {e:En} (he:e ∈ x.s.entries):EntOk k e:=by
 refine ⟨?_,(refs_bd h).1,(refs_bd h).2⟩
 rcases (h.ent (kv_sp hx) he).2 with ⟨a,b⟩|⟨a,b⟩
 ·exact Or.inl ⟨a,b⟩
 ·exact Or.inr ⟨by omega,b⟩
theorem frameOk_of {k:KV} (h:Right k.K) {held:List Nat} (hl:held.length≤2):FrameOk k held:=by
 have hc:=h.cnt
 have hsp:k.sp.length≤4:=by
  have:k.K.spaces.length=k.sp.length:=List.length_map _
  omega
 have hmem:∀ x ∈ k.sp,x.s ∈ k.K.spaces:=fun x hx=>List.mem_map.2 ⟨x,hx,rfl⟩
 refine ⟨h.hand,⟨hc.1,hc.2.1⟩,hl,fun hf=>?_,fun x hx=>?_,fun x hx e he=>?_,by omega⟩
 ·have h0:0 < k.K.frames.length:=by omega
  refine free_slot h h0 ?_
  rw [fmAt_eq (List.getElem?_eq_getElem h0)]
  exact freeF_none hf _ (List.getElem_mem h0)
 ·have:=(right_bd h x.s (hmem x hx)).2
  omega
 ·have:=((right_bd h x.s (hmem x hx)).1.ents e he).2
  omega
end Go.Proofs.Ytejnpppejalhfac
/- (*work).bring: a page that is brought. -/
namespace Go.Proofs.Ytejnpppejalhfac
open Go.RowKit Go.Sort
theorem Sl.cel {w:World} {sz b off n c:Nat} {rows:List (List Value)} (h:Sl nF w sz (.slice (some ⟨b,off,none⟩) n c) rows) {k j:Nat} {r:List Value} {u:Value} (hk:rows[k]?=some r) (hj:r[j]?=some u):w.cell? ⟨b,off + k * sz + j,none⟩=some u:=h.rng hk j u hj
theorem Sl.cel0 {w:World} {sz b off n c:Nat} {rows:List (List Value)} (h:Sl nF w sz (.slice (some ⟨b,off,none⟩) n c) rows) {k:Nat} {r:List Value} {u:Value} (hk:rows[k]?=some r) (hj:r[0]?=some u):w.cell? ⟨b,off + k * sz,none⟩=some u:=h.rng hk 0 u hj
theorem Sl.form1 {w:World} {sz:Nat} {α:Type} {f:α→List Value} {l:List α} {v:Value} {i:Nat} {x:α} (h:Sl nF w sz v (l.map f)) (hx:l[i]?=some x):∃ b off c,v=.slice (some ⟨b,off,none⟩) l.length c:=by
 obtain ⟨p,c,rfl⟩:=h.len
 obtain ⟨b,off,rfl,-⟩:=h.at_ (lt_of_getE hx)
 exact ⟨b,off,c,rfl⟩
theorem set_self {α:Type} {l:List α} {i:Nat} {x:α} (h:l[i]?=some x):l.set i x=l:=by
 refine List.ext_getElem? fun j=>?_
 rw [List.getElem?_set]
 by_cases e:i=j
 ·subst e
  rw [if_pos rfl,if_pos (lt_of_getE h),h]
 ·rw [if_neg e]
theorem entV_of {x:Sp} {page:Int} (hr:Rises (pagesE x.s.entries)) {w:World} (hL:Sl nF w 3 x.ve (x.s.entries.map enC)):∃ pt is,entV x page=.tuple #[pt,.bool is]∧((is=false∧pt=.pointer none∧entAt x.s.entries page=none)∨(is=true∧∃ (e:En) (b off c i:Nat),entAt x.s.entries page=some e∧x.ve=.slice (some ⟨b,off,none⟩) x.s.entries.length c∧x.s.entries[i]?=some e∧pt=.pointer (some ⟨b,off + i * 3,none⟩))):=by
 unfold entV
 cases he:entAt x.s.entries page with
 |none=>
  rw [if_neg (entAt_none.1 he)]
  exact ⟨_,_,rfl,Or.inl ⟨rfl,rfl,rfl⟩⟩
 |some e=>
  obtain ⟨hem,hep⟩:=entAt_mem he
  have hm:page ∈ pagesE x.s.entries:=List.mem_map.2 ⟨e,hem,hep⟩
  rw [if_pos hm]
  have hat:=(lbd_find hr page).2 hm
  unfold pagesE at hat
  rw [List.getElem?_map] at hat
  obtain ⟨y,hy,hyp⟩:=Option.map_eq_some_iff.1 hat
  have h1:=entAt_of hr (List.mem_of_getElem? hy)
  rw [hyp,he] at h1
  cases h1
  obtain ⟨b,off,c,hve⟩:=hL.form1 hy
  refine ⟨_,_,rfl,Or.inr ⟨rfl,e,b,off,c,_,rfl,hve,hy,?_⟩⟩
  rw [hve]
  rfl
theorem layIn_fn {F:Nat→Prop} {w0 w:World} {Γ:List Asr} {g0:Nat} {k k1:KV} {sp:Nat} {vh:Value} {held hd:List Nat} (hS0:St F w0 w (wkS g0 k1 sp vh held++Γ)) (hR:KRo F w0 k1) {page:Int} {f:Nat} {data:List UInt8} {dirty:Bool} {r:Ker×Nat} (e1:k1.K=r.1) (hf:f=r.2) (hg:GotOk k.K hd r) (ha:At k.K sp page) :
  Fn Try.prog 82 [.pointer (some ⟨g0,0,none⟩),.int .i64 page,.int .i64 (f:Nat),.string ⟨data.toArray⟩,.bool dirty] w (fun v w'=>v=.tuple #[]∧∃ k',k'.K=inK r.1 sp page f data dirty∧KLike k1 k'∧St (fps (wkS g0 k1 sp vh held)) w w' (wkS g0 k' sp vh held)):=by
 have ha1:At k1.K sp page:=by rw [e1];exact ha.same hg.same.ar hg.same.live
 have hr1:Right k1.K:=by rw [e1];exact hg.right
 obtain ⟨x,hx,hxl,hxa,hxe,hxr⟩:=kv_at ha1
 obtain ⟨hsc,hel⟩:=right_bd hr1 x.s (List.mem_of_getElem? (kv_sp hx))
 have hpg:=page_bd hsc.ar hxa
 have hlt:=hg.lt
 rw [← hg.same.nfr,← e1,← hf] at hlt
 rw [← e1]
 exact win_fn hS0 (hR.nowM hS0) hx hlt hsc.rises (pgBd_of hsc (by omega)) (by omega) (fun e he=>entOk_of hr1 hx (entAt_mem he).1)
set_option maxRecDepth 100000 in
set_option maxHeartbeats 8000000 in
theorem wbring_fn {F:Nat→Prop} {w0 w:World} {Γ:List Asr} {g0:Nat} {k:KV} {sp:Nat} {vh:Value} {held:List Nat} (hS0:St F w0 w (wkS g0 k sp vh held++Γ)) (hR0:KRo (fps (wkS g0 k sp vh held)) w k) (hr:Right k.K) {page:Int} (ha:At k.K sp page) (write:Bool) (hl:held.length≤1) (hh:∀ i ∈ held,∃ p,p≠page∧entAt (entsOf k.K sp) p=some ⟨p,1,(i:Nat)⟩):Fn Try.prog 66 [.pointer (some ⟨g0,0,none⟩),.int .i64 page,.bool write] w (fun v w'=>v=.tuple #[]∧∃ k' vh',k'.K=(bringK k.K sp page write held).1∧KLike k k'∧St (fps (wkS g0 k sp vh held)) w w' (wkS g0 k' sp vh' (held++[(bringK k.K sp page write held).2]))):=by
 have hS:=St.startM hS0
 have hR:=hR0
 generalize fps (wkS g0 k sp vh held)=G at hS hR ⊢
 clear hR0 hS0
 rw [← List.append_nil (wkS g0 k sp vh held)] at hS
 obtain ⟨x,hx,hxl,hxa,hxe,hxr⟩:=kv_at ha
 obtain ⟨hsc,hel⟩:=right_bd hr x.s (List.mem_of_getElem? (kv_sp hx))
 have hpg:=page_bd hsc.ar hxa
 have hbA:=bringA_ok hr ha hl hh
 unfold bringK bringAB
 obtain ⟨A,hA⟩:∃ A,A=bringA k.K sp page held:=⟨_,rfl⟩
 rw [← hA] at hbA ⊢
 have hV0:=WkV.of hS hR
 have hxm:=List.mem_of_getElem? hx
 have hxv:=hV0.ker.spv x hxm
 obtain ⟨bs,os,cs,hvsp⟩:=hV0.ker.sp.form1 hx
 obtain ⟨f0,hf0⟩:∃ f0,k.fr[0]?=some f0:=lt_get (by have:=hr.cnt.1;have h9:k.K.frames.length=k.fr.length:=rfl;omega)
 obtain ⟨bf,of_,cf,hvfr⟩:=hV0.ker.fr.form1 hf0
 obtain ⟨psl,csl,hvsl⟩:=hV0.ker.sl.len
 obtain ⟨sh,fr,sl,sps,hand,vsh,vfr,vsl,vsp⟩:=k
 dsimp only at hvsp hvfr hvsl hx hxm hf0
 subst hvsp hvfr hvsl
 have hrowS:=map_get (f:=spC) hx
 have hspc:=fun w1 Γ1 (h:St G w w1 (wkS g0 ⟨sh,fr,sl,sps,hand,vsh,.slice (some ⟨bf,of_,none⟩) fr.length cf,.slice psl sl.length csl,.slice (some ⟨bs,os,none⟩) sps.length cs⟩ sp vh held++Γ1))=>wspace_fn (WkV.of h hR) (lt_of_getE hx)
 have hent:=fun w1 Γ1 (h:St G w w1 (wkS g0 ⟨sh,fr,sl,sps,hand,vsh,.slice (some ⟨bf,of_,none⟩) fr.length cf,.slice psl sl.length csl,.slice (some ⟨bs,os,none⟩) sps.length cs⟩ sp vh held++Γ1))=>wentry_fn (WkV.of h hR) hx page hsc.rises (pgBd_of hsc (by omega))
 have hspV:=fun w1 Γ1 (h:St G w w1 (wkS g0 ⟨sh,fr,sl,sps,hand,vsh,.slice (some ⟨bf,of_,none⟩) fr.length cf,.slice psl sl.length csl,.slice (some ⟨bs,os,none⟩) sps.length cs⟩ sp vh held++Γ1))=>(WkV.of h hR).ker.sp
 have hfnd:=fun w1 Γ1 (h:St G w w1 (wkS g0 ⟨sh,fr,sl,sps,hand,vsh,.slice (some ⟨bf,of_,none⟩) fr.length cf,.slice psl sl.length csl,.slice (some ⟨bs,os,none⟩) sps.length cs⟩ sp vh held++Γ1))=>Find_fn page ((WkV.of h hR).ker.spv x hxm).ar
 unfold elemP at hspc
 dsimp only at hspc hspV
 obtain ⟨a,hfa⟩:=Option.isSome_iff_exists.1 hxa
 rw [findI_good hsc.ar,hfa] at hfnd
 unfold FindV at hfnd
 dsimp only [Option.getD,Option.isSome] at hfnd
 unfold arC at hfnd
 unfold spC at hrowS
 obtain ⟨pt,is,hEV,hcase⟩:=entV_of (page:=page) hsc.rises hxv.en
 rw [hEV] at hent
 have hfo:=frameOk_of hr (held:=held) (by omega)
 refine yEn Try.func66 Try.ntmps66 ?_
 repeat' (first|refine yOB ?_|(refine yM ?_;clear hS;intro g w' hS)|(refine yN ?_;clear hS;intro w' hS)|(refine yC ?_;refine ⟨_,hspc _ _ hS,?_⟩;clear hS;intro w' hS)|(refine yC1 ?_;refine ⟨_,(hspV _ _ hS).cel hrowS rfl,?_⟩)|(refine yC ?_;refine ⟨_,hfnd _ _ hS,?_⟩;clear hS;intro w' hS)|(refine yC ?_;refine ⟨_,hent _ _ hS.drop,?_⟩;clear hS;intro w' hS))
 rename Nat=>g6
 refine c_varX (F:=G) (w0:=w) (X:=KV) (fun _=>[(0,.pointer (some ⟨g0,0,none⟩)),(1,.int .i64 page),(2,.bool write)]) (fun k'=>wkS g0 k' sp vh held) (fun k'=>k'.K=A.1∧KLike ⟨sh,fr,sl,sps,hand,vsh,.slice (some ⟨bf,of_,none⟩) fr.length cf,.slice psl sl.length csl,.slice (some ⟨bs,os,none⟩) sps.length cs⟩ k') ?_ ?_
 ·rcases hcase with ⟨rfl,rfl,he⟩|⟨rfl,e,b,off,c,i,he,hve,hei,rfl⟩
  ·obtain ⟨d,d1,d2,d3⟩:=fill_len hr ha
   have hz:zAt (KV.K ⟨sh,fr,sl,sps,hand,vsh,.slice (some ⟨bf,of_,none⟩) fr.length cf,.slice psl sl.length csl,.slice (some ⟨bs,os,none⟩) sps.length cs⟩) sp page=a.z:=by unfold zAt;rw [hxr,hfa];rfl
   rw [hz] at d1
   have hfil:=fun w1 Γ1 (h:St G w w1 (wkS g0 ⟨sh,fr,sl,sps,hand,vsh,.slice (some ⟨bf,of_,none⟩) fr.length cf,.slice psl sl.length csl,.slice (some ⟨bs,os,none⟩) sps.length cs⟩ sp vh held++Γ1))=>filling_fn (F:=nF) (a:=a) (p:=page) (WkV.of h hR).c0 (WkV.of h hR).ker.sh hr.rise (by omega)
   have hdd:fillP (shs sh) a.z page=some d:=d1
   rw [hdd] at hfil
   unfold fillV at hfil
   dsimp only [Option.getD,Option.isSome] at hfil
   unfold arC at hfil
   have hAe:A=(inK (getK (KV.K ⟨sh,fr,sl,sps,hand,vsh,.slice (some ⟨bf,of_,none⟩) fr.length cf,.slice psl sl.length csl,.slice (some ⟨bs,os,none⟩) sps.length cs⟩) held).1 sp page (getK (KV.K ⟨sh,fr,sl,sps,hand,vsh,.slice (some ⟨bf,of_,none⟩) fr.length cf,.slice psl sl.length csl,.slice (some ⟨bs,os,none⟩) sps.length cs⟩) held).2 d false,(getK (KV.K ⟨sh,fr,sl,sps,hand,vsh,.slice (some ⟨bf,of_,none⟩) fr.length cf,.slice psl sl.length csl,.slice (some ⟨bs,os,none⟩) sps.length cs⟩) held).2):=by
    rw [hA]
    unfold bringA
    rw [hxe,he,d3]
   repeat' ((refine yO ?_))
   (focus (refine yD ?_;(repeat' (first|refine yP ?_|(refine yF ?_;refine ⟨_,fun wd hd=>hfil _ _ hd.drop,?_⟩)));all_goals (refine yZ ?_;clear hS;intro w' hS)))
   replace hS:=hS.perm List.perm_middle.symm
   have hg:=getK_ok hr (held:=held) (by omega)
   have hin:=fun w1 k1 Γ1 (h:St G w w1 (wkS g0 k1 sp vh held++Γ1)) (e1:k1.K=(getK (KV.K ⟨sh,fr,sl,sps,hand,vsh,.slice (some ⟨bf,of_,none⟩) fr.length cf,.slice psl sl.length csl,.slice (some ⟨bs,os,none⟩) sps.length cs⟩) held).1) (l1:KLike ⟨sh,fr,sl,sps,hand,vsh,.slice (some ⟨bf,of_,none⟩) fr.length cf,.slice psl sl.length csl,.slice (some ⟨bs,os,none⟩) sps.length cs⟩ k1)=>layIn_fn h (hR.like l1) (page:=page) (f:=(getK (KV.K ⟨sh,fr,sl,sps,hand,vsh,.slice (some ⟨bf,of_,none⟩) fr.length cf,.slice psl sl.length csl,.slice (some ⟨bs,os,none⟩) sps.length cs⟩) held).2) (data:=d) (dirty:=false) e1 rfl hg ha
   repeat' (first|refine yO ?_|(refine yL ?_;refine ⟨_,wframe_fn hS hfo,?_⟩;rintro _ w2 ⟨rfl,k1,e1,l1,h2⟩;(replace hS:=St.transM hS h2);clear h2))
   repeat' (first|refine yO ?_|(refine yL ?_;refine ⟨_,hin _ _ _ hS e1 l1,?_⟩;rintro _ w3 ⟨rfl,k2,e2,l2,h2⟩;(replace hS:=St.transM hS h2);clear h2))
   exact q_varX k2 (by exact zS) ⟨by rw [hAe];exact e2,l1.trans l2⟩ (hS.sub (List.sublist_append_left _ _))
  ·obtain ⟨hep,hnm,-⟩:=named hr (sp:=sp) (p:=page) (e:=e) (by rw [hxe];exact he)
   have hrowE:=map_get (f:=enC) hei
   have hentV:=fun w1 Γ1 (h:St G w w1 (wkS g0 ⟨sh,fr,sl,sps,hand,vsh,.slice (some ⟨bf,of_,none⟩) fr.length cf,.slice psl sl.length csl,.slice (some ⟨bs,os,none⟩) sps.length cs⟩ sp vh held++Γ1))=>((WkV.of h hR).ker.spv x hxm).en
   rw [hve] at hentV
   unfold enC at hrowE
   by_cases hk:e.kind=2
   ·have hd2:decide (e.kind=2)=true:=decide_eq_true hk
    rcases hnm with ⟨hk1,-⟩|⟨-,j,hj,hjl,hjr,hjd⟩
    ·omega
    have hjl':j < sl.length:=hjl
    obtain ⟨s1,hs1⟩:=lt_get (l:=sl) (i:=j) (by omega)
    have hrowL:=map_get (f:=swC) hs1
    obtain ⟨bl,ol,cl,hfl⟩:=hV0.ker.sl.form1 hs1
    injection hfl with hfl1 hfl2 hfl3
    subst hfl1
    have hslV:=fun w1 Γ1 (h:St G w w1 (wkS g0 ⟨sh,fr,sl,sps,hand,vsh,.slice (some ⟨bf,of_,none⟩) fr.length cf,.slice (some ⟨bl,ol,none⟩) sl.length csl,.slice (some ⟨bs,os,none⟩) sps.length cs⟩ sp vh held++Γ1))=>(WkV.of h hR).ker.sl
    obtain ⟨epg,ekd,eat⟩:=e
    dsimp only at hj hk hep
    subst hj
    unfold swC at hrowL
    have hsw:swAt (KV.K ⟨sh,fr,sl,sps,hand,vsh,.slice (some ⟨bf,of_,none⟩) fr.length cf,.slice (some ⟨bl,ol,none⟩) sl.length csl,.slice (some ⟨bs,os,none⟩) sps.length cs⟩).slots j=s1:=swAt_eq hs1
    have hAe:A=(inK (getK (KV.K ⟨sh,fr,sl,sps,hand,vsh,.slice (some ⟨bf,of_,none⟩) fr.length cf,.slice (some ⟨bl,ol,none⟩) sl.length csl,.slice (some ⟨bs,os,none⟩) sps.length cs⟩) held).1 sp page (getK (KV.K ⟨sh,fr,sl,sps,hand,vsh,.slice (some ⟨bf,of_,none⟩) fr.length cf,.slice (some ⟨bl,ol,none⟩) sl.length csl,.slice (some ⟨bs,os,none⟩) sps.length cs⟩) held).2 s1.data true,(getK (KV.K ⟨sh,fr,sl,sps,hand,vsh,.slice (some ⟨bf,of_,none⟩) fr.length cf,.slice (some ⟨bl,ol,none⟩) sl.length csl,.slice (some ⟨bs,os,none⟩) sps.length cs⟩) held).2):=by
     rw [hA]
     unfold bringA
     rw [hxe,he]
     dsimp only
     rw [if_pos hk,show ((j:Nat):Int).toNat=j from rfl,hsw]
    repeat' (first|refine yO ?_|(refine yC1 ?_;refine ⟨_,(hentV _ _ hS.drop).cel hrowE rfl,?_⟩))
    (focus (refine yD ?_;(repeat' (first|refine yP ?_|((with_reducible apply d_load);exact rfl;(intro wd hd;replace hd:St _ _ wd _:=hd;(((with_reducible apply Loads.sc tabOk);exact rfl;exact (hentV _ _ hd.drop).cel hrowE rfl)));exact rfl)|((with_reducible apply d_load);exact rfl;(intro wd hd;replace hd:St _ _ wd _:=hd;(((with_reducible apply Loads.sc tabOk);exact rfl;exact (hslV _ _ hd.drop).cel0 hrowL rfl)));exact rfl)));all_goals (refine yZ ?_;clear hS;intro w' hS)))
    replace hS:=hS.perm List.perm_middle.symm
    have hg:=getK_ok hr (held:=held) (by omega)
    have hin:=fun w1 k1 Γ1 (h:St G w w1 (wkS g0 k1 sp vh held++Γ1)) (e1:k1.K=(getK (KV.K ⟨sh,fr,sl,sps,hand,vsh,.slice (some ⟨bf,of_,none⟩) fr.length cf,.slice (some ⟨bl,ol,none⟩) sl.length csl,.slice (some ⟨bs,os,none⟩) sps.length cs⟩) held).1) (l1:KLike ⟨sh,fr,sl,sps,hand,vsh,.slice (some ⟨bf,of_,none⟩) fr.length cf,.slice (some ⟨bl,ol,none⟩) sl.length csl,.slice (some ⟨bs,os,none⟩) sps.length cs⟩ k1)=>layIn_fn h (hR.like l1) (page:=page) (f:=(getK (KV.K ⟨sh,fr,sl,sps,hand,vsh,.slice (some ⟨bf,of_,none⟩) fr.length cf,.slice (some ⟨bl,ol,none⟩) sl.length csl,.slice (some ⟨bs,os,none⟩) sps.length cs⟩) held).2) (data:=s1.data) (dirty:=true) e1 rfl hg ha
    repeat' (first|refine yO ?_|(refine yL ?_;refine ⟨_,wframe_fn hS hfo,?_⟩;rintro _ w2 ⟨rfl,k1,e1,l1,h2⟩;(replace hS:=St.transM hS h2);clear h2))
    repeat' (first|refine yO ?_|(refine yL ?_;refine ⟨_,hin _ _ _ hS e1 l1,?_⟩;rintro _ w3 ⟨rfl,k2,e2,l2,h2⟩;(replace hS:=St.transM hS h2);clear h2))
    exact q_varX k2 (by exact zS) ⟨by rw [hAe];exact e2,l1.trans l2⟩ (hS.sub (List.sublist_append_left _ _))
   ·have hd2:decide (e.kind=2)=false:=decide_eq_false hk
    have hAe:A.1=KV.K ⟨sh,fr,sl,sps,hand,vsh,.slice (some ⟨bf,of_,none⟩) fr.length cf,.slice psl sl.length csl,.slice (some ⟨bs,os,none⟩) sps.length cs⟩:=by
     rw [hA]
     unfold bringA
     rw [hxe,he]
     dsimp only
     rw [if_neg hk]
    repeat' (first|refine yO ?_|(refine yC1 ?_;refine ⟨_,(hentV _ _ hS.drop).cel hrowE rfl,?_⟩))
    exact q_varX ⟨sh,fr,sl,sps,hand,vsh,.slice (some ⟨bf,of_,none⟩) fr.length cf,.slice psl sl.length csl,.slice (some ⟨bs,os,none⟩) sps.length cs⟩ (by exact zS) ⟨hAe.symm,KLike.refl _⟩ (hS.drop.sub (List.sublist_append_left _ _))
 clear hS
 rintro k' w1 ⟨hk1,hk2⟩ hS
 clear hspc hent hspV hfnd hfo
 -- the page is present
 have hR1:=hR.like hk2
 have hr1:Right k'.K:=by rw [hk1];exact hbA.right
 have ha1:At k'.K sp page:=by rw [hk1];exact ha.same hbA.same.ar hbA.same.live
 obtain ⟨x1,hx1,hxl1,hxa1,hxe1,hxr1⟩:=kv_at ha1
 obtain ⟨hsc1,hel1⟩:=right_bd hr1 x1.s (List.mem_of_getElem? (kv_sp hx1))
 have hxm1:=List.mem_of_getElem? hx1
 rw [← List.append_nil (wkS g0 k' sp vh held)] at hS
 have hV1:=WkV.of hS hR1
 have hxv1:=hV1.ker.spv x1 hxm1
 obtain ⟨pt1,is1,hEV1,hcase1⟩:=entV_of (page:=page) hsc1.rises hxv1.en
 have he1:entAt x1.s.entries page=some ⟨page,1,(A.2:Nat)⟩:=by
  have:=hbA.ent
  rw [← hk1,hxe1] at this
  exact this
 rcases hcase1 with ⟨-,-,h0⟩|⟨rfl,e,b1,off1,c1,i1,h0,hve1,hei1,rfl⟩
 ·rw [he1] at h0;cases h0
 rw [he1] at h0
 cases h0
 have hent1:=fun w1 Γ1 (h:St G w w1 (wkS g0 k' sp vh held++Γ1))=>wentry_fn (WkV.of h hR1) hx1 page hsc1.rises (pgBd_of hsc1 (by omega))
 rw [hEV1] at hent1
 have hrowE1:=map_get (f:=enC) hei1
 unfold enC at hrowE1
 obtain ⟨f1,hf1⟩:∃ f1,f1=A.2:=⟨_,rfl⟩
 rw [← hf1] at hrowE1 hei1 he1 ⊢
 repeat' (first|refine yO ?_|(refine yC ?_;refine ⟨_,hent1 _ _ hS,?_⟩;clear hS;intro w' hS))
 have hf1l:f1 < k'.fr.length:=by
  have h1:=(named_fm hr1 (sp:=sp) (p:=page) (i:=f1) (by rw [hxe1];exact he1)).1
  exact h1
 have hKe:∀ vh' held',wkS g0 k' sp vh' held'=wkS g0 k' sp vh' held':=fun _ _=>rfl
 clear hent1 hV1 hxv1
 rw [List.append_nil] at hS
 obtain ⟨sh1,fr1,sl1,sps1,hand1,vsh1,vfr1,vsl1,vsp1⟩:=k'
 dsimp only at hx1 hxm1 hf1l
 unfold wkS wkB hdA frA slA spA0 at hS
 dsimp only [List.cons_append,List.nil_append] at hS
 obtain ⟨pf1,cf1,rfl⟩:=hS.rowSlice 2 rfl
 simp only [List.length_map] at hS
 obtain ⟨gf1,rfl⟩:=hS.rowSome 2 rfl (by omega)
 obtain ⟨fm1,hfm1⟩:=lt_get (l:=fr1) (i:=f1) (by omega)
 have hrowF:=map_get (f:=fmC) hfm1
 unfold fmC at hrowF
 replace hS:=hS.pullE 5 hx1 rfl
 simp only [List.take_succ_cons,List.take_zero,appA] at hS
 obtain ⟨s1,va1,ve1⟩:=x1
 dsimp only at hve1 hei1 hrowE1 he1
 subst hve1
 unfold enAp at hS
 dsimp only at hS
 have hel1':=lt_of_getE hei1
 have hoff:off1=0:=by
  rcases hS.rowForm 0 rfl with ⟨h1,-⟩|⟨q1,q2,h1,-⟩
  ·cases h1
  ·injection h1 with h1 _ _
   injection h1 with h1
   injection h1
 subst hoff
 refine c_tillP 2 13 14 rfl hS (by kernel_rfl) ?_
 intro w10 hS'
 clear hS;have hS:=hS';clear hS'
 simp only [List.take_succ_cons,List.take_zero]
 have hH:=hS.sub (List.sublist_append_left [_,_] _)
 (refine xP (nn 0) ?_;refine ⟨Or.inr hH,?_⟩)
 (refine xP (nn 1) ?_;refine ⟨Or.inr hH,?_⟩)
 (refine xP (nn 2) ?_;refine ⟨Or.inr hH,?_⟩)
 (refine xP (nn 3) ?_;refine ⟨Or.inr hH,?_⟩)
 (refine xL (nn 4) ?_;refine ⟨hH,?_⟩)
 (refine xP (nn 5) ?_;refine ⟨Or.inr hH,?_⟩)
 (refine xP (nn 6) ?_;refine ⟨Or.inr hH,?_⟩)
 (refine xP (nn 7) ?_;refine ⟨Or.inr hH,?_⟩)
 (refine xL (nn 8) ?_;refine ⟨hH,?_⟩)
 refine t_one (i:=9) (by kernel_rfl) ?_
 refine p_gets rfl (g_bslice hS tabOk rfl rfl rfl rfl rfl rfl) rfl ?_
 rintro _ w' ⟨gu,rfl,hS'⟩
 clear hS;have hS:=hS';clear hS'
 have hH:=hS.drop.sub (List.sublist_append_left [_,_] _)
 refine ⟨Or.inr (Or.inr hH),?_⟩
 refine t_one (i:=10) (by kernel_rfl) ?_
 refine p_gets rfl (g_append hS tabOk (i:=3) rfl rfl rfl rfl (hS.rowRo 0 rfl) rfl (by simp only [List.length_map,List.length_cons,List.length_nil];omega)) rfl ?_
 rintro _ w' ⟨ph,ch,rfl,hS'⟩
 simp only [List.set,List.length_map] at hS' ⊢
 clear hS;have hS:=hS';clear hS'
 have hH:=hS.drop.sub (List.sublist_append_left [_,_] _)
 refine ⟨Or.inr (Or.inr hH),?_⟩
 (refine xP (nn 11) ?_;refine ⟨Or.inr hH,?_⟩)
 (refine xP (nn 12) ?_;refine ⟨Or.inr hH,?_⟩)
 refine t_one (i:=13) (by kernel_rfl) ?_
 refine p_gets0 (Φ:=fun _ w'=>St _ _ w' _) rfl (g_store hS tabOk (i:=2) rfl rfl rfl rfl rfl (Nat.le_of_ble_eq_true rfl) (by intro u hu;simp [Value.cells] at hu;subst hu;rfl)) ?_
 intro _ w' hS'
 simp only [List.set,setL] at hS'
 clear hS;have hS:=hS';clear hS'
 refine ⟨Or.inl rfl,?_⟩
 refine t_done (by kernel_rfl) ?_
 replace hS:=hS.drop
 change St _ _ _ (_::Asr.blk _ [_,_,_,_,_,_,_]::_) at hS
 repeat' ((refine yOB ?_))
 (focus (refine yD ?_;(repeat' ((refine yP ?_)));all_goals (refine yZ ?_;clear hS;intro w' hS)))
 (with_reducible apply l_nil)
 (with_reducible apply q_then)
 obtain ⟨B,hB⟩:∃ B,B=bringB A.1 sp page write held f1:=⟨_,rfl⟩
 rw [← hB]
 have hfold:∀ w1,St G w w1 (.row 55 3 (.slice (some ⟨b1,0,none⟩) s1.entries.length c1) (s1.entries.map enC)::.blk g0 [vsh1,.slice (some ⟨gf1,0,none⟩) fr1.length cf1,vsl1,vsp1,.int .i64 hand1,.int .i64 (sp:Nat),.slice ph (held.length + 1) ch]::.row 3 1 (.slice ph (held.length + 1) ch) ((held.map fun i=>[.int .i64 (i:Nat)])++[[.int .i64 (f1:Nat)]])::.row 43 4 (.slice (some ⟨gf1,0,none⟩) fr1.length cf1) (fr1.map fmC)::.row 45 2 vsl1 (sl1.map swC)::.row 41 3 vsp1 (sps1.map spC)::(sps1.eraseIdx sp).map enAp)→St G w w1 (wkS g0 ⟨sh1,fr1,sl1,sps1,hand1,vsh1,.slice (some ⟨gf1,0,none⟩) fr1.length cf1,vsl1,vsp1⟩ sp (.slice ph (held.length + 1) ch) (held++[f1])):=fun w1 h=>by
  have h2:=St.pushE (y:=⟨s1,va1,.slice (some ⟨b1,0,none⟩) s1.entries.length c1⟩) h 5 hx1 rfl
  rw [set_self hx1] at h2
  unfold wkS wkB hdA frA slA spA0
  rw [List.map_append]
  exact h2
 refine c_varX (F:=G) (w0:=w) (X:=KV×Value) (fun _=>[(0,.pointer (some ⟨g0,0,none⟩)),(2,.bool write)]) (fun x=>wkS g0 x.1 sp x.2 (held++[B.2])) (fun x=>x.1.K=B.1∧KLike ⟨sh1,fr1,sl1,sps1,hand1,vsh1,.slice (some ⟨gf1,0,none⟩) fr1.length cf1,vsl1,vsp1⟩ x.1) ?_ ?_
 ·have hfmA:fmAt A.1.frames f1=fm1:=by rw [← hk1];exact fmAt_eq hfm1
  by_cases hwr:write=true∧1 < fm1.refs
  ·have hdr:decide (1 < fm1.refs)=true:=decide_eq_true hwr.2
   have hwt:=hwr.1
   subst hwt
   have hBe:B=(inK (getK A.1 (held++[f1])).1 sp page (getK A.1 (held++[f1])).2 fm1.data true,(getK A.1 (held++[f1])).2):=by
    rw [hB]
    unfold bringB
    rw [hfmA,if_pos ⟨rfl,hwr.2⟩]
   have hl2:(held++[f1]).length≤2:=by rw [List.length_append,List.length_singleton];omega
   have hg:=getK_ok hr1 (held:=held++[f1]) hl2
   have hfo:=frameOk_of hr1 (held:=held++[f1]) hl2
   have hfrm:=fun w1 Γ1 (h:St G w w1 (wkS g0 ⟨sh1,fr1,sl1,sps1,hand1,vsh1,.slice (some ⟨gf1,0,none⟩) fr1.length cf1,vsl1,vsp1⟩ sp (.slice ph (held.length + 1) ch) (held++[f1])++Γ1))=>wframe_fn h (by rw [List.length_map] at hfo;exact hfo)
   rw [List.length_map] at hR1 ha1 hg hk1
   have hin:=fun w1 k2 Γ1 (h:St G w w1 (wkS g0 k2 sp (.slice ph (held.length + 1) ch) (held++[f1])++Γ1)) (e1:k2.K=(getK (KV.K ⟨sh1,fr1,sl1,sps1,hand1,vsh1,.slice (some ⟨gf1,0,none⟩) fr1.length cf1,vsl1,vsp1⟩) (held++[f1])).1) (l1:KLike ⟨sh1,fr1,sl1,sps1,hand1,vsh1,.slice (some ⟨gf1,0,none⟩) fr1.length cf1,vsl1,vsp1⟩ k2)=>layIn_fn h (hR1.like l1) (page:=page) (f:=(getK (KV.K ⟨sh1,fr1,sl1,sps1,hand1,vsh1,.slice (some ⟨gf1,0,none⟩) fr1.length cf1,vsl1,vsp1⟩) (held++[f1])).2) (data:=fm1.data) (dirty:=true) e1 rfl hg ha1
   repeat' ((refine yO ?_))
   replace hS:=hfold _ hS
   rw [← List.append_nil (wkS _ _ _ _ _)] at hS
   repeat' (first|refine yO ?_|(refine yL ?_;refine ⟨_,hfrm _ _ hS,?_⟩;rintro _ w2 ⟨rfl,k2,e2,l2,h2⟩;(replace hS:=St.transM hS h2);clear h2))
   repeat' (first|refine yO ?_|(refine yL ?_;refine ⟨_,hin _ _ _ hS e2 l2,?_⟩;rintro _ w3 ⟨rfl,k3,e3,l3,h2⟩;(replace hS:=St.transM hS h2);clear h2))
   rw [List.append_nil] at hS
   unfold wkS wkB hdA at hS
   obtain ⟨gh,rfl⟩:=hS.rowSome 1 rfl (by omega)
   have hlen1:((held.length:Nat):Int)=((held.length + 1:Nat):Int) - 1:=by omega
   have hrowH:((held++[f1]).map fun i=>[Value.int .i64 (i:Nat)])[held.length]?=some [.int .i64 (f1:Nat)]:=map_get (f:=fun i:Nat=>[Value.int .i64 (i:Nat)]) (by rw [List.getElem?_append_right (Nat.le_refl _),Nat.sub_self];rfl)
   have hsetH:∀ n:Nat,((held++[f1]).map fun i=>[Value.int .i64 (i:Nat)]).set held.length (setL [.int .i64 (f1:Nat)] 0 [.int .i64 (n:Nat)])=(held++[n]).map fun i=>[Value.int .i64 (i:Nat)]:=fun n=>by
    rw [List.map_append,List.set_append_right _ _ (by rw [List.length_map];omega),List.length_map,Nat.sub_self,List.map_append]
    rfl
   (focus (refine yW (nn 12) ?_;(repeat' ((refine yP ?_)));all_goals (refine yZ ?_;clear hS;intro w' hS)))
   repeat' (first|refine yO ?_|(refine yT1 ?_;clear hS;intro w' hS))
   rw [hsetH] at hS
   rw [hBe,← hk1]
   exact q_varX (k3,.slice (some ⟨gh,0,none⟩) (held.length + 1) ch) (by exact zS) ⟨e3,l2.trans l3⟩ hS
  ·have hBe:B=(A.1,f1):=by
    rw [hB]
    unfold bringB
    rw [hfmA,if_neg hwr]
   rw [hBe]
   cases write with
   |true=>
    have hdr:decide (1 < fm1.refs)=false:=decide_eq_false (fun h=>hwr ⟨rfl,h⟩)
    repeat' ((refine yO ?_))
    exact q_varX (⟨sh1,fr1,sl1,sps1,hand1,vsh1,.slice (some ⟨gf1,0,none⟩) fr1.length cf1,vsl1,vsp1⟩,.slice ph (held.length + 1) ch) (by exact zS) ⟨by rw [← hk1,List.length_map],KLike.refl _⟩ (hfold _ hS)
   |false=>
    repeat' ((refine yO ?_))
    exact q_varX (⟨sh1,fr1,sl1,sps1,hand1,vsh1,.slice (some ⟨gf1,0,none⟩) fr1.length cf1,vsl1,vsp1⟩,.slice ph (held.length + 1) ch) (by exact zS) ⟨by rw [← hk1,List.length_map],KLike.refl _⟩ (hfold _ hS)
 clear hS hfold
 rintro ⟨k2,v2⟩ w2 ⟨hq1,hq2⟩ hS
 dsimp only at hq1 hq2 hS
 have hAB:=(bringAB_ok hr ha write hl hh).1
 unfold bringAB at hAB
 rw [← hA,← hf1,← hB] at hAB
 obtain ⟨sh2,fr2,sl2,sps2,hand2,vsh2,vfr2,vsl2,vsp2⟩:=k2
 have hn2:=(named_fm hAB.right hAB.ent).1
 rw [← hq1] at hn2
 replace hn2:B.2 < fr2.length:=hn2
 unfold wkS wkB hdA frA slA spA0 at hS
 dsimp only [List.cons_append,List.nil_append] at hS
 obtain ⟨pf2,cf2,rfl⟩:=hS.rowSlice 2 rfl
 simp only [List.length_map] at hS
 obtain ⟨gf2,rfl⟩:=hS.rowSome 2 rfl (by omega)
 obtain ⟨fm2,hfm2⟩:=lt_get (l:=fr2) (i:=B.2) (by omega)
 have hrowF2:=map_get (f:=fmC) hfm2
 unfold fmC at hrowF2
 obtain ⟨pg,cg,rfl⟩:=hS.rowSlice 1 rfl
 simp only [List.length_map,List.length_append,List.length_cons,List.length_nil,Nat.zero_add] at hS
 obtain ⟨gh2,rfl⟩:=hS.rowSome 1 rfl (by omega)
 have hlen2:((held.length:Nat):Int)=((held.length + 1:Nat):Int) - 1:=by omega
 have hrowH2:((held++[B.2]).map fun i=>[Value.int .i64 (i:Nat)])[held.length]?=some [.int .i64 (B.2:Nat)]:=map_get (f:=fun i:Nat=>[Value.int .i64 (i:Nat)]) (by rw [List.getElem?_append_right (Nat.le_refl _),Nat.sub_self];rfl)
 have hs1:(fr2.map fmC).set B.2 (setL [.string ⟨fm2.data.toArray⟩,.int .i64 fm2.refs,.bool fm2.dirty,.bool fm2.seen] 3 [.bool true])=(fr2.set B.2 ⟨fm2.data,fm2.refs,fm2.dirty,true⟩).map fmC:=by rw [List.map_set];rfl
 have hrowF3:((fr2.set B.2 ⟨fm2.data,fm2.refs,fm2.dirty,true⟩).map fmC)[B.2]?=some [.string ⟨fm2.data.toArray⟩,.int .i64 fm2.refs,.bool fm2.dirty,.bool true]:=map_get (f:=fmC) (set_at (x:=(⟨fm2.data,fm2.refs,fm2.dirty,true⟩:Fm)) hn2)
 have hfin:∀ dt,dt=(fm2.dirty||write)→(⟨sh2,fr2.set B.2 ⟨fm2.data,fm2.refs,dt,true⟩,sl2,sps2,hand2,vsh2,.slice (some ⟨gf2,0,none⟩) fr2.length cf2,vsl2,vsp2⟩:KV).K=seenK B.1 B.2 write:=fun dt hdt=>by
  rw [← hq1,hdt]
  unfold seenK setFm KV.K
  dsimp only
  rw [fmAt_eq hfm2]
 have hs2:∀ dt,((fr2.set B.2 ⟨fm2.data,fm2.refs,fm2.dirty,true⟩).map fmC).set B.2 (setL [.string ⟨fm2.data.toArray⟩,.int .i64 fm2.refs,.bool fm2.dirty,.bool true] 2 [.bool dt])=(fr2.set B.2 ⟨fm2.data,fm2.refs,dt,true⟩).map fmC:=fun dt=>by
  rw [List.map_set,List.map_set,List.set_set]
  rfl
 have hlike:∀ fr',KLike ⟨sh,fr,sl,sps,hand,vsh,.slice (some ⟨bf,of_,none⟩) fr.length cf,.slice psl sl.length csl,.slice (some ⟨bs,os,none⟩) sps.length cs⟩ ⟨sh2,fr',sl2,sps2,hand2,vsh2,.slice (some ⟨gf2,0,none⟩) fr2.length cf2,vsl2,vsp2⟩:=fun fr'=>⟨hq2.sh.trans hk2.sh,hq2.vsh.trans hk2.vsh,hq2.ar.trans hk2.ar⟩
 repeat' ((refine yOB ?_))
 (focus (refine yD ?_;(repeat' ((refine yP ?_)));all_goals (refine yZ ?_;clear hS;intro w' hS)))
 repeat' (first|refine yO ?_|(refine yT2 ?_;clear hS;intro w' hS))
 rw [hs1] at hS
 cases hdt:fm2.dirty with
 |true=>
  rw [hdt] at hrowF3 hS hs2 hfin
  repeat' (first|refine yO ?_|(refine yT2 ?_;clear hS;intro w' hS))
  refine yV0 ?_
  rw [hs2] at hS
  refine ⟨rfl,⟨sh2,fr2.set B.2 ⟨fm2.data,fm2.refs,true,true⟩,sl2,sps2,hand2,vsh2,.slice (some ⟨gf2,0,none⟩) fr2.length cf2,vsl2,vsp2⟩,_,hfin _ rfl,hlike _,hS⟩
 |false=>
  rw [hdt] at hrowF3 hS hs2 hfin
  repeat' (first|refine yO ?_|(refine yT2 ?_;clear hS;intro w' hS))
  refine yV0 ?_
  rw [hs2] at hS
  refine ⟨rfl,⟨sh2,fr2.set B.2 ⟨fm2.data,fm2.refs,write,true⟩,sl2,sps2,hand2,vsh2,.slice (some ⟨gf2,0,none⟩) fr2.length cf2,vsl2,vsp2⟩,_,hfin _ (by simp),hlike _,hS⟩
end Go.Proofs.Ytejnpppejalhfac
