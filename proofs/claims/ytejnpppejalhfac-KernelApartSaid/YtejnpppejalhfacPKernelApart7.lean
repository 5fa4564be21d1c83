/- Texts that the proof stands on, one behind the other: Ke5, PlKer2, Ke6, Sc24, Sc25, Sc26, PlKer3, PlRun, Ke13, Ke14. -/
import Derived.Laws.CopyRow
import Derived.Laws.Slices
import Derived.Lib.AppendZerosOnto
import Derived.Lib.Overlaps
import Derived.Laws.Externs
import Derived.Test.YtejnpppejalhfacPKernelApart6
/- A frame, a slot, held against who names it. -/
namespace Go.Proofs.Ytejnpppejalhfac
open Go.RowKit Go.Sort
set_option maxRecDepth 100000 in
set_option maxHeartbeats 8000000 in
theorem lookFrame_fn {w:World} {l:List (Sh×Value)} {gl gk:Nat} {vsh vb:Value} {f:Fm} {by_:List Nm} (hl:Bs nF w ⟨gl,0,none⟩ (.pointer (some ⟨gk,0,none⟩))) (hk:Bs nF w ⟨gk,0,none⟩ vsh) (hL:ShsV w l vsh) (hr:riseB 0 (shs l)=true) (hby:Sl nF w 7 vb (by_.map nmC)) (hpg:∀ n ∈ by_,-1000000≤n.1.page∧n.1.page≤1000000):Fn Try.prog 28 [.pointer (some ⟨gl,0,none⟩),.agg (fmC f).toArray,vb] w (RBf (.bool (frameB (shs l) f by_)) w):=by
 have bnd:=hby.bound
 unfold fmC
 cases by_ with
 |nil=>
  obtain ⟨pp,c,rfl⟩:=hby.len
  refine yEn Try.func28 Try.ntmps28 ?_
  have hS:=St.start w
  repeat' (first|refine yO ?_|(refine yM ?_;clear hS;intro g w' hS)|refine yX (eqFm f fm0) ?_)
  refine yR1 ?_
  exact ⟨rfl,hS.sub (List.nil_sublist _)⟩
 |cons n r=>
  have hal:=fun w1 (h:Sl nF w1 7 vb ((n::r).map nmC))=>alikeN_fn h rfl
  have hn:=hpg n List.mem_cons_self
  have hfill:∀ w1 Γ,St nF w w1 Γ→Fn Try.prog 21 [.pointer (some ⟨gk,0,none⟩),.agg [.int .i64 n.2.pg,.int .i64 n.2.n,.int .i64 n.2.prot,.bool n.2.z].toArray,.int .i64 n.1.page] w1 (RBf (fillV (fillP (shs l) n.2.z n.1.page)) w1):=fun w1 Γ h=>filling_fn (F:=nF) (Bs.of (h.bs hk)) (hL.now h) hr hn
  unfold fillV at hfill
  unfold frameB
  dsimp only
  generalize hlen:(n::r).length=m
  have hm:0 < m:=by rw [← hlen];simp
  obtain ⟨pp,c,rfl⟩:=hby.len
  rw [hlen] at hby bnd hal ⊢
  have hrow:((n::r).map nmC)[0]?=some [.int .i64 n.1.page,.int .i64 n.1.kind,.int .i64 n.1.at_,.int .i64 n.2.pg,.int .i64 n.2.n,.int .i64 n.2.prot,.bool n.2.z]:=rfl
  obtain ⟨b,off,hpe,hro⟩:=hby.parts.2.resolve_left (fun h=>by simp at h)
  subst hpe
  replace hro:=hro.2.2
  by_cases h1:f.refs=(m:Int)
  rotate_left
  ·have hd:(!decide (f.refs=(m:Int)))=true:=by rw [decide_eq_false h1];rfl
   rw [decide_eq_false (fun h=>h1 h.1),Bool.false_and]
   refine yEn Try.func28 Try.ntmps28 ?_
   have hS:=St.start w
   repeat' (first|refine yO ?_|(refine yM ?_;clear hS;intro g w' hS)|(refine yS ?_ ?_;all_goals (intro hb hp;try (exfalso;omega))))
   refine yR1 ?_
   exact ⟨rfl,hS.sub (List.nil_sublist _)⟩
  have hd:(!decide (f.refs=(m:Int)))=false:=by rw [decide_eq_true h1];rfl
  by_cases h2:f.data.length=16
  rotate_left
  ·have hd2:(!decide ((f.data.length:Int)=16))=true:=by rw [decide_eq_false (by omega)];rfl
   rw [decide_eq_false (fun h=>h2 h.2),Bool.false_and]
   refine yEn Try.func28 Try.ntmps28 ?_
   have hS:=St.start w
   repeat' (first|refine yO ?_|(refine yM ?_;clear hS;intro g w' hS)|(refine yS ?_ ?_;all_goals (intro hb hp;try (exfalso;omega))))
   refine yR1 ?_
   exact ⟨rfl,hS.sub (List.nil_sublist _)⟩
  have hd2:(!decide ((f.data.length:Int)=16))=false:=by rw [decide_eq_true (by omega)];rfl
  rw [decide_eq_true ⟨h1,h2⟩,Bool.true_and]
  cases ha:alikeN (n::r) with
  |false=>
   rw [ha] at hal
   rw [Bool.false_and]
   refine yEn Try.func28 Try.ntmps28 ?_
   have hS:=St.start w
   repeat' (first|refine yO ?_|(refine yM ?_;clear hS;intro g w' hS)|(refine yS ?_ ?_;all_goals (intro hb hp;try (exfalso;omega)))|(refine yC ?_;refine ⟨_,hal _ (hby.now hS),?_⟩;clear hS;intro w' hS))
   refine yR1 ?_
   exact ⟨rfl,hS.sub (List.nil_sublist _)⟩
  |true=>
   rw [ha] at hal
   rw [Bool.true_and]
   refine yEn Try.func28 Try.ntmps28 ?_
   have hS:=St.start w
   repeat' (first|refine yO ?_|(refine yM ?_;clear hS;intro g w' hS)|(refine yS ?_ ?_;all_goals (intro hb hp;try (exfalso;omega)))|(refine yC ?_;refine ⟨_,hal _ (hby.now hS),?_⟩;clear hS;intro w' hS))
   (focus (refine yD ?_;(repeat' (first|refine yP ?_|((with_reducible apply d_load);exact rfl;(intro wd hd;replace hd:St _ _ wd _:=hd;((with_reducible apply Loads.st tabOk);exact rfl;exact hd.roRs hro 3 4 hrow;exact rfl));exact rfl)|(refine yF ?_;refine ⟨_,fun wd hd=>hfill _ _ hd,?_⟩)));all_goals (refine yZ ?_;clear hS;intro w' hS)))
   have hdd:f.dirty=false→decide (f.data=(fillP (shs l) n.2.z n.1.page).getD [])=(f.dirty||decide (some f.data=fillP (shs l) n.2.z n.1.page)):=fun h=>by
    rw [h,Bool.false_or]
    cases hq:fillP (shs l) n.2.z n.1.page with
    |none=>
     rw [decide_eq_false (fun hh:some f.data=none=>by cases hh)]
     refine decide_eq_false fun hh=>?_
     rw [hh] at h2
     simp at h2
    |some x=>exact decide_eq_decide.2 ⟨fun hh=>congrArg some hh,fun hh=>Option.some.inj hh⟩
   repeat' (first|refine yO ?_|(refine yS ?_ ?_;all_goals (intro hb hp;try (exfalso;omega))))
   ·refine yR1 ?_
    exact ⟨by rw [hb];rfl,hS.sub (List.nil_sublist _)⟩
   ·refine yR1 ?_
    exact ⟨by rw [hdd hb],hS.sub (List.nil_sublist _)⟩
end Go.Proofs.Ytejnpppejalhfac
/- Namers gathered, frame by frame and slot by slot. -/
namespace Go.Proofs.Ytejnpppejalhfac
open Go.RowKit Go.Sort
abbrev NL:=List (Value×List Nm)
def nlC (l:NL):List (List Value):=l.map fun x=>[x.1]
def nsA (x:Value×List Nm):Asr:=.row 137 7 x.1 (x.2.map nmC)
def nlR (l:NL):List Asr:=l.map nsA
theorem nlR_perm {l m:NL} (h:l.Perm m):(nlR l).Perm (nlR m):=h.map nsA
theorem nlR_pick {l:NL} {k:Nat} {x:Value×List Nm} (h:l[k]?=some x):(nlR l).Perm (nsA x::nlR (l.eraseIdx k)):=nlR_perm (perm_erase h)
theorem nlR_put {l:NL} {k:Nat} {x y:Value×List Nm} (h:l[k]?=some x):(nsA y::nlR (l.eraseIdx k)).Perm (nlR (l.set k y)):=by
 have h1:=nlR_pick (l:=l.set k y) (k:=k) (x:=y) (by rw [List.getElem?_set];simp [(List.getElem?_eq_some_iff.1 h).1])
 rw [erase_set] at h1
 exact h1.symm
theorem nlC_set (l:NL) (k:Nat) (x:Value×List Nm):nlC (l.set k x)=(nlC l).set k [x.1]:=by unfold nlC;rw [List.map_set]
def lkS (g:Nat) (k vF vS:Value) (room:Int) (NF NS:NL):List Asr:=.blk g [k,vF,vS,.int .i64 room]::.row 90 1 vF (nlC NF)::.row 90 1 vS (nlC NS)::(nlR NF++nlR NS)
def Grown (A B:NL) (kind:Int) (ns:List Nm):Prop:=B.length=A.length∧∀ (i:Nat) x,A[i]?=some x→∃ v,B[i]?=some (v,x.2++ns.filter fun (n:Nm)=>decide (n.1.kind=kind∧n.1.at_=((i:Nat):Int)))
theorem Grown.refl (A:NL) (kind:Int):Grown A A kind []:=⟨rfl,fun i x h=>⟨x.1,by simpa using h⟩⟩
theorem Grown.skip {A B:NL} {kind:Int} {ns:List Nm} {n:Nm} (h:Grown A B kind ns) (hn:n.1.kind≠kind):Grown A B kind (ns++[n]):=⟨h.1,fun i x hx=>by
 obtain ⟨v,hv⟩:=h.2 i x hx
 refine ⟨v,?_⟩
 rw [hv,List.filter_append,List.filter_cons_of_neg (by simp [hn]),List.filter_nil,List.append_nil]⟩
theorem Grown.put {A B:NL} {kind:Int} {ns:List Nm} {n:Nm} {j:Nat} {y:Value×List Nm} {v:Value} (h:Grown A B kind ns) (hn:n.1.kind=kind) (hj:n.1.at_=(j:Nat)) (hy:B[j]?=some y):Grown A (B.set j (v,y.2++[n])) kind (ns++[n]):=⟨by rw [List.length_set];exact h.1,fun i x hx=>by
 obtain ⟨u,hu⟩:=h.2 i x hx
 by_cases e:j=i
 ·subst e
  rw [hy] at hu
  cases hu
  refine ⟨v,?_⟩
  rw [List.getElem?_set]
  simp [(List.getElem?_eq_some_iff.1 hy).1,List.filter_append,hn,hj]
 ·refine ⟨u,?_⟩
  rw [List.getElem?_set_ne e,hu,List.filter_append,List.filter_cons_of_neg (by rw [hn,hj];simp;omega),List.filter_nil,List.append_nil]⟩
theorem Grown.trans {A B C:NL} {kind:Int} {ns ms:List Nm} (h:Grown A B kind ns) (h2:Grown B C kind ms):Grown A C kind (ns++ms):=⟨h2.1.trans h.1,fun i x hx=>by
 obtain ⟨v,hv⟩:=h.2 i x hx
 obtain ⟨u,hu⟩:=h2.2 i _ hv
 exact ⟨u,by rw [hu,List.filter_append,List.append_assoc]⟩⟩
structure ShsF (F:Nat→Prop) (w:World) (Lp:List (Sh×Value)) (vs:Value):Prop where
 sl:Sl F w 3 vs (Lp.map fun p=>shC p.1 p.2)
 fx:∀ p ∈ Lp,Sl F w 2 p.2 (p.1.fixes.map fxC)
theorem ShsF.now {F:Nat→Prop} {w w':World} {Γ:List Asr} {l:List (Sh×Value)} {v:Value} (h:ShsF F w l v) (hS:St F w w' Γ):ShsV w' l v:=⟨h.sl.now hS,fun p hp=>(h.fx p hp).now hS⟩
theorem ShsF.nowM {F:Nat→Prop} {w w':World} {Θ Γ:List Asr} {l:List (Sh×Value)} {v:Value} (h:ShsF F w l v) (hS:St F w w' (Θ++Γ)):ShsF (fps Θ) w' l v:=⟨h.sl.nowM hS,fun p hp=>(h.fx p hp).nowM hS⟩
theorem ShsF.of {w:World} {l:List (Sh×Value)} {v:Value} (h:ShsV w l v):ShsF nF w l v:=⟨h.sl,fun p hp=>h.fx p hp⟩
/-! the pages of a space -/
def pageOk (l:List Sh) (a:Ar) (j:Nat):Bool:=(fillP l a.z (a.pg + (j:Nat))).isSome
theorem pagesB_false {l:List Sh} {A:List Ar} {i j:Nat} {a:Ar} (ha:A[i]?=some a) (hj:(j:Int) < a.n) (h:pageOk l a j=false):pagesB l A=false:=by
 unfold pagesB
 rw [List.all_eq_false]
 refine ⟨a,List.mem_of_getElem? ha,?_⟩
 rw [Bool.not_eq_true,List.all_eq_false]
 exact ⟨j,by rw [List.mem_range];omega,by unfold pageOk at h;rw [h];simp⟩
theorem pagesB_true {l:List Sh} {A:List Ar} (h:∀ (i:Nat) a,A[i]?=some a→∀ j:Nat,(j:Int) < a.n→pageOk l a j=true):pagesB l A=true:=by
 unfold pagesB
 rw [List.all_eq_true]
 intro a ha
 obtain ⟨i,hi⟩:=List.mem_iff_getElem?.1 ha
 rw [List.all_eq_true]
 intro j hj
 exact h i a hi j (by rw [List.mem_range] at hj;omega)
/-! the entries of a space -/
theorem ents_step {A:List Ar} {nf ns last:Int} {l:List En} {i:Nat} {e:En} (h:l[i]?=some e):entsB A nf ns last (l.drop i)=(entOk A nf ns last e && entsB A nf ns e.page (l.drop (i + 1))):=by
 rw [drop_at h];rfl
theorem namers_one (s:Sc) (kind:Int) (i:Nat):(s.entries.map (nmOf s)).filter (fun (n:Nm)=>decide (n.1.kind=kind∧n.1.at_=((i:Nat):Int)))=namers [s] kind i:=by
 unfold namers
 rw [List.flatMap_cons,List.flatMap_nil,List.append_nil,List.filter_map]
 rfl
end Go.Proofs.Ytejnpppejalhfac
/- A space, gone through: what it must hold, and who names what. -/
namespace Go.Proofs.Ytejnpppejalhfac
open Go.RowKit Go.Sort
theorem c_tillP {P:Program} {n:Nat} {ds:List Deferred} {E:Fr} {w:World} {Q:Exit→Act→World→Prop} {F:Nat→Prop} {w0:World} {Γ:List Asr} (k q:Nat) {id:Nat} {l:List Oper} (m:Nat) (hl:l.length=m) (hS:St F w0 w Γ) (hm:P.follows .mixedOrders=true) (h:∀ w1,St F w0 w1 Γ→WT P l.toArray Q (fun w'=>St F w0 w' (Γ.take k)) q m (Array.replicate m false) n ds E w1):WC P (.region id l.toArray true) Q n ds E w:=c_till _ q m hl hS hm h
theorem sum_zero {α β:Type} (A:List α) (B:List β) (hA:(A.length:Int)≤9223372036854775807) (hB:(B.length:Int)≤9223372036854775807):decide (IntKind.i64.wrap ((A.length:Int) + (B.length:Int))=0)=decide (A=[]∧B=[]):=by
 refine decide_eq_decide.2 ⟨fun h=>?_,fun ⟨h1,h2⟩=>by rw [h1,h2];rfl⟩
 have h2:A.length=0∧B.length=0:=by
  simp only [IntKind.wrap,IntKind.signed,IntKind.bits] at h
  omega
 exact ⟨List.eq_nil_of_length_eq_zero h2.1,List.eq_nil_of_length_eq_zero h2.2⟩
theorem nlC_len (l:NL):(nlC l).length=l.length:=by unfold nlC;simp
theorem take_snocE {α:Type} {l:List α} {i:Nat} {x:α} (h:l[i]?=some x):l.take (i + 1)=l.take i++[x]:=by
 obtain ⟨h1,rfl⟩:=List.getElem?_eq_some_iff.1 h
 rw [List.take_add_one,List.getElem?_eq_getElem h1]
 rfl
set_option maxRecDepth 100000 in
set_option maxHeartbeats 8000000 in
theorem space_fn {F:Nat→Prop} {w0 w:World} {Γ:List Asr} {gl gk:Nat} {vsh vF vS:Value} {room:Int} {l:List (Sh×Value)} {NF NS:NL} {p:Sp}
  (hS0:St F w0 w (lkS gl (.pointer (some ⟨gk,0,none⟩)) vF vS room NF NS++Γ)) (hk:Bs (fps (lkS gl (.pointer (some ⟨gk,0,none⟩)) vF vS room NF NS)) w ⟨gk,0,none⟩ vsh) (hL:ShsF (fps (lkS gl (.pointer (some ⟨gk,0,none⟩)) vF vS room NF NS)) w l vsh) (hr:riseB 0 (shs l)=true)
  (har:Sl (fps (lkS gl (.pointer (some ⟨gk,0,none⟩)) vF vS room NF NS)) w 4 p.va (p.s.areas.map arC)) (hen:Sl (fps (lkS gl (.pointer (some ⟨gk,0,none⟩)) vF vS room NF NS)) w 3 p.ve (p.s.entries.map enC)) (hrm:0≤room∧room≤1000000) (hF:∀ x ∈ NF,x.2.length≤1000) (hSl:∀ x ∈ NS,x.2.length≤1000) :
  Fn Try.prog 27 [.pointer (some ⟨gl,0,none⟩),.agg (spC p).toArray] w (fun v w'=>v=.bool (spaceB (shs l) NF.length NS.length p.s)∧∃ NF' NS' room',St (fps (lkS gl (.pointer (some ⟨gk,0,none⟩)) vF vS room NF NS)) w w' (lkS gl (.pointer (some ⟨gk,0,none⟩)) vF vS room' NF' NS')∧(spaceB (shs l) NF.length NS.length p.s=true→room'=room + sumN p.s.areas∧Grown NF NF' 1 (p.s.entries.map (nmOf p.s))∧Grown NS NS' 2 (p.s.entries.map (nmOf p.s)))):=by
 obtain ⟨s,va,ve⟩:=p
 obtain ⟨live,A,es⟩:=s
 dsimp only at har hen ⊢
 have hSs:=St.startM hS0
 generalize hG:fps (lkS gl (.pointer (some ⟨gk,0,none⟩)) vF vS room NF NS)=G at hSs hk hL har hen ⊢
 clear hG hS0
 have bA:=(har.now hSs).bound
 have bE:=(hen.now hSs).bound
 obtain ⟨pa,ca,rfl⟩:=(har.now hSs).len
 obtain ⟨pe,ce,rfl⟩:=(hen.now hSs).len
 have hS:=hSs
 unfold lkS at hS
 obtain ⟨pF,cF,hvF⟩:=hS.rowSlice 1 rfl
 obtain ⟨pS,cS,hvS⟩:=hS.rowSlice 2 rfl
 rw [nlC_len] at hvF hvS
 subst hvF hvS
 unfold spC spaceB
 dsimp only
 cases live with
 |false=>
  simp only [Bool.false_eq_true,if_false]
  have hd:=sum_zero A es bA bE
  refine yEn Try.func27 Try.ntmps27 ?_
  repeat' (first|refine yO ?_|(refine yM ?_;clear hS;intro g w' hS))
  refine yR1 ?_
  refine ⟨by rw [hd],NF,NS,room,hS.drop,fun h=>?_⟩
  obtain ⟨rfl,rfl⟩:=of_decide_eq_true h
  exact ⟨by simp [sumN],Grown.refl _ _,Grown.refl _ _⟩
 |true=>
  simp only [if_true]
  have hchk:=fun w1 (h:Sl nF w1 4 (.slice pa A.length ca) (A.map arC))=>check_fn h
  by_cases hc:checkI A=0
  rotate_left
  ·have hd:(!decide (checkI A=0))=true:=by rw [decide_eq_false hc];rfl
   have hbad:(decide (checkI A=0) && (pagesB (shs l) A && entsB A NF.length NS.length 0 es))=false:=by rw [decide_eq_false hc,Bool.false_and]
   refine yEn Try.func27 Try.ntmps27 ?_
   repeat' (first|refine yO ?_|(refine yM ?_;clear hS;intro g w' hS)|(refine yC ?_;refine ⟨_,hchk _ (har.now hS),?_⟩;clear hS;intro w' hS))
   refine yR1 ?_
   refine ⟨by rw [hbad],_,_,_,hS.sub (by repeat (first|exact List.Sublist.refl _|apply List.Sublist.cons)),fun h=>?_⟩
   rw [hbad] at h
   cases h
  have hd:(!decide (checkI A=0))=false:=by rw [decide_eq_true hc];rfl
  have htot:=fun w1 (h:Sl nF w1 4 (.slice pa A.length ca) (A.map arC))=>Total_fn h
  rw [if_pos hc] at htot
  obtain ⟨hAl,hgood⟩:=checkI_zero.1 hc
  have hok:=good_ok hgood
  have hsum:=sumN_bd hok A.length
  rw [List.take_length] at hsum
  rw [decide_eq_true hc,Bool.true_and]
  refine yEn Try.func27 Try.ntmps27 ?_
  repeat' (first|refine yO ?_|(refine yM ?_;clear hS;intro g w' hS)|(refine yC ?_;refine ⟨_,hchk _ (har.now hS),?_⟩;clear hS;intro w' hS))
  (focus (refine yW (nn 10) ?_;(repeat' (first|refine yP ?_|(refine yF ?_;refine ⟨_,fun wd hd=>htot _ (har.now hd),?_⟩)));all_goals (refine yZ ?_;clear hS;intro w' hS)))
  repeat' (first|refine yO ?_|(refine yN ?_;clear hS;intro w' hS))
  refine c_loopK (X:=Nat) (fun x=>[(44,.int .i64 (x:Nat))]) [0,3,42,43] rfl (fun _=>[]) (fun x=>x≤A.length∧∀ (i:Nat) a,i < x→A[i]?=some a→∀ j:Nat,(j:Int) < a.n→pageOk (shs l) a j=true) (fun x=>A.length - x) 0 (by exact zS) ⟨by omega,fun i a h=>by omega⟩ hS ?_
  clear hS
  rintro i w1 ⟨hi,hall⟩ hS
  dsimp only [List.cons_append,List.nil_append] at hi hall hS ⊢
  by_cases hlt:i < A.length
  ·obtain ⟨a,ha⟩:=lt_get (l:=A) (i:=i) (by omega)
   have hrow:=map_get (f:=arC) ha
   obtain ⟨b,off,rfl,hro⟩:=har.atF (i:=i) hlt
   have hak:=hok i a ha
   unfold Ar.ok at hak
   unfold arC at hrow
   have hfill:=fun w1 Γ (h:St G w w1 Γ) (q:Int) (hq:-1000000≤q∧q≤1000000)=>filling_fn (a:=a) (F:=nF) (Bs.of (h.bs hk)) (hL.now h) hr hq
   unfold fillV arC at hfill
   repeat' (first|refine yO ?_|(refine yM ?_;clear hS;intro g w' hS)|(refine yN ?_;clear hS;intro w' hS)|(refine yS ?_ ?_;all_goals (intro hb hp;try (exfalso;omega))))
   refine c_loopK (X:=Nat×Int) (fun x=>[(7,.int .i64 x.2)]) [0,3,6,42,43,44] rfl (fun _=>[]) (fun x=>(x.1:Int)≤a.n∧x.2=a.pg + (x.1:Nat)∧∀ j:Nat,j < x.1→pageOk (shs l) a j=true) (fun x=>a.n.toNat - x.1) (0,a.pg) (by exact zS) ⟨by show ((0:Nat):Int)≤a.n;omega,by show a.pg=a.pg + ((0:Nat):Int);omega,fun j h=>by omega⟩ hS ?_
   clear hS
   rintro ⟨j,q⟩ w1 ⟨hj,hq,hpj⟩ hS
   dsimp only [List.cons_append,List.nil_append] at hj hq hpj hS ⊢
   by_cases hjl:q < a.pg + a.n
   rotate_left
   ·repeat' (first|refine yO ?_|(refine yS ?_ ?_;all_goals (intro hb hp;try (exfalso;omega))))
    refine q_loopK (i + 1) (by exact zS) ⟨by omega,fun i' a' hi' ha' j' hj'=>?_⟩ hS.drop (by omega)
    rcases Nat.lt_succ_iff_lt_or_eq.1 hi' with h|h
    ·exact hall i' a' h ha' j' hj'
    ·subst h
     rw [ha] at ha'
     cases ha'
     exact hpj j' (by omega)
   ·cases hpk:pageOk (shs l) a j with
    |false=>
     have hbad:(pagesB (shs l) A && entsB A NF.length NS.length 0 es)=false:=by rw [pagesB_false ha (by omega) hpk,Bool.false_and]
     unfold pageOk at hpk
     rw [← hq] at hpk
     have hd:(!(fillP (shs l) a.z q).isSome)=true:=by rw [hpk];rfl
     repeat' (first|refine yO ?_|(refine yS ?_ ?_;all_goals (intro hb hp;try (exfalso;omega))))
     (focus (refine yD ?_;(repeat' (first|refine yP ?_|(refine yF ?_;refine ⟨_,fun wd hd=>hfill _ _ hd _ (by omega),?_⟩)));all_goals (refine yZ ?_;clear hS;intro w' hS)))
     repeat' ((refine yO ?_))
     refine yR1 ?_
     refine ⟨by rw [hbad],_,_,_,hS.sub (by repeat (first|exact List.Sublist.refl _|apply List.Sublist.cons)),fun h=>?_⟩
     rw [hbad] at h
     cases h
    |true=>
     have hpk':=hpk
     unfold pageOk at hpk'
     rw [← hq] at hpk'
     have hd:(!(fillP (shs l) a.z q).isSome)=false:=by rw [hpk'];rfl
     repeat' (first|refine yO ?_|(refine yS ?_ ?_;all_goals (intro hb hp;try (exfalso;omega))))
     (focus (refine yD ?_;(repeat' (first|refine yP ?_|(refine yF ?_;refine ⟨_,fun wd hd=>hfill _ _ hd _ (by omega),?_⟩)));all_goals (refine yZ ?_;clear hS;intro w' hS)))
     repeat' ((refine yO ?_))
     refine q_loopK (j + 1,q + 1) (by exact zS) ⟨by show ((j + 1:Nat):Int)≤a.n;omega,by show q + 1=a.pg + ((j + 1:Nat):Int);omega,fun j' hj'=>?_⟩ hS (by show a.n.toNat - (j + 1) < a.n.toNat - j;omega)
     rcases Nat.lt_succ_iff_lt_or_eq.1 hj' with h|h
     ·exact hpj j' h
     ·subst h;exact hpk
  obtain rfl:i=A.length:=by omega
  rw [pagesB_true (fun i a ha=>hall i a (lt_of_getE ha) ha),Bool.true_and]
  clear hall
  repeat' (first|refine yO ?_|(refine yS ?_ ?_;all_goals (intro hb hp;try (exfalso;omega))))
  rename Nat=>g
  replace hS:St G w w1 (.blk g [.bool true,.slice pa A.length ca,.slice pe es.length ce]::lkS gl (.pointer (some ⟨gk,0,none⟩)) (.slice pF NF.length cF) (.slice pS NS.length cS) (room + sumN A) NF NS):=hS
  refine c_loopK (Γ:=[]) (X:=Nat×Int×NL×NL) (fun x=>[(75,.int .i64 (x.1:Nat)),(10,.int .i64 x.2.1)]) [0,3,73,74] rfl (fun x=>.blk g [.bool true,.slice pa A.length ca,.slice pe es.length ce]::lkS gl (.pointer (some ⟨gk,0,none⟩)) (.slice pF NF.length cF) (.slice pS NS.length cS) (room + sumN A) x.2.2.1 x.2.2.2) (fun x=>x.1≤es.length∧((x.1:Nat):Int)≤x.2.1∧x.2.1≤255∧entsB A NF.length NS.length 0 es=entsB A NF.length NS.length x.2.1 (es.drop x.1)∧Grown NF x.2.2.1 1 ((es.take x.1).map (nmOf ⟨true,A,es⟩))∧Grown NS x.2.2.2 2 ((es.take x.1).map (nmOf ⟨true,A,es⟩))) (fun x=>es.length - x.1) (0,0,NF,NS) (by exact zS) ⟨Nat.zero_le _,Int.le_refl _,by show (0:Int)≤255;omega,by simp,Grown.refl _ _,Grown.refl _ _⟩ (by simpa only [List.append_nil] using hS) ?_
  clear hS hi hlt
  rintro ⟨i,last,MF,MS⟩ w1 ⟨hi,hil,hl5,hents,hGF,hGS⟩ hS
  dsimp only at hi hil hl5 hents hGF hGS hS ⊢
  rw [List.append_nil] at hS
  unfold lkS at hS
  rw [hents]
  by_cases hlt:i < es.length
  rotate_left
  ·obtain rfl:i=es.length:=by omega
   repeat' (first|refine yO ?_|(refine yS ?_ ?_;all_goals (intro hb hp;try (exfalso;omega))))
   refine yR1 ?_
   rw [List.drop_length]
   rw [List.take_length] at hGF hGS
   exact ⟨rfl,MF,MS,_,hS.drop,fun _=>⟨rfl,hGF,hGS⟩⟩
  obtain ⟨e,he⟩:=lt_get (l:=es) (i:=i) (by omega)
  have hrow:=map_get (f:=enC) he
  obtain ⟨b,off,rfl,hro⟩:=hen.atF (i:=i) hlt
  have hfind:=fun w1 (h:Sl nF w1 4 (.slice pa A.length ca) (A.map arC))=>Find_fn e.page h
  rw [findI_good hc] at hfind
  unfold FindV arC at hfind
  have hstep:=ents_step (A:=A) (nf:=NF.length) (ns:=NS.length) (last:=last) he
  rw [hstep]
  unfold entOk
  have hnm:nmOf ⟨true,A,es⟩ e=(e,(findA A e.page).getD zeroAr):=rfl
  have htk:=take_snocE he
  cases hsm:(findA A e.page).isSome with
  |false=>
   rw [hsm] at hfind
   have hbad:((false && decide (last < e.page∧((e.kind=1∧0≤e.at_∧e.at_ < (NF.length:Int))∨(e.kind=2∧0≤e.at_∧e.at_ < (NS.length:Int))))) && entsB A NF.length NS.length e.page (es.drop (i + 1)))=false:=rfl
   obtain ⟨epg,ekd,eat⟩:=e
   unfold enC at hrow
   dsimp only at hrow hfind hbad ⊢
   repeat' (first|refine yO ?_|(refine yM ?_;clear hS;intro g w' hS)|(refine yN ?_;clear hS;intro w' hS)|(refine yS ?_ ?_;all_goals (intro hb hp;try (exfalso;omega)))|(refine yC ?_;refine ⟨_,hfind _ (har.now hS),?_⟩;clear hS;intro w' hS))
   all_goals (((apply q_ret1);((repeat (first|exact ResL.nil|(apply ResL.tmp;exact rfl))));(refine ⟨by rw [hbad],_,_,_,hS.sub (by repeat (first|exact List.Sublist.refl _|apply List.Sublist.cons)),fun h=>?_⟩);(rw [hbad] at h);cases h))
  |true=>
   rw [hsm] at hfind
   have hpg5:e.page≤255:=by
    obtain ⟨a,ha⟩:=Option.isSome_iff_exists.1 hsm
    have h1:=List.find?_some ha
    have h2:=(good_pos hc ha).1
    unfold holdsB at h1
    rw [decide_eq_true_eq] at h1
    unfold Ar.ok at h2
    unfold Ar.fin at h1
    omega
   obtain ⟨a,hag⟩:∃ a,(findA A e.page).getD zeroAr=a:=⟨_,rfl⟩
   rw [hag] at hfind hnm
   obtain ⟨epg,ekd,eat⟩:=e
   unfold enC at hrow
   dsimp only at hrow hfind hpg5 hnm ⊢
   by_cases hk9:last < epg∧((ekd=1∧0≤eat∧eat < (NF.length:Int))∨(ekd=2∧0≤eat∧eat < (NS.length:Int)))
   rotate_left
   ·have hbad:((true && decide (last < epg∧((ekd=1∧0≤eat∧eat < (NF.length:Int))∨(ekd=2∧0≤eat∧eat < (NS.length:Int))))) && entsB A NF.length NS.length epg (es.drop (i + 1)))=false:=by rw [decide_eq_false hk9];rfl
    repeat' (first|refine yO ?_|(refine yM ?_;clear hS;intro g w' hS)|(refine yN ?_;clear hS;intro w' hS)|(refine yS ?_ ?_;all_goals (intro hb hp;try (exfalso;omega)))|(refine yC ?_;refine ⟨_,hfind _ (har.now hS),?_⟩;clear hS;intro w' hS))
    all_goals (((apply q_ret1);((repeat (first|exact ResL.nil|(apply ResL.tmp;exact rfl))));(refine ⟨by rw [hbad],_,_,_,hS.sub (by repeat (first|exact List.Sublist.refl _|apply List.Sublist.cons)),fun h=>?_⟩);(rw [hbad] at h);cases h))
   rw [decide_eq_true hk9,Bool.true_and,Bool.true_and]
   obtain ⟨hk1,hk2⟩:=hk9
   rcases hk2 with ⟨rfl,h0,h1⟩|⟨rfl,h0,h1⟩
   ·obtain ⟨j,rfl⟩:=Int.eq_ofNat_of_zero_le h0
    obtain ⟨y,hy⟩:∃ y,MF[j]?=some y:=lt_get (by rw [hGF.1];omega)
    have hyl:y.2.length≤2000:=by
     obtain ⟨x0,hx0⟩:=lt_get (l:=NF) (i:=j) (by omega)
     obtain ⟨v0,hv0⟩:=hGF.2 j x0 hx0
     rw [hy] at hv0
     cases hv0
     have h8:=hF x0 (List.mem_of_getElem? hx0)
     have h9:=List.length_filter_le (fun (n:Nm)=>decide (n.1.kind=1∧n.1.at_=((j:Nat):Int))) ((es.take i).map (nmOf ⟨true,A,es⟩))
     rw [List.length_map,List.length_take] at h9
     rw [List.length_append]
     omega
    replace hS:=hS.perm ((((((nlR_pick hy).append_right (nlR MS)).cons _).cons _).cons _).cons _)
    have hrowF:(nlC MF)[j]?=some [y.1]:=map_get (f:=fun (x:Value×List Nm)=>[x.1]) hy
    have hput:=fun v=>hGF.put (n:=((⟨epg,1,(j:Nat)⟩:En),a)) (v:=v) rfl rfl hy
    have hskip:=hGS.skip (n:=((⟨epg,1,(j:Nat)⟩:En),a)) (by show ¬(1:Int)=_;omega)
    obtain ⟨vy,ny⟩:=y
    unfold nsA at hS
    dsimp only [List.cons_append] at hS hrowF hyl hput
    obtain ⟨py,cy,rfl⟩:=hS.rowSlice 4 rfl
    rw [List.length_map] at hS hrowF
    obtain ⟨gF,rfl⟩:=hS.rowSome 2 rfl (by omega)
    repeat' (first|refine yO ?_|(refine yM ?_;clear hS;intro g w' hS)|(refine yN ?_;clear hS;intro w' hS)|(refine yS ?_ ?_;all_goals (intro hb hp;try (exfalso;omega)))|(refine yC ?_;refine ⟨_,hfind _ (har.now hS),?_⟩;clear hS;intro w' hS))
    refine c_tillP 6 14 15 rfl hS (by kernel_rfl) ?_
    intro w10 hS'
    clear hS;have hS:=hS';clear hS'
    simp only [List.take_succ_cons,List.take_zero]
    have hH:=hS.sub (List.sublist_append_left [_,_,_,_,_,_] _)
    (refine xP (nn 0) ?_;refine ⟨Or.inr hH,?_⟩)
    (refine xP (nn 1) ?_;refine ⟨Or.inr hH,?_⟩)
    (refine xL (nn 2) ?_;refine ⟨hH,?_⟩)
    (refine xP (nn 3) ?_;refine ⟨Or.inr hH,?_⟩)
    (refine xP (nn 4) ?_;refine ⟨Or.inr hH,?_⟩)
    (refine xL (nn 5) ?_;refine ⟨hH,?_⟩)
    ((with_reducible apply t_runs (nn 6));exact rfl;kernel_rfl;kernel_rfl;kernel_rfl;exact rfl;exact (fun _ _ _ h=>h);exact Or.inr hH;(intro a ha;exact r_ix tabOk (j:=j) rfl rfl rfl rfl (by omega) a ha _);exact rfl)
    ((with_reducible apply t_takeL (nn 7));exact rfl;kernel_rfl;kernel_rfl;kernel_rfl;kernel_rfl;exact rfl;exact rfl;exact (fun _ _ _ h=>h);exact hH;exact rfl;(intro w2 hw2;(replace hw2:St _ _ w2 _:=hw2;(with_reducible apply Loads.sl tabOk);exact rfl;exact hw2.rowC0 4 rfl hrowF rfl));exact rfl)
    (refine xL (nn 8) ?_;refine ⟨hH,?_⟩)
    (refine xL (nn 9) ?_;refine ⟨hH,?_⟩)
    (refine xB (nn 10) ?_;refine ⟨Or.inr hH,?_⟩)
    refine t_one (i:=11) (by kernel_rfl) ?_
    refine p_gets rfl (g_bslice hS tabOk rfl rfl rfl rfl rfl rfl) rfl ?_
    rintro _ w' ⟨g9,rfl,hS'⟩
    clear hS;have hS:=hS';clear hS'
    have hH:=hS.drop.sub (List.sublist_append_left [_,_,_,_,_,_] _)
    refine ⟨Or.inr (Or.inr hH),?_⟩
    refine t_one (i:=12) (by kernel_rfl) ?_
    refine p_gets rfl (g_append hS tabOk (i:=7) rfl rfl rfl rfl (hS.rowRo 0 rfl) rfl (by simp only [List.length_map];omega)) rfl ?_
    rintro _ w' ⟨p',c',rfl,hS'⟩
    simp only [List.set] at hS'
    clear hS;have hS:=hS';clear hS'
    have hH:=hS.drop.sub (List.sublist_append_left [_,_,_,_,_,_] _)
    refine ⟨Or.inr (Or.inr hH),?_⟩
    ((with_reducible apply t_runs (nn 13));exact rfl;kernel_rfl;kernel_rfl;kernel_rfl;exact rfl;exact (fun _ _ _ h=>h);exact Or.inr hH;(intro a ha;exact r_ix tabOk (j:=j) rfl rfl rfl rfl (by omega) a ha _);exact rfl)
    refine t_one (i:=14) (by kernel_rfl) ?_
    refine p_gets0 (Φ:=fun _ w'=>St _ _ w' _) rfl (g_storeR hS tabOk (i:=4 + 1) (kk:=j) (j:=0) rfl rfl rfl rfl rfl hrowF (celL_eq rfl) rfl (Nat.le_refl _) rfl) ?_
    intro _ w' hS'
    simp only [List.set,setL] at hS'
    clear hS;have hS:=hS';clear hS'
    refine ⟨Or.inl rfl,?_⟩
    refine t_done (by kernel_rfl) ?_
    repeat' ((refine yO ?_))
    refine q_loopK (i + 1,epg,MF.set j (.slice p' (ny.length + 1) c',ny++[((⟨epg,1,(j:Nat)⟩:En),a)]),MS) (by exact zS) ⟨by show i + 1≤es.length;omega,by show ((i + 1:Nat):Int)≤epg;omega,hpg5,rfl,by rw [htk,List.map_append,List.map_cons,List.map_nil,hnm];exact hput _,by rw [htk,List.map_append,List.map_cons,List.map_nil,hnm];exact hskip⟩ ?_ (by show es.length - (i + 1) < es.length - i;omega)
    rw [List.append_nil]
    unfold lkS
    dsimp only
    rw [nlC_set]
    rw [List.length_map] at hS
    have hnc:ny.map nmC++[[.int .i64 epg,.int .i64 1,.int .i64 (j:Nat),.int .i64 a.pg,.int .i64 a.n,.int .i64 a.prot,.bool a.z]]=(ny++[((⟨epg,1,(j:Nat)⟩:En),a)]).map nmC:=by rw [List.map_append];rfl
    rw [hnc] at hS
    exact hS.drop.drop.drop.perm (((((((nlR_put (y:=(.slice p' (ny.length + 1) c',ny++[((⟨epg,1,(j:Nat)⟩:En),a)])) hy).append_right (nlR MS))).cons _).cons _).cons _).cons _)
   ·obtain ⟨j,rfl⟩:=Int.eq_ofNat_of_zero_le h0
    obtain ⟨y,hy⟩:∃ y,MS[j]?=some y:=lt_get (by rw [hGS.1];omega)
    have hyl:y.2.length≤2000:=by
     obtain ⟨x0,hx0⟩:=lt_get (l:=NS) (i:=j) (by omega)
     obtain ⟨v0,hv0⟩:=hGS.2 j x0 hx0
     rw [hy] at hv0
     cases hv0
     have h8:=hSl x0 (List.mem_of_getElem? hx0)
     have h9:=List.length_filter_le (fun (n:Nm)=>decide (n.1.kind=2∧n.1.at_=((j:Nat):Int))) ((es.take i).map (nmOf ⟨true,A,es⟩))
     rw [List.length_map,List.length_take] at h9
     rw [List.length_append]
     omega
    replace hS:=hS.perm (((((((nlR_pick hy).append_left (nlR MF)).trans List.perm_middle).cons _).cons _).cons _).cons _)
    have hrowF:(nlC MS)[j]?=some [y.1]:=map_get (f:=fun (x:Value×List Nm)=>[x.1]) hy
    have hput:=fun v=>hGS.put (n:=((⟨epg,2,(j:Nat)⟩:En),a)) (v:=v) rfl rfl hy
    have hskip:=hGF.skip (n:=((⟨epg,2,(j:Nat)⟩:En),a)) (by show ¬(2:Int)=_;omega)
    obtain ⟨vy,ny⟩:=y
    unfold nsA at hS
    dsimp only [List.cons_append] at hS hrowF hyl hput
    obtain ⟨py,cy,rfl⟩:=hS.rowSlice 4 rfl
    rw [List.length_map] at hS hrowF
    obtain ⟨gF,rfl⟩:=hS.rowSome 3 rfl (by omega)
    repeat' (first|refine yO ?_|(refine yM ?_;clear hS;intro g w' hS)|(refine yN ?_;clear hS;intro w' hS)|(refine yS ?_ ?_;all_goals (intro hb hp;try (exfalso;omega)))|(refine yC ?_;refine ⟨_,hfind _ (har.now hS),?_⟩;clear hS;intro w' hS))
    refine c_tillP 6 14 15 rfl hS (by kernel_rfl) ?_
    intro w10 hS'
    clear hS;have hS:=hS';clear hS'
    simp only [List.take_succ_cons,List.take_zero]
    have hH:=hS.sub (List.sublist_append_left [_,_,_,_,_,_] _)
    (refine xP (nn 0) ?_;refine ⟨Or.inr hH,?_⟩)
    (refine xP (nn 1) ?_;refine ⟨Or.inr hH,?_⟩)
    (refine xL (nn 2) ?_;refine ⟨hH,?_⟩)
    (refine xP (nn 3) ?_;refine ⟨Or.inr hH,?_⟩)
    (refine xP (nn 4) ?_;refine ⟨Or.inr hH,?_⟩)
    (refine xL (nn 5) ?_;refine ⟨hH,?_⟩)
    ((with_reducible apply t_runs (nn 6));exact rfl;kernel_rfl;kernel_rfl;kernel_rfl;exact rfl;exact (fun _ _ _ h=>h);exact Or.inr hH;(intro a ha;exact r_ix tabOk (j:=j) rfl rfl rfl rfl (by omega) a ha _);exact rfl)
    ((with_reducible apply t_takeL (nn 7));exact rfl;kernel_rfl;kernel_rfl;kernel_rfl;kernel_rfl;exact rfl;exact rfl;exact (fun _ _ _ h=>h);exact hH;exact rfl;(intro w2 hw2;(replace hw2:St _ _ w2 _:=hw2;(with_reducible apply Loads.sl tabOk);exact rfl;exact hw2.rowC0 5 rfl hrowF rfl));exact rfl)
    (refine xL (nn 8) ?_;refine ⟨hH,?_⟩)
    (refine xL (nn 9) ?_;refine ⟨hH,?_⟩)
    (refine xB (nn 10) ?_;refine ⟨Or.inr hH,?_⟩)
    refine t_one (i:=11) (by kernel_rfl) ?_
    refine p_gets rfl (g_bslice hS tabOk rfl rfl rfl rfl rfl rfl) rfl ?_
    rintro _ w' ⟨g9,rfl,hS'⟩
    clear hS;have hS:=hS';clear hS'
    have hH:=hS.drop.sub (List.sublist_append_left [_,_,_,_,_,_] _)
    refine ⟨Or.inr (Or.inr hH),?_⟩
    refine t_one (i:=12) (by kernel_rfl) ?_
    refine p_gets rfl (g_append hS tabOk (i:=7) rfl rfl rfl rfl (hS.rowRo 0 rfl) rfl (by simp only [List.length_map];omega)) rfl ?_
    rintro _ w' ⟨p',c',rfl,hS'⟩
    simp only [List.set] at hS'
    clear hS;have hS:=hS';clear hS'
    have hH:=hS.drop.sub (List.sublist_append_left [_,_,_,_,_,_] _)
    refine ⟨Or.inr (Or.inr hH),?_⟩
    ((with_reducible apply t_runs (nn 13));exact rfl;kernel_rfl;kernel_rfl;kernel_rfl;exact rfl;exact (fun _ _ _ h=>h);exact Or.inr hH;(intro a ha;exact r_ix tabOk (j:=j) rfl rfl rfl rfl (by omega) a ha _);exact rfl)
    refine t_one (i:=14) (by kernel_rfl) ?_
    refine p_gets0 (Φ:=fun _ w'=>St _ _ w' _) rfl (g_storeR hS tabOk (i:=5 + 1) (kk:=j) (j:=0) rfl rfl rfl rfl rfl hrowF (celL_eq rfl) rfl (Nat.le_refl _) rfl) ?_
    intro _ w' hS'
    simp only [List.set,setL] at hS'
    clear hS;have hS:=hS';clear hS'
    refine ⟨Or.inl rfl,?_⟩
    refine t_done (by kernel_rfl) ?_
    repeat' ((refine yO ?_))
    refine q_loopK (i + 1,epg,MF,MS.set j (.slice p' (ny.length + 1) c',ny++[((⟨epg,2,(j:Nat)⟩:En),a)])) (by exact zS) ⟨by show i + 1≤es.length;omega,by show ((i + 1:Nat):Int)≤epg;omega,hpg5,rfl,by rw [htk,List.map_append,List.map_cons,List.map_nil,hnm];exact hskip,by rw [htk,List.map_append,List.map_cons,List.map_nil,hnm];exact hput _⟩ ?_ (by show es.length - (i + 1) < es.length - i;omega)
    rw [List.append_nil]
    unfold lkS
    dsimp only
    rw [nlC_set]
    rw [List.length_map] at hS
    have hnc:ny.map nmC++[[.int .i64 epg,.int .i64 2,.int .i64 (j:Nat),.int .i64 a.pg,.int .i64 a.n,.int .i64 a.prot,.bool a.z]]=(ny++[((⟨epg,2,(j:Nat)⟩:En),a)]).map nmC:=by rw [List.map_append];rfl
    rw [hnc] at hS
    exact hS.drop.drop.drop.perm ((((((List.perm_middle.symm.trans ((nlR_put (y:=(.slice p' (ny.length + 1) c',ny++[((⟨epg,2,(j:Nat)⟩:En),a)])) hy).append_left (nlR MF)))).cons _).cons _).cons _).cons _)
end Go.Proofs.Ytejnpppejalhfac
/- THE STEP CALCULUS, part 24: regions that draw their order, held: operations with a guard. -/
namespace Go.Proofs.Ytejnpppejalhfac
open Go.RowKit Go.Sort
section
variable {P:Program} {n:Nat} {ds:List Deferred} {E:Fr} {w:World} {Q:Exit→Act→World→Prop} {ops:Array Oper} {S:World→Prop} {fuel:Nat} {li:Array Bool} {d:Nat} {op:Op} {ty:TypeId} {pos:String} {after:Array Edge} {F:Nat→Prop} {w0:World} {Γ:List Asr} {T:Tab}
theorem c_heldP (k:Nat) {id:Nat} {l:List Oper} (m:Nat) (hl:l.length=m) (hS:St F w0 w Γ) (hm:P.follows .mixedOrders=true) (h:∀ w1,St F w0 w1 Γ→WA P l.toArray Q (fun w'=>St F w0 w' (Γ.take k)) m (Array.replicate m false) n ds E w1):WC P (.region id l.toArray true) Q n ds E w:=c_held _ m hl hS hm h
theorem a_takeG {i:Nat} (_C:Nn i) {j dj:Nat} {want b:Bool} {oj:Oper} {v:Value} (hi:ops[i]?=some ⟨some d,op,ty,pos,after,some (j,want)⟩) (hs:Region.noSelect ops=true) (hf:Region.free .any ops li i=true) (hr:(Region.ready .any ops li).contains i=true)
  (hQ:∀ c (a:Act) w,Q (.panic c) (a.put (some d) v) w→Q (.panic c) a w) (hS:S w) (hj:ops[j]?=some oj) (hdj:oj.dst=some dj) (hlt:Nat.blt dj n=true) (hb:E.get dj=some (.bool b)) (he:b=want) (h:∀ a,Has n ds a E→Runs P ⟨some d,op,ty,pos,after,none⟩ a v) (hd:Nat.blt d n=true) (k:WA P ops Q S fuel (li.setIfInBounds i true) n ds ((d,v)::E) w):WA P ops Q S (fuel + 1) li n ds E w:=fun a ha=>by
 have hw:=wanted_of (o:=⟨some d,op,ty,pos,after,some (j,want)⟩) rfl hj hdj hb ha hlt
 exact wpAnyH_take hi hs hf hr hQ (Or.inl ⟨by rw [hw,he];cases want <;> rfl,fun w _=>h a ha w⟩) hS (k _ (ha.put d v hd))
theorem a_takeLG {i:Nat} (_C:Nn i) {j dj:Nat} {want b:Bool} {oj:Oper} {t:TypeId} {x:Operand} {p:Addr} {v:Value} (hi:ops[i]?=some ⟨some d,.load t x,ty,pos,after,some (j,want)⟩) (hs:Region.noSelect ops=true) (hf:Region.free .any ops li i=true) (hr:(Region.ready .any ops li).contains i=true)
  (hQ:∀ c (a:Act) w,Q (.panic c) (a.put (some d) v) w→Q (.panic c) a w) (hS:S w) (hj:ops[j]?=some oj) (hdj:oj.dst=some dj) (hlt:Nat.blt dj n=true) (hb:E.get dj=some (.bool b)) (he:b=want) (hx:E.ev x=some (.pointer (some p))) (hl:∀ w,S w→Loads P t p v w) (hd:Nat.blt d n=true) (k:WA P ops Q S fuel (li.setIfInBounds i true) n ds ((d,v)::E) w):WA P ops Q S (fuel + 1) li n ds E w:=fun a ha=>by
 have hw:=wanted_of (o:=⟨some d,.load t x,ty,pos,after,some (j,want)⟩) rfl hj hdj hb ha hlt
 refine wpAnyH_take hi hs hf hr hQ (Or.inl ⟨by rw [hw,he];cases want <;> rfl,fun w hw=>?_⟩) hS (k _ (ha.put d v hd))
 have h:=hl w hw
 unfold Loads at h
 simp only [execOp,ha.ev hx,Instr.loadAt,Instr.sureAddr,Sem.run_bind,Sem.run_pure,Result.andThen_ok,h]
theorem a_skipG {i:Nat} (_C:Nn i) {j dj:Nat} {want b:Bool} {oj:Oper} (hi:ops[i]?=some ⟨some d,op,ty,pos,after,some (j,want)⟩) (hs:Region.noSelect ops=true) (hf:Region.free .any ops li i=true) (hr:(Region.ready .any ops li).contains i=true)
  (hQ:∀ c (a:Act) w,Q (.panic c) (a.put (some d) undef) w→Q (.panic c) a w) (hS:S w) (hj:ops[j]?=some oj) (hdj:oj.dst=some dj) (hlt:Nat.blt dj n=true) (hb:E.get dj=some (.bool b)) (he:b=!want) (hd:Nat.blt d n=true) (k:WA P ops Q S fuel (li.setIfInBounds i true) n ds ((d,undef)::E) w):WA P ops Q S (fuel + 1) li n ds E w:=fun a ha=>by
 have hw:=wanted_of (o:=⟨some d,op,ty,pos,after,some (j,want)⟩) rfl hj hdj hb ha hlt
 exact wpAnyH_take hi hs hf hr hQ (Or.inr ⟨by rw [hw,he];cases want <;> rfl,rfl⟩) hS (k _ (ha.put d undef hd))
theorem o_getsG {i j dj:Nat} {want b:Bool} {oj:Oper} {Φ:Value→World→Prop} (hi:ops[i]?=some ⟨some d,op,ty,pos,after,some (j,want)⟩) (hj:ops[j]?=some oj) (hdj:oj.dst=some dj) (hlt:Nat.blt dj n=true) (hb:E.get dj=some (.bool b)) (he:b=want)
  (h:Gets P ⟨some d,op,ty,pos,after,none⟩ n ds E w Φ) (hd:Nat.blt d n=true) (k:∀ v w',Φ v w'→S w'∧WA P ops Q S fuel (li.setIfInBounds i true) n ds ((d,v)::E) w'):WO P ops Q S fuel li n ds E w i:=fun a ha=>by
 have hw:=wanted_of (o:=⟨some d,op,ty,pos,after,some (j,want)⟩) rfl hj hdj hb ha hlt
 unfold wpOp
 simp only [hi]
 rw [if_pos (by rw [hw,he];cases want <;> rfl)]
 exact Or.inl (h a ha (fun a' w'=>S w'∧wpAnyH P .any ops Q S fuel (li.setIfInBounds i true) a' w') Q fun v w' hv=>⟨(k v w' hv).1,(k v w' hv).2 _ (ha.put d v hd)⟩)
theorem r_pick1 {c x y:Operand} {b:Bool} {v:Value} (hc:E.ev c=some (.bool b)) (hb:b=true) (hv:E.ev x=some v):∀ a,Has n ds a E→Runs P ⟨some d,.pick c x y,ty,pos,after,none⟩ a v:=fun a ha w=>by simp [execOp,ha.ev hc,asBool,hb,ha.ev hv]
theorem r_pick2 {c x y:Operand} {b:Bool} {v:Value} (hc:E.ev c=some (.bool b)) (hb:b=false) (hv:E.ev y=some v):∀ a,Has n ds a E→Runs P ⟨some d,.pick c x y,ty,pos,after,none⟩ a v:=fun a ha w=>by simp [execOp,ha.ev hc,asBool,hb,ha.ev hv]
theorem a_three {i j l:Nat} (hr:Region.ready .any ops li=[i,j,l]) (h1:WO P ops Q S fuel li n ds E w i) (h2:WO P ops Q S fuel li n ds E w j) (h3:WO P ops Q S fuel li n ds E w l):WA P ops Q S (fuel + 1) li n ds E w:=fun a ha=>
 wpAnyH_all hr (by simp) (fun k hk=>by
  have:k=i∨k=j∨k=l:=by simpa using hk
  rcases this with rfl|rfl|rfl
  ·exact h1 a ha
  ·exact h2 a ha
  ·exact h3 a ha)
theorem c_varX {X:Type} (vf:X→Fr) (Γf:X→List Asr) (p:X→Prop) {x y:Code} {Q1 Q2:Exit→Act→World→Prop} (hx:WC P x (Exit.then (fun a' w'=>∃ m,Has n ds a' (vf m)∧(p m∧St F w0 w' (Γf m))) Q2) n ds E w) (hz:∀ m w',p m→St F w0 w' (Γf m)→WC P y Q1 n ds (vf m) w'):WC P x (Exit.then (y.wp P Q1) Q2) n ds E w:=fun a ha=>
 Code.wp_mono (fun e a' w' q=>by
  cases e with
  |normal=>obtain ⟨m,h1,h2,h3⟩:=q;exact hz m w' h2 h3 a' h1
  |exit i=>exact q
  |goto l=>exact q
  |ret=>exact q
  |panic c=>exact q
  |outgrown=>exact q) (hx a ha)
theorem q_varX {X:Type} {vf:X→Fr} {Γf:X→List Asr} {p:X→Prop} {Q2:Exit→Act→World→Prop} (m:X) (h0:Fr.sub (vf m) E) (hp:p m) (hS:St F w0 w (Γf m)):WQ (Exit.then (fun a' w'=>∃ m,Has n ds a' (vf m)∧(p m∧St F w0 w' (Γf m))) Q2) .normal n ds E w:=fun _ ha=>⟨m,ha.sub h0,hp,hS⟩
theorem q_ret4 {fn:Func} {Φ:Value→World→Prop} {v1 v2 v3 v4:Value} (hr:ResL P E w fn.results.toList [v1,v2,v3,v4]) (hΦ:Φ (.tuple #[v1,v2,v3,v4]) w):WQ (bodyPost P fn (fun e w'=>∃ v,e=.returned v∧Φ v w')) .ret n [] E w:=q_ret rfl hr rfl hΦ
theorem St.slMem {e sz:Nat} {v:Value} {rows:List (List Value)} (hS:St F w0 w Γ) (h:Asr.row e sz v rows ∈ Γ):Sl nF w sz v rows:=by
 obtain ⟨j,hj⟩:=List.mem_iff_getElem?.1 h
 exact hS.rowSl j hj
end
end Go.Proofs.Ytejnpppejalhfac
/- THE STEP CALCULUS, part 25: slices of slices of one's own; copy, clear, append of zeros. -/
namespace Go.Proofs.Ytejnpppejalhfac
open Go.RowKit Go.Sort
section
variable {P:Program} {n:Nat} {ds:List Deferred} {E:Fr} {w w':World} {Q:Exit→Act→World→Prop} {ops:Array Oper} {rest:List Oper} {d:Nat} {dst:Option Nat} {ty:TypeId} {pos:String} {after:Array Edge} {F:Nat→Prop} {w0:World} {Γ:List Asr} {T:Tab}
theorem add_mid0 (g o k:Nat):(⟨g,o,none⟩:Addr).add k=⟨g,o + k,none⟩:=by unfold Addr.add;split <;> simp_all
/-! slices of slices -/
theorem r_sliceL (hT:TabOk P T) {t el sz eb b off m c j:Nat} {ag:Bool} {z:List Value} {x y:Operand} {i:Int} (ht:T.get t=some (.sl el sz eb ag z)) (hx:E.ev x=some (.slice (some ⟨b,off,none⟩) m c)) (hy:E.ev y=some (.int .i64 i)) (hj:(j:Int)=i) (hm:j≤m) (hc:j < c):∀ a,Has n ds a E→∀ dst,Runs P ⟨dst,.slice t x (some y) none none,ty,pos,after,none⟩ a (.slice (some ⟨b,off + j * sz,none⟩) (m - j) (c - j)):=fun a ha _ w=>by
 obtain ⟨ji,zv,hu,hinfo,_,hs,_⟩:=hT.sl ht
 subst hj
 have hb:(Instr.sliceBounds true m c (some (.int .i64 (j:Int))) none none).run P w=.ok (j,m,c) w:=by
  simp [Instr.sliceBounds,run_sliceBound,hm]
 simp only [execOp,ha.ev hx,ha.ev hy,Option.map_some,Option.map_none]
 simp [Instr.sliceAt,Instr.slice,run_underlying hu,hb,sizeOf,typeInfo,hinfo,hs,show ¬ c=j by omega,add_mid0]
theorem r_sliceH (hT:TabOk P T) {t el sz eb m c j:Nat} {p:Option Addr} {ag:Bool} {z:List Value} {x y:Operand} {i:Int} (ht:T.get t=some (.sl el sz eb ag z)) (hx:E.ev x=some (.slice p m c)) (hy:E.ev y=some (.int .i64 i)) (hj:(j:Int)=i) (hm:j≤c):∀ a,Has n ds a E→∀ dst,Runs P ⟨dst,.slice t x none (some y) none,ty,pos,after,none⟩ a (.slice p j c):=fun a ha _ w=>by
 obtain ⟨ji,zv,hu,hinfo,_,hs,_⟩:=hT.sl ht
 subst hj
 have hb:(Instr.sliceBounds true m c none (some (.int .i64 (j:Int))) none).run P w=.ok (0,j,c) w:=by
  simp [Instr.sliceBounds,run_sliceBound,hm]
 simp only [execOp,ha.ev hx,ha.ev hy,Option.map_some,Option.map_none]
 simp [Instr.sliceAt,Instr.slice,run_underlying hu,hb,sizeOf,typeInfo,hinfo,hs]
 intro _
 cases p with
 |none=>rfl
 |some a=>simp [Addr.add]
theorem l_sliceL (hT:TabOk P T) {t el sz eb b off m c j:Nat} {ag:Bool} {z:List Value} {x y:Operand} {i:Int} (ht:T.get t=some (.sl el sz eb ag z)) (hx:E.ev x=some (.slice (some ⟨b,off,none⟩) m c)) (hy:E.ev y=some (.int .i64 i)) (hj:(j:Int)=i) (hm:j≤m) (hc:j < c) (hd:Nat.blt d n=true) (k':WL P ops Q rest n ds ((d,.slice (some ⟨b,off + j * sz,none⟩) (m - j) (c - j))::E) w):WL P ops Q (⟨some d,.slice t x (some y) none none,ty,pos,after,none⟩::rest) n ds E w:=l_runs (fun a ha=>r_sliceL hT ht hx hy hj hm hc a ha _) hd k'
theorem l_sliceH (hT:TabOk P T) {t el sz eb m c j:Nat} {p:Option Addr} {ag:Bool} {z:List Value} {x y:Operand} {i:Int} (ht:T.get t=some (.sl el sz eb ag z)) (hx:E.ev x=some (.slice p m c)) (hy:E.ev y=some (.int .i64 i)) (hj:(j:Int)=i) (hm:j≤c) (hd:Nat.blt d n=true) (k':WL P ops Q rest n ds ((d,.slice p j c)::E) w):WL P ops Q (⟨some d,.slice t x none (some y) none,ty,pos,after,none⟩::rest) n ds E w:=l_runs (fun a ha=>r_sliceH hT ht hx hy hj hm a ha _) hd k'
theorem d_sliceL {C:World→Prop} {K:Act→Prop} (hT:TabOk P T) {t el sz eb b off m c j:Nat} {ag:Bool} {z:List Value} {x y:Operand} {i:Int} (ht:T.get t=some (.sl el sz eb ag z)) (hx:E.ev x=some (.slice (some ⟨b,off,none⟩) m c)) (hy:E.ev y=some (.int .i64 i)) (hj:(j:Int)=i) (hm:j≤m) (hc:j < c) (hd:Nat.blt d n=true) (k':WD P ops C K rest n ds ((d,.slice (some ⟨b,off + j * sz,none⟩) (m - j) (c - j))::E)):WD P ops C K (⟨some d,.slice t x (some y) none none,ty,pos,after,none⟩::rest) n ds E:=d_runs (fun a ha=>r_sliceL hT ht hx hy hj hm hc a ha _) hd k'
theorem r_cap (hT:TabOk P T) {t el sz eb m c:Nat} {p:Option Addr} {ag:Bool} {z:List Value} {x:Operand} (ht:T.get t=some (.sl el sz eb ag z)) (hx:E.ev x=some (.slice p m c)):∀ a,Has n ds a E→∀ dst,Runs P ⟨dst,.call { callee:=.builtin .cap,args:=#[x],argTypes:=#[t] },ty,pos,after,none⟩ a (.int .i64 (c:Nat)):=fun a ha _ w=>by
 obtain ⟨ji,zv,hu,_⟩:=hT.sl ht
 have hr:(Builtin.cap_ #[t] ty #[.slice p m c]).run P w=.ok (.int .i64 (c:Nat)) w:=by
  simp [Builtin.cap_,run_underlying hu,goInt]
 simp [execOp,resolve,invoke,builtin,ha.ev hx,hr,Result.andThen]
theorem l_cap (hT:TabOk P T) {t el sz eb m c:Nat} {p:Option Addr} {ag:Bool} {z:List Value} {x:Operand} (ht:T.get t=some (.sl el sz eb ag z)) (hx:E.ev x=some (.slice p m c)) (hd:Nat.blt d n=true) (k':WL P ops Q rest n ds ((d,.int .i64 (c:Nat))::E) w):WL P ops Q (⟨some d,.call { callee:=.builtin .cap,args:=#[x],argTypes:=#[t] },ty,pos,after,none⟩::rest) n ds E w:=l_runs (fun a ha=>r_cap hT ht hx a ha _) hd k'
/-! rows laid over a row of one's own -/
def overL (rows news:List (List Value)) (k:Nat):List (List Value):=rows.take k++(news++rows.drop (k + news.length))
theorem overL_len {rows news:List (List Value)} {k:Nat} (hk:k≤rows.length):(overL rows news k).length=max rows.length (k + news.length):=by
 unfold overL
 rw [List.length_append,List.length_append,List.length_take,List.length_drop]
 omega
theorem flat_take {rows:List (List Value)} {sz:Nat} (hs:∀ r ∈ rows,r.length=sz) (k:Nat):rows.flatten.take (k * sz)=(rows.take k).flatten:=by
 have h1:rows.flatten=(rows.take k).flatten++(rows.drop k).flatten:=by rw [← List.flatten_append,List.take_append_drop]
 by_cases hk:k≤rows.length
 ·have hl:(rows.take k).flatten.length=k * sz:=by
   rw [rows_len (fun r hr=>hs r (List.mem_of_mem_take hr)),List.length_take]
   congr 1;omega
  rw [h1,List.take_left' hl]
 ·rw [List.take_of_length_le (by rw [rows_len hs];exact Nat.mul_le_mul_right _ (by omega)),List.take_of_length_le (l:=rows) (by omega)]
theorem flat_drop {rows:List (List Value)} {sz:Nat} (hs:∀ r ∈ rows,r.length=sz) (k:Nat):rows.flatten.drop (k * sz)=(rows.drop k).flatten:=by
 have h1:rows.flatten=(rows.take k).flatten++(rows.drop k).flatten:=by rw [← List.flatten_append,List.take_append_drop]
 by_cases hk:k≤rows.length
 ·have hl:(rows.take k).flatten.length=k * sz:=by
   rw [rows_len (fun r hr=>hs r (List.mem_of_mem_take hr)),List.length_take]
   congr 1;omega
  rw [h1,List.drop_left' hl]
 ·rw [List.drop_of_length_le (by rw [rows_len hs];exact Nat.mul_le_mul_right _ (by omega)),List.drop_of_length_le (l:=rows) (by omega)]
  rfl
theorem store_rows {e sz g m cap k:Nat} {rows news:List (List Value)} (h:Asr.holds w (.row e sz (.slice (some ⟨g,0,none⟩) m cap) rows)) (hk:k≤rows.length) (hn:k + news.length≤cap) (hs:∀ r ∈ news,r.length=sz) (h1:∀ r ∈ news,r.all (·.oneCell')=true) :
  ∃ w',(storeCells ⟨g,k * sz,none⟩ news.flatten).run P w=.ok () w'∧w.grownBy w' (some g)∧Asr.holds w' (.row e sz (.slice (some ⟨g,0,none⟩) (overL rows news k).length cap) (overL rows news k)):=by
 obtain ⟨ho,hlen,hone⟩:=h
 rcases ho.2 with ⟨he,_⟩|⟨g',cap',cur,hv,_,hg,hnc,hcm,hcs,htake⟩
 ·cases he
 cases hv
 have hsl:news.flatten.length=news.length * sz:=rows_len hs
 have hfit:k * sz + news.flatten.length≤cur.size:=by
  rw [hsl,hcs,← Nat.add_mul]
  exact Nat.mul_le_mul_right _ hn
 have hst:=run_storeCells_at P g (k * sz) e news.flatten 0 cur w hg (by simpa using hfit) (fun v hv=>by
  obtain ⟨r,hr,hur⟩:=List.mem_flatten.1 hv
  exact List.all_eq_true.1 (h1 r hr) v hur)
 refine ⟨_,hst,⟨rfl,rfl,rfl,by simp [World.setRow,World.heap],fun j hj hne=>?_⟩,⟨⟨rows_len (fun r hr=>?_),.inr ⟨g,cap,_,rfl,Nat.zero_le _,setRow_heap w g cur _ e (0,0) hg,?_,hcm,?_,?_⟩⟩,fun r hr=>?_,fun r hr=>?_⟩⟩
 ·have:g≠j:=fun e=>hne (by rw [e])
  simp [World.setRow,Array.getElem?_modify,this]
 ·unfold overL at hr
  rcases List.mem_append.1 hr with hr|hr
  ·exact hlen r (List.mem_of_mem_take hr)
  ·rcases List.mem_append.1 hr with hr|hr
   ·exact hs r hr
   ·exact hlen r (List.mem_of_mem_drop hr)
 ·rw [overL_len hk]
  omega
 ·rw [hsl] at hfit ⊢
  simp only [List.size_toArray,List.length_append,List.length_take,List.length_drop,Array.length_toList,Nat.add_zero,hsl]
  omega
 ·have hcl:cur.toList.length=cap * sz:=by simpa using hcs
  have hct:cur.toList.take (k * sz)=(rows.take k).flatten:=by
   rw [← flat_take hlen,← htake,List.take_take]
   congr 1
   exact (Nat.min_eq_left (Nat.mul_le_mul_right _ hk)).symm
  have hrl:(rows.take k).flatten.length=k * sz:=by
   rw [rows_len (fun r hr=>hlen r (List.mem_of_mem_take hr)),List.length_take]
   congr 1;omega
  simp only [Nat.add_zero,List.toList_toArray]
  rw [hct,overL_len hk,List.append_assoc]
  unfold overL
  rw [List.flatten_append,List.flatten_append]
  rw [List.take_append,List.take_of_length_le (l:=(rows.take k).flatten) (by rw [hrl];exact Nat.mul_le_mul_right _ (by omega)),hrl]
  congr 1
  rw [List.take_append,List.take_of_length_le (l:=news.flatten) (by rw [hsl,← Nat.sub_mul];exact Nat.mul_le_mul_right _ (by omega)),hsl]
  congr 1
  by_cases hc:k + news.length≤rows.length
  ·rw [show max rows.length (k + news.length)=rows.length by omega,← Nat.sub_mul,← Nat.sub_mul,← flat_drop hlen,← htake]
   rw [show k * sz + news.length * sz=(k + news.length) * sz by rw [Nat.add_mul],List.drop_take,← Nat.sub_mul]
   congr 2
   omega
  ·rw [show max rows.length (k + news.length)=k + news.length by omega,List.drop_of_length_le (l:=rows) (by omega)]
   rw [← Nat.sub_mul,← Nat.sub_mul,show k + news.length - k - news.length=0 by omega]
   simp
 ·unfold overL at hr
  rcases List.mem_append.1 hr with hr|hr
  ·exact hlen r (List.mem_of_mem_take hr)
  ·rcases List.mem_append.1 hr with hr|hr
   ·exact hs r hr
   ·exact hlen r (List.mem_of_mem_drop hr)
 ·unfold overL at hr
  rcases List.mem_append.1 hr with hr|hr
  ·exact hone r (List.mem_of_mem_take hr)
  ·rcases List.mem_append.1 hr with hr|hr
   ·exact h1 r hr
   ·exact hone r (List.mem_of_mem_drop hr)
theorem g_copy (hS:St F w0 w Γ) (hT:TabOk P T) {t e sz eb g m cap k dl dc b off sl sc i:Nat} {ag:Bool} {ez:List Value} {x y:Operand} {rows news:List (List Value)} (ht:T.get t=some (.sl e sz eb ag ez)) (hx:E.ev x=some (.slice (some ⟨g,0 + k * sz,none⟩) dl dc)) (hi:Γ[i]?=some (.row e sz (.slice (some ⟨g,0,none⟩) m cap) rows)) (hy:E.ev y=some (.slice (some ⟨b,off,none⟩) sl sc)) (hn:RoAt nF w b off sz news) (hnl:news.length=min sl dl) (hk:k≤rows.length) (hc:k + news.length≤cap) :
  Gets P ⟨dst,.call { callee:=.builtin .copy,args:=#[x,y],argTypes:=#[t,t] },ty,pos,after,none⟩ n ds E w (fun v' w'=>v'=.int .i64 (news.length:Nat)∧St F w0 w' (Γ.set i (.row e sz (.slice (some ⟨g,0,none⟩) (overL rows news k).length cap) (overL rows news k)))):=by
 intro a ha K Q kk
 obtain ⟨ji,zv,hu,hinfo,_,hs,_,_,_,_,hsz,hs0⟩:=hT.sl ht
 obtain ⟨w',hst,hg,hh⟩:=store_rows (P:=P) (hS.at_ hi) hk hc hn.len hn.one
 have hl:(loadCells ⟨b,off,none⟩ (news.length * sz)).run P w=.ok news.flatten.toArray w:=by
  have:=run_loadCells_list (P:=P) w ⟨b,off,none⟩ news.flatten (fun j u hj=>by
   have hjl:j < news.length * sz:=by rw [← rows_len hn.len];exact lt_of_getE hj
   have hdiv:j / sz < news.length:=Nat.div_lt_of_lt_mul (by rw [Nat.mul_comm];exact hjl)
   have hmod:=Nat.mod_lt j (Nat.pos_of_ne_zero hs0)
   have h3:=rows_at hn.len (i:=j / sz) (j:=j % sz) (List.getElem?_eq_getElem hdiv) hmod
   rw [show j / sz * sz + j % sz=j from by rw [Nat.mul_comm];exact Nat.div_add_mod j sz] at h3
   rw [h3] at hj
   have:=hn.cells (j / sz) _ (List.getElem?_eq_getElem hdiv) (j % sz) u hj
   rw [Addr.add_mid]
   rwa [Nat.add_assoc,show j / sz * sz + j % sz=j from by rw [Nat.mul_comm];exact Nat.div_add_mod j sz] at this)
  rwa [rows_len hn.len] at this
 rw [Nat.zero_add] at hx
 have hrun:(Builtin.copy_ #[t,t] ty #[.slice (some ⟨g,k * sz,none⟩) dl dc,.slice (some ⟨b,off,none⟩) sl sc]).run P w=.ok (.int .i64 (news.length:Nat)) w':=by
  have hmin:Nat.min sl dl=news.length:=hnl.symm
  simp [Builtin.copy_,run_underlying hu,Builtin.lenOf,Builtin.firstCells,sizeOf,typeInfo,hinfo,hs,hmin,hl,hst,goInt]
 have hex:(execOp a.eval ⟨dst,.call { callee:=.builtin .copy,args:=#[x,y],argTypes:=#[t,t] },ty,pos,after,none⟩).run P w=.ok (.value (.int .i64 (news.length:Nat))) w':=by
  simp [execOp,resolve,invoke,builtin,ha.ev hx,ha.ev hy,hrun,Result.andThen]
 unfold Oper.wp
 rw [hex]
 exact kk _ _ ⟨rfl,hS.upd hi hg hh (fun q hq=>Or.inl hq)⟩
theorem g_clear (hS:St F w0 w Γ) (hT:TabOk P T) {t e sz eb g m cap k dl dc i:Nat} {ag:Bool} {ez:List Value} {x:Operand} {rows:List (List Value)} (ht:T.get t=some (.sl e sz eb ag ez)) (hx:E.ev x=some (.slice (some ⟨g,0 + k * sz,none⟩) dl dc)) (hi:Γ[i]?=some (.row e sz (.slice (some ⟨g,0,none⟩) m cap) rows)) (hdl:0 < dl) (hk:k≤rows.length) (hc:k + dl≤cap) (h1:ez.all (·.oneCell')=true) :
  Gets P ⟨dst,.call { callee:=.builtin .clear,args:=#[x],argTypes:=#[t] },ty,pos,after,none⟩ n ds E w (fun v' w'=>St F w0 w' (Γ.set i (.row e sz (.slice (some ⟨g,0,none⟩) (overL rows (List.replicate dl ez) k).length cap) (overL rows (List.replicate dl ez) k)))):=by
 intro a ha K Q kk
 obtain ⟨ji,zv,hu,hinfo,_,hs,_,hz,hzl,_,hsz,hs0⟩:=hT.sl ht
 obtain ⟨w',hst,hg,hh⟩:=store_rows (P:=P) (news:=List.replicate dl ez) (hS.at_ hi) hk (by rw [List.length_replicate];exact hc) (fun r hr=>by rw [List.eq_of_mem_replicate hr,hsz]) (fun r hr=>by rw [List.eq_of_mem_replicate hr];exact h1)
 have hzc:(Builtin.zeroCells zv.cells dl).toList=(List.replicate dl ez).flatten:=by
  have hzs:zv.cells.size=sz:=by rw [← Array.length_toList,hzl,hsz]
  have hfl:(List.replicate dl ez).flatten.length=dl * sz:=by rw [rows_len (size:=sz) (fun r hr=>by rw [List.eq_of_mem_replicate hr,hsz]),List.length_replicate]
  refine List.ext_getElem? fun j=>?_
  unfold Builtin.zeroCells
  rw [hzs]
  by_cases hj:j < dl * sz
  ·have hdiv:j / sz < (List.replicate dl ez).length:=by rw [List.length_replicate];exact Nat.div_lt_of_lt_mul (by rw [Nat.mul_comm];exact hj)
   have hmod:=Nat.mod_lt j (Nat.pos_of_ne_zero hs0)
   have h3:=rows_at (rows:=List.replicate dl ez) (size:=sz) (fun r hr=>by rw [List.eq_of_mem_replicate hr,hsz]) (i:=j / sz) (j:=j % sz) (List.getElem?_eq_getElem hdiv) hmod
   rw [show j / sz * sz + j % sz=j from by rw [Nat.mul_comm];exact Nat.div_add_mod j sz] at h3
   rw [h3,List.getElem_replicate]
   have hml:j % sz < zv.cells.size:=by rw [hzs];exact hmod
   simp [hj,hml,← hzl]
  ·rw [List.getElem?_eq_none (by simp;omega),List.getElem?_eq_none (by rw [hfl];omega)]
 rw [Nat.zero_add] at hx
 have hrun:(Builtin.clear_ #[t] ty #[.slice (some ⟨g,k * sz,none⟩) dl dc]).run P w=.ok (.tuple #[]) w':=by
  obtain ⟨q,rfl⟩:∃ q,dl=q + 1:=⟨dl - 1,by omega⟩
  simp [Builtin.clear_,run_underlying hu,zeroValue,typeInfo,hinfo,hz,hzc,hst]
 have hex:(execOp a.eval ⟨dst,.call { callee:=.builtin .clear,args:=#[x],argTypes:=#[t] },ty,pos,after,none⟩).run P w=.ok (.value (.tuple #[])) w':=by
  simp [execOp,resolve,invoke,builtin,ha.ev hx,hrun,Result.andThen]
 unfold Oper.wp
 rw [hex]
 exact kk _ _ (hS.upd hi hg hh (fun q hq=>Or.inl hq))
theorem RoAt.drop {G:Nat→Prop} {b off sz:Nat} {rows:List (List Value)} (h:RoAt G w b off sz rows) (k:Nat):RoAt G w b (off + k * sz) sz (rows.drop k) :=
 ⟨h.lt,h.nf,fun r hr=>h.len r (List.mem_of_mem_drop hr),fun r hr=>h.one r (List.mem_of_mem_drop hr),fun i r hr j u hj=>by
  rw [List.getElem?_drop] at hr
  have:=h.cells (k + i) r hr j u hj
  rwa [show off + k * sz + i * sz + j=off + (k + i) * sz + j by rw [Nat.add_mul];omega]⟩
theorem St.shrink (hS:St F w0 w Γ) (i:Nat) {e sz g m cap:Nat} {rows:List (List Value)} (k:Nat) (hi:Γ[i]?=some (.row e sz (.slice (some ⟨g,0,none⟩) m cap) rows)) (hk:k≤rows.length):St F w0 w (Γ.set i (.row e sz (.slice (some ⟨g,0,none⟩) k cap) (rows.take k))):=by
 refine hS.upd hi ⟨rfl,rfl,rfl,Nat.le_refl _,fun _ _ _=>rfl⟩ ?_ (fun q hq=>Or.inl hq)
 obtain ⟨ho,hlen,hone⟩:=hS.at_ hi
 rcases ho.2 with ⟨he,_⟩|⟨g',cap',cur,hv,_,hg,hnc,hcm,hcs,htake⟩
 ·cases he
 cases hv
 refine ⟨⟨rows_len (fun r hr=>hlen r (List.mem_of_mem_take hr)),.inr ⟨g,cap,cur,by rw [List.length_take,Nat.min_eq_left hk],Nat.zero_le _,hg,by rw [List.length_take];omega,hcm,hcs,?_⟩⟩,fun r hr=>hlen r (List.mem_of_mem_take hr),fun r hr=>hone r (List.mem_of_mem_take hr)⟩
 rw [List.length_take,Nat.min_eq_left hk,← flat_take hlen,← htake,List.take_take,Nat.min_eq_left (Nat.mul_le_mul_right _ hk)]
theorem g_appendZ (hS:St F w0 w Γ) (hT:TabOk P T) {t tn e sz eb g m cap k q sz2 i:Nat} {z2:Value} {ag:Bool} {ez:List Value} {x y:Operand} {rows:List (List Value)} {jj:Int} (ht:T.get t=some (.sl e sz eb ag ez)) (htn:T.get tn=some (.sc (.int .i64) sz2 z2)) (hx:E.ev x=some (.slice (some ⟨g,0,none⟩) k cap)) (hy:E.ev y=some (.int .i64 jj)) (hjj:(q:Int)=jj) (hi:Γ[i]?=some (.row e sz (.slice (some ⟨g,0,none⟩) m cap) rows)) (hk:k≤rows.length) (hq:0 < q) (hc:cap < k + q) (hbig:(k + q) * (eb + 1)≤140737488355328) (h1:ez.all (·.oneCell')=true) :
  Gets P ⟨dst,.call { callee:=.builtin .append,args:=#[x,y],argTypes:=#[t,tn] },ty,pos,after,none⟩ n ds E w (fun v' w'=>∃ g2 cap2,v'=.slice (some ⟨g2,0,none⟩) (k + q) cap2∧k + q≤cap2∧St F w0 w' (.row e sz (.slice (some ⟨g2,0,none⟩) (k + q) cap2) (rows.take k++List.replicate q ez)::Γ)):=by
 intro a ha K Q kk
 subst hjj
 obtain ⟨ji,zv,hu,hinfo,_,hs,hby,hz,hzl,_,hsz,hs0⟩:=hT.sl ht
 obtain ⟨_,hun,_⟩:=hT.sc htn
 have hro:=hS.rowRo i hi
 obtain ⟨ho,hlen,hone⟩:=hS.at_ hi
 have hb1:(k + q) * eb + (k + q)≤140737488355328:=by rw [Nat.mul_succ] at hbig;exact hbig
 have hold:(Builtin.firstCells ji.size k (.slice (some ⟨g,0,none⟩) k cap)).run P w.drew=.ok (rows.take k).flatten.toArray w.drew:=by
  rw [hs]
  refine run_firstCells_some w.drew sz k ⟨g,0,none⟩ k cap (rows.take k).flatten ?_ (fun j u hj=>?_)
  ·rw [rows_len (fun r hr=>hlen r (List.mem_of_mem_take hr)),List.length_take,Nat.min_eq_left hk]
  ·rw [← flat_take hlen,List.getElem?_take] at hj
   split at hj
   ·have:=ho.cells (g:=g) rfl j u hj
    exact this
   ·cases hj
 have hqe:q * eb≤281474976710656:=by
  have:=Nat.mul_le_mul_right eb (show q≤k + q by omega)
  omega
 have hzs:zv.cells.size=sz:=by rw [← Array.length_toList,hzl,hsz]
 have hrun:=Go.Lib.run_append_grow_zeros (P:=P) w t tn ty e ji zv .i64 .i64 hu hun hinfo hz (some ⟨g,0,none⟩) k cap (rows.take k).flatten hold q hq (by rw [hs];exact Nat.pos_of_ne_zero hs0) hc (by omega) (by rw [hby];exact hqe) (by rw [hby];exact growslice_fits (by omega) (by omega))
 have hex:(execOp a.eval ⟨dst,.call { callee:=.builtin .append,args:=#[x,y],argTypes:=#[t,tn] },ty,pos,after,none⟩).run P w=.ok (.value (.slice (some ⟨w.heap.size,0,none⟩) (k + q) (grownCap w (k + q) cap e))) (w.drew.alloc (.cells ((rows.take k).flatten.toArray++Builtin.zeroCells zv.cells q++Builtin.zeroCells zv.cells (grownCap w (k + q) cap e - (k + q))) e)):=by
  simp [execOp,resolve,invoke,builtin,ha.ev hx,ha.ev hy,hrun,Result.andThen]
 unfold Oper.wp
 rw [hex]
 have hzc:∀ dl,(Builtin.zeroCells zv.cells dl).toList=(List.replicate dl ez).flatten:=fun dl=>by
  have hfl:(List.replicate dl ez).flatten.length=dl * sz:=by rw [rows_len (size:=sz) (fun r hr=>by rw [List.eq_of_mem_replicate hr,hsz]),List.length_replicate]
  refine List.ext_getElem? fun j=>?_
  unfold Builtin.zeroCells
  rw [hzs]
  by_cases hj:j < dl * sz
  ·have hdiv:j / sz < (List.replicate dl ez).length:=by rw [List.length_replicate];exact Nat.div_lt_of_lt_mul (by rw [Nat.mul_comm];exact hj)
   have hmod:=Nat.mod_lt j (Nat.pos_of_ne_zero hs0)
   have h3:=rows_at (rows:=List.replicate dl ez) (size:=sz) (fun r hr=>by rw [List.eq_of_mem_replicate hr,hsz]) (i:=j / sz) (j:=j % sz) (List.getElem?_eq_getElem hdiv) hmod
   rw [show j / sz * sz + j % sz=j from by rw [Nat.mul_comm];exact Nat.div_add_mod j sz] at h3
   rw [h3,List.getElem_replicate]
   have hml:j % sz < zv.cells.size:=by rw [hzs];exact hmod
   simp [hj,hml,← hzl]
  ·rw [List.getElem?_eq_none (by simp;omega),List.getElem?_eq_none (by rw [hfl];omega)]
 have hge:=grownCap_ge w (k + q) cap e
 have hcm:=grownCap_le_maxLen w (k + q) cap e (by unfold maxLen;omega)
 refine kk _ _ ⟨w.heap.size,_,rfl,hge,hS.new ⟨rfl,rfl,rfl,by simp,fun k hk _=>heap_alloc_old w.drew _ hk⟩ ?_ (by simp [Asr.fp,Value.ownBlock])⟩
 have hrl:∀ r ∈ rows.take k++List.replicate q ez,r.length=sz:=fun r hr=>by
  rcases List.mem_append.1 hr with hr|hr
  ·exact hlen r (List.mem_of_mem_take hr)
  ·rw [List.eq_of_mem_replicate hr,hsz]
 have hll:(rows.take k++List.replicate q ez).length=k + q:=by rw [List.length_append,List.length_take,List.length_replicate];omega
 have hfl:(rows.take k++List.replicate q ez).flatten.length=(k + q) * sz:=by rw [rows_len hrl,hll]
 refine ⟨⟨rows_len hrl,.inr ⟨w.heap.size,_,_,by rw [hll],Nat.zero_le _,heap_alloc_new w.drew _,by rw [hll];exact hge,hcm,?_,?_⟩⟩,hrl,fun r hr=>?_⟩
 ·have e1:((rows.take k).flatten.toArray++Builtin.zeroCells zv.cells q++Builtin.zeroCells zv.cells (grownCap w (k + q) cap e - (k + q))).toList.length=grownCap w (k + q) cap e * sz:=by
   rw [Array.toList_append,Array.toList_append,hzc,hzc,List.toList_toArray,← List.flatten_append,List.length_append,hfl]
   rw [rows_len (size:=sz) (fun r hr=>by rw [List.eq_of_mem_replicate hr,hsz]),List.length_replicate,← Nat.add_mul]
   congr 1
   omega
  simpa using e1
 ·rw [Array.toList_append,Array.toList_append,hzc,hzc,List.toList_toArray,← List.flatten_append,hll,← hfl,List.take_left']
  rfl
 ·rcases List.mem_append.1 hr with hr|hr
  ·exact hone r (List.mem_of_mem_take hr)
  ·rw [List.eq_of_mem_replicate hr];exact h1
end
end Go.Proofs.Ytejnpppejalhfac
/- THE STEP CALCULUS, part 26: functions of the model's own (extern); slices.overlaps; any slice expression's value. -/
namespace Go.Proofs.Ytejnpppejalhfac
open Go.RowKit Go.Sort
section
variable {P:Program} {n:Nat} {ds:List Deferred} {E:Fr} {w w':World} {Q:Exit→Act→World→Prop} {ops:Array Oper} {rest:List Oper} {d:Nat} {dst:Option Nat} {ty:TypeId} {pos:String} {after:Array Edge} {F:Nat→Prop} {w0:World} {Γ:List Asr} {T:Tab}
theorem g_extern {f : FuncId} {fn : Func} {e : Array Value → Sem Value} {x : Operand} {args : Array Operand} {ats : Array TypeId} {vs : List Value} {v : Value} (hf : P.funcs[f]? = some fn) (hname : (fn.name == "runtime.NumGoroutine") = false) (hb : fn.body.isNone = true) (hn : Extern.findNext fn = none) (he : Extern.find fn = some e) (hx : E.ev x = some (.func (.func f) #[] #[])) (hv : E.evs args.toList = some vs) (h : (e vs.toArray).run P w = .ok v w) :
  Gets P ⟨dst,.call { callee:=.value x,args:=args,argTypes:=ats },ty,pos,after,none⟩ n ds E w (fun v' w'=>v'=v∧w'=w):=Gets.of_at fun a ha=>by
 have e1:args.map a.eval=vs.toArray:=by rw [← ha.evs hv,← Array.toList_map,Array.toArray_toList]
 have hr:=run_callFunc_extern (P:=P) hf hname hb hn he vs.toArray w
 rw [h] at hr
 simp only [execOp,resolve,ha.ev hx,Deferred.ofValue,Sem.run_bind,Sem.run_pure,Result.andThen_ok,invoke,e1]
 simpa using hr
theorem l_extern {f : FuncId} {fn : Func} {e : Array Value → Sem Value} {x : Operand} {args : Array Operand} {ats : Array TypeId} {vs : List Value} {v : Value} (hf : P.funcs[f]? = some fn) (hname : (fn.name == "runtime.NumGoroutine") = false) (hb : fn.body.isNone = true) (hn : Extern.findNext fn = none) (he : Extern.find fn = some e) (hx : E.ev x = some (.func (.func f) #[] #[])) (hv : E.evs args.toList = some vs) (h : (e vs.toArray).run P w = .ok v w) (hd : Nat.blt d n = true) (k : WL P ops Q rest n ds ((d, v) :: E) w) :
  WL P ops Q (⟨some d,.call { callee:=.value x,args:=args,argTypes:=ats },ty,pos,after,none⟩::rest) n ds E w:=l_gets hd (g_extern hf hname hb hn he hx hv h) (by rintro _ _ ⟨rfl,rfl⟩;exact k)
theorem run_apart (hS:St F w0 w Γ) (hT:TabOk P T) {t tR e sz eb i j b o lb cb m cap n' cap' g:Nat} {ag:Bool} {ez:List Value} {rows rows':List (List Value)} (ht:T.get t=some (.sl e sz eb ag ez)) (hi:Γ[i]?=some (.row e sz (.slice (some ⟨g,0,none⟩) m cap) rows)) (hj:Γ[j]?=some (.row e sz (.slice (some ⟨b,0,none⟩) n' cap') rows')) (hne:i≠j) (hcap:0 < cap') :
  (Extern.SlicesOverlaps.overlaps #[t,t] #[tR] #[.slice (some ⟨g,0,none⟩) m cap,.slice (some ⟨b,o,none⟩) lb cb]).run P w=.ok (.bool false) w:=by
 obtain ⟨ji,zv,hu,hinfo,_,hs,_,_,_,_,hsz,hs0⟩:=hT.sl ht
 obtain ⟨ho,_⟩:=hS.at_ hi
 obtain ⟨ho',_⟩:=hS.at_ hj
 have hap:=apart_at hS.apart hi hj hne
 have hgb:g≠b:=by
  rcases hap with h|h
  ·cases h
  ·intro e0;exact h (by rw [e0];rfl)
 rcases ho.2 with ⟨he,_⟩|⟨g1,cap1,cur1,hv1,_,hg1,_,_,hcs1,_⟩
 ·cases he
 cases hv1
 rcases ho'.2 with ⟨he,_⟩|⟨g2,cap2,cur2,hv2,_,hg2,_,_,hcs2,_⟩
 ·cases he
 cases hv2
 exact Go.Lib.run_overlaps_apart w t tR e hu sz (fun w=>by simp [sizeOf,typeInfo,hinfo,hs]) ⟨g,0,none⟩ ⟨b,o,none⟩ _ _ _ _ hgb e e cur1.size cur2.size (by simp [World.shape?,hg1]) (by simp [World.shape?,hg2]) (by rw [hcs2];exact Nat.ne_of_gt (Nat.mul_pos hcap (Nat.pos_of_ne_zero hs0))) (by simp [World.frozen?,hg1]) (by simp [World.frozen?,hg1])
def sliceV (p:Option Addr) (m c j sz:Nat):Value:=.slice (if c=j then p else p.map fun q=>q.add (j * sz)) (m - j) (c - j)
theorem r_sliceAny (hT:TabOk P T) {t el sz eb m c j:Nat} {p:Option Addr} {ag:Bool} {z:List Value} {x y:Operand} {i:Int} (ht:T.get t=some (.sl el sz eb ag z)) (hx:E.ev x=some (.slice p m c)) (hy:E.ev y=some (.int .i64 i)) (hj:(j:Int)=i) (hm:j≤m):∀ a,Has n ds a E→∀ dst,Runs P ⟨dst,.slice t x (some y) none none,ty,pos,after,none⟩ a (sliceV p m c j sz):=fun a ha _ w=>by
 obtain ⟨ji,zv,hu,hinfo,_,hs,_⟩:=hT.sl ht
 subst hj
 have hb:(Instr.sliceBounds true m c (some (.int .i64 (j:Int))) none none).run P w=.ok (j,m,c) w:=by
  simp [Instr.sliceBounds,run_sliceBound,hm]
 simp only [execOp,ha.ev hx,ha.ev hy,Option.map_some,Option.map_none]
 simp [Instr.sliceAt,Instr.slice,run_underlying hu,hb,sizeOf,typeInfo,hinfo,hs,sliceV]
theorem l_sliceAny (hT:TabOk P T) {t el sz eb m c j:Nat} {p:Option Addr} {ag:Bool} {z:List Value} {x y:Operand} {i:Int} (ht:T.get t=some (.sl el sz eb ag z)) (hx:E.ev x=some (.slice p m c)) (hy:E.ev y=some (.int .i64 i)) (hj:(j:Int)=i) (hm:j≤m) (hd:Nat.blt d n=true) (k':WL P ops Q rest n ds ((d,sliceV p m c j sz)::E) w):WL P ops Q (⟨some d,.slice t x (some y) none none,ty,pos,after,none⟩::rest) n ds E w:=l_runs (fun a ha=>r_sliceAny hT ht hx hy hj hm a ha _) hd k'
end
end Go.Proofs.Ytejnpppejalhfac
/- A space's pages, page by page. -/
namespace Go.Proofs.Ytejnpppejalhfac
open Go.RowKit Go.Sort
theorem rise_from {A:List Ar}:∀ {e:Int},RiseF e A→∀ a ∈ A,e≤a.pg∧a.ok:=by
 induction A with
 |nil=>intro e _ a h;cases h
 |cons b A ih=>
  intro e h a ha
  obtain ⟨h1,h2,h3⟩:=h
  rcases List.mem_cons.1 ha with rfl|ha
  ·exact ⟨h2,h1⟩
  ·have:=ih h3 a ha
   unfold Ar.ok at h1
   unfold Ar.fin at this
   exact ⟨by omega,this.2⟩
theorem ents_first {A:List Ar} (hc:checkI A=0) {e:En} (h:(findA A e.page).isSome=true):0 < e.page:=by
 obtain ⟨a,ha⟩:=Option.isSome_iff_exists.1 h
 have:=(good_pos hc ha).2
 omega
end Go.Proofs.Ytejnpppejalhfac
/- A kernel at work, in plain Lean: frames got, pages put aside and brought, entries let go. -/
namespace Go.Proofs.Ytejnpppejalhfac
open Go.RowKit Go.Sort
def entAt (l:List En) (p:Int):Option En:=l.find? fun e=>decide (e.page=p)
def pagesE (l:List En):List Int:=l.map fun e=>e.page
def insE (l:List En) (e:En):List En:=l.take (lbd (pagesE l) e.page)++e::l.drop (lbd (pagesE l) e.page)
def putE (l:List En) (e:En):List En:=if e.page ∈ pagesE l then l.set (lbd (pagesE l) e.page) e else insE l e
/-! put aside -/
def asideE (f:Int) (t:Option Int) (e:En):Option En:=if e.kind=1∧e.at_=f then t.map (fun s=>⟨e.page,2,s⟩) else some e
def asideS (f:Int) (t:Option Int) (s:Sc):Sc:=⟨s.live,s.areas,s.entries.filterMap (asideE f t)⟩
def freeS (l:List Sw):Option Nat:=l.findIdx? fun s=>decide (s.refs=0)
def freeF (l:List Fm):Option Nat:=l.findIdx? fun f=>decide (f.refs=0)
def fmAt (l:List Fm) (i:Nat):Fm:=(l[i]?).getD fm0
def swAt (l:List Sw) (i:Nat):Sw:=(l[i]?).getD sw0
def asideT (K:Ker) (f:Nat):Option Nat:=if (fmAt K.frames f).dirty then some ((freeS K.slots).getD 0) else none
def asideK (K:Ker) (f:Nat):Ker :=
 ⟨K.sheets,K.frames.set f fm0,(match asideT K f with
  |some t=>K.slots.set t ⟨(fmAt K.frames f).data,(fmAt K.frames f).refs⟩
  |none=>K.slots),K.spaces.map (asideS (f:Nat) ((asideT K f).map fun (t:Nat)=>(t:Int))),K.hand⟩
/-! a frame that is got -/
def nextH (n h:Nat):Nat:=if h + 1=n then 0 else h + 1
def clockF:Nat→List Fm→Nat→List Nat→List Fm×Nat×Nat
 |0,fr,h,_=>(fr,h,0)
 |k + 1,fr,h,held=>if h ∈ held then clockF k fr (nextH fr.length h) held else if (fmAt fr h).seen then clockF k (fr.set h ⟨(fmAt fr h).data,(fmAt fr h).refs,(fmAt fr h).dirty,false⟩) (nextH fr.length h) held else (fr,nextH fr.length h,h)
def clockK (K:Ker) (held:List Nat):List Fm×Nat×Nat:=clockF 5000 K.frames K.hand.toNat held
def getK (K:Ker) (held:List Nat):Ker×Nat:=match freeF K.frames with
 |some i=>(K,i)
 |none=>(asideK ⟨K.sheets,(clockK K held).1,K.slots,K.spaces,((clockK K held).2.1:Nat)⟩ (clockK K held).2.2,(clockK K held).2.2)
/-! entries let go, and put -/
def decFm (f:Fm):Fm:=if f.refs - 1=0 then fm0 else ⟨f.data,f.refs - 1,f.dirty,f.seen⟩
def decSw (s:Sw):Sw:=if s.refs - 1=0 then sw0 else ⟨s.data,s.refs - 1⟩
def letK (K:Ker) (e:En):Ker:=if e.kind=1 then ⟨K.sheets,K.frames.set e.at_.toNat (decFm (fmAt K.frames e.at_.toNat)),K.slots,K.spaces,K.hand⟩ else ⟨K.sheets,K.frames,K.slots.set e.at_.toNat (decSw (swAt K.slots e.at_.toNat)),K.spaces,K.hand⟩
def sc0:Sc:=⟨false,[],[]⟩
def scAt (K:Ker) (sp:Nat):Sc:=(K.spaces[sp]?).getD sc0
def entsOf (K:Ker) (sp:Nat):List En:=(scAt K sp).entries
def areasOf (K:Ker) (sp:Nat):List Ar:=(scAt K sp).areas
def setSc (K:Ker) (sp:Nat) (s:Sc):Ker:=⟨K.sheets,K.frames,K.slots,K.spaces.set sp s,K.hand⟩
def setEnts (K:Ker) (sp:Nat) (l:List En):Ker:=setSc K sp ⟨(scAt K sp).live,(scAt K sp).areas,l⟩
def setFm (K:Ker) (f:Nat) (x:Fm):Ker:=⟨K.sheets,K.frames.set f x,K.slots,K.spaces,K.hand⟩
def letO (K:Ker):Option En→Ker
 |some e=>letK K e
 |none=>K
def inK (K:Ker) (sp:Nat) (page:Int) (f:Nat) (data:List UInt8) (dirty:Bool):Ker :=
 setEnts (letO (setFm K f ⟨data,1,dirty,false⟩) (entAt (entsOf K sp) page)) sp (putE (entsOf K sp) ⟨page,1,(f:Nat)⟩)
/-! a page that is brought -/
def zAt (K:Ker) (sp:Nat) (page:Int):Bool:=((findA (areasOf K sp) page).getD zeroAr).z
def fillAt (K:Ker) (sp:Nat) (page:Int):List UInt8:=(fillP K.sheets (zAt K sp page) page).getD []
def bringA (K:Ker) (sp:Nat) (page:Int) (held:List Nat):Ker×Nat:=match entAt (entsOf K sp) page with
 |none=>(inK (getK K held).1 sp page (getK K held).2 (fillAt K sp page) false,(getK K held).2)
 |some e=>if e.kind=2 then (inK (getK K held).1 sp page (getK K held).2 (swAt K.slots e.at_.toNat).data true,(getK K held).2) else (K,e.at_.toNat)
def bringB (K:Ker) (sp:Nat) (page:Int) (write:Bool) (held:List Nat) (f:Nat):Ker×Nat :=
 if write=true∧1 < (fmAt K.frames f).refs then (inK (getK K (held++[f])).1 sp page (getK K (held++[f])).2 (fmAt K.frames f).data true,(getK K (held++[f])).2) else (K,f)
def seenK (K:Ker) (f:Nat) (write:Bool):Ker:=setFm K f ⟨(fmAt K.frames f).data,(fmAt K.frames f).refs,(fmAt K.frames f).dirty||write,true⟩
def bringAB (K:Ker) (sp:Nat) (page:Int) (write:Bool) (held:List Nat):Ker×Nat:=bringB (bringA K sp page held).1 sp page write held (bringA K sp page held).2
def bringK (K:Ker) (sp:Nat) (page:Int) (write:Bool) (held:List Nat):Ker×Nat:=(seenK (bringAB K sp page write held).1 (bringAB K sp page write held).2 write,(bringAB K sp page write held).2)
def reachK (K:Ker) (sp:Nat) (addr size:Int) (write:Bool):Ker:=if (addr + size - 1) / 16=addr / 16 then (bringK K sp (addr / 16) write []).1 else (bringK (bringK K sp (addr / 16) write []).1 sp ((addr + size - 1) / 16) write [(bringK K sp (addr / 16) write []).2]).1
/-! what a page holds -/
def dataE (K:Ker) (e:En):List UInt8:=if e.kind=1 then (fmAt K.frames e.at_.toNat).data else (swAt K.slots e.at_.toNat).data
def peekK (K:Ker) (sp:Nat) (page:Int):List UInt8:=match entAt (entsOf K sp) page with
 |some e=>dataE K e
 |none=>fillAt K sp page
/-! right kernels -/
structure FmOk (sh:List Sh) (f:Fm) (N:List Nm):Prop where
 refs:f.refs=(N.length:Int)
 nil:N=[]→f=fm0
 len:N≠[]→f.data.length=16
 same:∀ n ∈ N,∀ m ∈ N,m.1.page=n.1.page∧m.2.z=n.2.z
 data:∀ n ∈ N,f.dirty=true∨some f.data=fillP sh n.2.z n.1.page
structure SwOk (s:Sw) (N:List Nm):Prop where
 refs:s.refs=(N.length:Int)
 nil:N=[]→s=sw0
 len:N≠[]→s.data.length=16
 same:∀ n ∈ N,∀ m ∈ N,m.1.page=n.1.page∧m.2.z=n.2.z
theorem alikeN_iff {N:List Nm}:alikeN N=true ↔ ∀ n ∈ N,∀ m ∈ N,m.1.page=n.1.page∧m.2.z=n.2.z:=by
 cases N with
 |nil=>simp [alikeN]
 |cons a r=>
  unfold alikeN
  rw [List.all_eq_true]
  constructor
  ·intro h
   have h':∀ m ∈ a::r,m.1.page=a.1.page∧m.2.z=a.2.z:=fun m hm=>by
    rcases List.mem_cons.1 hm with rfl|hm
    ·exact ⟨rfl,rfl⟩
    ·exact of_decide_eq_true (h m hm)
   exact fun n hn m hm=>⟨(h' m hm).1.trans (h' n hn).1.symm,(h' m hm).2.trans (h' n hn).2.symm⟩
  ·exact fun h m hm=>decide_eq_true (h a List.mem_cons_self m (List.mem_cons_of_mem _ hm))
theorem frameB_iff {sh:List Sh} {f:Fm} {N:List Nm}:frameB sh f N=true ↔ FmOk sh f N:=by
 cases N with
 |nil=>
  unfold frameB
  rw [decide_eq_true_eq]
  constructor
  ·rintro rfl;exact ⟨rfl,fun _=>rfl,fun h=>absurd rfl h,(fun _ h=>by cases h),(fun _ h=>by cases h)⟩
  ·exact fun h=>h.nil rfl
 |cons n r=>
  unfold frameB
  rw [Bool.and_eq_true,Bool.and_eq_true,alikeN_iff,decide_eq_true_eq,Bool.or_eq_true,decide_eq_true_eq]
  constructor
  ·rintro ⟨⟨h1,h2⟩,h3,h4⟩
   refine ⟨h1,(fun h=>by cases h),fun _=>h2,h3,fun m hm=>?_⟩
   have:=h3 n List.mem_cons_self m hm
   rw [this.1,this.2]
   exact h4
  ·intro h
   exact ⟨⟨h.refs,h.len (by simp)⟩,h.same,h.data n List.mem_cons_self⟩
theorem slotB_iff {s:Sw} {N:List Nm}:slotB s N=true ↔ SwOk s N:=by
 cases N with
 |nil=>
  unfold slotB
  rw [decide_eq_true_eq]
  constructor
  ·rintro rfl;exact ⟨rfl,fun _=>rfl,fun h=>absurd rfl h,(fun _ h=>by cases h)⟩
  ·exact fun h=>h.nil rfl
 |cons n r=>
  unfold slotB
  rw [Bool.and_eq_true,alikeN_iff,decide_eq_true_eq]
  constructor
  ·rintro ⟨⟨h1,h2⟩,h3⟩
   exact ⟨h1,(fun h=>by cases h),fun _=>h2,h3⟩
  ·intro h
   exact ⟨⟨h.refs,h.len (by simp)⟩,h.same⟩
theorem FmOk.perm {sh:List Sh} {f:Fm} {N M:List Nm} (h:FmOk sh f N) (p:N.Perm M):FmOk sh f M :=
 ⟨by rw [← p.length_eq];exact h.refs,fun e=>h.nil (by subst e;exact p.eq_nil),fun e=>h.len (fun e2=>e (by subst e2;exact p.symm.eq_nil)),fun n hn m hm=>h.same n (p.mem_iff.2 hn) m (p.mem_iff.2 hm),fun n hn=>h.data n (p.mem_iff.2 hn)⟩
theorem SwOk.perm {f:Sw} {N M:List Nm} (h:SwOk f N) (p:N.Perm M):SwOk f M :=
 ⟨by rw [← p.length_eq];exact h.refs,fun e=>h.nil (by subst e;exact p.eq_nil),fun e=>h.len (fun e2=>e (by subst e2;exact p.symm.eq_nil)),fun n hn m hm=>h.same n (p.mem_iff.2 hn) m (p.mem_iff.2 hm)⟩
structure Right (K:Ker):Prop where
 cnt:3≤K.frames.length∧K.frames.length≤64∧K.slots.length≤512∧1≤K.spaces.length∧K.spaces.length≤4∧K.sheets.length≤255
 rise:riseB 0 K.sheets=true
 hand:0≤K.hand∧K.hand < K.frames.length
 spaces:∀ s ∈ K.spaces,spaceB K.sheets K.frames.length K.slots.length s=true
 room:roomI K.spaces≤K.slots.length
 fr:∀ (i:Nat) f,K.frames[i]?=some f→FmOk K.sheets f (namers K.spaces 1 (i:Nat))
 sl:∀ (i:Nat) s,K.slots[i]?=some s→SwOk s (namers K.spaces 2 (i:Nat))
theorem framesB_iff {K:Ker}:framesB K=true ↔ ∀ (i:Nat) f,K.frames[i]?=some f→FmOk K.sheets f (namers K.spaces 1 (i:Nat)):=by
 unfold framesB
 rw [List.all_eq_true]
 constructor
 ·intro h i f hf
  have:=h i (List.mem_range.2 (lt_of_getE hf))
  rw [hf] at this
  exact frameB_iff.1 this
 ·intro h i hi
  rw [List.mem_range] at hi
  rw [List.getElem?_eq_getElem hi]
  exact frameB_iff.2 (h i _ (List.getElem?_eq_getElem hi))
theorem slotsB_iff {K:Ker}:slotsB K=true ↔ ∀ (i:Nat) s,K.slots[i]?=some s→SwOk s (namers K.spaces 2 (i:Nat)):=by
 unfold slotsB
 rw [List.all_eq_true]
 constructor
 ·intro h i f hf
  have:=h i (List.mem_range.2 (lt_of_getE hf))
  rw [hf] at this
  exact slotB_iff.1 this
 ·intro h i hi
  rw [List.mem_range] at hi
  rw [List.getElem?_eq_getElem hi]
  exact slotB_iff.2 (h i _ (List.getElem?_eq_getElem hi))
theorem right_iff {K:Ker}:checkK K=0 ↔ Right K:=by
 unfold checkK
 by_cases h1:countsB K=true
 rotate_left
 ·rw [if_neg h1]
  refine ⟨(fun h=>by cases h),fun h=>?_⟩
  exact absurd (by unfold countsB;rw [decide_eq_true_eq];exact h.cnt) h1
 rw [if_pos h1]
 unfold countsB at h1
 rw [decide_eq_true_eq] at h1
 by_cases h2:formB K=true
 ·rw [if_pos h2]
  refine ⟨fun _=>?_,fun _=>rfl⟩
  unfold formB at h2
  simp only [Bool.and_eq_true,decide_eq_true_eq] at h2
  obtain ⟨⟨a1,a2⟩,a3,a4,a5,a6⟩:=h2
  exact ⟨h1,a1,a2,fun s hs=>List.all_eq_true.1 a3 s hs,a4,framesB_iff.1 a5,slotsB_iff.1 a6⟩
 ·rw [if_neg h2]
  refine ⟨(fun h=>by cases h),fun h=>?_⟩
  refine absurd ?_ h2
  unfold formB
  simp only [Bool.and_eq_true,decide_eq_true_eq]
  exact ⟨⟨h.rise,h.hand⟩,List.all_eq_true.2 h.spaces,h.room,framesB_iff.2 h.fr,slotsB_iff.2 h.sl⟩
end Go.Proofs.Ytejnpppejalhfac
/- slices.DeleteFunc, Insert and Clone of entries. -/
namespace Go.Proofs.Ytejnpppejalhfac
open Go.RowKit Go.Sort
def enA (v:Value) (l:List En):Asr:=.row 55 3 v (l.map enC)
theorem setL_en (a y:En):setL (enC a) 0 (enC y)=enC y:=setL_all (enC a) (enC y) rfl
theorem filt_step {α:Type} {p:α→Bool} {l:List α} {j:Nat} {x:α} (h:l[j]?=some x):(l.take (j + 1)).filter p=(l.take j).filter p++(if p x then [x] else []):=by
 rw [take_snocE h,List.filter_append]
 cases hp:p x with
 |true=>rw [List.filter_cons_of_pos hp,if_pos rfl,List.filter_nil]
 |false=>rw [List.filter_cons_of_neg (by simp [hp]),if_neg (by simp),List.filter_nil]
theorem idx_first {α:Type} {p:α→Bool} {l:List α}:(idxI p l=-1∧l.any p=false)∨∃ i x,idxI p l=((i:Nat):Int)∧l[i]?=some x∧p x=true∧(l.take i).filter (fun y=>!p y)=l.take i:=by
 unfold idxI
 cases h:l.findIdx? p with
 |none=>
  left
  rw [List.findIdx?_eq_none_iff] at h
  refine ⟨rfl,?_⟩
  rw [List.any_eq_false]
  intro x hx
  rw [h x hx]
  simp
 |some i=>
  right
  rw [List.findIdx?_eq_some_iff_getElem] at h
  obtain ⟨h1,h2,h3⟩:=h
  refine ⟨i,l[i],rfl,List.getElem?_eq_getElem h1,h2,List.filter_eq_self.2 fun y hy=>?_⟩
  obtain ⟨j,hj⟩:=List.mem_iff_getElem?.1 hy
  rw [List.getElem?_take] at hj
  split at hj
  ·rename_i hji
   obtain ⟨hjl,rfl⟩:=List.getElem?_eq_some_iff.1 hj
   have:=h3 j hji
   simpa using this
  ·cases hj
theorem filter_any_none {α:Type} {p:α→Bool} {l:List α} (h:l.any p=false):l.filter (fun y=>!p y)=l:=List.filter_eq_self.2 fun y hy=>by
 rw [List.any_eq_false] at h
 have:=h y hy
 simpa using this
set_option maxRecDepth 100000 in
set_option maxHeartbeats 8000000 in
theorem delEn_fn {F:Nat→Prop} {w0 w:World} {Γ:List Asr} {v:Value} {l:List En} {p:En→Bool} {k:FuncId} {caps:List Value} (hS0:St F w0 w (enA v l::Γ)) (hf:∀ x ∈ l,∀ w' Γ',St (fps [enA v l]) w w' Γ'→Fn Try.prog k ([.agg (enC x).toArray]++caps) w' (RBf (.bool (p x)) w')) :
  Fn Try.prog 53 [v,.func (.func k) #[] caps.toArray] w (fun v' w'=>∃ q c,v'=.slice q (l.filter fun y=>!p y).length c∧St (fps [enA v l]) w w' [enA v' (l.filter fun y=>!p y)]):=by
 have hS:=St.startM (Δ:=[enA v l]) hS0
 have bnd:=(hS.rowSl 0 rfl).bound
 obtain ⟨pp,c,hpp⟩:=hS.rowSlice 0 rfl
 rw [List.length_map] at hpp
 have hidx:=fun w1 Γ1 (h:St (fps [enA v l]) w w1 Γ1) (h0:Sl nF w1 3 v (l.map enC))=>idxEn_fn (p:=p) (k:=k) (caps:=caps) h0 (fun x hx w' h2=>by
  obtain ⟨Γ2,h2⟩:=h2
  exact hf x hx w' _ (h.trans h2))
 generalize fps [enA v l]=G at hS hf hidx ⊢
 subst hpp
 refine yEn Try.func53 Try.ntmps53 ?_
 unfold enA at hS ⊢
 rcases idx_first (p:=p) (l:=l) with ⟨hi,hany⟩|⟨i,x,hi,hx,hpx,hpre⟩
 ·rw [hi] at hidx
  rw [filter_any_none hany]
  repeat' (first|refine yO ?_|(refine yC ?_;refine ⟨_,hidx _ _ hS (hS.rowSl 0 rfl),?_⟩;clear hS;intro w' hS))
  refine yR1 ?_
  exact ⟨_,_,rfl,hS⟩
 rw [hi] at hidx
 have hil:=lt_of_getE hx
 obtain ⟨g,rfl⟩:=hS.rowSome 0 rfl (by omega)
 have hcc:l.length≤c:=by
  rcases hS.rowForm 0 rfl with ⟨h1,-⟩|⟨g',c',h1,h2,-⟩
  ·cases h1
  ·injection h1 with _ _ h3;subst h3;rw [List.length_map] at h2;exact h2
 repeat' (first|refine yO ?_|(refine yC ?_;refine ⟨_,hidx _ _ hS (hS.rowSl 0 rfl),?_⟩;clear hS;intro w' hS))
 have hst0:(l.take (i + 1)).filter (fun y=>!p y)=l.take i:=by
  rw [filt_step hx,hpre,hpx]
  simp
 refine c_loopK (X:=Nat×Nat×List En) (fun x=>[(5,.int .i64 (x.1:Nat)),(6,.int .i64 (x.2.1:Nat))]) [0,1] rfl (fun x=>[.row 55 3 (.slice (some ⟨g,0,none⟩) l.length c) (x.2.2.map enC)]) (fun x=>x.1 < x.2.1∧x.2.1≤l.length∧x.2.2.length=l.length∧x.2.2.take x.1=(l.take x.2.1).filter (fun y=>!p y)∧x.2.2.drop x.2.1=l.drop x.2.1) (fun x=>l.length - x.2.1) (i,i + 1,l) (by exact zS) ⟨Nat.lt_succ_self i,hil,rfl,hst0.symm,rfl⟩ hS ?_
 clear hS hidx hst0 hi hx hpx hpre hil
 rintro ⟨i,j,L⟩ w1 ⟨hij,hjl,hL,htk,hdr⟩ hS
 dsimp only [List.cons_append,List.nil_append] at hij hjl hL htk hdr hS ⊢
 by_cases hlt:j < l.length
 ·obtain ⟨y,hy⟩:=lt_get (l:=l) (i:=j) (by omega)
  have hyL:L[j]?=some y:=by
   have h1:(L.drop j)[0]?=(l.drop j)[0]?:=by rw [hdr]
   rw [List.getElem?_drop,List.getElem?_drop] at h1
   rw [Nat.add_zero] at h1
   rw [h1,hy]
  have hrow:=map_get (f:=enC) hyL
  have hcall:=fun w' Γ' h=>hf y (List.mem_of_getElem? hy) w' Γ' h
  have hstep:=filt_step (p:=fun y=>!p y) hy
  cases hpy:p y with
  |true=>
   rw [hpy] at hcall hstep
   unfold enC at hcall
   unfold enC at hrow
   repeat' (first|refine yO ?_|(refine yM ?_;clear hS;intro g w' hS)|(refine yN ?_;clear hS;intro w' hS)|(refine yS ?_ ?_;all_goals (intro hb hp;try (exfalso;omega)))|(refine yC ?_;refine ⟨_,hcall _ _ hS,?_⟩;clear hS;intro w' hS))
   refine q_loopK (i,j + 1,L) (by exact zS) ⟨by show i < j + 1;omega,by show j + 1≤l.length;omega,hL,?_,?_⟩ hS.drop (by show l.length - (j + 1) < l.length - j;omega)
   ·show L.take i=_
    rw [hstep,htk]
    simp
   ·show L.drop (j + 1)=l.drop (j + 1)
    rw [← List.drop_drop,← List.drop_drop,hdr]
  |false=>
   rw [hpy] at hcall hstep
   unfold enC at hcall
   have hrow2:(L.map enC)[i]?=some (enC ((L[i]?).getD y)):=by
    obtain ⟨z,hz⟩:=lt_get (l:=L) (i:=i) (by omega)
    rw [hz]
    exact map_get (f:=enC) hz
   unfold enC at hrow
   repeat' (first|refine yO ?_|(refine yM ?_;clear hS;intro g w' hS)|(refine yN ?_;clear hS;intro w' hS)|(refine yS ?_ ?_;all_goals (intro hb hp;try (exfalso;omega)))|(refine yC ?_;refine ⟨_,hcall _ _ hS,?_⟩;clear hS;intro w' hS)|(refine yT1 ?_;clear hS;intro w' hS))
   have hrw:(L.map enC).set i (setL (enC ((L[i]?).getD y)) 0 [.int .i64 y.page,.int .i64 y.kind,.int .i64 y.at_])=(L.set i y).map enC:=by
    rw [List.map_set]
    exact congrArg (List.set _ _) (setL_en _ _)
   rw [hrw] at hS
   refine q_loopK (i + 1,j + 1,L.set i y) (by exact zS) ⟨by show i + 1 < j + 1;omega,by show j + 1≤l.length;omega,by show (L.set i y).length=_;rw [List.length_set];exact hL,?_,?_⟩ hS.drop (by show l.length - (j + 1) < l.length - j;omega)
   ·show (L.set i y).take (i + 1)=_
    rw [hstep,← htk,take_snocE (x:=y) (by rw [List.getElem?_set];simp;omega),List.take_set_of_le (Nat.le_refl _)]
    rfl
   ·show (L.set i y).drop (j + 1)=l.drop (j + 1)
    rw [List.drop_set_of_lt (by omega),← List.drop_drop,← List.drop_drop,hdr]
 ·obtain rfl:j=l.length:=by omega
  repeat' (first|refine yO ?_|(refine yS ?_ ?_;all_goals (intro hb hp;try (exfalso;omega)))|((with_reducible apply l_sliceL tabOk (j:=i));(iterate 3 exact rfl);((exact rfl));omega;omega;exact rfl))
  refine l_gets0 (g_clear hS tabOk (i:=0) (k:=i) rfl rfl rfl (by omega) (by rw [List.length_map];omega) (by omega) rfl) ?_
  intro _ w2 hS'
  simp only [List.set] at hS'
  clear hS;have hS:=hS';clear hS'
  rw [show (overL (L.map enC) (List.replicate (l.length - i) [Value.int .i64 0,Value.int .i64 0,Value.int .i64 0]) i).length=l.length by rw [overL_len (by rw [List.length_map];omega),List.length_map,List.length_replicate];omega] at hS
  repeat' (first|refine yO ?_|((with_reducible apply l_sliceH tabOk (j:=i));(iterate 3 exact rfl);((exact rfl));omega;exact rfl))
  refine yR1 ?_
  have hsh:=hS.shrink 0 i rfl (by rw [overL_len (by rw [List.length_map];omega),List.length_map];omega)
  rw [List.take_length] at htk
  have hfl:(l.filter fun y=>!p y).length=i:=by rw [← htk,List.length_take];omega
  refine ⟨some ⟨g,0,none⟩,c,by rw [hfl],?_⟩
  simp only [List.set] at hsh
  have hov:(overL (L.map enC) (List.replicate (l.length - i) [Value.int .i64 0,Value.int .i64 0,Value.int .i64 0]) i).take i=(l.filter fun y=>!p y).map enC:=by
   unfold overL
   rw [List.take_left' (by rw [List.length_take,List.length_map];omega),← List.map_take,htk]
  rw [hov] at hsh
  exact hsh
theorem ovA {rows Z:List (List Value)} {x:List Value} {i:Nat} (hi:i≤rows.length) (hZ:Z.length=rows.length + 1 - i):overL (overL (rows.take i++Z) [x] i) (rows.drop i) (i + 1)=rows.take i++x::rows.drop i:=by
 have hl:(rows.take i).length=i:=by rw [List.length_take];omega
 have e1:overL (rows.take i++Z) [x] i=rows.take i++x::Z.drop 1:=by
  unfold overL
  rw [List.take_left' hl,List.drop_append,hl,List.drop_of_length_le (l:=rows.take i) (by rw [hl,List.length_singleton];omega),List.length_singleton,show i + 1 - i=1 by omega]
  rfl
 rw [e1]
 unfold overL
 rw [List.take_append,hl,List.take_of_length_le (l:=rows.take i) (by rw [hl];omega),List.drop_of_length_le (l:=rows.take i++x::Z.drop 1) (by rw [List.length_append,hl,List.length_cons,List.length_drop,List.length_drop];omega),show i + 1 - i=1 by omega]
 rw [List.take_succ_cons,List.take_zero,List.append_nil,List.append_assoc]
 rfl
theorem ovB {rows:List (List Value)} {x:List Value} {i:Nat} (hi:i < rows.length):overL (overL rows (rows.drop i) (i + 1)) [x] i=rows.take i++x::rows.drop i:=by
 have e1:overL rows (rows.drop i) (i + 1)=rows.take (i + 1)++rows.drop i:=by
  unfold overL
  rw [List.drop_of_length_le (l:=rows) (i:=i + 1 + (rows.drop i).length) (by rw [List.length_drop];omega),List.append_nil]
 rw [e1]
 unfold overL
 have hl:(rows.take (i + 1)).length=i + 1:=by rw [List.length_take];omega
 rw [List.take_append,List.take_take,Nat.min_eq_left (by omega),hl,show i - (i + 1)=0 by omega,List.take_zero,List.append_nil,List.length_singleton,List.drop_left' hl]
 rfl
set_option maxRecDepth 100000 in
set_option maxHeartbeats 8000000 in
theorem insEn_fn {F:Nat→Prop} {w0 w:World} {Γ:List Asr} {v u:Value} {l:List En} {e:En} {i:Nat} (hS0:St F w0 w (enA v l::enA u [e]::Γ)) (hi:i≤l.length) (hl:l.length≤100000) :
  Fn Try.prog 87 [v,.int .i64 (i:Nat),u] w (fun v' w'=>∃ q c,v'=.slice q (l.length + 1) c∧St (fps [enA v l,enA u [e]]) w w' [enA v' (l.take i++e::l.drop i)]):=by
 have hS:=St.startM (Δ:=[enA v l,enA u [e]]) hS0
 obtain ⟨pp,c,hpp⟩:=hS.rowSlice 0 rfl
 obtain ⟨pu,cu,hpu⟩:=hS.rowSlice 1 rfl
 rw [show (List.map enC [e]).length=1 from rfl] at hpu
 rw [List.length_map] at hpp
 generalize fps [enA v l,enA u [e]]=G at hS ⊢
 subst hpp hpu
 unfold enA at hS ⊢
 obtain ⟨gu,rfl⟩:=hS.rowSome 1 rfl (by show 0 < 1;omega)
 have hro:RoAt nF w gu 0 3 [enC e]:=hS.rowRo 1 rfl
 refine yEn Try.func87 Try.ntmps87 ?_
 by_cases hin:i=l.length
 ·subst hin
  repeat' (first|refine yO ?_|(refine yS ?_ ?_;all_goals (intro hb hp;try (exfalso;omega)))|((with_reducible apply l_sliceAny tabOk (j:=l.length));(iterate 4 exact rfl);omega;exact rfl)|(refine yA0 (hS.rowRo 1 rfl) ?_;clear hS;intro p' cap' w' hS))
  refine yR1 ?_
  refine ⟨p',cap',by rw [List.length_map],?_⟩
  rw [List.take_length,List.drop_length,List.map_append]
  exact hS.sub (by repeat (first|exact List.nil_sublist _|apply List.Sublist.cons_cons))
 ·obtain ⟨g,rfl⟩:=hS.rowSome 0 rfl (by omega)
  have hcc:l.length≤c:=by
   rcases hS.rowForm 0 rfl with ⟨h1,-⟩|⟨g',c',h1,h2,-⟩
   ·cases h1
   ·injection h1 with _ _ h3;subst h3;rw [List.length_map] at h2;exact h2
  have hml:(l.map enC).length=l.length:=List.length_map _
  have hdl:((l.map enC).drop i).length=l.length - i:=by rw [List.length_drop,hml]
  by_cases hc:c < l.length + 1
  ·repeat' (first|refine yO ?_|(refine yS ?_ ?_;all_goals (intro hb hp;try (exfalso;omega)))|((with_reducible apply l_sliceAny tabOk (j:=i));(iterate 4 exact rfl);omega;exact rfl)|((with_reducible apply l_sliceH tabOk (j:=i));(iterate 3 exact rfl);((exact rfl));omega;exact rfl)|((with_reducible apply l_cap tabOk);(iterate 3 exact rfl)))
   refine l_gets rfl (g_appendZ hS tabOk (i:=0) (k:=i) (q:=l.length + 1 - i) rfl rfl rfl rfl (by omega) rfl (by omega) (by omega) (by omega) (by omega) rfl) ?_
   rintro _ w2 ⟨g2,c2,rfl,hc2,hS'⟩
   clear hS;have hS:=hS';clear hS'
   have hq:i + (l.length + 1 - i)=l.length + 1:=by omega
   rw [hq] at hS hc2 ⊢
   repeat' (first|refine yO ?_|((with_reducible apply l_sliceL tabOk (j:=i));(iterate 3 exact rfl);((exact rfl));omega;omega;exact rfl))
   have hz1:(List.take i (List.map enC l)++List.replicate (l.length + 1 - i) [Value.int .i64 0,Value.int .i64 0,Value.int .i64 0]).length=l.length + 1:=by rw [List.length_append,List.length_take,List.length_replicate,hml];omega
   refine l_gets rfl (g_copy hS tabOk (i:=0) (k:=i) (news:=[enC e]) rfl rfl rfl rfl (hS.rowRo 2 rfl) (by rw [List.length_singleton];omega) (by rw [hz1];omega) (by rw [List.length_singleton];omega)) ?_
   rintro _ w3 ⟨rfl,hS'⟩
   simp only [List.set] at hS'
   clear hS;have hS:=hS';clear hS'
   have hz2:=overL_len (rows:=List.take i (List.map enC l)++List.replicate (l.length + 1 - i) [Value.int .i64 0,Value.int .i64 0,Value.int .i64 0]) (news:=[enC e]) (k:=i) (by rw [hz1];omega)
   rw [hz1,List.length_singleton,Nat.max_eq_left (by omega)] at hz2
   rw [hz2] at hS
   repeat' ((refine yO ?_))
   (focus (refine yW (nn 8) ?_;(repeat' (first|refine yP ?_|((with_reducible apply d_sliceL tabOk (j:=i + 1));(iterate 3 exact rfl);((exact rfl));omega;omega;exact rfl)|((with_reducible apply d_sliceL tabOk (j:=i));(iterate 3 exact rfl);((exact rfl));omega;omega;exact rfl)));all_goals (refine yZ ?_;clear hS;intro w' hS)))
   refine l_gets rfl (g_copy hS tabOk (i:=0) (k:=i + 1) (news:=(l.map enC).drop i) rfl rfl rfl rfl ((hS.rowRo 1 rfl).drop i) (by rw [hdl];omega) (by rw [hz2];omega) (by rw [hdl];omega)) ?_
   rintro _ w4 ⟨rfl,hS'⟩
   simp only [List.set] at hS'
   clear hS;have hS:=hS';clear hS'
   rw [ovA (by rw [hml];exact hi) (by rw [List.length_replicate,hml])] at hS
   have hz3:(List.take i (List.map enC l)++enC e::(List.map enC l).drop i).length=l.length + 1:=by rw [List.length_append,List.length_take,List.length_cons,List.length_drop,hml];omega
   rw [hz3] at hS
   repeat' ((refine yO ?_))
   refine yR1 ?_
   refine ⟨_,_,rfl,?_⟩
   rw [List.map_append,List.map_cons,List.map_take,List.map_drop]
   exact hS.sub (by repeat (first|exact List.nil_sublist _|apply List.Sublist.cons_cons))
  ·have hap:=fun w1 (h:St G w w1 [.row 55 3 (.slice (some ⟨g,0,none⟩) l.length c) (l.map enC),.row 55 3 (.slice (some ⟨gu,0,none⟩) 1 cu) (List.map enC [e])])=>run_apart h tabOk (t:=39) (tR:=4) (i:=1) (j:=0) (o:=0 + (i + 1) * 3) (lb:=l.length + 1 - (i + 1)) (cb:=c - (i + 1)) rfl rfl rfl (by omega) (by omega)
   repeat' (first|refine yO ?_|(refine yS ?_ ?_;all_goals (intro hb hp;try (exfalso;omega)))|((with_reducible apply l_sliceAny tabOk (j:=i));(iterate 4 exact rfl);omega;exact rfl)|((with_reducible apply l_sliceH tabOk (j:=l.length + 1));(iterate 3 exact rfl);((exact rfl));omega;exact rfl)|((with_reducible apply l_sliceL tabOk (j:=i + 1));(iterate 3 exact rfl);((exact rfl));omega;omega;exact rfl)|((with_reducible apply l_cap tabOk);(iterate 3 exact rfl))|((with_reducible apply l_extern Try.func94 (by kernel_rfl) (by kernel_rfl) (by kernel_rfl) (by kernel_rfl));exact rfl;exact rfl;exact hap _ hS;exact rfl))
   (focus (refine yW (nn 8) ?_;(repeat' (first|refine yP ?_|((with_reducible apply d_sliceL tabOk (j:=i + 1));(iterate 3 exact rfl);((exact rfl));omega;omega;exact rfl)|((with_reducible apply d_sliceL tabOk (j:=i));(iterate 3 exact rfl);((exact rfl));omega;omega;exact rfl)));all_goals (refine yZ ?_;clear hS;intro w' hS)))
   refine l_gets rfl (g_copy hS tabOk (i:=0) (k:=i + 1) (news:=(l.map enC).drop i) rfl rfl rfl rfl ((hS.rowRo 0 rfl).drop i) (by rw [hdl];omega) (by rw [hml];omega) (by rw [hdl];omega)) ?_
   rintro _ w4 ⟨rfl,hS'⟩
   simp only [List.set] at hS'
   clear hS;have hS:=hS';clear hS'
   have hz2:=overL_len (rows:=l.map enC) (news:=(l.map enC).drop i) (k:=i + 1) (by rw [hml];omega)
   rw [hml,hdl,show max l.length (i + 1 + (l.length - i))=l.length + 1 by omega] at hz2
   rw [hz2] at hS
   repeat' (first|refine yO ?_|((with_reducible apply l_sliceL tabOk (j:=i));(iterate 3 exact rfl);((exact rfl));omega;omega;exact rfl))
   refine l_gets rfl (g_copy hS tabOk (i:=0) (k:=i) (news:=[enC e]) rfl rfl rfl rfl (hS.rowRo 1 rfl) (by rw [List.length_singleton];omega) (by rw [hz2];omega) (by rw [List.length_singleton];omega)) ?_
   rintro _ w3 ⟨rfl,hS'⟩
   simp only [List.set] at hS'
   clear hS;have hS:=hS';clear hS'
   rw [ovB (by rw [hml];omega)] at hS
   have hz3:(List.take i (List.map enC l)++enC e::(List.map enC l).drop i).length=l.length + 1:=by rw [List.length_append,List.length_take,List.length_cons,List.length_drop,hml];omega
   rw [hz3] at hS
   repeat' ((refine yO ?_))
   refine yR1 ?_
   refine ⟨_,_,rfl,?_⟩
   rw [List.map_append,List.map_cons,List.map_take,List.map_drop]
   exact hS.sub (by repeat (first|exact List.nil_sublist _|apply List.Sublist.cons_cons))
end Go.Proofs.Ytejnpppejalhfac
/- slices.Clone at the kernel's types. -/
namespace Go.Proofs.Ytejnpppejalhfac
open Go.RowKit Go.Sort
set_option maxRecDepth 100000 in
set_option maxHeartbeats 8000000 in
theorem cloneFm_fn {α:Type} {f:α→List Value} {l:List α} {w:World} {v:Value} (hL:Sl nF w 4 v (l.map f)) (hl:l.length≤100000):Fn Try.prog 31 [v] w (fun v' w'=>∃ q c,v'=.slice q l.length c∧St nF w w' [.row 43 4 v' (l.map f)]):=by
 obtain ⟨pp,c,rfl⟩:=hL.len
 refine yEn Try.func31 Try.ntmps31 ?_
 have hS:=St.start w
 cases pp with
 |none=>
  have h0:l.map f=[]:=by
   rcases hL with ⟨p,c',h1,h2⟩|⟨b,off,cap,h1,-⟩
   ·exact h2
   ·cases h1
  have h1:l.length=0:=by simpa using h0
  repeat' (first|refine yO ?_|((with_reducible apply l_eqNil tabOk);(iterate 4 exact rfl)))
  refine yR1 ?_
  refine ⟨none,0,by rw [h1],?_⟩
  rw [h0]
  exact (hS.sub (List.nil_sublist _)).addNil _ _
 |some p=>
  repeat' (first|refine yO ?_|(refine yM ?_;clear hS;intro g w' hS)|((with_reducible apply l_eqNil tabOk);(iterate 4 exact rfl))|(refine yA0 ((hL.now hS)) ?_;clear hS;intro p' cap' w' hS))
  refine yR1 ?_
  refine ⟨p',cap',by rw [List.length_nil,Nat.zero_add,List.length_map],?_⟩
  rw [List.nil_append] at hS
  exact hS.sub (by repeat ((exact List.Sublist.refl _)))
set_option maxRecDepth 100000 in
set_option maxHeartbeats 8000000 in
theorem cloneSw_fn {α:Type} {f:α→List Value} {l:List α} {w:World} {v:Value} (hL:Sl nF w 2 v (l.map f)) (hl:l.length≤100000):Fn Try.prog 32 [v] w (fun v' w'=>∃ q c,v'=.slice q l.length c∧St nF w w' [.row 45 2 v' (l.map f)]):=by
 obtain ⟨pp,c,rfl⟩:=hL.len
 refine yEn Try.func32 Try.ntmps32 ?_
 have hS:=St.start w
 cases pp with
 |none=>
  have h0:l.map f=[]:=by
   rcases hL with ⟨p,c',h1,h2⟩|⟨b,off,cap,h1,-⟩
   ·exact h2
   ·cases h1
  have h1:l.length=0:=by simpa using h0
  repeat' (first|refine yO ?_|((with_reducible apply l_eqNil tabOk);(iterate 4 exact rfl)))
  refine yR1 ?_
  refine ⟨none,0,by rw [h1],?_⟩
  rw [h0]
  exact (hS.sub (List.nil_sublist _)).addNil _ _
 |some p=>
  repeat' (first|refine yO ?_|(refine yM ?_;clear hS;intro g w' hS)|((with_reducible apply l_eqNil tabOk);(iterate 4 exact rfl))|(refine yA0 ((hL.now hS)) ?_;clear hS;intro p' cap' w' hS))
  refine yR1 ?_
  refine ⟨p',cap',by rw [List.length_nil,Nat.zero_add,List.length_map],?_⟩
  rw [List.nil_append] at hS
  exact hS.sub (by repeat ((exact List.Sublist.refl _)))
set_option maxRecDepth 100000 in
set_option maxHeartbeats 8000000 in
theorem cloneFx_fn {α:Type} {f:α→List Value} {l:List α} {w:World} {v:Value} (hL:Sl nF w 2 v (l.map f)) (hl:l.length≤100000):Fn Try.prog 33 [v] w (fun v' w'=>∃ q c,v'=.slice q l.length c∧St nF w w' [.row 100 2 v' (l.map f)]):=by
 obtain ⟨pp,c,rfl⟩:=hL.len
 refine yEn Try.func33 Try.ntmps33 ?_
 have hS:=St.start w
 cases pp with
 |none=>
  have h0:l.map f=[]:=by
   rcases hL with ⟨p,c',h1,h2⟩|⟨b,off,cap,h1,-⟩
   ·exact h2
   ·cases h1
  have h1:l.length=0:=by simpa using h0
  repeat' (first|refine yO ?_|((with_reducible apply l_eqNil tabOk);(iterate 4 exact rfl)))
  refine yR1 ?_
  refine ⟨none,0,by rw [h1],?_⟩
  rw [h0]
  exact (hS.sub (List.nil_sublist _)).addNil _ _
 |some p=>
  repeat' (first|refine yO ?_|(refine yM ?_;clear hS;intro g w' hS)|((with_reducible apply l_eqNil tabOk);(iterate 4 exact rfl))|(refine yA0 ((hL.now hS)) ?_;clear hS;intro p' cap' w' hS))
  refine yR1 ?_
  refine ⟨p',cap',by rw [List.length_nil,Nat.zero_add,List.length_map],?_⟩
  rw [List.nil_append] at hS
  exact hS.sub (by repeat ((exact List.Sublist.refl _)))
set_option maxRecDepth 100000 in
set_option maxHeartbeats 8000000 in
theorem cloneAr_fn {α:Type} {f:α→List Value} {l:List α} {w:World} {v:Value} (hL:Sl nF w 4 v (l.map f)) (hl:l.length≤100000):Fn Try.prog 34 [v] w (fun v' w'=>∃ q c,v'=.slice q l.length c∧St nF w w' [.row 71 4 v' (l.map f)]):=by
 obtain ⟨pp,c,rfl⟩:=hL.len
 refine yEn Try.func34 Try.ntmps34 ?_
 have hS:=St.start w
 cases pp with
 |none=>
  have h0:l.map f=[]:=by
   rcases hL with ⟨p,c',h1,h2⟩|⟨b,off,cap,h1,-⟩
   ·exact h2
   ·cases h1
  have h1:l.length=0:=by simpa using h0
  repeat' (first|refine yO ?_|((with_reducible apply l_eqNil tabOk);(iterate 4 exact rfl)))
  refine yR1 ?_
  refine ⟨none,0,by rw [h1],?_⟩
  rw [h0]
  exact (hS.sub (List.nil_sublist _)).addNil _ _
 |some p=>
  repeat' (first|refine yO ?_|(refine yM ?_;clear hS;intro g w' hS)|((with_reducible apply l_eqNil tabOk);(iterate 4 exact rfl))|(refine yA0 ((hL.now hS)) ?_;clear hS;intro p' cap' w' hS))
  refine yR1 ?_
  refine ⟨p',cap',by rw [List.length_nil,Nat.zero_add,List.length_map],?_⟩
  rw [List.nil_append] at hS
  exact hS.sub (by repeat ((exact List.Sublist.refl _)))
set_option maxRecDepth 100000 in
set_option maxHeartbeats 8000000 in
theorem cloneEn_fn {α:Type} {f:α→List Value} {l:List α} {w:World} {v:Value} (hL:Sl nF w 3 v (l.map f)) (hl:l.length≤100000):Fn Try.prog 35 [v] w (fun v' w'=>∃ q c,v'=.slice q l.length c∧St nF w w' [.row 55 3 v' (l.map f)]):=by
 obtain ⟨pp,c,rfl⟩:=hL.len
 refine yEn Try.func35 Try.ntmps35 ?_
 have hS:=St.start w
 cases pp with
 |none=>
  have h0:l.map f=[]:=by
   rcases hL with ⟨p,c',h1,h2⟩|⟨b,off,cap,h1,-⟩
   ·exact h2
   ·cases h1
  have h1:l.length=0:=by simpa using h0
  repeat' (first|refine yO ?_|((with_reducible apply l_eqNil tabOk);(iterate 4 exact rfl)))
  refine yR1 ?_
  refine ⟨none,0,by rw [h1],?_⟩
  rw [h0]
  exact (hS.sub (List.nil_sublist _)).addNil _ _
 |some p=>
  repeat' (first|refine yO ?_|(refine yM ?_;clear hS;intro g w' hS)|((with_reducible apply l_eqNil tabOk);(iterate 4 exact rfl))|(refine yA0 ((hL.now hS)) ?_;clear hS;intro p' cap' w' hS))
  refine yR1 ?_
  refine ⟨p',cap',by rw [List.length_nil,Nat.zero_add,List.length_map],?_⟩
  rw [List.nil_append] at hS
  exact hS.sub (by repeat ((exact List.Sublist.refl _)))
end Go.Proofs.Ytejnpppejalhfac
