/- Texts that the proof stands on, one behind the other: Im3, Im4, Sc13, Im5, Im6, Im7, Im8, Lk12, Lk14, Lk15, Im9, Im10, Lk16, PlOf, PlRd, Im21, Lk17, Lk18, Ke2, Lk19, Ke3, Ke4. -/
import Derived.Test.YtejnpppejalhfacPKernelApart5
/- image.names. -/
namespace Go.Proofs.Ytejnpppejalhfac
open Go.RowKit Go.Sort
structure ImB (I:Im):Prop where
 needs:I.needs.length≤1048576
 segs:I.segs.length≤1048576
 syms:I.syms.length≤1048576
 rels:I.rels.length≤1048576
def nl0 (I:Im):List (List UInt8):=I.name::I.needs
def nl1 (I:Im) (i:Nat):List (List UInt8):=nl0 I++(I.syms.take i).map (·.name)
def nl2 (I:Im) (i:Nat):List (List UInt8):=nl1 I I.syms.length++((I.rels.take i).filter (fun r=>!decide (r.name=[]))).map (·.name)
theorem take_snoc {α:Type} {l:List α} {i:Nat} {x:α} (hx:l[i]?=some x):l.take (i + 1)=l.take i++[x]:=by
 rw [List.take_add_one,hx];rfl
theorem nl1_succ {I:Im} {i:Nat} {x:Sy} (hx:I.syms[i]?=some x):(nl1 I i).map stC++[stC x.name]=(nl1 I (i + 1)).map stC:=by
 unfold nl1;rw [take_snoc hx];simp
theorem nl2_succ {I:Im} {i:Nat} {x:Rl} (hx:I.rels[i]?=some x) (hn:¬ x.name=[]):(nl2 I i).map stC++[stC x.name]=(nl2 I (i + 1)).map stC:=by
 unfold nl2;rw [take_snoc hx];simp [hn]
theorem nl2_same {I:Im} {i:Nat} {x:Rl} (hx:I.rels[i]?=some x) (hn:x.name=[]):nl2 I i=nl2 I (i + 1):=by
 unfold nl2;rw [take_snoc hx];simp [hn]
theorem nl1_len {I:Im} (h:ImB I) (i:Nat):((nl1 I i).map stC).length≤2097153:=by
 have h1:=h.needs
 have h2:=h.syms
 simp only [nl1,nl0,List.length_map,List.length_append,List.length_cons,List.length_take];omega
theorem nl2_len {I:Im} (h:ImB I) (i:Nat):((nl2 I i).map stC).length≤4194304:=by
 have h1:=h.needs
 have h2:=h.syms
 have h3:=h.rels
 have h4:=List.length_filter_le (fun r:Rl=>!decide (r.name=[])) (I.rels.take i)
 rw [List.length_take] at h4
 simp only [nl2,nl1,nl0,List.length_map,List.length_append,List.length_cons,List.length_take];omega
theorem nl2_all (I:Im):(nl2 I I.rels.length).all nmB=nmsB I:=by
 unfold nl2 nl1 nl0 nmsB
 rw [List.take_length,List.take_length]
 rw [Bool.eq_iff_iff]
 simp only [List.all_eq_true,List.cons_append,List.mem_cons,List.mem_append,List.mem_map,List.mem_filter,Bool.and_eq_true,Bool.or_eq_true,decide_eq_true_eq,Bool.not_eq_true',decide_eq_false_iff_not]
 constructor
 ·intro h
  refine ⟨h _ (Or.inl rfl),fun s hs=>h _ (Or.inr (Or.inl (Or.inl hs))),fun s hs=>h _ (Or.inr (Or.inl (Or.inr ⟨s,hs,rfl⟩))),fun r hr=>?_⟩
  by_cases e:r.name=[]
  ·exact Or.inl e
  ·exact Or.inr (h _ (Or.inr (Or.inr ⟨r,⟨hr,e⟩,rfl⟩)))
 ·rintro ⟨h1,h2,h3,h4⟩ x (rfl|(hx|⟨s,hs,rfl⟩)|⟨r,⟨hr,e⟩,rfl⟩)
  ·exact h1
  ·exact h2 x hx
  ·exact h3 s hs
  ·exact (h4 r hr).resolve_left e
set_option maxRecDepth 100000 in
set_option maxHeartbeats 2000000 in
theorem names_fn {I:Im} {w:World} {vn vs vy vr:Value} (hI:ImV w I vn vs vy vr) (hB:ImB I):Fn Try.prog 71 [imA I vn vs vy vr] w (RBf (.int .i64 (if nmsB I=true then 0 else 4)) w):=by
 have bn:=hI.needs.bound;have bs:=hI.segs.bound;have by_:=hI.syms.bound;have br:=hI.rels.bound;obtain ⟨pn,cn,rfl⟩:=hI.needs.len;obtain ⟨ps,cs,rfl⟩:=hI.segs.len;obtain ⟨py,cy,rfl⟩:=hI.syms.len;obtain ⟨pr,cr,rfl⟩:=hI.rels.len
 refine yEn Try.func71 Try.ntmps71 ?_
 have hS:=St.start w
 have hb1:=hB.needs
 have hb2:=hB.syms
 have hb3:=hB.rels
 repeat' (first|refine yO ?_|(refine yM ?_;clear hS;intro g w' hS)|(refine yA0 (hI.needs.now hS) ?_;clear hS;intro p' cap' w' hS))
 have e1:[[.string ⟨I.name.toArray⟩]]++I.needs.map stC=(nl1 I 0).map stC:=by simp [nl1,nl0,stC]
 rw [e1] at hS
 refine c_loopK (X:=Nat×Option Addr×Nat×Nat) (fun x=>[(19,.int .i64 (x.1:Nat)),(3,.slice x.2.1 x.2.2.1 x.2.2.2)]) [1,17,18] rfl (fun x=>[.row 9 1 (.slice x.2.1 x.2.2.1 x.2.2.2) ((nl1 I x.1).map stC)]) (fun x=>x.1≤I.syms.length) (fun x=>I.syms.length - x.1) (0,p',_,cap') (by exact zS) (by exact Nat.zero_le _) hS ?_
 rintro ⟨i,q1,q2,q3⟩ w1 hi hS'
 simp only [List.cons_append,List.nil_append] at hi hS' ⊢
 clear hS;have hS:=hS';clear hS'
 by_cases hlt:i < I.syms.length
 ·obtain ⟨x,hx⟩:=lt_get (l:=I.syms) (i:=i) (by omega)
  have hrow:=map_get (f:=syC) hx
  obtain ⟨b,off,rfl,hro⟩:=(hI.syms).at_ hlt
  have hl1:=nl1_len hB i
  repeat' (first|refine yO ?_|(refine yM ?_;clear hS;intro g w' hS)|(refine yN ?_;clear hS;intro w' hS)|(refine yS ?_ ?_;all_goals (intro hb hp;try (exfalso;omega)))|(refine yA2 (hS.rowRo 0 rfl) ?_;clear hS;intro p' cap' w' hS))
  rw [show [[.string ⟨x.name.toArray⟩]]=[stC x.name] from rfl,nl1_succ hx] at hS
  refine q_loopK (i + 1,p',_,cap') (by exact zS) (by show i + 1≤I.syms.length;omega) ?_ (by show I.syms.length - (i + 1) < I.syms.length - i;omega)
  exact (hS.drop.drop)
 have e2:=List.take_of_length_le (l:=I.syms) (i:=i) (by omega)
 have e3:nl1 I i=nl1 I I.syms.length:=by unfold nl1;rw [e2,List.take_length]
 have e4:(nl1 I i).map stC=(nl2 I 0).map stC:=by unfold nl2;rw [e3];simp
 repeat' (first|refine yO ?_|(refine yS ?_ ?_;all_goals (intro hb hp;try (exfalso;omega))))
 rw [e4] at hS
 refine c_loopK (X:=Nat×Option Addr×Nat×Nat) (fun x=>[(32,.int .i64 (x.1:Nat)),(3,.slice x.2.1 x.2.2.1 x.2.2.2)]) [1,30,31] rfl (fun x=>[.row 9 1 (.slice x.2.1 x.2.2.1 x.2.2.2) ((nl2 I x.1).map stC)]) (fun x=>x.1≤I.rels.length) (fun x=>I.rels.length - x.1) (0,q1,_,q3) (by exact zS) (by exact Nat.zero_le _) hS ?_
 clear hi hlt hb hp e2 e3 e4 hS
 rintro ⟨j,q4,q5,q6⟩ w1 hi hS
 simp only [List.cons_append,List.nil_append] at hi hS ⊢
 by_cases hlt:j < I.rels.length
 ·obtain ⟨x,hx⟩:=lt_get (l:=I.rels) (i:=j) (by omega)
  have hrow:=map_get (f:=rlC) hx
  obtain ⟨b,off,rfl,hro⟩:=hI.rels.at_ hlt
  have hl1:=nl2_len hB j
  repeat' (first|refine yO ?_|(refine yM ?_;clear hS;intro g w' hS)|(refine yN ?_;clear hS;intro w' hS)|(refine yS ?_ ?_;all_goals (intro hb hp;try (exfalso;omega)))|(refine yA2 (hS.rowRo 0 rfl) ?_;clear hS;intro p' cap' w' hS))
  ·rw [show [[.string ⟨x.name.toArray⟩]]=[stC x.name] from rfl,nl2_succ hx (by simpa using hp)] at hS
   refine q_loopK (j + 1,p',_,cap') (by exact zS) (by show j + 1≤I.rels.length;omega) ?_ (by show I.rels.length - (j + 1) < I.rels.length - j;omega)
   exact (hS.drop.drop)
  ·rw [nl2_same hx (by simpa using hp)] at hS
   refine q_loopK (j + 1,q4,_,q6) (by exact zS) (by show j + 1≤I.rels.length;omega) ?_ (by show I.rels.length - (j + 1) < I.rels.length - j;omega)
   exact hS.drop
 have e5:nl2 I j=nl2 I I.rels.length:=by unfold nl2;rw [List.take_of_length_le (l:=I.rels) (i:=j) (by omega),List.take_length]
 rw [e5] at hS
 have hl2:=nl2_len hB I.rels.length
 rw [List.length_map] at hl2
 have hm:=hS.rowLen 0 rfl
 rw [List.length_map] at hm
 subst hm
 repeat' (first|refine yO ?_|(refine yS ?_ ?_;all_goals (intro hb hp;try (exfalso;omega))))
 refine c_count hS 47 [1,45,46] rfl ((nl2 I I.rels.length).length) (fun i=>((nl2 I I.rels.length).take i).all nmB=true) 0 rfl (Nat.zero_le _) (by (rfl)) ?_
 rintro i w1 hi hall hS'
 clear hS;have hS:=hS';clear hS'
 by_cases hlt:i < (nl2 I I.rels.length).length
 ·obtain ⟨x,hx⟩:=lt_get (l:=nl2 I I.rels.length) (i:=i) (by omega)
  have hrow:=map_get (f:=stC) hx
  obtain ⟨g2,rfl⟩:=hS.rowSome 0 rfl (by omega)
  repeat' (first|refine yO ?_|(refine yS ?_ ?_;all_goals (intro hb hp;try (exfalso;omega)))|(refine yC ?_;refine ⟨_,name_fn _ _,?_⟩;clear hS;intro w' hS))
  ·refine yR1 ?_
   refine ⟨?_,hS.sub (List.nil_sublist _)⟩
   rw [if_neg (by rw [← nl2_all,all_no hx (by simpa using hb)];simp)]
  ·exact q_count (i + 1) (by exact zS) (by omega) (all_take_succ hall hx (by simpa using hb)) (by omega) hS
 ·repeat' (first|refine yO ?_|(refine yS ?_ ?_;all_goals (intro hb hp;try (exfalso;omega))))
  refine yR1 ?_
  refine ⟨?_,hS.sub (List.nil_sublist _)⟩
  rw [if_pos (by rw [← nl2_all];exact all_take_all hall (by omega))]
end Go.Proofs.Ytejnpppejalhfac
/- An image's counts, segments; the segment of an address. -/
namespace Go.Proofs.Ytejnpppejalhfac
open Go.RowKit Go.Sort
set_option maxRecDepth 100000 in
set_option maxHeartbeats 2000000 in
theorem counts_fn {I:Im} {w:World} {vn vs vy vr:Value} (hI:ImV w I vn vs vy vr):Fn Try.prog 72 [imA I vn vs vy vr] w (RBf (.int .i64 (if cntB I=true then 0 else 2)) w):=by
 have bn:=hI.needs.bound;have bs:=hI.segs.bound;have by_:=hI.syms.bound;have br:=hI.rels.bound;obtain ⟨pn,cn,rfl⟩:=hI.needs.len;obtain ⟨ps,cs,rfl⟩:=hI.segs.len;obtain ⟨py,cy,rfl⟩:=hI.syms.len;obtain ⟨pr,cr,rfl⟩:=hI.rels.len
 refine yEn Try.func72 Try.ntmps72 ?_
 have hS:=St.start w
 repeat' (first|refine yO ?_|(refine yM ?_;clear hS;intro g w' hS)|(refine yN ?_;clear hS;intro w' hS)|(refine yS ?_ ?_;all_goals (intro hb hp;try (exfalso;omega)))|fail)
 all_goals refine yR1 ?_
 all_goals refine ⟨?_,hS.sub (List.nil_sublist _)⟩
 all_goals first
  |(rw [if_neg (by unfold cntB;rw [decide_eq_true_eq];omega)];done)
  |(rw [if_pos (by unfold cntB;rw [decide_eq_true_eq];omega)];done)
set_option maxRecDepth 100000 in
set_option maxHeartbeats 2000000 in
theorem segments_fn {I:Im} {w:World} {vn vs vy vr:Value} (hI:ImV w I vn vs vy vr) (hd:∀ s ∈ I.segs,(s.data.length:Int)≤9223372036854775807):Fn Try.prog 73 [imA I vn vs vy vr] w (RBf (.int .i64 (if sgsB I=true then 0 else 3)) w):=by
 have bn:=hI.needs.bound;have bs:=hI.segs.bound;have by_:=hI.syms.bound;have br:=hI.rels.bound;obtain ⟨pn,cn,rfl⟩:=hI.needs.len;obtain ⟨ps,cs,rfl⟩:=hI.segs.len;obtain ⟨py,cy,rfl⟩:=hI.syms.len;obtain ⟨pr,cr,rfl⟩:=hI.rels.len
 refine yEn Try.func73 Try.ntmps73 ?_
 have hS:=St.start w
 repeat' (first|refine yO ?_|(refine yM ?_;clear hS;intro g w' hS)|(refine yN ?_;clear hS;intro w' hS)|(refine yS ?_ ?_;all_goals (intro hb hp;try (exfalso;omega)))|fail)
 refine c_count hS 8 [1,6,7] rfl (I.segs.length) (fun i=>(I.segs.take i).all sgOk=true) 0 rfl (Nat.zero_le _) (by first|rfl|trivial|(intros;omega)) ?_
 rintro i w1 hi hall hS'
 clear hS;have hS:=hS';clear hS'
 by_cases hlt:i < I.segs.length
 ·obtain ⟨x,hx⟩:=lt_get (l:=I.segs) (i:=i) (by omega)
  have hrow:=map_get (f:=sgC) hx
  obtain ⟨b,off,rfl,hro⟩:=(hI.segs).at_ hlt
  have hdx:=hd x (List.mem_of_getElem? hx)
  repeat' (first|refine yO ?_|(refine yM ?_;clear hS;intro g w' hS)|(refine yN ?_;clear hS;intro w' hS)|(refine yS ?_ ?_;all_goals (intro hb hp;try (exfalso;omega)))|fail)
  all_goals first
   |exact q_count (i + 1) (by exact zS) (by omega) (all_take_succ hall hx (by unfold sgOk;rw [decide_eq_true_eq];omega)) (by omega) hS.drop
   |((refine yR1 ?_);refine ⟨?_,hS.sub (List.nil_sublist _)⟩;rw [if_neg (by rw [sgsB,all_no hx (by unfold sgOk;rw [decide_eq_false_iff_not];omega)];simp)])
 ·repeat' (first|refine yO ?_|(refine yM ?_;clear hS;intro g w' hS)|(refine yN ?_;clear hS;intro w' hS)|(refine yS ?_ ?_;all_goals (intro hb hp;try (exfalso;omega)))|fail)
  refine yR1 ?_
  refine ⟨?_,hS.sub (List.nil_sublist _)⟩
  rw [if_pos (show sgsB I=true from all_take_all hall (by omega))]
theorem notB {b:Bool} (h:b=false):(!b)=true:=by rw [h];rfl
set_option maxRecDepth 100000 in
set_option maxHeartbeats 2000000 in
theorem at_fn {I:Im} {w:World} {vn vs vy vr:Value} (x0:Int) (hI:ImV w I vn vs vy vr) (hok:sgsB I=true):Fn Try.prog 86 [imA I vn vs vy vr,.int .i64 x0] w (RBf (.tuple #[.agg (sgC ((own I.segs x0).getD zeroSg)).toArray,.bool (own I.segs x0).isSome]) w):=by
 have bn:=hI.needs.bound;have bs:=hI.segs.bound;have by_:=hI.syms.bound;have br:=hI.rels.bound;obtain ⟨pn,cn,rfl⟩:=hI.needs.len;obtain ⟨ps,cs,rfl⟩:=hI.segs.len;obtain ⟨py,cy,rfl⟩:=hI.syms.len;obtain ⟨pr,cr,rfl⟩:=hI.rels.len
 refine yEn Try.func86 Try.ntmps86 ?_
 have hS:=St.start w
 repeat' (first|refine yO ?_|(refine yM ?_;clear hS;intro g w' hS)|(refine yN ?_;clear hS;intro w' hS)|(refine yS ?_ ?_;all_goals (intro hb hp;try (exfalso;omega)))|fail)
 refine c_count hS 11 [1,2,4,9,10] rfl (I.segs.length) (fun i=>(I.segs.take i).all (fun s=>!inSg x0 s)=true) 0 rfl (Nat.zero_le _) (by first|rfl|trivial|(intros;omega)) ?_
 rintro i w1 hi hall hS'
 clear hS;have hS:=hS';clear hS'
 by_cases hlt:i < I.segs.length
 ·obtain ⟨x,hx⟩:=lt_get (l:=I.segs) (i:=i) (by omega)
  have hrow:=map_get (f:=sgC) hx
  obtain ⟨b,off,rfl,hro⟩:=(hI.segs).at_ hlt
  obtain ⟨o1,o2,o3,o4,-⟩:=sg_ok hok hx
  repeat' (first|refine yO ?_|(refine yM ?_;clear hS;intro g w' hS)|(refine yN ?_;clear hS;intro w' hS)|(refine yS ?_ ?_;all_goals (intro hb hp;try (exfalso;omega)))|(refine yK1 ?_;clear hS;intro w' hS)|(refine yK2 ?_;clear hS;intro w' hS)|fail)
  all_goals first
   |exact q_count (i + 1) (by exact zS) (by omega) (all_take_succ hall hx (notB (by unfold inSg;rw [decide_eq_false_iff_not];omega))) (by omega) hS.drop
   |skip
  refine yR2 ?_
  refine ⟨?_,hS.sub (List.nil_sublist _)⟩
  rw [find_at hall hx (by unfold inSg;rw [decide_eq_true_eq];omega)]
  rfl
 ·repeat' (first|refine yO ?_|(refine yM ?_;clear hS;intro g w' hS)|(refine yN ?_;clear hS;intro w' hS)|(refine yS ?_ ?_;all_goals (intro hb hp;try (exfalso;omega)))|fail)
  refine yR2 ?_
  refine ⟨?_,hS.sub (List.nil_sublist _)⟩
  rw [find_none hall (by omega)]
  rfl
end Go.Proofs.Ytejnpppejalhfac
/- THE STEP CALCULUS, part 13: maps of numbers by strings, of the call's own. -/
namespace Go.Proofs.Ytejnpppejalhfac
open Go.RowKit Go.Sort Go.MapKept
structure MapN (es:Array MapEntry) (L:List (List UInt8×Int)):Prop where
 held:es.toList.map (fun e=>(e.key,e.val))=L.map fun p=>(Value.string ⟨p.1.toArray⟩,Value.int .i64 p.2)
 once:(L.map (·.1)).Nodup
theorem MapN.nil:MapN #[] []:=⟨rfl,by simp⟩
theorem str_inj {a b:List UInt8} (h:Value.string ⟨a.toArray⟩=Value.string ⟨b.toArray⟩):a=b:=by
 simpa using h
theorem MapN.at_ {w:World} {r c:Nat} {es:Array MapEntry} {L:List (List UInt8×Int)} (h:MapN es L) (hr:w.heap[r]?=some (.map es c)):MapAt .string w r (L.map fun p=>(Value.string ⟨p.1.toArray⟩,Value.int .i64 p.2)):=by
 refine ⟨⟨es,c,hr,h.held⟩,fun p hp=>?_,?_⟩
 ·obtain ⟨q,_,rfl⟩:=List.mem_map.1 hp
  trivial
 ·rw [List.map_map]
  have:(Prod.fst ∘ fun p:List UInt8×Int=>(Value.string ⟨p.1.toArray⟩,Value.int .i64 p.2))=(fun x:List UInt8=>Value.string ⟨x.toArray⟩) ∘ (·.1):=rfl
  rw [this,← List.map_map]
  exact List.Pairwise.map _ (fun a b hab e=>hab (str_inj e)) h.once
section
variable {P:Program} {n:Nat} {ds:List Deferred} {E:Fr} {w:World} {Q:Exit→Act→World→Prop} {ops:Array Oper} {rest:List Oper} {d:Nat} {ty:TypeId} {pos:String} {after:Array Edge} {F:Nat→Prop} {w0:World} {Γ:List Asr} {T:Tab}
theorem l_makeMap (hS:St F w0 w Γ) {t:TypeId} (hd:Nat.blt d n=true) (k:∀ r w',St F w0 w' (.obj r (.map #[] 0)::Γ)→WL P ops Q rest n ds ((d,.map (some r))::E) w'):WL P ops Q (⟨some d,.makeMap t none,ty,pos,after,none⟩::rest) n ds E w :=
 l_gets (Φ:=fun v w'=>∃ r,v=.map (some r)∧St F w0 w' (.obj r (.map #[] 0)::Γ)) hd (fun a ha K Q k=>by
  have hex:(execOp a.eval ⟨some d,.makeMap t none,ty,pos,after,none⟩).run P w=.ok (.value (.map (some w.heap.size))) (w.alloc (.map #[] 0)):=by
   simp only [execOp]
   rfl
  unfold Oper.wp
  rw [hex]
  exact k _ _ ⟨_,rfl,hS.new (World.grownBy_alloc w _ none) ⟨(heap_alloc w _).1,rfl⟩ (by simp [Asr.fp])⟩) (by rintro _ w' ⟨r,rfl,h⟩;exact k r w' h)
theorem l_look (hS:St F w0 w Γ) (hT:TabOk P T) {t Kt Et:TypeId} {m x:Operand} {r c:Nat} (i:Nat) {es:Array MapEntry} {L:List (List UInt8×Int)} {s:List UInt8} {u:Int} (ht:P.underlying t=some (.map Kt Et)) (hK:P.underlying Kt=some .string) (hE:T.get Et=some (.sc (.int .i64) 1 (.int .i64 0))) (hm:E.ev m=some (.map (some r))) (hx:E.ev x=some (.string ⟨s.toArray⟩)) (hi:Γ[i]?=some (.obj r (.map es c))) (hL:MapN es L)
  (hv:(s,u) ∈ L∨((∀ v,(s,v) ∉ L)∧u=0)) (hd:Nat.blt d n=true) (k:WL P ops Q rest n ds ((d,.int .i64 u)::E) w):WL P ops Q (⟨some d,.lookup t m x false,ty,pos,after,none⟩::rest) n ds E w :=
 l_gets (Φ:=fun v w'=>v=.int .i64 u∧w'=w) hd (Gets.of_at fun a ha=>by
  have hat:=hL.at_ (hS.at_ hi).1
  obtain ⟨zi,_,_,hzi,_,hz,_⟩:=hT.sc hE
  have hz':(zeroValue Et).run P w=.ok (.int .i64 0) w:=by simp [zeroValue,typeInfo,hzi,hz]
  have hrun:(Instr.lookup t (.map (some r)) (.string ⟨s.toArray⟩) false).run P w=.ok (.int .i64 u) w:=by
   rcases hv with hv|⟨hv,rfl⟩
   ·exact run_lookup_hit (k:=.string ⟨s.toArray⟩) (v:=.int .i64 u) ht hK hat trivial (List.mem_map.2 ⟨(s,u),hv,rfl⟩) false
   ·refine run_lookup_miss (k:=.string ⟨s.toArray⟩) ht hK hat trivial (fun v hv'=>?_) hz' false
    obtain ⟨q,hq,e⟩:=List.mem_map.1 hv'
    simp only [Prod.mk.injEq] at e
    have:=str_inj e.1
    exact hv q.2 (by rw [← this];exact hq)
  simp only [execOp,ha.ev hm,ha.ev hx,Sem.run_bind,hrun,Result.andThen_ok,Sem.run_pure]) (by rintro _ _ ⟨rfl,rfl⟩;exact k)
theorem upd_old {t Kt Et:TypeId} {r c:Nat} {es:Array MapEntry} {L:List (List UInt8×Int)} {s:List UInt8} {u v:Int} (ht:P.underlying t=some (.map Kt Et)) (hK:P.underlying Kt=some .string) (hr:w.heap[r]?=some (.map es c)) (hL:MapN es L) (hm:(s,u) ∈ L) :
  ∃ es',(Instr.mapUpdate t (.map (some r)) (.string ⟨s.toArray⟩) (.int .i64 v)).run P w=.ok () { w with heap:=w.heap.setIfInBounds r (.map es' c) }∧∃ L',MapN es' L'∧(s,v) ∈ L':=by
 have hat:=hL.at_ hr
 have hk:IsKey .string (Value.string ⟨s.toArray⟩):=trivial
 have hkeys:∀ e ∈ es.toList,IsKey .string e.key:=fun e he=>hat.keys (e.key,e.val) (by rw [← hL.held];exact List.mem_map.2 ⟨e,he,rfl⟩)
 have hnd:(es.toList.map (·.key)).Nodup:=by
  have:=hat.once
  rw [← hL.held,List.map_map] at this
  exact this
 have hmem:∃ e ∈ es.toList,e.key=.string ⟨s.toArray⟩∧e.val=.int .i64 u:=by
  have:((Value.string ⟨s.toArray⟩,Value.int .i64 u):Value×Value) ∈ es.toList.map (fun e=>(e.key,e.val)):=by
   rw [hL.held];exact List.mem_map.2 ⟨(s,u),hm,rfl⟩
  obtain ⟨e,he,h2⟩:=List.mem_map.1 this
  simp only [Prod.mk.injEq] at h2
  exact ⟨e,he,h2⟩
 obtain ⟨j,hj,hf,hkj⟩:=findNow_hit (v:=.int .i64 u) hk es.toList 0 hkeys hnd hmem
 rw [Nat.zero_add] at hf
 have h1:=run_checkKey (P:=P) (w:=w) hK hk false 9999
 have h2:=run_findKey (P:=P) (w:=w) hK hf
 have hjs:j < es.size:=by simpa using hj
 have hkj':(es[j]?.map (·.key)).getD (Value.string ⟨s.toArray⟩)=.string ⟨s.toArray⟩:=by
  rw [show es[j]?=es.toList[j]? by simp,hkj];rfl
 have h3:=run_keyThatStays (P:=P) (w:=w) hk
 refine ⟨es.modify j fun e=>{ e with key:=.string ⟨s.toArray⟩,val:=.int .i64 v },?_,L.set j (s,v),⟨?_,?_⟩,?_⟩
 ·simp only [Instr.mapUpdate,run_underlying ht,Go.MapKept.run_getObj_map hr,h1,h2,Result.andThen_ok,Sem.run_bind,hkj',h3,run_setObj_map _ hr]
 ·refine List.ext_getElem? fun m=>?_
  rw [List.map_set,← hL.held,Array.toList_modify,List.getElem?_map,List.getElem?_modify,List.getElem?_set,List.getElem?_map,List.length_map]
  by_cases e:j=m
  ·subst e
   have:es.toList[j]?=some es[j]:=by simp [hjs]
   rw [this,if_pos rfl,if_pos hj]
   simp
  ·simp [e]
 ·have hLj:∃ q,L[j]?=some q∧q.1=s:=by
   have h4:=congrArg (fun l=>l[j]?) hL.held
   simp only [List.getElem?_map] at h4
   cases hq:L[j]? with
   |none=>rw [hq] at h4;simp [hjs] at h4
   |some q=>
    refine ⟨q,rfl,?_⟩
    rw [hq] at h4
    have h5:es.toList[j]?=some es[j]:=by simp [hjs]
    rw [h5] at h4 hkj
    simp only [Option.map_some,Option.some.injEq,Prod.mk.injEq] at h4 hkj
    exact str_inj (h4.1.symm.trans hkj)
  obtain ⟨q,hq,hqs⟩:=hLj
  rw [List.map_set]
  have:(L.map (·.1)).set j s=L.map (·.1):=by
   refine List.ext_getElem? fun m=>?_
   rw [List.getElem?_set]
   split
   ·rename_i e
    subst e
    simp only [List.length_map,List.getElem?_map,hq,Option.map_some,hqs]
    rw [if_pos (lt_of_getE hq)]
   ·rfl
  rw [show (s,v).1=s from rfl,this]
  exact hL.once
 ·have:j < L.length:=by have:=congrArg List.length hL.held;rw [List.length_map,List.length_map] at this;omega
  exact List.mem_iff_getElem?.2 ⟨j,by simp [this]⟩
theorem upd_new {t Kt Et:TypeId} {r c:Nat} {es:Array MapEntry} {L:List (List UInt8×Int)} {s:List UInt8} {v:Int} (ht:P.underlying t=some (.map Kt Et)) (hK:P.underlying Kt=some .string) (hr:w.heap[r]?=some (.map es c)) (hL:MapN es L) (hm:∀ v,(s,v) ∉ L) :
  ∃ es' c',(Instr.mapUpdate t (.map (some r)) (.string ⟨s.toArray⟩) (.int .i64 v)).run P w=.ok () { w with heap:=w.heap.setIfInBounds r (.map es' c') }∧MapN es' (L++[(s,v)]):=by
 have hat:=hL.at_ hr
 have hk:IsKey .string (Value.string ⟨s.toArray⟩):=trivial
 have hkeys:∀ e ∈ es.toList,IsKey .string e.key:=fun e he=>hat.keys (e.key,e.val) (by rw [← hL.held];exact List.mem_map.2 ⟨e,he,rfl⟩)
 have hno:∀ e ∈ es.toList,e.key≠.string ⟨s.toArray⟩:=fun e he hek=>by
  have:(e.key,e.val) ∈ L.map fun p=>(Value.string ⟨p.1.toArray⟩,Value.int .i64 p.2):=by rw [← hL.held];exact List.mem_map.2 ⟨e,he,rfl⟩
  obtain ⟨q,hq,h2⟩:=List.mem_map.1 this
  simp only [Prod.mk.injEq] at h2
  exact hm q.2 (by rw [← str_inj (h2.1.trans hek)];exact hq)
 have hf:=findNow_miss hk es.toList 0 hkeys hno
 have h1:=run_checkKey (P:=P) (w:=w) hK hk false 9999
 have h2:=run_findKey (P:=P) (w:=w) hK hf
 refine ⟨es.push { key:=.string ⟨s.toArray⟩,val:=.int .i64 v,born:=c },c + 1,?_,?_,?_⟩
 ·simp only [Instr.mapUpdate,run_underlying ht,Go.MapKept.run_getObj_map hr,h1,h2,Result.andThen_ok,Sem.run_bind,run_setObj_map _ hr]
 ·simp [hL.held]
 ·rw [List.map_append,List.nodup_append]
  refine ⟨hL.once,by simp,fun a ha b hb'=>?_⟩
  have:b=s:=by simpa using hb'
  subst this
  rintro rfl
  obtain ⟨p,hp,hpk⟩:=List.mem_map.1 ha
  exact hm p.2 (by rw [← hpk];exact hp)
theorem l_upd (hS:St F w0 w Γ) {t Kt Et:TypeId} {m x y:Operand} {r c:Nat} (i:Nat) {es:Array MapEntry} {L:List (List UInt8×Int)} {s:List UInt8} {v:Int} (ht:P.underlying t=some (.map Kt Et)) (hK:P.underlying Kt=some .string) (hm:E.ev m=some (.map (some r))) (hx:E.ev x=some (.string ⟨s.toArray⟩)) (hy:E.ev y=some (.int .i64 v)) (hi:Γ[i]?=some (.obj r (.map es c))) (hL:MapN es L)
  (k1:(∃ u,(s,u) ∈ L)→∀ es' c' L' w',MapN es' L'→(s,v) ∈ L'→St F w0 w' (Γ.set i (.obj r (.map es' c')))→WL P ops Q rest n ds E w')
  (k2:(∀ u,(s,u) ∉ L)→∀ es' c' w',MapN es' (L++[(s,v)])→St F w0 w' (Γ.set i (.obj r (.map es' c')))→WL P ops Q rest n ds E w'):WL P ops Q (⟨none,.mapUpdate t m x y,ty,pos,after,none⟩::rest) n ds E w:=by
 have hr:=(hS.at_ hi).1
 have hst:∀ (es':Array MapEntry) (c':Nat),St F w0 { w with heap:=w.heap.setIfInBounds r (.map es' c') } (Γ.set i (.obj r (.map es' c'))):=fun es' c'=>by
  have hset:=heap_set (o':=Obj.map es' c') hr
  exact hS.upd hi ⟨rfl,rfl,rfl,by simp,fun g _ hg=>hset.2 g (fun e=>hg (by simp [Asr.fp,e]))⟩ ⟨hset.1,rfl⟩ (fun q hq=>Or.inl hq)
 have go:∀ (es':Array MapEntry) (c':Nat),(Instr.mapUpdate t (.map (some r)) (.string ⟨s.toArray⟩) (.int .i64 v)).run P w=.ok () { w with heap:=w.heap.setIfInBounds r (.map es' c') }→(∀ w',St F w0 w' (Γ.set i (.obj r (.map es' c')))→WL P ops Q rest n ds E w')→WL P ops Q (⟨none,.mapUpdate t m x y,ty,pos,after,none⟩::rest) n ds E w:=fun es' c' hrun k=>
  l_gets0 (Φ:=fun _ w'=>St F w0 w' (Γ.set i (.obj r (.map es' c')))) (fun a ha K Q kk=>by
   have hex:(execOp a.eval ⟨none,.mapUpdate t m x y,ty,pos,after,none⟩).run P w=.ok .skip { w with heap:=w.heap.setIfInBounds r (.map es' c') }:=by
    simp only [execOp,ha.ev hm,ha.ev hx,ha.ev hy,Sem.run_bind,hrun,Result.andThen_ok,Sem.run_pure]
   unfold Oper.wp
   rw [hex]
   exact kk undef _ (hst es' c')) (fun _ w' h=>k w' h)
 by_cases hex:∃ u,(s,u) ∈ L
 ·obtain ⟨u,hu⟩:=hex
  obtain ⟨es',hrun,L',h1,h2⟩:=upd_old (v:=v) ht hK hr hL hu
  exact go es' c hrun (fun w' h=>k1 ⟨u,hu⟩ es' c L' w' h1 h2 h)
 ·have hno:∀ u,(s,u) ∉ L:=fun u hu=>hex ⟨u,hu⟩
  obtain ⟨es',c',hrun,h1⟩:=upd_new (v:=v) ht hK hr hL hno
  exact go es' c' hrun (fun w' h=>k2 hno es' c' w' h1 h)
end
end Go.Proofs.Ytejnpppejalhfac
/- Does a name stand twice? -/
namespace Go.Proofs.Ytejnpppejalhfac
open Go.RowKit Go.Sort
def ones (l:List (List UInt8)) (i:Nat):List (List UInt8×Int):=(l.take i).map fun s=>(s,1)
theorem ones_mem {l:List (List UInt8)} {i:Nat} {x:List UInt8} {u:Int}:(x,u) ∈ ones l i ↔ x ∈ l.take i∧u=1:=by
 unfold ones
 rw [List.mem_map]
 constructor
 ·rintro ⟨y,h1,h2⟩;cases h2;exact ⟨h1,rfl⟩
 ·rintro ⟨h1,rfl⟩;exact ⟨x,h1,rfl⟩
set_option maxRecDepth 100000 in
set_option maxHeartbeats 2000000 in
theorem twice_fn {l:List (List UInt8)} {w:World} {v:Value} (hl:Sl nF w 1 v (l.map stC)):Fn Try.prog 85 [v] w (RBf (.bool (pB (Dup l))) w):=by
 have bl:=hl.bound
 obtain ⟨pl,cl,rfl⟩:=hl.len
 refine yEn Try.func85 Try.ntmps85 ?_
 have hS:=St.start w
 repeat' (first|refine yO ?_|(refine yM ?_;clear hS;intro g w' hS)|(refine yN ?_;clear hS;intro w' hS)|(refine yS ?_ ?_;all_goals (intro hb hp;try (exfalso;omega)))|((with_reducible apply l_makeMap hS);exact rfl;intro r w' hS';clear hS;have hS:=hS';clear hS')|fail)
 refine c_loopK (X:=Nat×Array MapEntry×Nat) (fun x=>[(9,.int .i64 (x.1:Nat))]) [3,7,8] rfl (fun x=>[.obj r (.map x.2.1 x.2.2)]) (fun x=>x.1≤l.length∧MapN x.2.1 (ones l x.1)) (fun x=>l.length - x.1) (0,#[],0) (by exact zS) ⟨Nat.zero_le _,MapN.nil⟩ hS ?_
 clear hS
 rintro ⟨i,es,c⟩ w1 ⟨hi,hL⟩ hS
 simp only [List.cons_append,List.nil_append] at hi hL hS ⊢
 by_cases hlt:i < l.length
 ·obtain ⟨x,hx⟩:=lt_get (l:=l) (i:=i) (by omega)
  have hrow:=map_get (f:=stC) hx
  obtain ⟨b,off,rfl,hro⟩:=hl.at_ hlt
  by_cases hin:x ∈ l.take i
  ·have hv:(x,(1:Int)) ∈ ones l i∨((∀ v,(x,v) ∉ ones l i)∧(1:Int)=0):=Or.inl (ones_mem.2 ⟨hin,rfl⟩)
   repeat' (first|refine yO ?_|(refine yM ?_;clear hS;intro g w' hS)|(refine yN ?_;clear hS;intro w' hS)|(refine yS ?_ ?_;all_goals (intro hb hp;try (exfalso;omega)))|((with_reducible apply l_look hS tabOk 0 (u:=1) (ht:=Try.underlying146) (hK:=Try.underlying9) (hL:=hL));(iterate 4 exact rfl);exact hv;exact rfl)|((with_reducible apply l_upd hS 0 (ht:=Try.underlying146) (hK:=Try.underlying9) (hL:=hL));(iterate 4 exact rfl);(intro hex es2 c2 L2 w' hL2 hin2 hS';simp only [List.set] at hS';clear hS;have hS:=hS';clear hS');rotate_left;(intro hex es2 c2 w' hL2 hS';simp only [List.set] at hS';clear hS;have hS:=hS';clear hS');rotate_left)|((with_reducible apply l_look hS tabOk 0 (u:=(1 + 1:Int)) (ht:=Try.underlying146) (hK:=Try.underlying9) (hL:=hL2));(iterate 4 exact rfl);(left;assumption);exact rfl)|fail)
   ·refine yR1 ?_
    refine ⟨?_,hS.sub (List.nil_sublist _)⟩
    obtain ⟨j,hj⟩:=List.mem_iff_getElem?.1 hin
    have hji:=lt_of_getE hj
    rw [List.length_take] at hji
    rw [List.getElem?_take,if_pos (by omega)] at hj
    rw [pB_true ⟨i,j,x,by omega,hx,hj⟩]
   ·exact (hex 1 (ones_mem.2 ⟨hin,rfl⟩)).elim
  ·have hv:(x,(0:Int)) ∈ ones l i∨((∀ v,(x,v) ∉ ones l i)∧(0:Int)=0):=Or.inr ⟨fun v hv=>hin (ones_mem.1 hv).1,rfl⟩
   have hin3:(x,(0 + 1:Int)) ∈ ones l i++[(x,(0 + 1:Int))]:=by simp
   repeat' (first|refine yO ?_|(refine yM ?_;clear hS;intro g w' hS)|(refine yN ?_;clear hS;intro w' hS)|(refine yS ?_ ?_;all_goals (intro hb hp;try (exfalso;omega)))|((with_reducible apply l_look hS tabOk 0 (u:=0) (ht:=Try.underlying146) (hK:=Try.underlying9) (hL:=hL));(iterate 4 exact rfl);exact hv;exact rfl)|((with_reducible apply l_upd hS 0 (ht:=Try.underlying146) (hK:=Try.underlying9) (hL:=hL));(iterate 4 exact rfl);(intro hex es2 c2 L2 w' hL2 hin2 hS';simp only [List.set] at hS';clear hS;have hS:=hS';clear hS');rotate_left;(intro hex es2 c2 w' hL2 hS';simp only [List.set] at hS';clear hS;have hS:=hS';clear hS');rotate_left)|((with_reducible apply l_look hS tabOk 0 (u:=(0 + 1:Int)) (ht:=Try.underlying146) (hK:=Try.underlying9) (hL:=hL2));(iterate 4 exact rfl);(left;assumption);exact rfl)|fail)
   ·obtain ⟨u,hu⟩:=hex
    exact (hin (ones_mem.1 hu).1).elim
   ·rw [show ones l i++[(x,(0 + 1:Int))]=ones l (i + 1) by unfold ones;rw [take_snoc hx];simp] at hL2
    exact q_loopK (i + 1,es2,c2) (by exact zS) ⟨by show i + 1≤l.length;omega,hL2⟩ hS (by show l.length - (i + 1) < l.length - i;omega)
 ·repeat' (first|refine yO ?_|(refine yM ?_;clear hS;intro g w' hS)|(refine yN ?_;clear hS;intro w' hS)|(refine yS ?_ ?_;all_goals (intro hb hp;try (exfalso;omega)))|fail)
  refine yR1 ?_
  refine ⟨?_,hS.sub (List.nil_sublist _)⟩
  rw [pB_false]
  rintro ⟨a,b,x,h1,h2,h3⟩
  have hn:=hL.once
  unfold ones at hn
  rw [List.take_of_length_le (by omega),List.map_map] at hn
  have:((fun p:List UInt8×Int=>p.1) ∘ fun s=>(s,1))=(id:List UInt8→List UInt8):=rfl
  rw [show ((fun p:List UInt8×Int=>p.1) ∘ fun s=>(s,(1:Int)))=(id:List UInt8→List UInt8) from rfl,List.map_id] at hn
  obtain ⟨ha,ea⟩:=List.getElem?_eq_some_iff.1 h2
  obtain ⟨hb,eb⟩:=List.getElem?_eq_some_iff.1 h3
  exact (List.pairwise_iff_getElem.1 hn b a hb ha h1) (eb.trans ea.symm)
end Go.Proofs.Ytejnpppejalhfac
/- An image: what lies apart. -/
namespace Go.Proofs.Ytejnpppejalhfac
open Go.RowKit Go.Sort
theorem apt_yes {I:Im} (h1:Ch I.segs) (h2:¬ Dup (I.syms.map (·.name))) (h3:¬ Dup I.needs):aptB I=true:=pB_true ⟨h1,h2,h3⟩
theorem apt_ch {I:Im} (h1:¬ Ch I.segs):aptB I=false:=pB_false fun h=>h1 h.1
theorem apt_sy {I:Im} (h2:Dup (I.syms.map (·.name))):aptB I=false:=pB_false fun h=>h.2.1 h2
theorem apt_nd {I:Im} (h2:Dup I.needs):aptB I=false:=pB_false fun h=>h.2.2 h2
def syN (I:Im) (i:Nat):List (List UInt8):=(I.syms.take i).map (·.name)
theorem syN_succ {I:Im} {i:Nat} {x:Sy} (hx:I.syms[i]?=some x):(syN I i).map stC++[stC x.name]=(syN I (i + 1)).map stC:=by
 unfold syN;rw [take_snoc hx];simp
theorem syN_len {I:Im} (h:ImB I) (i:Nat):((syN I i).map stC).length≤1048576:=by
 have h2:=h.syms
 simp only [syN,List.length_map,List.length_take];omega
theorem syN_all {I:Im} {i:Nat} (h:I.syms.length≤i):syN I i=I.syms.map (·.name):=by unfold syN;rw [List.take_of_length_le h]
set_option maxRecDepth 100000 in
set_option maxHeartbeats 2000000 in
theorem apart_fn {I:Im} {w:World} {vn vs vy vr:Value} (hI:ImV w I vn vs vy vr) (hB:ImB I) (hok:sgsB I=true):Fn Try.prog 74 [imA I vn vs vy vr] w (RBf (.int .i64 (if aptB I=true then 0 else 5)) w):=by
 have bn:=hI.needs.bound;have bs:=hI.segs.bound;have by_:=hI.syms.bound;have br:=hI.rels.bound;obtain ⟨pn,cn,rfl⟩:=hI.needs.len;obtain ⟨ps,cs,rfl⟩:=hI.segs.len;obtain ⟨py,cy,rfl⟩:=hI.syms.len;obtain ⟨pr,cr,rfl⟩:=hI.rels.len
 refine yEn Try.func74 Try.ntmps74 ?_
 have hS:=St.start w
 have hb2:=hB.syms
 repeat' (first|refine yO ?_|(refine yM ?_;clear hS;intro g w' hS))
 refine c_count hS 3 [1] rfl (I.segs.length + 1) (fun i=>1≤i∧∀ (j:Nat) (a b:Sg),j + 1 < i→I.segs[j]?=some a→I.segs[j + 1]?=some b→a.pg + a.n≤b.pg) 1 rfl (by omega) ⟨Nat.le_refl _,by intros;omega⟩ ?_
 rintro i w1 hi ⟨hi1,hall⟩ hS'
 clear hS;have hS:=hS';clear hS'
 by_cases hlt:i < I.segs.length
 ·obtain ⟨x,hx⟩:=lt_get (l:=I.segs) (i:=i) (by omega)
  have hrow:=map_get (f:=sgC) hx
  obtain ⟨b,off,rfl,hro⟩:=(hI.segs).at_ hlt
  obtain ⟨y,hy⟩:=lt_get (l:=I.segs) (i:=i - 1) (by omega)
  have hrow2:=map_get (f:=sgC) hy
  have hix:((i - 1:Nat):Int)=(i:Int) - 1:=by omega
  obtain ⟨o1,o2,o3,o4,-⟩:=sg_ok hok hx
  obtain ⟨u1,u2,u3,u4,-⟩:=sg_ok hok hy
  repeat' (first|refine yO ?_|(refine yS ?_ ?_;all_goals (intro hb hp;try (exfalso;omega)))|(focus (refine yD ?_;(repeat' ((refine yP ?_)));all_goals (refine yZ ?_;clear hS;intro w' hS))))
  ·refine yR1 ?_
   refine ⟨?_,hS.sub (List.nil_sublist _)⟩
   rw [if_neg (by rw [apt_ch (fun h=>by have:=h (i - 1) y x hy (by rw [show i - 1 + 1=i by omega];exact hx);omega)];simp)]
  ·refine q_count (i + 1) (by exact zS) (by omega) ⟨by omega,fun j a b h1 h2 h3=>?_⟩ (by omega) hS
   by_cases e:j=i - 1
   ·subst e
    rw [show i - 1 + 1=i by omega] at h3
    rw [hy] at h2
    rw [hx] at h3
    cases h2
    cases h3
    omega
   ·exact hall j a b (by omega) h2 h3
 have hch:Ch I.segs:=fun j a b h1 h2=>hall j a b (by have:=lt_of_getE h2;omega) h1 h2
 repeat' (first|refine yO ?_|(refine yS ?_ ?_;all_goals (intro hb hp;try (exfalso;omega))))
 replace hS:=hS.addNil 9 1
 rw [show ([]:List (List Value))=(syN I 0).map stC from rfl] at hS
 refine c_loopK (X:=Nat×Option Addr×Nat×Nat) (fun x=>[(39,.int .i64 (x.1:Nat)),(4,.slice x.2.1 x.2.2.1 x.2.2.2)]) [1,37,38] rfl (fun x=>[.row 9 1 (.slice x.2.1 x.2.2.1 x.2.2.2) ((syN I x.1).map stC)]) (fun x=>x.1≤I.syms.length) (fun x=>I.syms.length - x.1) (0,none,0,0) (by exact zS) (by exact Nat.zero_le _) hS ?_
 clear hi hlt hb hp hall hi1 hS
 rintro ⟨j,q1,q2,q3⟩ w1 hi hS
 simp only [List.cons_append,List.nil_append] at hi hS ⊢
 by_cases hlt:j < I.syms.length
 ·obtain ⟨x,hx⟩:=lt_get (l:=I.syms) (i:=j) (by omega)
  have hrow:=map_get (f:=syC) hx
  obtain ⟨b,off,rfl,hro⟩:=hI.syms.at_ hlt
  have hl1:=syN_len hB j
  repeat' (first|refine yO ?_|(refine yM ?_;clear hS;intro g w' hS)|(refine yN ?_;clear hS;intro w' hS)|(refine yS ?_ ?_;all_goals (intro hb hp;try (exfalso;omega)))|(refine yA2 (hS.rowRo 0 rfl) ?_;clear hS;intro p' cap' w' hS))
  rw [show [[.string ⟨x.name.toArray⟩]]=[stC x.name] from rfl,syN_succ hx] at hS
  refine q_loopK (j + 1,p',_,cap') (by exact zS) (by show j + 1≤I.syms.length;omega) ?_ (by show I.syms.length - (j + 1) < I.syms.length - j;omega)
  exact (hS.drop.drop)
 rw [syN_all (by omega)] at hS
 repeat' (first|refine yO ?_|(refine yS ?_ ?_;all_goals (intro hb hp;try (exfalso;omega)))|(refine yC ?_;refine ⟨_,twice_fn (hS.rowSl 0 rfl),?_⟩;clear hS;intro w' hS)|(refine yC ?_;refine ⟨_,twice_fn (hI.needs.now hS),?_⟩;clear hS;intro w' hS))
 all_goals refine yR1 ?_
 all_goals refine ⟨?_,hS.sub (List.nil_sublist _)⟩
 ·rw [if_neg (by rw [apt_sy hp];simp)]
 ·rw [if_neg (by rw [apt_nd hp];simp)]
 ·rw [if_pos (apt_yes hch (by assumption) hp)]
end Go.Proofs.Ytejnpppejalhfac
/- An image: places. -/
namespace Go.Proofs.Ytejnpppejalhfac
open Go.RowKit Go.Sort
theorem at_eq {I:Im} {w:World} {vn vs vy vr:Value} {x0:Int} {o:Option Sg} (e:own I.segs x0=o) (hI:ImV w I vn vs vy vr) (hok:sgsB I=true):Fn Try.prog 86 [imA I vn vs vy vr,.int .i64 x0] w (RBf (.tuple #[.agg (sgC (o.getD zeroSg)).toArray,.bool o.isSome]) w):=by
 subst e
 exact at_fn x0 hI hok
theorem own_pos {I:Im} (hok:sgsB I=true) {x:Int} {s:Sg} (h:own I.segs x=some s):0≤x:=by
 have h1:=List.find?_some h
 have h2:=List.mem_of_find?_eq_some h
 obtain ⟨k,hk⟩:=List.mem_iff_getElem?.1 h2
 obtain ⟨o1,o2,o3,o4,-⟩:=sg_ok hok hk
 unfold inSg at h1
 rw [decide_eq_true_eq] at h1
 omega
structure PlR (I:Im) (i:Nat):Prop where
 rels:∀ (k:Nat) (r:Rl),k < i→I.rels[k]?=some r→(0≤r.at_∧r.at_≤4080)∧∀ b:Int,0≤b→b < 8→(own I.segs (r.at_ + b)).isSome=true
 step:∀ (k:Nat) (q r:Rl),k + 1 < i→I.rels[k]?=some q→I.rels[k + 1]?=some r→q.at_ + 8≤r.at_
theorem PlR.zero (I:Im):PlR I 0:=⟨by intros;omega,by intros;omega⟩
theorem PlR.succ {I:Im} {i:Nat} {x:Rl} (h:PlR I i) (hx:I.rels[i]?=some x) (h1:0≤x.at_∧x.at_≤4080) (h2:∀ b:Int,0≤b→b < 8→(own I.segs (x.at_ + b)).isSome=true) (h3:∀ q,0 < i→I.rels[i - 1]?=some q→q.at_ + 8≤x.at_):PlR I (i + 1) where
 rels k r hk hr:=by
  by_cases e:k=i
  ·subst e;rw [hx] at hr;cases hr;exact ⟨h1,h2⟩
  ·exact h.rels k r (by omega) hr
 step k q r hk hq hr:=by
  by_cases e:k + 1=i
  ·subst e;rw [hx] at hr;cases hr;exact h3 q (by omega) (by simpa using hq)
  ·exact h.step k q r (by omega) hq hr
theorem isSome_not {α:Type} {o:Option α} (h:(!o.isSome)=false):o.isSome=true:=by simpa using h
set_option maxRecDepth 100000 in
set_option maxHeartbeats 4000000 in
theorem places_fn {I:Im} {w:World} {vn vs vy vr:Value} (hI:ImV w I vn vs vy vr) (hok:sgsB I=true):Fn Try.prog 75 [imA I vn vs vy vr] w (RBf (.int .i64 (if plcB I=true then 0 else 6)) w):=by
 have bn:=hI.needs.bound;have bs:=hI.segs.bound;have by_:=hI.syms.bound;have br:=hI.rels.bound;obtain ⟨pn,cn,rfl⟩:=hI.needs.len;obtain ⟨ps,cs,rfl⟩:=hI.segs.len;obtain ⟨py,cy,rfl⟩:=hI.syms.len;obtain ⟨pr,cr,rfl⟩:=hI.rels.len
 refine yEn Try.func75 Try.ntmps75 ?_
 have hS:=St.start w
 have no:¬ Plc I→(if plcB I=true then (0:Int) else 6)=6:=fun h=>if_neg (by rw [plcB,pB_false h];simp)
 repeat' (first|refine yO ?_|(refine yM ?_;clear hS;intro g w' hS))
 refine c_count hS 17 [1,15,16] rfl (I.syms.length) (fun i=>(I.syms.take i).all (fun s=>(own I.segs s.at_).isSome)=true) 0 rfl (Nat.zero_le _) (by (rfl)) ?_
 rintro i w1 hi hall hS'
 clear hS;have hS:=hS';clear hS'
 by_cases hlt:i < I.syms.length
 ·obtain ⟨x,hx⟩:=lt_get (l:=I.syms) (i:=i) (by omega)
  have hrow:=map_get (f:=syC) hx
  obtain ⟨b,off,rfl,hro⟩:=(hI.syms).at_ hlt
  repeat' (first|refine yO ?_|(refine yM ?_;clear hS;intro g w' hS)|(refine yN ?_;clear hS;intro w' hS)|(refine yS ?_ ?_;all_goals (intro hb hp;try (exfalso;omega)))|(refine yC ?_;refine ⟨_,at_fn x.at_ (hI.now hS) hok,?_⟩;clear hS;intro w' hS))
  ·refine yR1 ?_
   refine ⟨?_,hS.sub (List.nil_sublist _)⟩
   rw [no fun h=>by have:=h.syms x (List.mem_of_getElem? hx);rw [this] at hb;cases hb]
  ·exact q_count (i + 1) (by exact zS) (by omega) (all_take_succ hall hx (isSome_not hb)) (by omega) hS.drop.drop
 have hsy:=all_take_all hall (by omega)
 repeat' (first|refine yO ?_|(refine yS ?_ ?_;all_goals (intro hb hp;try (exfalso;omega))))
 clear hall hi hlt hb hp
 refine c_count hS 34 [1,32,33] rfl I.rels.length (fun i=>PlR I i) 0 rfl (Nat.zero_le _) (PlR.zero I) ?_
 rintro i w1 hi hall hS'
 clear hS;have hS:=hS';clear hS'
 by_cases hlt:i < I.rels.length
 ·obtain ⟨x,hx⟩:=lt_get (l:=I.rels) (i:=i) (by omega)
  have hrow:=map_get (f:=rlC) hx
  obtain ⟨b,off,rfl,hro⟩:=(hI.rels).at_ hlt
  by_cases hk0:i=0
  ·repeat' (first|refine yO ?_|(refine yM ?_;clear hS;intro g w' hS)|(refine yN ?_;clear hS;intro w' hS)|(refine yS ?_ ?_;all_goals (intro hb hp;try (exfalso;omega)))|(focus (refine yD ?_;(repeat' (first|refine yP ?_|(refine yQ ?_ ?_;all_goals (intro hb hp;try (exfalso;omega)))));all_goals (refine yZ ?_;clear hS;intro w' hS))))
   ·refine yR1 ?_
    refine ⟨?_,hS.sub (List.nil_sublist _)⟩
    rw [no fun h=>by have:=(h.rels i x hx).1;omega]
   ·refine yR1 ?_
    refine ⟨?_,hS.sub (List.nil_sublist _)⟩
    rw [no fun h=>by have:=(h.rels i x hx).1;omega]
   ·have hst:∀ q,0 < i→I.rels[i - 1]?=some q→q.at_ + 8≤x.at_:=fun q h=>by omega
    refine c_count hS 64 [1,8,34,32,33] rfl 8 (fun b=>∀ c:Int,0≤c→c < b→(own I.segs (x.at_ + c)).isSome=true) 0 rfl (by omega) (by intros;omega) ?_
    rintro b2 w1 hi2 hall2 hS'
    clear hS;have hS:=hS';clear hS'
    by_cases hlt2:b2 < 8
    ·repeat' (first|refine yO ?_|(refine yM ?_;clear hS;intro g w' hS)|(refine yN ?_;clear hS;intro w' hS)|(refine yS ?_ ?_;all_goals (intro hb hp;try (exfalso;omega)))|(refine yC ?_;refine ⟨_,at_fn (x.at_ + b2) (hI.now hS) hok,?_⟩;clear hS;intro w' hS))
     ·refine yR1 ?_
      refine ⟨?_,hS.sub (List.nil_sublist _)⟩
      rw [no fun h=>by have:=(h.rels i x hx).2 b2 (by omega) (by omega);rw [this] at hb;cases hb]
     ·refine q_count (b2 + 1) (by exact zS) (by omega) (fun c h1 h2=>?_) (by omega) hS.drop
      by_cases e:c=b2
      ·subst e;exact isSome_not hb
      ·exact hall2 c h1 (by omega)
    ·repeat' (first|refine yO ?_|(refine yS ?_ ?_;all_goals (intro hb hp;try (exfalso;omega))))
     exact q_count (i + 1) (by exact zS) (by omega) (hall.succ hx (by omega) (fun c h1 h2=>hall2 c h1 (by omega)) hst) (by omega) hS.drop
  ·obtain ⟨y,hy⟩:=lt_get (l:=I.rels) (i:=i - 1) (by omega)
   have hrow2:=map_get (f:=rlC) hy
   have hix:((i - 1:Nat):Int)=(i:Int) - 1:=by omega
   obtain ⟨⟨y1,y2⟩,-⟩:=hall.rels (i - 1) y (by omega) hy
   repeat' (first|refine yO ?_|(refine yM ?_;clear hS;intro g w' hS)|(refine yN ?_;clear hS;intro w' hS)|(refine yS ?_ ?_;all_goals (intro hb hp;try (exfalso;omega)))|(focus (refine yD ?_;(repeat' (first|refine yP ?_|(refine yQ ?_ ?_;all_goals (intro hb hp;try (exfalso;omega)))));all_goals (refine yZ ?_;clear hS;intro w' hS))))
   ·refine yR1 ?_
    refine ⟨?_,hS.sub (List.nil_sublist _)⟩
    rw [no fun h=>by have:=(h.rels i x hx).1;omega]
   ·refine yR1 ?_
    refine ⟨?_,hS.sub (List.nil_sublist _)⟩
    rw [no fun h=>by have:=(h.rels i x hx).1;omega]
   ·refine yR1 ?_
    refine ⟨?_,hS.sub (List.nil_sublist _)⟩
    rw [no fun h=>by have:=h.step (i - 1) y x hy (by rw [show i - 1 + 1=i by omega];exact hx);omega]
   ·have hst:∀ q,0 < i→I.rels[i - 1]?=some q→q.at_ + 8≤x.at_:=fun q _ h=>by rw [hy] at h;cases h;omega
    refine c_count hS 64 [1,8,34,32,33] rfl 8 (fun b=>∀ c:Int,0≤c→c < b→(own I.segs (x.at_ + c)).isSome=true) 0 rfl (by omega) (by intros;omega) ?_
    rintro b2 w1 hi2 hall2 hS'
    clear hS;have hS:=hS';clear hS'
    by_cases hlt2:b2 < 8
    ·repeat' (first|refine yO ?_|(refine yM ?_;clear hS;intro g w' hS)|(refine yN ?_;clear hS;intro w' hS)|(refine yS ?_ ?_;all_goals (intro hb hp;try (exfalso;omega)))|(refine yC ?_;refine ⟨_,at_fn (x.at_ + b2) (hI.now hS) hok,?_⟩;clear hS;intro w' hS))
     ·refine yR1 ?_
      refine ⟨?_,hS.sub (List.nil_sublist _)⟩
      rw [no fun h=>by have:=(h.rels i x hx).2 b2 (by omega) (by omega);rw [this] at hb;cases hb]
     ·refine q_count (b2 + 1) (by exact zS) (by omega) (fun c h1 h2=>?_) (by omega) hS.drop
      by_cases e:c=b2
      ·subst e;exact isSome_not hb
      ·exact hall2 c h1 (by omega)
    ·repeat' (first|refine yO ?_|(refine yS ?_ ?_;all_goals (intro hb hp;try (exfalso;omega))))
     exact q_count (i + 1) (by exact zS) (by omega) (hall.succ hx (by omega) (fun c h1 h2=>hall2 c h1 (by omega)) hst) (by omega) hS.drop
 ·have hall':PlR I I.rels.length:=by rw [show I.rels.length=i by omega];exact hall
  cases ho:own I.segs I.entry with
  |none=>
   repeat' (first|refine yO ?_|(refine yM ?_;clear hS;intro g w' hS)|(refine yN ?_;clear hS;intro w' hS)|(refine yS ?_ ?_;all_goals (intro hb hp;try (exfalso;omega)))|(refine yC ?_;refine ⟨_,at_eq ho (hI.now hS) hok,?_⟩;clear hS;intro w' hS))
   refine yR1 ?_
   refine ⟨?_,hS.sub (List.nil_sublist _)⟩
   rw [no fun h=>by obtain ⟨s,hs,_⟩:=h.entry;rw [ho] at hs;cases hs]
  |some s=>
   have hpos:=own_pos hok ho
   repeat' (first|refine yO ?_|(refine yM ?_;clear hS;intro g w' hS)|(refine yN ?_;clear hS;intro w' hS)|(refine yS ?_ ?_;all_goals (intro hb hp;try (exfalso;omega)))|(refine yC ?_;refine ⟨_,at_eq ho (hI.now hS) hok,?_⟩;clear hS;intro w' hS)|((with_reducible apply l_remT);exact rfl;exact rfl;omega;exact rfl))
   ·refine yR1 ?_
    refine ⟨?_,hS.sub (List.nil_sublist _)⟩
    rw [no fun h=>by obtain ⟨s',hs,he⟩:=h.entry;rw [ho] at hs;cases hs;have hb':(!s.ex)=true:=hb;rw [he] at hb';cases hb']
   ·refine yR1 ?_
    refine ⟨?_,hS.sub (List.nil_sublist _)⟩
    rw [no fun h=>hp h.by8]
   ·refine yR1 ?_
    refine ⟨?_,hS.sub (List.nil_sublist _)⟩
    rw [if_pos]
    refine pB_true ⟨fun s hs=>List.all_eq_true.1 hsy s hs,fun k r hr=>hall'.rels k r (lt_of_getE hr) hr,fun k q r hq hr=>hall'.step k q r (lt_of_getE hr) hq hr,⟨s,ho,?_⟩,hp⟩
    rename_i hb1 hp1
    have hb2:(!s.ex)=false:=hb1
    simpa using hb2
end Go.Proofs.Ytejnpppejalhfac
/- image.Check, and the reference's. -/
namespace Go.Proofs.Ytejnpppejalhfac
open Go.RowKit Go.Sort
theorem Fn.eqv {P:Program} {f:FuncId} {args:List Value} {x y:Value} {w:World} (e:x=y) (h:Fn P f args w (RBf x w)):Fn P f args w (RBf y w):=e ▸ h
theorem ev_pos {p:Bool} {a b:Int} (h:p=true):Value.int .i64 (if p=true then a else b)=.int .i64 a:=by rw [if_pos h]
theorem ev_neg {p:Bool} {a b:Int} (h:p=false):Value.int .i64 (if p=true then a else b)=.int .i64 b:=by rw [if_neg (by rw [h];simp)]
def ImD (I:Im):Prop:=∀ s ∈ I.segs,(s.data.length:Int)≤9223372036854775807
set_option maxRecDepth 100000 in
set_option maxHeartbeats 4000000 in
theorem Check_fn {I:Im} {w:World} {vn vs vy vr:Value} (hI:ImV w I vn vs vy vr) (hB:ImB I) (hD:ImD I):Fn Try.prog 61 [imA I vn vs vy vr] w (RBf (.int .i64 (checkIm I)) w):=by
 refine yEn Try.func61 Try.ntmps61 ?_
 have hS:=St.start w
 repeat' (first|refine yO ?_|(refine yM ?_;clear hS;intro g w' hS))
 refine c_rounds 6 ?_
 cases h1:nmsB I
 ·repeat' (first|refine yO ?_|(with_reducible apply wr_succ)|((with_reducible apply l_load);exact rfl;((with_reducible apply Loads.sc tabOk);exact rfl;(exact hS.rowC0 0 rfl rfl rfl));exact rfl)|(refine yC ?_;refine ⟨_,Fn.eqv (ev_neg h1) (names_fn (hI.now hS) hB),?_⟩;clear hS;intro w' hS))
  refine yR1 ?_
  exact ⟨by rw [checkIm,if_pos h1],hS.sub (List.nil_sublist _)⟩
 cases h2:cntB I
 ·repeat' (first|refine yO ?_|with_reducible apply q_rounds|(with_reducible apply wr_succ)|((with_reducible apply l_load);exact rfl;((with_reducible apply Loads.sc tabOk);exact rfl;(exact hS.rowC0 0 rfl rfl rfl));exact rfl)|(refine yC ?_;refine ⟨_,Fn.eqv (ev_pos h1) (names_fn (hI.now hS) hB),?_⟩;clear hS;intro w' hS)|(refine yC ?_;refine ⟨_,Fn.eqv (ev_neg h2) (counts_fn (hI.now hS)),?_⟩;clear hS;intro w' hS))
  refine yR1 ?_
  exact ⟨by simp [checkIm,h1,h2],hS.sub (List.nil_sublist _)⟩
 cases h3:sgsB I
 ·repeat' (first|refine yO ?_|with_reducible apply q_rounds|(with_reducible apply wr_succ)|((with_reducible apply l_load);exact rfl;((with_reducible apply Loads.sc tabOk);exact rfl;(exact hS.rowC0 0 rfl rfl rfl));exact rfl)|(refine yC ?_;refine ⟨_,Fn.eqv (ev_pos h1) (names_fn (hI.now hS) hB),?_⟩;clear hS;intro w' hS)|(refine yC ?_;refine ⟨_,Fn.eqv (ev_pos h2) (counts_fn (hI.now hS)),?_⟩;clear hS;intro w' hS)|(refine yC ?_;refine ⟨_,Fn.eqv (ev_neg h3) (segments_fn (hI.now hS) hD),?_⟩;clear hS;intro w' hS))
  refine yR1 ?_
  exact ⟨by simp [checkIm,h1,h2,h3],hS.sub (List.nil_sublist _)⟩
 cases h4:aptB I
 ·repeat' (first|refine yO ?_|with_reducible apply q_rounds|(with_reducible apply wr_succ)|((with_reducible apply l_load);exact rfl;((with_reducible apply Loads.sc tabOk);exact rfl;(exact hS.rowC0 0 rfl rfl rfl));exact rfl)|(refine yC ?_;refine ⟨_,Fn.eqv (ev_pos h1) (names_fn (hI.now hS) hB),?_⟩;clear hS;intro w' hS)|(refine yC ?_;refine ⟨_,Fn.eqv (ev_pos h2) (counts_fn (hI.now hS)),?_⟩;clear hS;intro w' hS)|(refine yC ?_;refine ⟨_,Fn.eqv (ev_pos h3) (segments_fn (hI.now hS) hD),?_⟩;clear hS;intro w' hS)|(refine yC ?_;refine ⟨_,Fn.eqv (ev_neg h4) (apart_fn (hI.now hS) hB h3),?_⟩;clear hS;intro w' hS))
  refine yR1 ?_
  exact ⟨by simp [checkIm,h1,h2,h3,h4],hS.sub (List.nil_sublist _)⟩
 cases h5:plcB I
 ·repeat' (first|refine yO ?_|with_reducible apply q_rounds|(with_reducible apply wr_succ)|((with_reducible apply l_load);exact rfl;((with_reducible apply Loads.sc tabOk);exact rfl;(exact hS.rowC0 0 rfl rfl rfl));exact rfl)|(refine yC ?_;refine ⟨_,Fn.eqv (ev_pos h1) (names_fn (hI.now hS) hB),?_⟩;clear hS;intro w' hS)|(refine yC ?_;refine ⟨_,Fn.eqv (ev_pos h2) (counts_fn (hI.now hS)),?_⟩;clear hS;intro w' hS)|(refine yC ?_;refine ⟨_,Fn.eqv (ev_pos h3) (segments_fn (hI.now hS) hD),?_⟩;clear hS;intro w' hS)|(refine yC ?_;refine ⟨_,Fn.eqv (ev_pos h4) (apart_fn (hI.now hS) hB h3),?_⟩;clear hS;intro w' hS)|(refine yC ?_;refine ⟨_,Fn.eqv (ev_neg h5) (places_fn (hI.now hS) h3),?_⟩;clear hS;intro w' hS))
  refine yR1 ?_
  exact ⟨by simp [checkIm,h1,h2,h3,h4,h5],hS.sub (List.nil_sublist _)⟩
 ·repeat' (first|refine yO ?_|with_reducible apply q_rounds|(with_reducible apply wr_succ)|((with_reducible apply l_load);exact rfl;((with_reducible apply Loads.sc tabOk);exact rfl;(exact hS.rowC0 0 rfl rfl rfl));exact rfl)|(refine yC ?_;refine ⟨_,Fn.eqv (ev_pos h1) (names_fn (hI.now hS) hB),?_⟩;clear hS;intro w' hS)|(refine yC ?_;refine ⟨_,Fn.eqv (ev_pos h2) (counts_fn (hI.now hS)),?_⟩;clear hS;intro w' hS)|(refine yC ?_;refine ⟨_,Fn.eqv (ev_pos h3) (segments_fn (hI.now hS) hD),?_⟩;clear hS;intro w' hS)|(refine yC ?_;refine ⟨_,Fn.eqv (ev_pos h4) (apart_fn (hI.now hS) hB h3),?_⟩;clear hS;intro w' hS)|(refine yC ?_;refine ⟨_,Fn.eqv (ev_pos h5) (places_fn (hI.now hS) h3),?_⟩;clear hS;intro w' hS))
  refine yR1 ?_
  exact ⟨by simp [checkIm,h1,h2,h3,h4,h5],hS.sub (List.nil_sublist _)⟩
end Go.Proofs.Ytejnpppejalhfac
/- link.Link. -/
namespace Go.Proofs.Ytejnpppejalhfac
open Go.RowKit Go.Sort
def LinkF (M:Ob) (Lb:List Ob) (v:Value) (w w':World):Prop :=
 (linkC M Lb≠0∧v=.tuple #[lkA (.slice none 0 0) (.slice none 0 0) 0,.int .i64 (linkC M Lb)]∧St nF w w' []) ∨
 (linkC M Lb=0∧∃ (s:List Ob×Int) (va vs:Value) (N:List (Sh×Value)),allP (M::Lb) 8 0 (plStep ([],1) M)=some s∧N.map (·.1)=linkSh (obP s.1) s.1∧v=.tuple #[lkA va vs (16 + M.im.entry),.int .i64 0]∧St nF w w' (.row 71 4 va ((linkAr s.1).map arC)::.row 97 3 vs (N.map fun p=>shC p.1 p.2)::N.map fxRow))
def kvI (o:Ob):Value×Value:=(stK o.im.name,imgV o)
def MapB (B:List Ob) (i:Nat) (L:List (Value×Value)):Prop:=(((B.take i).map fun o=>o.im.name).Nodup→L=(B.take i).map kvI)∧(¬ ((B.take i).map fun o=>o.im.name).Nodup→L.length < i)∧L.length≤i
theorem MapB.start (B:List Ob):MapB B 0 []:=⟨fun _=>rfl,fun h=>absurd (by simp) h,Nat.le_refl _⟩
theorem MapB.mem {B:List Ob} {i:Nat} {L:List (Value×Value)} (h:L=(B.take i).map kvI) (nm:List UInt8):(∃ v,(stK nm,v) ∈ L) ↔ nm ∈ (B.take i).map fun o=>o.im.name:=by
 rw [h]
 constructor
 ·rintro ⟨v,hv⟩
  obtain ⟨o,ho,e⟩:=List.mem_map.1 hv
  have e1:=congrArg Prod.fst e
  unfold kvI stK at e1
  exact List.mem_map.2 ⟨o,ho,by simpa using e1⟩
 ·intro hn
  obtain ⟨o,ho,rfl⟩:=List.mem_map.1 hn
  exact ⟨imgV o,List.mem_map.2 ⟨o,ho,rfl⟩⟩
theorem nd_snoc {α:Type} {l:List α} {x:α}:(l++[x]).Nodup ↔ l.Nodup∧x ∉ l:=by
 rw [List.nodup_append]
 constructor
 ·rintro ⟨h1,-,h3⟩
  exact ⟨h1,fun h=>h3 x h x (by simp) rfl⟩
 ·rintro ⟨h1,h2⟩
  refine ⟨h1,by simp,fun a ha b hb=>?_⟩
  have:b=x:=by simpa using hb
  subst this
  rintro rfl
  exact h2 ha
theorem MapB.new {B:List Ob} {i:Nat} {L:List (Value×Value)} {o:Ob} (h:MapB B i L) (ho:B[i]?=some o) (hn:∀ v,(stK o.im.name,v) ∉ L):MapB B (i + 1) (L++[kvI o]):=by
 unfold MapB
 rw [List.take_add_one,ho]
 simp only [Option.toList_some,List.map_append,List.map_cons,List.map_nil,List.length_append,List.length_cons,List.length_nil]
 rw [nd_snoc]
 refine ⟨fun ⟨h1,h2⟩=>by rw [h.1 h1],fun hno=>?_,by have:=h.2.2;omega⟩
 by_cases h1:((B.take i).map fun o=>o.im.name).Nodup
 ·exfalso
  have hin:o.im.name ∈ (B.take i).map fun o=>o.im.name:=Classical.byContradiction fun hc=>hno ⟨h1,hc⟩
  obtain ⟨v,hv⟩:=(MapB.mem (h.1 h1) o.im.name).2 hin
  exact hn v hv
 ·have:=h.2.1 h1
  omega
theorem MapB.old {B:List Ob} {i j:Nat} {L:List (Value×Value)} {o:Ob} {u:Value} {x:Value×Value} (h:MapB B i L) (ho:B[i]?=some o) (hu:(stK o.im.name,u) ∈ L):MapB B (i + 1) (L.set j x):=by
 unfold MapB
 rw [List.take_add_one,ho]
 simp only [Option.toList_some,List.map_append,List.map_cons,List.map_nil,List.length_set]
 rw [nd_snoc]
 refine ⟨fun ⟨h1,h2⟩=>absurd ((MapB.mem (h.1 h1) o.im.name).1 ⟨u,hu⟩) h2,fun hno=>?_,by have:=h.2.2;omega⟩
 have:=h.2.2
 omega
theorem ends_le:∀ {l:List Ob},(∀ o ∈ l,ImOk o.im)→0≤endsN l∧endsN l≤255 * l.length
 |[],_=>by simp [endsN]
 |o::l,h=>by
  have h1:=lastEnd_le (h o (by simp))
  have h2:=ends_le (l:=l) fun x hx=>h x (List.mem_cons_of_mem _ hx)
  simp only [endsN,List.length_cons]
  omega
theorem perm3 {α:Type} (A B C:List α) (x y z:α):((A++B)++(x::y::z::C)).Perm (x::y::z::(A++(C++B))):=by
 refine List.perm_append_comm.trans ?_
 simp only [List.cons_append]
 exact (((List.perm_append_comm_assoc C A B).cons _).cons _).cons _
theorem find_first {B:List Ob} {i:Nat} {o:Ob} {p:Ob→Bool} (h:∀ x ∈ B.take i,p x=false) (ho:B[i]?=some o) (hp:p o=true):B.find? p=some o:=by
 have e:B=B.take i++o::B.drop (i + 1):=by
  conv=>lhs;rw [← List.take_append_drop i B,drop_at ho]
 rw [e,List.find?_append]
 have:(B.take i).find? p=none:=by
  rw [List.find?_eq_none]
  intro t ht
  rw [h t ht]
  simp
 rw [this,Option.none_or,List.find?_cons,hp]
set_option maxRecDepth 100000 in
set_option maxHeartbeats 8000000 in
theorem Link_fn {w:World} {M:Ob} {Lb:List Ob} {vl:Value} (hM:ObV w M) (hL:Sl nF w 6 vl (Lb.map imR)) (hLo:∀ o ∈ Lb,ObV w o) (hB:∀ o ∈ M::Lb,ImB o.im∧ImD o.im):Fn Try.prog 37 [imgV M,vl] w (fun v w'=>LinkF M Lb v w w'):=by
 have hbl:=hL.bound
 obtain ⟨pl,cl,rfl⟩:=hL.len
 have hall:∀ o ∈ M::Lb,ObV w o:=fun o ho=>by
  rcases List.mem_cons.1 ho with rfl|h
  ·exact hM
  ·exact hLo o h
 have hM1:=hM
 obtain ⟨I,vn,vs,vy,vr,a0⟩:=M
 replace hM1:ImV w I vn vs vy vr:=hM1
 obtain ⟨pn,cn,rfl⟩:=hM1.needs.len
 obtain ⟨ps,cs,rfl⟩:=hM1.segs.len
 obtain ⟨py,cy,rfl⟩:=hM1.syms.len
 obtain ⟨pr,cr,rfl⟩:=hM1.rels.len
 refine yEn Try.func37 Try.ntmps37 ?_
 have hS:=St.start w
 show WC _ _ _ _ _ [(0,.agg [.string ⟨I.name.toArray⟩,.slice pn I.needs.length cn,.slice ps I.segs.length cs,.slice py I.syms.length cy,.slice pr I.rels.length cr,.int .i64 I.entry].toArray),(1,.slice pl Lb.length cl)] _
 by_cases h6:6 < Lb.length
 ·repeat' (first|refine yO ?_|(refine yM ?_;clear hS;intro g w' hS)|(refine yN ?_;clear hS;intro w' hS)|(refine yS ?_ ?_;all_goals (intro hb hp;try (exfalso;omega))))
  refine yR2 ?_
  refine Or.inl ⟨?_,?_,hS.sub (List.nil_sublist _)⟩
  ·unfold linkC
   rw [if_pos h6]
   decide
  ·unfold linkC
   rw [if_pos h6]
   rfl
 repeat' (first|refine yO ?_|(refine yM ?_;clear hS;intro g w' hS)|(refine yS ?_ ?_;all_goals (intro hb hp;try (exfalso;omega)))|((with_reducible apply l_gets);exact rfl;exact g_makeMap hS;rintro _ w' ⟨r,rfl,hS'⟩;clear hS;have hS:=hS';clear hS'))
 rename_i g2 w1 g4 w2 w3 rb w4 gw w5 g1 w6
 obtain ⟨B,hBe⟩:∃ B,B=(⟨I,.slice pn I.needs.length cn,.slice ps I.segs.length cs,.slice py I.syms.length cy,.slice pr I.rels.length cr,a0⟩:Ob)::Lb:=⟨_,rfl⟩
 have hBl:B.length=Lb.length + 1:=by rw [hBe];rfl
 ((with_reducible apply l_call);exact rfl;exact rfl;exact concatI (hS.rowRo 0 rfl) (hS.rowSl 1 rfl) (hL.now hS) (by simp) (by rw [List.length_map];omega);exact rfl;rintro u w' hS';replace hS:=hS.transA hS';simp only [appA] at hS;clear hS')
 replace hS:=St.reorder [5,0,3,4,6,7] hS (by decide) rfl
 replace hS:St nF w w' (.obj rb (.map #[] 0)::[.row 116 6 u (B.map imR),.blk gw [.map (some rb),.map (some r),.slice none 0 0,.int .i64 1],.obj r (.map #[] 0),.blk g4 [.slice none 0 0,.slice none 0 0,.int .i64 0],.blk g2 [.string ⟨I.name.toArray⟩,.slice pn I.needs.length cn,.slice ps I.segs.length cs,.slice py I.syms.length cy,.slice pr I.rels.length cr,.int .i64 I.entry]]):=by rw [hBe];exact hS
 obtain ⟨pu,cu,rfl⟩:=hS.rowSlice 1 rfl
 rw [List.length_map] at hS ⊢
 have hallB:∀ o ∈ B,ObV w o:=by rw [hBe];exact hall
 have hBB:∀ o ∈ B,ImB o.im∧ImD o.im:=by rw [hBe];exact hB
 have hcode:linkC ⟨I,.slice pn I.needs.length cn,.slice ps I.segs.length cs,.slice py I.syms.length cy,.slice pr I.rels.length cr,a0⟩ Lb=match B.find? (fun o=>!decide (checkIm o.im=0)) with
  |some o=>checkIm o.im
  |none=>if (B.map fun o=>o.im.name).Nodup then
    match allP B 8 0 (plStep ([],1) ⟨I,.slice pn I.needs.length cn,.slice ps I.segs.length cs,.slice py I.syms.length cy,.slice pr I.rels.length cr,a0⟩) with
    |none=>6
    |some s=>if s.2 > 256 then 3 else if symsAll (obP s.1) s.1=true then 0 else 7
   else 5:=by
  unfold linkC
  rw [if_neg h6,hBe]
  rfl
 unfold LinkF
 rw [hcode,← hBe]
 have hB7:B.length≤7:=by omega
 have hMB0:(⟨I,.slice pn I.needs.length cn,.slice ps I.segs.length cs,.slice py I.syms.length cy,.slice pr I.rels.length cr,a0⟩:Ob) ∈ B:=by rw [hBe];exact List.mem_cons_self
 clear hcode hall hLo hL hM hM1 hB h6
 repeat' ((refine yO ?_))
 refine c_loopK (X:=Nat×Array MapEntry×Nat×List (Value×Value)) (fun x=>[(31,.int .i64 (x.1:Nat))]) [2,4,6,7,29,30] rfl (fun x=>[.obj rb (.map x.2.1 x.2.2.1)]) (fun x=>x.1≤B.length∧MapG .string x.2.1 x.2.2.2∧MapB B x.1 x.2.2.2∧∀ o ∈ B.take x.1,(!decide (checkIm o.im=0))=false) (fun x=>B.length - x.1) (0,#[],0,[]) (by exact zS) ⟨Nat.zero_le _,MapG.nil _,MapB.start B,by simp⟩ hS ?_
 clear hS
 rintro ⟨i,es,c,L⟩ w7 ⟨hi,hG,hMB,hck⟩ hS
 dsimp only [List.cons_append,List.nil_append] at hi hG hMB hck hS ⊢
 by_cases hlt:i < B.length
 rotate_left
 ·obtain rfl:i=B.length:=by omega
  rw [List.take_of_length_le (Nat.le_refl _)] at hck
  unfold MapB at hMB
  rw [List.take_of_length_le (Nat.le_refl _)] at hMB
  have hfn:B.find? (fun o=>!decide (checkIm o.im=0))=none:=by
   rw [List.find?_eq_none]
   intro x hx
   rw [hck x hx]
   simp
  have hsz:=hG.size
  rw [hfn]
  dsimp only
  by_cases hnd:(B.map fun o=>o.im.name).Nodup
  rotate_left
  ·have hlt2:=hMB.2.1 hnd
   rw [if_neg hnd]
   repeat' (first|refine yO ?_|(refine yN ?_;clear hS;intro w' hS)|(refine yS ?_ ?_;all_goals (intro hb hp;try (exfalso;omega)))|((with_reducible apply l_gets);exact rfl;exact g_lenMap hS (i:=0) mt_byName rfl rfl;rintro _ _ ⟨rfl,rfl⟩))
   refine yR2 ?_
   exact Or.inl ⟨by decide,rfl,hS.sub (List.nil_sublist _)⟩
  rw [if_pos hnd]
  obtain rfl:=hMB.1 hnd
  rw [List.length_map] at hsz
  repeat' (first|refine yO ?_|(refine yS ?_ ?_;all_goals (intro hb hp;try (exfalso;omega)))|((with_reducible apply l_gets);exact rfl;exact g_lenMap hS (i:=0) mt_byName rfl rfl;rintro _ _ ⟨rfl,rfl⟩))
  replace hS:=hS.addNil 153 7
  replace hS:=St.reorder [3,4,0,1,5,6] hS (by decide) rfl
  have hckB:∀ o ∈ B,checkIm o.im=0:=fun o ho=>by
   have:=hck o ho
   exact Classical.byContradiction fun hc=>by rw [decide_eq_false hc] at this;cases this
  have hcall:=all_fn (p:=none) (c:=0) (es:=#[]) (cc:=0) (rb:=rb) (rp:=r) (gw:=gw) (B:=B) (Γ:=[_,_]) hS ⟨[],MapG.nil _,rfl⟩ hG (fun o ho=>⟨(hallB o ho).needs.nowM (Γ:=[_,_]) hS,(hallB o ho).segs.nowM (Γ:=[_,_]) hS,(hallB o ho).syms.nowM (Γ:=[_,_]) hS,(hallB o ho).rels.nowM (Γ:=[_,_]) hS⟩) (fun o ho=>(check_zeroL (hckB o ho)).1) hMB0 hB7
  have hPk:∀ s,allP B 8 0 (plStep ([],1) ⟨I,.slice pn I.needs.length cn,.slice ps I.segs.length cs,.slice py I.syms.length cy,.slice pr I.rels.length cr,a0⟩)=some s→PkI s∧Fst ⟨I,.slice pn I.needs.length cn,.slice ps I.segs.length cs,.slice py I.syms.length cy,.slice pr I.rels.length cr,a0⟩ s:=fun s hs=>⟨allP_inv (Inv:=PkI) (fun s o h _=>h.step o) hs (PkI.start.step _),allP_inv (Inv:=Fst _) (fun s o h _=>fst_step o h) hs (fst_start _)⟩
  generalize hR:allP B 8 0 (plStep ([],1) ⟨I,.slice pn I.needs.length cn,.slice ps I.segs.length cs,.slice py I.syms.length cy,.slice pr I.rels.length cr,a0⟩)=R at hcall hPk ⊢
  clear hR hG hck hsz hMB hMB0 hlt
  ((with_reducible apply l_call);exact rfl;exact rfl;exact hcall;exact rfl;rintro _ w' ⟨rfl,p',c',es',cc',s,hP,hA,hs,hS'⟩)
  replace hS:=St.transM (Θ:=LkM gw rb r none 0 #[] 0 ([],1)++[.obj rb (.map es c)]) (Γ:=[_,_]) hS hS'
  clear hS' hcall
  simp only [LkM,LkS,List.cons_append,List.nil_append] at hS
  cases R with
  |none=>
   simp only [allV]
   repeat' (first|refine yO ?_|(refine yN ?_;clear hS;intro w' hS))
   refine yR2 ?_
   exact Or.inl ⟨by decide,rfl,hS.sub (List.nil_sublist _)⟩
  |some s'=>
   obtain rfl:=hs s' rfl
   obtain ⟨hPk,hFs⟩:=hPk s rfl
   simp only [allV]
   by_cases h256:s.2 > 256
   ·rw [if_pos h256,if_pos h256]
    repeat' (first|refine yO ?_|(refine yN ?_;clear hS;intro w' hS))
    refine yR2 ?_
    exact Or.inl ⟨by decide,rfl,hS.sub (List.nil_sublist _)⟩
   rw [if_neg h256,if_neg h256]
   repeat' ((refine yO ?_))
   obtain ⟨os,nx⟩:=s
   dsimp only at hP hA hPk hFs h256 hS ⊢
   obtain ⟨rs,hrs⟩:=hFs
   dsimp only at hrs
   have hAs:=hA.sub
   have hAl:=hA.len
   dsimp only at hAs hAl
   have hosB:∀ o ∈ os,ImF nF w o∧checkIm o.im=0:=fun o ho=>by
    obtain ⟨a,ha⟩:=hAs o ho
    have h1:=hallB { o with at_:=a } ha
    have h2:checkIm o.im=0:=hckB { o with at_:=a } ha
    exact ⟨⟨h1.needs,h1.segs,h1.syms,h1.rels⟩,h2⟩
   have hpos:0 < os.length:=by rw [hrs];simp
   obtain ⟨gos,rfl⟩:=hS.rowSome 2 rfl hpos
   have hrow:(os.map obC)[0]?=some [.string ⟨I.name.toArray⟩,.slice pn I.needs.length cn,.slice ps I.segs.length cs,.slice py I.syms.length cy,.slice pr I.rels.length cr,.int .i64 I.entry,.int .i64 16]:=by rw [hrs];rfl
   have hent:0≤I.entry∧I.entry < 4096:=by
    have h1:=check_zeroL (hosB _ (by rw [hrs];exact List.mem_cons_self)).2
    obtain ⟨se,hse,-⟩:=h1.2.2.2.entry
    exact own_small h1.1.s2 hse
   refine c_heldS 13 rfl hS (by kernel_rfl) ?_
   intro wh hh
   clear hS
   have hS:=hh
   clear hh
   (refine xA (nn 0) ?_;refine ⟨hS,?_⟩)
   (refine xA (nn 1) ?_;refine ⟨hS,?_⟩)
   (refine xA (nn 2) ?_;refine ⟨hS,?_⟩)
   (refine xM (nn 3) ?_;refine ⟨hS,?_⟩)
   (refine xI (nn 4) ?_;refine ⟨hS,?_⟩)
   (refine xA (nn 5) ?_;refine ⟨hS,?_⟩)
   (refine xM (nn 6) ?_;refine ⟨hS,?_⟩)
   (refine xA (nn 7) ?_;refine ⟨hS,?_⟩)
   (refine xM (nn 8) ?_;refine ⟨hS,?_⟩)
   refine a_takeR (nn 9) rfl (by kernel_rfl) (by kernel_rfl) (by kernel_rfl) (fun _ _ _ h=>h) hS (fun a ha=>r_add rfl rfl (by omega) (by omega) a ha _) rfl ?_
   (refine xD (nn 10) ?_;refine ⟨hS,?_⟩)
   refine a_one (i:=11) (by kernel_rfl) ?_
   refine o_gets rfl (g_allocT hS tabOk rfl rfl) rfl ?_
   rintro _ w' ⟨g,rfl,hS'⟩
   clear hS;have hS:=hS';clear hS'
   refine ⟨hS.drop,?_⟩
   refine a_one (i:=12) (by kernel_rfl) ?_
   refine o_gets0 (Φ:=fun _ w'=>St _ _ w' _) rfl (g_store hS tabOk (i:=0) rfl rfl rfl rfl rfl (Nat.le_of_ble_eq_true rfl) (List.all_eq_true.1 rfl)) ?_
   intro _ w' hS'
   simp only [List.set] at hS'
   clear hS;have hS:=hS';clear hS'
   refine ⟨hS.drop,?_⟩
   refine a_done (by kernel_rfl) ?_
   repeat' ((refine yO ?_))
   obtain ⟨g12,hg12⟩:∃ g12,g12=g:=⟨_,rfl⟩
   rw [← hg12] at hS ⊢
   clear hg12
   replace hS:=(hS.addNil 97 3).addNil 71 4
   replace hS:=St.reorder [5,3,7,2,0,1] hS (by decide) rfl
   clear hrow
   refine c_loopK (Γ:=[]) (X:=Nat×(Option Addr×Nat)×(Option Addr×Nat)×List Ar×List (Sh×Value)) (fun x=>[(81,.int .i64 (x.1:Nat))]) [4,6,12,79,80] rfl (fun x=>.row 153 7 (.slice (some ⟨gos,0,none⟩) os.length c') (os.map obC)::.blk gw [.map (some rb),.map (some r),.slice (some ⟨gos,0,none⟩) os.length c',.int .i64 nx]::.blk g4 [.slice none 0 0,.slice none 0 0,.int .i64 0]::(LyS g12 x.2.1.1 x.2.1.2 x.2.2.1.1 x.2.2.1.2 (16 + I.entry) x.2.2.2.1 x.2.2.2.2++x.2.2.2.2.map fxRow)) (fun x=>x.1≤os.length∧x.2.2.2.1=linkAr (os.take x.1)∧x.2.2.2.2.map (·.1)=linkSh (obP os) (os.take x.1)∧AOk x.2.2.2.1∧x.2.2.2.1.length≤6 * x.1∧x.2.2.2.2.length≤1530 * x.1∧symsAll (obP os) (os.take x.1)=true) (fun x=>os.length - x.1) (0,(none,0),(none,0),[],[]) (by exact zS) ⟨Nat.zero_le _,rfl,rfl,(fun _ h=>nomatch h),Nat.le_refl _,Nat.le_refl _,rfl⟩ hS ?_
   clear hS
   rintro ⟨j,⟨qa,da⟩,⟨qs,dq⟩,A,Lp⟩ w8 ⟨hj,hA1,hL1,hAo,hAn,hLn,hsy⟩ hS
   dsimp only [] at hj hA1 hL1 hAo hAn hLn hsy hS ⊢
   simp only [LyS,List.cons_append,List.nil_append,List.append_nil] at hS
   by_cases hjt:j < os.length
   rotate_left
   ·rw [List.take_of_length_le (by omega)] at hA1 hL1 hsy
    rw [if_pos hsy]
    repeat' (first|refine yO ?_|(refine yN ?_;clear hS;intro w' hS)|(refine yS ?_ ?_;all_goals (intro hb hp;try (exfalso;omega))))
    refine yR2 ?_
    refine Or.inr ⟨rfl,(os,nx),.slice qa A.length da,.slice qs Lp.length dq,Lp,rfl,hL1,rfl,?_⟩
    rw [← hA1]
    exact hS.drop.drop.drop.drop
   obtain ⟨o,ho⟩:=lt_get (l:=os) (i:=j) (by omega)
   have hom:=List.mem_of_getElem? ho
   have hrow:(os.map obC)[j]?=some [.string ⟨o.im.name.toArray⟩,o.vn,o.vs,o.vy,o.vr,.int .i64 o.im.entry,.int .i64 o.at_]:=map_get (f:=obC) ho
   obtain ⟨hof,hoc⟩:=hosB o hom
   obtain ⟨z1,z2,z3,z4⟩:=check_zeroL hoc
   have hos0:∀ x ∈ os,ImOk x.im:=fun x hx=>(check_zeroL (hosB x hx).2).1
   have hat:o.at_=(1 + endsN (os.take j)) * 16:=hPk.at_ j o ho
   have hen:=ends_le (l:=os.take j) fun x hx=>hos0 x (List.mem_of_mem_take hx)
   rw [List.length_take] at hen
   obtain ⟨b0,hb0⟩:∃ b0,b0=1 + endsN (os.take j):=⟨_,rfl⟩
   rw [← hb0] at hat
   have hb1:1≤b0∧b0≤3000:=by omega
   have hdiv:o.at_ / 16=b0:=by omega
   have hsyr:∀ x ∈ os,∀ s ∈ x.im.syms,-9223372036854775808≤x.at_ + s.at_∧x.at_ + s.at_≤9223372036854775807:=fun x hx s hs=>by
    obtain ⟨q,hq⟩:=List.mem_iff_getElem?.1 hx
    have q1:x.at_=(1 + endsN (os.take q)) * 16:=hPk.at_ q x hq
    have q2:=ends_le (l:=os.take q) fun x hx=>hos0 x (List.mem_of_mem_take hx)
    rw [List.length_take] at q2
    obtain ⟨y,hy⟩:=Option.isSome_iff_exists.1 ((check_zeroL (hosB x hx).2).2.2.2.syms s hs)
    have q3:=own_small (hos0 x hx).s2 hy
    omega
   have hshl:(shO (obP os) o.im b0).length≤1530:=by
    have h1:=pgs_len_le (b0:=b0) z1.s2
    have h2:=z1.s3
    unfold shO
    rw [List.length_map]
    omega
   have hov:ObV w o:=⟨hof.needs,hof.segs,hof.syms,hof.rels⟩
   obtain ⟨A',hA'⟩:∃ A',A'=arsO A b0 o.im.segs:=⟨_,rfl⟩
   have hA2:A'=linkAr (os.take (j + 1)):=by rw [hA',linkAr_step ho,hdiv,hA1]
   have hA3:=arsO_ok hAo hb1.1 (by omega) z1.s2
   rw [← hA'] at hA3
   have z5:=z1.s3
   obtain ⟨J,un,us,uy,ur,at_⟩:=o
   dsimp only at hrow hat hdiv hshl z1 z2 z3 z4 z5 hA'
   replace hA3:AOk A'∧A'.length≤A.length + J.segs.length:=hA3
   replace hov:ImV w J un us uy ur:=hov
   obtain ⟨qn,en,rfl⟩:=hov.needs.len
   obtain ⟨qs',es_,rfl⟩:=hov.segs.len
   obtain ⟨qy,ey,rfl⟩:=hov.syms.len
   obtain ⟨qr,er,rfl⟩:=hov.rels.len
   repeat' (first|refine yO ?_|(refine yM ?_;clear hS;intro g w' hS)|(refine yN ?_;clear hS;intro w' hS)|(refine yS ?_ ?_;all_goals (intro hb hp;try (exfalso;omega))))
   replace hS:=St.reorderT 7 [4,5,6,1,2,3] hS (by decide) rfl
   simp only [appA,List.drop_succ_cons,List.drop_zero] at hS
   have hcall:=lay_fn (go:=g12) (gw:=gw) (qa:=qa) (da:=da) (qs:=qs) (dq:=dq) (en:=16 + I.entry) (A:=A) (Lp:=Lp) (os:=os) (b0:=b0) (Γ:=_::_::_::Lp.map fxRow) hS (St.ownBs (Θ:=LyS g12 qa da qs dq (16 + I.entry) A Lp) (Γ:=_::_::_::Lp.map fxRow) hS 1 rfl rfl) (St.ownSl (Θ:=LyS g12 qa da qs dq (16 + I.entry) A Lp) (Γ:=_::_::_::Lp.map fxRow) hS 0 rfl) (fun x hx=>⟨(hosB x hx).1.needs.nowM (Γ:=_::_::_::Lp.map fxRow) hS,(hosB x hx).1.segs.nowM (Γ:=_::_::_::Lp.map fxRow) hS,(hosB x hx).1.syms.nowM (Γ:=_::_::_::Lp.map fxRow) hS,(hosB x hx).1.rels.nowM (Γ:=_::_::_::Lp.map fxRow) hS⟩) hsyr hom hat hb1.1 (by omega) z1.s2 z3 z4 z2 z1.s3 hAo (by omega) (by omega)
   ((with_reducible apply l_call);exact rfl;exact rfl;exact hcall;exact rfl;rintro v w' hv)
   clear hcall
   rcases hv with ⟨hsf,rfl,hS'⟩|⟨hst,rfl,qa',da',qs',dq',N,hN,hS'⟩
   ·replace hS:=St.transM (Θ:=LyS g12 qa da qs dq (16 + I.entry) A Lp) (Γ:=_::_::_::Lp.map fxRow) hS hS'
    clear hS'
    simp only [List.nil_append] at hS
    have hsn:symsAll (obP os) os=false:=all_no ho hsf
    rw [if_neg (by rw [hsn];simp)]
    repeat' (first|refine yO ?_|(refine yN ?_;clear hS;intro w' hS))
    refine yR2 ?_
    exact Or.inl ⟨by decide,rfl,hS.sub (List.nil_sublist _)⟩
   ·replace hS:=(St.transM (Θ:=LyS g12 qa da qs dq (16 + I.entry) A Lp) (Γ:=_::_::_::Lp.map fxRow) hS hS').perm (perm3 _ _ _ _ _ _)
    clear hS'
    rw [← hA',← List.map_append] at hS
    replace hN:N.map (·.1)=shO (obP os) J b0:=hN
    have hNl:N.length≤1530:=by
     have:=congrArg List.length hN
     rw [List.length_map] at this
     omega
    simp only [LyS,List.cons_append,List.nil_append] at hS
    repeat' ((refine yO ?_))
    refine q_loopK (j + 1,(qa',da'),(qs',dq'),A',Lp++N) (by exact zS) ⟨by show j + 1≤_;omega,hA2,?_,hA3.1,by show A'.length≤6 * (j + 1);omega,by show (Lp++N).length≤1530 * (j + 1);rw [List.length_append];omega,all_take_succ hsy ho hst⟩ (by simpa only [LyS,List.cons_append,List.nil_append,List.append_nil] using hS) (by show _ - (j + 1) < _ - j;omega)
    show (Lp++N).map (·.1)=linkSh (obP os) (os.take (j + 1))
    rw [List.map_append,hL1,hN,linkSh_step ho,hdiv]
 obtain ⟨o,ho⟩:=lt_get (l:=B) (i:=i) (by omega)
 have hrow:(B.map imR)[i]?=some [.string ⟨o.im.name.toArray⟩,o.vn,o.vs,o.vy,o.vr,.int .i64 o.im.entry]:=map_get (f:=imR) ho
 have hov:=hallB o (List.mem_of_getElem? ho)
 have hob:=hBB o (List.mem_of_getElem? ho)
 obtain ⟨gu,rfl⟩:=hS.rowSome 1 rfl (by omega)
 obtain ⟨J,un,us,uy,ur,a1⟩:=o
 replace hov:ImV w J un us uy ur:=hov
 replace hob:ImB J∧ImD J:=hob
 dsimp only at hrow
 obtain ⟨qn,en,rfl⟩:=hov.needs.len
 obtain ⟨qs,es_,rfl⟩:=hov.segs.len
 obtain ⟨qy,ey,rfl⟩:=hov.syms.len
 obtain ⟨qr,er,rfl⟩:=hov.rels.len
 by_cases hc0:checkIm J=0
 rotate_left
 ·have hd:(!decide (checkIm J=0))=true:=by rw [decide_eq_false hc0];rfl
  have hfind:=find_first (p:=fun o=>!decide (checkIm o.im=0)) hck ho hd
  repeat' (first|refine yO ?_|(refine yM ?_;clear hS;intro g w' hS)|(refine yN ?_;clear hS;intro w' hS)|(refine yS ?_ ?_;all_goals (intro hb hp;try (exfalso;omega)))|(refine yC ?_;refine ⟨_,Check_fn (hov.now hS) hob.1 hob.2,?_⟩;clear hS;intro w' hS)|(refine yK5 ?_;clear hS;intro w' hS))
  refine yR2 ?_
  refine Or.inl ⟨?_,?_,hS.sub (List.nil_sublist _)⟩
  ·rw [hfind];exact hc0
  ·rw [hfind];rfl
 have hd:(!decide (checkIm J=0))=false:=by rw [decide_eq_true hc0];rfl
 repeat' (first|refine yO ?_|(refine yM ?_;clear hS;intro g w' hS)|(refine yN ?_;clear hS;intro w' hS)|(refine yS ?_ ?_;all_goals (intro hb hp;try (exfalso;omega)))|(refine yC ?_;refine ⟨_,Check_fn (hov.now hS) hob.1 hob.2,?_⟩;clear hS;intro w' hS))
 (focus (refine yW (nn 7) ?_;(repeat' ((refine yP ?_)));all_goals (refine yZ ?_;clear hS;intro w' hS)))
 have hck2:∀ x ∈ B.take (i + 1),(!decide (checkIm x.im=0))=false:=by
  rw [List.take_add_one,ho]
  intro x hx
  rcases List.mem_append.1 hx with h|h
  ·exact hck x h
  ·have:x=⟨J,.slice qn J.needs.length en,.slice qs J.segs.length es_,.slice qy J.syms.length ey,.slice qr J.rels.length er,a1⟩:=by simpa using h
   rw [this]
   exact hd
 by_cases hin:∃ v,(stK J.name,v) ∈ L
 ·obtain ⟨v0,hv0⟩:=hin
  refine l_gets0 (g_updO hS (i:=1) mt_byName ut_string rfl rfl rfl rfl hG (k:=stK J.name) trivial hv0) ?_
  rintro - w9 ⟨es',c',j,u',-,hG',hS'⟩
  simp only [List.set] at hS'
  clear hS;have hS:=hS';clear hS'
  repeat' ((refine yO ?_))
  replace hS:=St.reorder [1,2,3,4,5,6] hS (by decide) rfl
  exact q_loopK (i + 1,es',c',_) (by exact zS) ⟨by show i + 1≤_;omega,hG',hMB.old ho hv0,hck2⟩ hS (by show _ - (i + 1) < _ - i;omega)
 ·have hno:∀ v,(stK J.name,v) ∉ L:=fun v hv=>hin ⟨v,hv⟩
  refine l_gets0 (g_updN hS (i:=1) mt_byName ut_string rfl rfl rfl rfl hG (k:=stK J.name) trivial hno) ?_
  rintro - w9 ⟨es',c',hG',hS'⟩
  simp only [List.set] at hS'
  clear hS;have hS:=hS';clear hS'
  repeat' ((refine yO ?_))
  replace hS:=St.reorder [1,2,3,4,5,6] hS (by decide) rfl
  exact q_loopK (i + 1,es',c',_) (by exact zS) ⟨by show i + 1≤_;omega,hG',hMB.new ho hno,hck2⟩ hS (by show _ - (i + 1) < _ - i;omega)
end Go.Proofs.Ytejnpppejalhfac
/- The reference's find and address of a link. -/
namespace Go.Proofs.Ytejnpppejalhfac
open Go.RowKit Go.Sort
end Go.Proofs.Ytejnpppejalhfac
/- The reference's objects. -/
namespace Go.Proofs.Ytejnpppejalhfac
open Go.RowKit Go.Sort
structure OrdI (B:List Ob) (ord:List Nat) (s:List Ob×Int):Prop where
 len:s.1.length=ord.length
 at_:∀ (i k:Nat),ord[i]?=some k→∃ (o:Ob) (a:Int),B[k]?=some o∧s.1[i]?=some { o with at_:=a }
theorem nodup_at {B:List Ob} (h:(B.map fun o=>o.im.name).Nodup) {i j:Nat} {a b:Ob} (ha:B[i]?=some a) (hb:B[j]?=some b) (he:a.im.name=b.im.name):i=j:=by
 obtain ⟨h1,rfl⟩:=List.getElem?_eq_some_iff.1 ha
 obtain ⟨h2,rfl⟩:=List.getElem?_eq_some_iff.1 hb
 unfold List.Nodup at h
 rw [List.pairwise_iff_getElem] at h
 rcases Nat.lt_trichotomy i j with hlt|heq|hlt
 ·exact absurd (by rw [List.getElem_map,List.getElem_map];exact he) (h i j (by simpa using h1) (by simpa using h2) hlt)
 ·exact heq
 ·exact absurd (by rw [List.getElem_map,List.getElem_map];exact he.symm) (h j i (by simpa using h2) (by simpa using h1) hlt)
theorem OrdI.mem {B:List Ob} {ord:List Nat} {s:List Ob×Int} {k:Nat} {o:Ob} (h:OrdI B ord s) (hn:(B.map fun o=>o.im.name).Nodup) (hk:B[k]?=some o):k ∈ ord ↔ isPl s.1 o.im.name=true:=by
 rw [isPl_iff]
 constructor
 ·intro hm
  obtain ⟨i,hi⟩:=List.mem_iff_getElem?.1 hm
  obtain ⟨o',a,h1,h2⟩:=h.at_ i k hi
  rw [hk] at h1
  cases h1
  exact ⟨_,List.mem_of_getElem? h2,rfl⟩
 ·rintro ⟨x,hx,hxn⟩
  obtain ⟨i,hi⟩:=List.mem_iff_getElem?.1 hx
  have hil:i < ord.length:=by have:=lt_of_getE hi;have:=h.len;omega
  obtain ⟨k',hk'⟩:=lt_get (l:=ord) (i:=i) (by omega)
  obtain ⟨o',a,h1,h2⟩:=h.at_ i k' hk'
  rw [hi] at h2
  cases h2
  have:=nodup_at hn hk h1 hxn.symm
  subst this
  exact List.mem_of_getElem? hk'
theorem OrdI.old {B:List Ob} {ord:List Nat} {s:List Ob×Int} {k:Nat} {o:Ob} (h:OrdI B ord s) (hn:(B.map fun o=>o.im.name).Nodup) (hk:B[k]?=some o) (hm:k ∈ ord):OrdI B ord (plStep s o):=by
 have:=(h.mem hn hk).1 hm
 unfold plStep plOs plNext
 rw [if_pos this,if_pos this]
 exact h
theorem OrdI.new {B:List Ob} {ord:List Nat} {s:List Ob×Int} {k:Nat} {o:Ob} (h:OrdI B ord s) (hn:(B.map fun o=>o.im.name).Nodup) (hk:B[k]?=some o) (hm:k ∉ ord):OrdI B (ord++[k]) (plStep s o):=by
 have hp:¬ isPl s.1 o.im.name=true:=fun hc=>hm ((h.mem hn hk).2 hc)
 unfold plStep plOs plNext
 rw [if_neg hp,if_neg hp]
 refine ⟨by simp [h.len],fun i j hj=>?_⟩
 rcases Nat.lt_or_ge i ord.length with hi|hi
 ·rw [List.getElem?_append_left hi] at hj
  obtain ⟨o',a,h1,h2⟩:=h.at_ i j hj
  exact ⟨o',a,h1,by rw [List.getElem?_append_left (by rw [h.len];exact hi)];exact h2⟩
 ·rw [List.getElem?_append_right hi] at hj
  obtain ⟨h1,h2⟩:=List.getElem?_eq_some_iff.1 hj
  simp only [List.length_singleton] at h1
  obtain rfl:i=ord.length:=by omega
  simp only [Nat.sub_self,List.getElem_cons_zero] at h2
  subst h2
  exact ⟨o,s.2 * 16,hk,by rw [← h.len,List.getElem?_append_right (by omega)];simp⟩
theorem OrdI.start {B:List Ob} {M:Ob} (h:B[0]?=some M):OrdI B [0] (plStep ([],1) M):=by
 refine ⟨rfl,fun i k hk=>?_⟩
 cases i with
 |zero=>
  obtain rfl:0=k:=by simpa using hk
  exact ⟨M,16,h,rfl⟩
 |succ i=>simp at hk
end Go.Proofs.Ytejnpppejalhfac
/- An image: the reference's places, and its check. -/
namespace Go.Proofs.Ytejnpppejalhfac
open Go.RowKit Go.Sort
end Go.Proofs.Ytejnpppejalhfac
/- The reference's check of an image. -/
namespace Go.Proofs.Ytejnpppejalhfac
open Go.RowKit Go.Sort
theorem eb (b:Bool) {c:Bool} (h:b=c):Value.bool b=.bool c:=by rw [h]
end Go.Proofs.Ytejnpppejalhfac
/- The reference's LinkError. -/
namespace Go.Proofs.Ytejnpppejalhfac
open Go.RowKit Go.Sort
structure ObsI (w:World) (os:List Ob):Prop where
 v:∀ o ∈ os,ObV w o
 b:∀ o ∈ os,∃ b:Int,o.at_=b * 16∧1≤b∧b≤1800
 y:∀ o ∈ os,∀ s ∈ o.im.syms,-9223372036854775808≤o.at_ + s.at_∧o.at_ + s.at_≤9223372036854775807
 n:os.length≤7
 k:∀ o ∈ os,checkIm o.im=0
theorem ObsI.now {w w':World} {os:List Ob} {Γ:List Asr} (h:ObsI w os) (hS:St nF w w' Γ):ObsI w' os:=⟨fun o ho=>(h.v o ho).now hS,h.b,h.y,h.n,h.k⟩
end Go.Proofs.Ytejnpppejalhfac
/- The board of a link, in plain Lean. -/
namespace Go.Proofs.Ytejnpppejalhfac
open Go.RowKit Go.Sort
end Go.Proofs.Ytejnpppejalhfac
/- Reading an image's bytes, in plain Lean. -/
namespace Go.Proofs.Ytejnpppejalhfac
open Go.RowKit Go.Sort
abbrev Bs8:=List UInt8
section
variable {α:Type} {one:Bs8→Option (α×Bs8)}
end
/-! what is written is read as it was -/
theorem wrap64_in {m:Int} (h1:-9223372036854775808≤m) (h2:m≤9223372036854775807):wrap64 m=m:=by unfold wrap64;omega
end Go.Proofs.Ytejnpppejalhfac
/- tiny. -/
namespace Go.Proofs.Ytejnpppejalhfac
open Go.RowKit Go.Sort
theorem Bytes_fn (n:Int) (k:Nat) (w:World) (hk:k≤8):Fn Try.prog 64 [.int .i64 n,.int .i64 k] w (RBf (.string ⟨(leB n k).toArray⟩) w) :=
 Fn.of_rb ⟨Try.func64,by kernel_rfl,by kernel_rfl⟩ (rb_below (bytes_any n k w hk))
def encI (op a b c imm:Int):List UInt8:=leB op 1++leB a 1++leB b 1++leB c 1++leB imm 4
set_option maxRecDepth 100000 in
theorem InstrBytes_fn (op a b c imm:Int) (w:World):Fn Try.prog 38 [.agg [.int .i64 op,.int .i64 a,.int .i64 b,.int .i64 c,.int .i64 imm].toArray] w (RBf (.string ⟨(encI op a b c imm).toArray⟩) w):=by
 refine yEn Try.func38 Try.ntmps38 ?_
 have hS:=St.start w
 repeat' (first|refine yO ?_|(refine yM ?_;clear hS;intro g w' hS)|(refine yN ?_;clear hS;intro w' hS)|(refine yS ?_ ?_;all_goals (intro hb hp;try (exfalso;omega)))|fail)
 (focus (refine yD ?_;(repeat' (first|refine yP ?_|(refine yQ ?_ ?_;all_goals (intro hb hp;try (exfalso;omega)))|(refine yF ?_;refine ⟨_,fun wd hd=>Bytes_fn _ 1 _ (by decide),?_⟩)|(refine yF ?_;refine ⟨_,fun wd hd=>Bytes_fn _ 4 _ (by decide),?_⟩)|((with_reducible apply d_runs);intro a ha;exact r_cat (by exact rfl) (by exact rfl) (by simp only [List.length_append,leB_length];omega) a ha _;exact rfl)|fail));all_goals (refine yZ ?_;clear hS;intro w' hS)))
 repeat' (first|refine yO ?_|(refine yM ?_;clear hS;intro g w' hS)|(refine yN ?_;clear hS;intro w' hS)|(refine yS ?_ ?_;all_goals (intro hb hp;try (exfalso;omega)))|fail)
 refine yR1 ?_
 exact ⟨rfl,hS.sub (List.nil_sublist _)⟩
end Go.Proofs.Ytejnpppejalhfac
/- The reference's fixesOf. -/
namespace Go.Proofs.Ytejnpppejalhfac
open Go.RowKit Go.Sort
end Go.Proofs.Ytejnpppejalhfac
/- The reference's LinkedOf. -/
namespace Go.Proofs.Ytejnpppejalhfac
open Go.RowKit Go.Sort
section
variable {P:Program} {n:Nat} {ds:List Deferred} {E:Fr} {w:World} {dst:Option Nat} {ty:TypeId} {pos:String} {after:Array Edge} {F:Nat→Prop} {w0:World} {Γ:List Asr} {T:Tab}
theorem g_convT (hS:St F w0 w Γ) (hT:TabOk P T) {t u e i sz2 g m cap:Nat} {z2:Value} {x:Operand} {l:List UInt8} (ht:T.get t=some (.sl e 1 1 false [.int .u8 0])) (he:T.get e=some (.sc (.int .u8) 1 (.int .u8 0))) (hu2:T.get u=some (.sc .string sz2 z2)) (hx:E.ev x=some (.slice (some ⟨g,0,none⟩) m cap)) (hm:m=l.length) (hi:Γ[i]?=some (.row e 1 (.slice (some ⟨g,0,none⟩) m cap) (bR l))) :
  Gets P ⟨dst,.convert t u x,ty,pos,after,none⟩ n ds E w (fun v' w'=>v'=.string ⟨l.toArray⟩∧w'=w):=by
 refine Gets.of_at fun a ha=>?_
 obtain ⟨ji,zv,hu,hinfo,_⟩:=hT.sl ht
 obtain ⟨_,hus,_⟩:=hT.sc hu2
 obtain ⟨_,hue,_⟩:=hT.sc he
 subst hm
 have hrun:=run_convert_bytes_back (P:=P) w t u e ⟨g,0,none⟩ cap l hu hue hus (fun j hj=>by
   rw [add_zero_at]
   have:=hS.rowC i hi (k:=j) (j:=0) (r:=[.int .u8 l[j].toNat]) (u:=.int .u8 l[j].toNat) (by unfold bR;simp [hj]) rfl
   simpa using this)
 simp only [execOp,ha.ev hx,Sem.run_bind,hrun,Result.andThen_ok,Sem.run_pure]
end
section
variable {P:Program} {n:Nat} {ds:List Deferred} {E:Fr} {w:World} {Q:Exit→Act→World→Prop} {ops:Array Oper} {S:World→Prop} {q fuel:Nat} {li:Array Bool} {d:Nat} {op:Op} {ty:TypeId} {pos:String} {after:Array Edge} {T:Tab}
theorem t_runs {i:Nat} (_C:Nn i) {v:Value} (hi:ops[i]?=some ⟨some d,op,ty,pos,after,none⟩) (hs:Region.noSelect ops=true) (hf:Region.free .any ops li i=true) (hr:(Region.ready .any ops li).contains i=true) (hqi:Nat.beq q i=false)
  (hQ:∀ c (a:Act) w,Q (.panic c) (a.put (some d) v) w→Q (.panic c) a w) (hS:li.getD q false=true∨S w) (h:∀ a,Has n ds a E→Runs P ⟨some d,op,ty,pos,after,none⟩ a v) (hd:Nat.blt d n=true) (k:WT P ops Q S q fuel (li.setIfInBounds i true) n ds ((d,v)::E) w):WT P ops Q S q (fuel + 1) li n ds E w:=fun a ha=>
 till_pure hi (Region.noSelect_spec hs) hQ (fun e=>by subst e;rw [Nat.beq_refl] at hqi;cases hqi) fuel li a w (Region.free_spec hi hf) (by simpa using hr) hS (Or.inl ⟨rfl,fun w _=>h a ha w⟩) (k _ (ha.put d v hd))
theorem t_build {i:Nat} (_C:Nn i) (hT:TabOk P T) {t s:Nat} {fs:List (Nat×Nat×Bool)} {z L:List Value} {parts:Array (Nat×Operand)} {ps:List (Nat×Value)} (hi:ops[i]?=some ⟨some d,.build t parts,ty,pos,after,none⟩) (hs:Region.noSelect ops=true) (hf:Region.free .any ops li i=true) (hr:(Region.ready .any ops li).contains i=true) (hqi:Nat.beq q i=false)
  (hQ:∀ c (a:Act) w v,Q (.panic c) (a.put (some d) v) w→Q (.panic c) a w) (hS:li.getD q false=true∨S w) (ht:T.get t=some (.st s fs z)) (hp:evP E parts.toList=some ps) (hL:fillL (fun i=>(fs[i]?).map fun f=>(f.1,f.2.1)) z ps=some L) (hd:Nat.blt d n=true) (k:WT P ops Q S q fuel (li.setIfInBounds i true) n ds ((d,.agg L.toArray)::E) w):WT P ops Q S q (fuel + 1) li n ds E w :=
 t_runs _C hi hs hf hr hqi (fun c a w=>hQ c a w _) hS (fun a ha=>r_build hT ht hp hL a ha) hd k
end
section
variable {P:Program} {n:Nat} {ds:List Deferred} {E E':Fr} {w:World} {F:Nat→Prop} {w0:World} {Γ:List Asr}
end
end Go.Proofs.Ytejnpppejalhfac
/- What a mapped page is filled with; sheets of a kernel. -/
namespace Go.Proofs.Ytejnpppejalhfac
open Go.RowKit Go.Sort
def fillV (o:Option (List UInt8)):Value:=.tuple #[.string ⟨(o.getD []).toArray⟩,.bool o.isSome]
theorem riseB_all:∀ {l:List Sh} {last:Int},riseB last l=true→(∀ s ∈ l,rightS s=true∧last < s.page)∧Rises (l.map fun s=>s.page)
 |[],_,_=>⟨by simp,List.Pairwise.nil⟩
 |s::l,last,h=>by
  replace h:(rightS s && (decide (last < s.page) && riseB s.page l))=true:=h
  simp only [Bool.and_eq_true,decide_eq_true_eq] at h
  obtain ⟨h1,h2,h3⟩:=h
  obtain ⟨i1,i2⟩:=riseB_all h3
  refine ⟨fun x hx=>?_,List.Pairwise.cons (fun p hp=>?_) i2⟩
  ·rcases List.mem_cons.1 hx with rfl|hx
   ·exact ⟨h1,h2⟩
   ·exact ⟨(i1 x hx).1,by have:=(i1 x hx).2;omega⟩
  ·obtain ⟨x,hx,rfl⟩:=List.mem_map.1 hp
   exact (i1 x hx).2
theorem pages_shs (l:List (Sh×Value)):(l.map fun p=>p.1.page)=(shs l).map fun s=>s.page:=by unfold shs;rw [List.map_map];rfl
theorem shAt_none {l:List Sh} {p:Int} (h:p ∉ l.map fun s=>s.page):shAt l p=none:=by
 unfold shAt
 rw [List.find?_eq_none]
 intro x hx hp
 exact h (List.mem_map.2 ⟨x,hx,by simpa using hp⟩)
theorem shAt_some {l:List Sh} {p:Int} {i:Nat} {s:Sh} (hr:Rises (l.map fun s=>s.page)) (hi:l[i]?=some s) (hp:s.page=p):shAt l p=some s:=by
 unfold shAt
 rw [List.find?_eq_some_iff_getElem]
 obtain ⟨h1,rfl⟩:=List.getElem?_eq_some_iff.1 hi
 refine ⟨by simpa using hp,i,h1,rfl,fun j hj=>?_⟩
 have hjl:j < l.length:=by omega
 have:=hr.at_ hj (map_get (f:=fun s:Sh=>s.page) (List.getElem?_eq_getElem hjl)) (map_get (f:=fun s:Sh=>s.page) hi)
 simp
 omega
theorem ShsV.one {w:World} {l:List (Sh×Value)} {v:Value} (h:ShsV w l v):∀ p ∈ l,p.2.oneCell'=true:=fun p hp=>by
 obtain ⟨a,c,hpc⟩:=(h.fx p hp).len
 rw [hpc]
 rfl
set_option maxRecDepth 100000 in
set_option maxHeartbeats 8000000 in
theorem filling_fn {F:Nat→Prop} {w:World} {l:List (Sh×Value)} {g o:Nat} {vsh:Value} {a:Ar} {p:Int} (hc:Bs nF w ⟨g,o,none⟩ vsh) (hL:ShsV w l vsh) (hr:riseB 0 (shs l)=true) (hp:-1000000≤p∧p≤1000000):Fn Try.prog 21 [.pointer (some ⟨g,o,none⟩),.agg (arC a).toArray,.int .i64 p] w (RBf (fillV (fillP (shs l) a.z p)) w):=by
 obtain ⟨r1,r2⟩:=riseB_all hr
 have hone:=hL.one
 have bnd:=hL.sl.bound
 obtain ⟨pv,cv,rfl⟩:=hL.sl.len
 have hbs:=fun w (h:Sl nF w 3 (.slice pv l.length cv) (l.map fun p=>shC p.1 p.2))=>bsSh_fn (t:=p) h (by rw [pages_shs];exact r2) (fun q hq=>by
  rw [pages_shs] at hq
  obtain ⟨s,hs,rfl⟩:=List.mem_map.1 hq
  have:=right_page (r1 s hs).1
  omega) hone
 unfold arC
 by_cases hz:a.z=true
 ·unfold fillP
  rw [if_pos hz,hz]
  refine yEn Try.func21 Try.ntmps21 ?_
  have hS:=St.start w
  repeat' (first|refine yO ?_|(refine yM ?_;clear hS;intro g w' hS)|((with_reducible apply l_make hS tabOk (m:=16));(iterate 5 exact rfl);omega;omega;exact rfl;exact rfl;intro gz w' hS';clear hS;have hS:=hS';clear hS'))
  ((with_reducible apply l_gets);exact rfl;exact g_convT hS tabOk (i:=0) (l:=List.replicate 16 0) rfl rfl rfl rfl (by rw [List.length_replicate]) (by unfold bR;rw [List.map_replicate];rfl);rintro _ _ ⟨rfl,rfl⟩)
  repeat' ((refine yO ?_))
  refine yR2 ?_
  exact ⟨rfl,hS.sub (List.nil_sublist _)⟩
 have hzf:a.z=false:=by simpa using hz
 unfold fillP
 rw [if_neg hz,hzf]
 unfold BsV at hbs
 by_cases hm:p ∈ l.map fun x=>x.1.page
 ·have hdm:decide (p ∈ l.map fun x=>x.1.page)=true:=decide_eq_true hm
  have hlb:=(lbd_find (by rw [pages_shs];exact r2) p).2 hm
  rw [hdm] at hbs
  generalize lbd (l.map fun x=>x.1.page) p=i at hbs hlb
  rw [List.getElem?_map] at hlb
  obtain ⟨x,hx,hxp⟩:∃ x,l[i]?=some x∧x.1.page=p:=by
   cases hq:l[i]? with
   |none=>rw [hq] at hlb;cases hlb
   |some x=>rw [hq] at hlb;exact ⟨x,rfl,Option.some.inj hlb⟩
  have hil:=lt_of_getE hx
  have hrow:=map_get (f:=fun p:Sh×Value=>shC p.1 p.2) hx
  have hfx:=hL.fx x (List.mem_of_getElem? hx)
  have hsa:=shAt_some r2 (shs_at hx) hxp
  have hrt:=(r1 x.1 (List.mem_of_getElem? (shs_at hx))).1
  rw [hsa]
  obtain ⟨S,u⟩:=x
  dsimp only [shC] at hrow hfx hrt
  obtain ⟨pu,cu,rfl⟩:=hfx.len
  have hfi:∀ w1,ShV w1 S (.slice pu S.fixes.length cu)→Fn Try.prog 51 [.agg [.int .i64 S.page,.string ⟨S.data.toArray⟩,.slice pu S.fixes.length cu].toArray] w1 (RBf (.tuple #[.string ⟨(fillS S).toArray⟩,.int .i64 0]) w1):=fun w1 h=>by
   have h3:=Fill_fn h
   rw [if_pos hrt,if_pos hrt] at h3
   exact h3
  have hsl:=hL.sl
  refine yEn Try.func21 Try.ntmps21 ?_
  have hS:=St.start w
  repeat' (first|refine yO ?_|(refine yM ?_;clear hS;intro g w' hS)|(refine yC ?_;refine ⟨_,hbs _ (hsl.now hS),?_⟩;clear hS;intro w' hS))
  obtain ⟨b,off,hpe,hro⟩:=hsl.at_ (i:=i) hil
  subst hpe
  repeat' (first|refine yO ?_|(refine yC ?_;refine ⟨_,hfi _ (hfx.now hS),?_⟩;clear hS;intro w' hS))
  refine yR2 ?_
  exact ⟨rfl,hS.sub (List.nil_sublist _)⟩
 ·have hdm:decide (p ∈ l.map fun x=>x.1.page)=false:=decide_eq_false hm
  rw [hdm] at hbs
  rw [shAt_none (by rw [← pages_shs];exact hm)]
  have hsl:=hL.sl
  refine yEn Try.func21 Try.ntmps21 ?_
  have hS:=St.start w
  repeat' (first|refine yO ?_|(refine yM ?_;clear hS;intro g w' hS)|(refine yC ?_;refine ⟨_,hbs _ (hsl.now hS),?_⟩;clear hS;intro w' hS))
  refine yR2 ?_
  exact ⟨rfl,hS.sub (List.nil_sublist _)⟩
end Go.Proofs.Ytejnpppejalhfac
/- The reference's SameSheets and SameLinked, of what is the same. -/
namespace Go.Proofs.Ytejnpppejalhfac
open Go.RowKit Go.Sort
end Go.Proofs.Ytejnpppejalhfac
/- A kernel's sheets; namers; frames held against who names them. -/
namespace Go.Proofs.Ytejnpppejalhfac
open Go.RowKit Go.Sort
set_option maxRecDepth 100000 in
set_option maxHeartbeats 8000000 in
theorem sheetsK_fn {Lp:List (Sh×Value)} {w:World} {vs:Value} (hL:ShsV w Lp vs):Fn Try.prog 24 [vs] w (RBf (.bool (riseB 0 (shs Lp))) w):=by
 have bnd:=hL.sl.bound
 have hsl:=hL.sl
 obtain ⟨p,c,rfl⟩:=hL.sl.len
 refine yEn Try.func24 Try.ntmps24 ?_
 have hS:=St.start w
 repeat' ((refine yO ?_))
 refine c_loopK (X:=Nat×Int) (fun x=>[(9,.int .i64 (x.1:Nat))]) [0,7,8] rfl (fun _=>[]) (fun x=>x.1≤Lp.length∧((x.1=0∧x.2=0)∨(0 < x.1∧∃ y,Lp[x.1 - 1]?=some y∧x.2=y.1.page))∧riseB 0 (shs Lp)=riseB x.2 ((shs Lp).drop x.1)) (fun x=>Lp.length - x.1) (0,0) (by exact zS) (by simp) hS ?_
 clear hS
 rintro ⟨i,last⟩ w1 ⟨hi,hlast,hok⟩ hS
 dsimp only [List.cons_append,List.nil_append] at hi hlast hok hS ⊢
 by_cases hlt:i < Lp.length
 rotate_left
 ·rw [List.drop_of_length_le (by rw [shs_len];omega)] at hok
  repeat' (first|refine yO ?_|(refine yS ?_ ?_;all_goals (intro hb hp;try (exfalso;omega))))
  refine yR1 ?_
  exact ⟨by rw [hok];rfl,hS.sub (List.nil_sublist _)⟩
 obtain ⟨x,hx⟩:=lt_get (l:=Lp) (i:=i) (by omega)
 have hrow:=map_get (f:=fun p=>shC p.1 p.2) hx
 obtain ⟨b,off,rfl,hro⟩:=hsl.at_ (i:=i) hlt
 have hst:=riseB_step (last:=last) (shs_at hx)
 have hfx:=hL.fx x (List.mem_of_getElem? hx)
 obtain ⟨S,u⟩:=x
 dsimp only [shC] at hrow hst hfx
 obtain ⟨pu,cu,rfl⟩:=hfx.len
 have hfi:=fun w (h:ShV w S (.slice pu S.fixes.length cu))=>Fill_fn h
 rw [hst] at hok
 cases hR:rightS S with
 |false=>
  simp only [hR,Bool.false_eq_true,if_false] at hfi
  rw [hR,Bool.false_and] at hok
  repeat' (first|refine yO ?_|(refine yM ?_;clear hS;intro g w' hS)|(refine yN ?_;clear hS;intro w' hS)|(refine yS ?_ ?_;all_goals (intro hb hp;try (exfalso;omega)))|(refine yC ?_;refine ⟨_,hfi _ (hfx.now hS),?_⟩;clear hS;intro w' hS))
  (focus (refine yD ?_;(repeat' ((refine yP ?_)));all_goals (refine yZ ?_;clear hS;intro w' hS)))
  repeat' ((refine yO ?_))
  refine yR1 ?_
  exact ⟨by rw [hok],hS.sub (List.nil_sublist _)⟩
 |true=>
  simp only [hR,if_true] at hfi
  rw [hR,Bool.true_and] at hok
  have hpg:=right_page hR
  rcases hlast with ⟨rfl,rfl⟩|⟨hi0,y,hy,rfl⟩
  ·rw [decide_eq_true (show (0:Int) < S.page by omega),Bool.true_and] at hok
   repeat' (first|refine yO ?_|(refine yM ?_;clear hS;intro g w' hS)|(refine yN ?_;clear hS;intro w' hS)|(refine yS ?_ ?_;all_goals (intro hb hp;try (exfalso;omega)))|(refine yC ?_;refine ⟨_,hfi _ (hfx.now hS),?_⟩;clear hS;intro w' hS))
   (focus (refine yD ?_;(repeat' ((refine yP ?_)));all_goals (refine yZ ?_;clear hS;intro w' hS)))
   repeat' ((refine yO ?_))
   exact q_loopK (1,S.page) (by exact zS) ⟨by show 1≤Lp.length;omega,Or.inr ⟨by show 0 < 1;omega,_,hx,rfl⟩,hok⟩ hS.drop (by show Lp.length - 1 < Lp.length - 0;omega)
  ·have e1:((i:Int) - 1).toNat=i - 1:=by omega
   have hrow2:(Lp.map fun p=>shC p.1 p.2)[((i:Int) - 1).toNat]?=some (shC y.1 y.2):=by rw [e1];exact map_get (f:=fun p=>shC p.1 p.2) hy
   obtain ⟨S2,u2⟩:=y
   dsimp only [shC] at hrow2 hok
   by_cases hlp:S2.page < S.page
   ·rw [decide_eq_true hlp,Bool.true_and] at hok
    have hd1:decide (S.page≤S2.page)=false:=decide_eq_false (by omega)
    repeat' (first|refine yO ?_|(refine yM ?_;clear hS;intro g w' hS)|(refine yN ?_;clear hS;intro w' hS)|(refine yS ?_ ?_;all_goals (intro hb hp;try (exfalso;omega)))|(refine yC ?_;refine ⟨_,hfi _ (hfx.now hS),?_⟩;clear hS;intro w' hS))
    (focus (refine yD ?_;(repeat' (first|refine yP ?_|(refine yQ ?_ ?_;all_goals (intro hb hp;try (exfalso;omega)))));all_goals (refine yZ ?_;clear hS;intro w' hS)))
    repeat' ((refine yO ?_))
    exact q_loopK (i + 1,S.page) (by exact zS) ⟨by show i + 1≤Lp.length;omega,Or.inr ⟨by show 0 < i + 1;omega,_,hx,rfl⟩,hok⟩ hS.drop (by show Lp.length - (i + 1) < Lp.length - i;omega)
   ·rw [decide_eq_false hlp,Bool.false_and] at hok
    have hd1:decide (S.page≤S2.page)=true:=decide_eq_true (by omega)
    repeat' (first|refine yO ?_|(refine yM ?_;clear hS;intro g w' hS)|(refine yN ?_;clear hS;intro w' hS)|(refine yS ?_ ?_;all_goals (intro hb hp;try (exfalso;omega)))|(refine yC ?_;refine ⟨_,hfi _ (hfx.now hS),?_⟩;clear hS;intro w' hS))
    (focus (refine yD ?_;(repeat' (first|refine yP ?_|(refine yQ ?_ ?_;all_goals (intro hb hp;try (exfalso;omega)))));all_goals (refine yZ ?_;clear hS;intro w' hS)))
    repeat' ((refine yO ?_))
    refine yR1 ?_
    exact ⟨by rw [hok],hS.sub (List.nil_sublist _)⟩
theorem eqFm (a b:Fm):EqIs Try.prog 43 (fmC a) (fmC b) (decide (a=b)):=by
 refine ⟨fun w=>?_,by kernel_rfl⟩
 cases a
 cases b
 unfold fmC
 simp [go_sem]
 repeat' split
 all_goals simp_all
theorem eqSw (a b:Sw):EqIs Try.prog 45 (swC a) (swC b) (decide (a=b)):=by
 refine ⟨fun w=>?_,by kernel_rfl⟩
 cases a
 cases b
 unfold swC
 simp [go_sem]
 repeat' split
 all_goals simp_all
end Go.Proofs.Ytejnpppejalhfac
/- slices.IndexFunc and ContainsFunc over predicates that only read; namers that are alike. -/
namespace Go.Proofs.Ytejnpppejalhfac
open Go.RowKit Go.Sort
set_option maxRecDepth 100000 in
set_option maxHeartbeats 8000000 in
theorem idxNm_fn {l:List Nm} {w:World} {v:Value} {p:Nm→Bool} {k:FuncId} {caps:List Value} (hL:Sl nF w 7 v (l.map nmC)) (hf:∀ x ∈ l,∀ w',(∃ Γ,St nF w w' Γ)→Fn Try.prog k ([.agg (nmC x).toArray]++caps) w' (RBf (.bool (p x)) w')) :
  Fn Try.prog 69 [v,.func (.func k) #[] caps.toArray] w (RBf (.int .i64 (idxI p l)) w):=by
 have bnd:=hL.bound
 obtain ⟨pp,c,rfl⟩:=hL.len
 refine yEn Try.func69 Try.ntmps69 ?_
 have hS:=St.start w
 repeat' ((refine yO ?_))
 refine c_loopK (X:=Nat) (fun x=>[(8,.int .i64 (x:Nat))]) [0,1,7] rfl (fun _=>[]) (fun x=>x≤l.length∧(l.take x).all (fun y=>!p y)=true) (fun x=>l.length - x) 0 (by exact zS) (by simp) hS ?_
 clear hS
 rintro i w1 ⟨hi,hall⟩ hS
 dsimp only [List.cons_append,List.nil_append] at hi hall hS ⊢
 by_cases hlt:i < l.length
 ·obtain ⟨x,hx⟩:=lt_get (l:=l) (i:=i) (by omega)
  have hrow:=map_get (f:=nmC) hx
  obtain ⟨b,off,rfl,hro⟩:=hL.at_ (i:=i) hlt
  have hcall:=fun w' h=>hf x (List.mem_of_getElem? hx) w' h
  cases hpx:p x with
  |true=>
   rw [hpx] at hcall
   rw [idxI_hit hall hx hpx]
   repeat' (first|refine yO ?_|(refine yS ?_ ?_;all_goals (intro hb hp;try (exfalso;omega)))|(refine yC ?_;refine ⟨_,hcall _ ⟨_,hS⟩,?_⟩;clear hS;intro w' hS))
   refine yR1 ?_
   exact ⟨rfl,hS.sub (List.nil_sublist _)⟩
  |false=>
   rw [hpx] at hcall
   repeat' (first|refine yO ?_|(refine yS ?_ ?_;all_goals (intro hb hp;try (exfalso;omega)))|(refine yC ?_;refine ⟨_,hcall _ ⟨_,hS⟩,?_⟩;clear hS;intro w' hS))
   exact q_loopK (i + 1) (by exact zS) ⟨by show i + 1≤_;omega,all_take_succ hall hx (by simp [hpx])⟩ hS (by show _ - (i + 1) < _ - i;omega)
 ·rw [idxI_miss hall (by omega)]
  repeat' (first|refine yO ?_|(refine yS ?_ ?_;all_goals (intro hb hp;try (exfalso;omega))))
  refine yR1 ?_
  exact ⟨rfl,hS.sub (List.nil_sublist _)⟩
set_option maxRecDepth 100000 in
set_option maxHeartbeats 8000000 in
theorem idxFm_fn {l:List Fm} {w:World} {v:Value} {p:Fm→Bool} {k:FuncId} {caps:List Value} (hL:Sl nF w 4 v (l.map fmC)) (hf:∀ x ∈ l,∀ w',(∃ Γ,St nF w w' Γ)→Fn Try.prog k ([.agg (fmC x).toArray]++caps) w' (RBf (.bool (p x)) w')) :
  Fn Try.prog 88 [v,.func (.func k) #[] caps.toArray] w (RBf (.int .i64 (idxI p l)) w):=by
 have bnd:=hL.bound
 obtain ⟨pp,c,rfl⟩:=hL.len
 refine yEn Try.func88 Try.ntmps88 ?_
 have hS:=St.start w
 repeat' ((refine yO ?_))
 refine c_loopK (X:=Nat) (fun x=>[(8,.int .i64 (x:Nat))]) [0,1,7] rfl (fun _=>[]) (fun x=>x≤l.length∧(l.take x).all (fun y=>!p y)=true) (fun x=>l.length - x) 0 (by exact zS) (by simp) hS ?_
 clear hS
 rintro i w1 ⟨hi,hall⟩ hS
 dsimp only [List.cons_append,List.nil_append] at hi hall hS ⊢
 by_cases hlt:i < l.length
 ·obtain ⟨x,hx⟩:=lt_get (l:=l) (i:=i) (by omega)
  have hrow:=map_get (f:=fmC) hx
  obtain ⟨b,off,rfl,hro⟩:=hL.at_ (i:=i) hlt
  have hcall:=fun w' h=>hf x (List.mem_of_getElem? hx) w' h
  cases hpx:p x with
  |true=>
   rw [hpx] at hcall
   rw [idxI_hit hall hx hpx]
   repeat' (first|refine yO ?_|(refine yS ?_ ?_;all_goals (intro hb hp;try (exfalso;omega)))|(refine yC ?_;refine ⟨_,hcall _ ⟨_,hS⟩,?_⟩;clear hS;intro w' hS))
   refine yR1 ?_
   exact ⟨rfl,hS.sub (List.nil_sublist _)⟩
  |false=>
   rw [hpx] at hcall
   repeat' (first|refine yO ?_|(refine yS ?_ ?_;all_goals (intro hb hp;try (exfalso;omega)))|(refine yC ?_;refine ⟨_,hcall _ ⟨_,hS⟩,?_⟩;clear hS;intro w' hS))
   exact q_loopK (i + 1) (by exact zS) ⟨by show i + 1≤_;omega,all_take_succ hall hx (by simp [hpx])⟩ hS (by show _ - (i + 1) < _ - i;omega)
 ·rw [idxI_miss hall (by omega)]
  repeat' (first|refine yO ?_|(refine yS ?_ ?_;all_goals (intro hb hp;try (exfalso;omega))))
  refine yR1 ?_
  exact ⟨rfl,hS.sub (List.nil_sublist _)⟩
set_option maxRecDepth 100000 in
set_option maxHeartbeats 8000000 in
theorem idxSw_fn {l:List Sw} {w:World} {v:Value} {p:Sw→Bool} {k:FuncId} {caps:List Value} (hL:Sl nF w 2 v (l.map swC)) (hf:∀ x ∈ l,∀ w',(∃ Γ,St nF w w' Γ)→Fn Try.prog k ([.agg (swC x).toArray]++caps) w' (RBf (.bool (p x)) w')) :
  Fn Try.prog 97 [v,.func (.func k) #[] caps.toArray] w (RBf (.int .i64 (idxI p l)) w):=by
 have bnd:=hL.bound
 obtain ⟨pp,c,rfl⟩:=hL.len
 refine yEn Try.func97 Try.ntmps97 ?_
 have hS:=St.start w
 repeat' ((refine yO ?_))
 refine c_loopK (X:=Nat) (fun x=>[(8,.int .i64 (x:Nat))]) [0,1,7] rfl (fun _=>[]) (fun x=>x≤l.length∧(l.take x).all (fun y=>!p y)=true) (fun x=>l.length - x) 0 (by exact zS) (by simp) hS ?_
 clear hS
 rintro i w1 ⟨hi,hall⟩ hS
 dsimp only [List.cons_append,List.nil_append] at hi hall hS ⊢
 by_cases hlt:i < l.length
 ·obtain ⟨x,hx⟩:=lt_get (l:=l) (i:=i) (by omega)
  have hrow:=map_get (f:=swC) hx
  obtain ⟨b,off,rfl,hro⟩:=hL.at_ (i:=i) hlt
  have hcall:=fun w' h=>hf x (List.mem_of_getElem? hx) w' h
  cases hpx:p x with
  |true=>
   rw [hpx] at hcall
   rw [idxI_hit hall hx hpx]
   repeat' (first|refine yO ?_|(refine yS ?_ ?_;all_goals (intro hb hp;try (exfalso;omega)))|(refine yC ?_;refine ⟨_,hcall _ ⟨_,hS⟩,?_⟩;clear hS;intro w' hS))
   refine yR1 ?_
   exact ⟨rfl,hS.sub (List.nil_sublist _)⟩
  |false=>
   rw [hpx] at hcall
   repeat' (first|refine yO ?_|(refine yS ?_ ?_;all_goals (intro hb hp;try (exfalso;omega)))|(refine yC ?_;refine ⟨_,hcall _ ⟨_,hS⟩,?_⟩;clear hS;intro w' hS))
   exact q_loopK (i + 1) (by exact zS) ⟨by show i + 1≤_;omega,all_take_succ hall hx (by simp [hpx])⟩ hS (by show _ - (i + 1) < _ - i;omega)
 ·rw [idxI_miss hall (by omega)]
  repeat' (first|refine yO ?_|(refine yS ?_ ?_;all_goals (intro hb hp;try (exfalso;omega))))
  refine yR1 ?_
  exact ⟨rfl,hS.sub (List.nil_sublist _)⟩
set_option maxRecDepth 100000 in
set_option maxHeartbeats 8000000 in
theorem idxEn_fn {l:List En} {w:World} {v:Value} {p:En→Bool} {k:FuncId} {caps:List Value} (hL:Sl nF w 3 v (l.map enC)) (hf:∀ x ∈ l,∀ w',(∃ Γ,St nF w w' Γ)→Fn Try.prog k ([.agg (enC x).toArray]++caps) w' (RBf (.bool (p x)) w')) :
  Fn Try.prog 68 [v,.func (.func k) #[] caps.toArray] w (RBf (.int .i64 (idxI p l)) w):=by
 have bnd:=hL.bound
 obtain ⟨pp,c,rfl⟩:=hL.len
 refine yEn Try.func68 Try.ntmps68 ?_
 have hS:=St.start w
 repeat' ((refine yO ?_))
 refine c_loopK (X:=Nat) (fun x=>[(8,.int .i64 (x:Nat))]) [0,1,7] rfl (fun _=>[]) (fun x=>x≤l.length∧(l.take x).all (fun y=>!p y)=true) (fun x=>l.length - x) 0 (by exact zS) (by simp) hS ?_
 clear hS
 rintro i w1 ⟨hi,hall⟩ hS
 dsimp only [List.cons_append,List.nil_append] at hi hall hS ⊢
 by_cases hlt:i < l.length
 ·obtain ⟨x,hx⟩:=lt_get (l:=l) (i:=i) (by omega)
  have hrow:=map_get (f:=enC) hx
  obtain ⟨b,off,rfl,hro⟩:=hL.at_ (i:=i) hlt
  have hcall:=fun w' h=>hf x (List.mem_of_getElem? hx) w' h
  cases hpx:p x with
  |true=>
   rw [hpx] at hcall
   rw [idxI_hit hall hx hpx]
   repeat' (first|refine yO ?_|(refine yS ?_ ?_;all_goals (intro hb hp;try (exfalso;omega)))|(refine yC ?_;refine ⟨_,hcall _ ⟨_,hS⟩,?_⟩;clear hS;intro w' hS))
   refine yR1 ?_
   exact ⟨rfl,hS.sub (List.nil_sublist _)⟩
  |false=>
   rw [hpx] at hcall
   repeat' (first|refine yO ?_|(refine yS ?_ ?_;all_goals (intro hb hp;try (exfalso;omega)))|(refine yC ?_;refine ⟨_,hcall _ ⟨_,hS⟩,?_⟩;clear hS;intro w' hS))
   exact q_loopK (i + 1) (by exact zS) ⟨by show i + 1≤_;omega,all_take_succ hall hx (by simp [hpx])⟩ hS (by show _ - (i + 1) < _ - i;omega)
 ·rw [idxI_miss hall (by omega)]
  repeat' (first|refine yO ?_|(refine yS ?_ ?_;all_goals (intro hb hp;try (exfalso;omega))))
  refine yR1 ?_
  exact ⟨rfl,hS.sub (List.nil_sublist _)⟩
set_option maxRecDepth 100000 in
set_option maxHeartbeats 8000000 in
theorem conNm_fn {l:List Nm} {w:World} {v:Value} {p:Nm→Bool} {k:FuncId} {caps:List Value} (hL:Sl nF w 7 v (l.map nmC)) (hf:∀ x ∈ l,∀ w',(∃ Γ,St nF w w' Γ)→Fn Try.prog k ([.agg (nmC x).toArray]++caps) w' (RBf (.bool (p x)) w')) :
  Fn Try.prog 55 [v,.func (.func k) #[] caps.toArray] w (RBf (.bool (l.any p)) w):=by
 refine yEn Try.func55 Try.ntmps55 ?_
 have hS:=St.start w
 have hi:=idxNm_fn hL hf
 repeat' (first|refine yO ?_|(refine yC ?_;refine ⟨_,hi,?_⟩;clear hS;intro w' hS))
 refine yR1 ?_
 exact ⟨by rw [idxI_neg],hS.sub (List.nil_sublist _)⟩
def unlike (n m:Nm):Bool:=(!decide (m.1.page=n.1.page))||(!decide (m.2.z=n.2.z))
theorem alike_any {n:Nm} {r:List Nm}:alikeN (n::r)=!((n::r).any (unlike n)):=by
 show (r.all fun m=>decide (m.1.page=n.1.page∧m.2.z=n.2.z))=_
 rw [List.any_cons,show unlike n n=false by simp [unlike],Bool.false_or]
 induction r with
 |nil=>rfl
 |cons m r ih=>
  rw [List.all_cons,List.any_cons,ih,Bool.not_or]
  congr 1
  unfold unlike
  by_cases h1:m.1.page=n.1.page <;> by_cases h2:m.2.z=n.2.z <;> simp [h1,h2]
set_option maxRecDepth 100000 in
set_option maxHeartbeats 8000000 in
theorem unlike_fn {l:List Nm} {w:World} {g:Nat} {v:Value} {n m:Nm} {r:List Nm} (hc:Bs nF w ⟨g,0,none⟩ v) (hL:Sl nF w 7 v (l.map nmC)) (hl:l=n::r):Fn Try.prog 56 [.agg (nmC m).toArray,.pointer (some ⟨g,0,none⟩)] w (RBf (.bool (unlike n m)) w):=by
 have hrow:(l.map nmC)[0]?=some (nmC n):=by rw [hl];rfl
 obtain ⟨pp,c,rfl⟩:=hL.len
 obtain ⟨b,off,rfl,hro⟩:=hL.at_ (i:=0) (by rw [hl];simp)
 have hlen:0 < l.length:=by rw [hl];simp
 unfold nmC at hrow ⊢
 unfold unlike
 refine yEn Try.func56 Try.ntmps56 ?_
 have hS:=St.start w
 by_cases hp:m.1.page=n.1.page
 ·have hd:(!decide (m.1.page=n.1.page))=false:=by rw [decide_eq_true hp];rfl
  rw [hd,Bool.false_or]
  repeat' (first|refine yO ?_|(refine yM ?_;clear hS;intro g w' hS))
  (focus (refine yD ?_;(repeat' ((refine yP ?_)));all_goals (refine yZ ?_;clear hS;intro w' hS)))
  repeat' ((refine yO ?_))
  refine yR1 ?_
  exact ⟨rfl,hS.sub (List.nil_sublist _)⟩
 ·have hd:(!decide (m.1.page=n.1.page))=true:=by rw [decide_eq_false hp];rfl
  rw [hd,Bool.true_or]
  repeat' (first|refine yO ?_|(refine yM ?_;clear hS;intro g w' hS))
  (focus (refine yD ?_;(repeat' ((refine yP ?_)));all_goals (refine yZ ?_;clear hS;intro w' hS)))
  repeat' ((refine yO ?_))
  refine yR1 ?_
  exact ⟨rfl,hS.sub (List.nil_sublist _)⟩
set_option maxRecDepth 100000 in
set_option maxHeartbeats 8000000 in
theorem alikeN_fn {l:List Nm} {w:World} {v:Value} {n:Nm} {r:List Nm} (hL:Sl nF w 7 v (l.map nmC)) (hl:l=n::r):Fn Try.prog 29 [v] w (RBf (.bool (alikeN l)) w):=by
 obtain ⟨pp,c,rfl⟩:=hL.len
 refine yEn Try.func29 Try.ntmps29 ?_
 have hS:=St.start w
 repeat' (first|refine yO ?_|(refine yM ?_;clear hS;intro g w' hS))
 rename Nat=>g
 have hco:=conNm_fn (caps:=[.pointer (some ⟨g,0,none⟩)]) (p:=unlike n) (k:=56) (hL.now hS) (fun x hx w2 ⟨Γ,h2⟩=>unlike_fn (Bs.of (h2.bs (Bs.of (hS.blkC 0 rfl rfl)))) ((hL.now hS).now h2) hl)
 repeat' (first|refine yO ?_|(refine yC ?_;refine ⟨_,hco,?_⟩;clear hS;intro w' hS))
 refine yR1 ?_
 refine ⟨?_,hS.sub (List.nil_sublist _)⟩
 subst hl
 rw [alike_any]
end Go.Proofs.Ytejnpppejalhfac
