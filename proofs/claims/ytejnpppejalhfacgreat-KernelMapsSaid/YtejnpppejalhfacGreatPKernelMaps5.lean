/- Texts that the proof stands on, one behind the other: As3, As4, Ar6, As5, PlArea3, PlLnk2, PlKer, Sc18, Sc19, Map, Sc20, Sc21, Sc22, Sc23, Bits, BitsF, Choose, Im1. -/
import Derived.MapKept
import Derived.Laws.IdiomCopy
import Derived.Test.YtejnpppejalhfacGreatProg
import Derived.Handy
import Derived.BigQuiet
import Derived.Deep.QuietTactic
import Derived.WalkSpells
import Derived.Lib.QuietBelow
import Derived.Test.YtejnpppejalhfacGreatPKernelMaps4
set_option linter.unusedVariables false
set_option linter.unusedSimpArgs false
namespace Go.Proofs.YtejnpppejalhfacGreat
set_option maxRecDepth 100000
set_option maxHeartbeats 8000000
open Go.RowKit Go.Sort
theorem b4v (L:List Ar):∀ r ∈ L.map arC,r.all (·.oneCell')=true:=fun r hr=>by
 obtain ⟨a,_,rfl⟩:=xh6.1 hr;rfl
theorem b3i (L:List Ar):∀ r ∈ L.map arC,r.length=4:=fun r hr=>by
 obtain ⟨a,_,rfl⟩:=xh6.1 hr;rfl
theorem b3o (L:List Ar):(L.map arC).flatten=a0h L:=by unfold a0h;rw [List.flatMap_def]
theorem x7 {w:World} {v:Value} {L:List Ar} (h:Sl nF w 4 v (L.map arC)):SlAr w v L:=by
 rcases h with ⟨p,c,rfl,h⟩|⟨b,off,cap,rfl,h3,h4,hr⟩
 ·exact xd4 ⟨_,_,rfl,by simpa using h⟩
 ·rw [xi3] at h3 |-;refine xd1 ⟨b,off,cap,rfl,hr.lt,h3,h4,fun i a ha=>?_⟩;have hk:(L.map arC)[i]?=some (arC a):=by simp [ha]
  exact ⟨hr.cells i _ hk 0 _ rfl,hr.cells i _ hk 1 _ rfl,hr.cells i _ hk 2 _ rfl,hr.cells i _ hk 3 _ rfl⟩
theorem a3S {w w':World} {v:Value} {L:List Ar} (h:w'.ownsRow w.heap.size 136 4 v L.length (a0h L)):(Asr.row 136 4 v (L.map arC)).holds w'/\∀ k,(Asr.row 136 4 v (L.map arC)).fp=some k->w.heap.size<=k:=by
 refine ⟨⟨?_,b3i L,b4v L⟩,fun k hk=>(h.lt k hk).1⟩;rw [xi3,b3o];refine ⟨h.1,?_⟩;rcases h.2 with hn|⟨g,cap,cur,rfl,hb,rest⟩
 ·exact xd4 hn
 ·exact xd1 ⟨g,cap,cur,rfl,xf9 _,rest⟩
theorem a6Y {w w':World} {v:Value} {L:List Ar} (h:b0p w.heap.size w' v L) (hb:Below w.heap.size w w'):St nF w w' [.row 136 4 v (L.map arC)]:=by
 obtain ⟨a1,a2⟩:=a3S h;refine ⟨hb.os,hb.tape,hb.output,hb.size,fun k hk _=>hb.block k hk,?_,?_,List.Pairwise.cons (by simp) List.Pairwise.nil⟩
 ·intro A hA;simp at hA;subst hA;exact a1
 ·intro A hA k hk;simp at hA;subst hA;exact xd4 (a2 k hk)
theorem a7I {v:Value} {L:List Ar} {w:World} {page:Int} (h:Sl nF w 4 v (L.map arC)) (hok:∀ (i:Nat) (a:Ar),L[i]?=some a->a.ok) (hlen:L.length<=1000) (hp:1<=page/\page<=600) :
  Fn Tryz.prog 169 [v,.int .i64 page] w (fun u w'=>∃ va vb,u=.tuple #[va,vb]/\St nF w w' [.row 136 4 va ((a1S L page).map arC),.row 136 4 vb ((a05 L page).map arC)]) :=
 ⟨⟨Tryz.f169,Tryz.func169,by kernel_rfl,by kernel_rfl⟩,(b6O (x7 h) hok hlen hp).mono fun e w' ⟨va,vb,he,ha,hb,hap,hbl⟩=>⟨_,he,va,vb,rfl,by
  obtain ⟨a1,a2⟩:=a3S ha;obtain ⟨b1,b2⟩:=a3S hb;refine ⟨hbl.os,hbl.tape,hbl.output,hbl.size,fun k hk _=>hbl.block k hk,?_,?_,?_⟩
  ·intro A hA;simp at hA;rcases hA with rfl|rfl;exact a1;exact b1
  ·intro A hA k hk;simp at hA;rcases hA with rfl|rfl;exact xd4 (a2 k hk);exact xd4 (b2 k hk)
  ·refine List.Pairwise.cons (fun B hB=>?_) (List.Pairwise.cons (by simp) List.Pairwise.nil);simp at hB;subst hB;exact hap⟩⟩
theorem a23 {v:Value} {L:List Ar} {w:World} (h:Sl nF w 4 v (L.map arC)):Fn Tryz.prog 98 [v] w (RBf (.int .i64 (g6 L)) w) :=
 Fn.of_rb ⟨Tryz.func98,by kernel_rfl,by kernel_rfl⟩ (a4v (x7 h))
theorem a7q (page pages prot:Int) (w:World):Fn Tryz.prog 152 [.int .i64 page,.int .i64 pages,.int .i64 prot] w (fun v' w'=>v'=.bool (a1Q page pages prot)/\w'=w) :=
 Fn.of_same ⟨Tryz.func152,by kernel_rfl,by kernel_rfl⟩ (a78 page pages prot w)
theorem b0X {w:World} {c:Nat} {v0 v1 v2:Value} {A B C:List Ar} (hr:RoAt nF w c 0 1 [[v0],[v1],[v2]]) (h0:Sl nF w 4 v0 (A.map arC)) (h1:Sl nF w 4 v1 (B.map arC)) (h2:Sl nF w 4 v2 (C.map arC)) (hA:A.length<=1000) (hB:B.length<=1000) (hC:C.length<=1000) :
  Fn Tryz.prog 171 [.slice (some ⟨c,0,none⟩) 3 3] w (fun u w'=>St nF w w' [.row 136 4 u ((A++(B++C)).map arC)]):=by
 refine ⟨⟨Tryz.f171,Tryz.func171,by kernel_rfl,by kernel_rfl⟩,?_⟩;have H:=a7U (w:=w) c (fun i=>match i with|0=>v0|1=>v1|_=>v2) (fun i=>match i with|0=>A|1=>B|_=>C) hr.lt
  (fun i hi=>by
   match i,hi with
   |0,_=>exact hr.cells 0 _ rfl 0 _ rfl
   |1,_=>exact hr.cells 1 _ rfl 0 _ rfl
   |2,_=>exact hr.cells 2 _ rfl 0 _ rfl)
  (fun i hi=>by
   match i,hi with
   |0,_=>exact x7 h0
   |1,_=>exact x7 h1
   |2,_=>exact x7 h2)
  (fun i hi=>by
   match i,hi with
   |0,_=>exact hA
   |1,_=>exact hB
   |2,_=>exact hC)
 refine H.mono fun e w' ⟨v,he,hs,hb⟩=>⟨v,he,?_⟩;have:=a6Y hs hb
 simpa [cat,List.range_succ] using this
def a2y (L:List Ar) (page pages prot:Int) (C:List Ar->List Ar×Int):List Ar×Int :=
 if n8 L page pages prot≠0 then ([],n8 L page pages prot)
 else if (C (v6 L page (page + pages))).2≠0 then ([],(C (v6 L page (page + pages))).2)
 else (a1b L page (page + pages) (C (v6 L page (page + pages))).1,0)
theorem b3j (L:List Ar) (page pages prot:Int):a2y L page pages prot (fun M=>if M=[] then ([⟨page,pages,prot,true⟩],0) else ([],5))=a0s L page pages prot:=by
 unfold a2y a0s;by_cases h:v6 L page (page + pages)=[] <;> simp [h]
theorem a9M (L:List Ar) (page pages:Int):a2y L page pages 0 (fun _=>([],0))=r5 L page pages:=by
 unfold a2y r5;simp
theorem b1P (L:List Ar) (page pages prot:Int):a2y L page pages prot (fun M=>if k7 M < pages then ([],6) else (x6 prot M,0))=t7 L page pages prot:=by
 unfold a2y t7;by_cases h:k7 (v6 L page (page + pages)) < pages <;> simp [h]
def a3u (R:List Ar×Int) (w:World) (v:Value) (w':World):Prop:=∃ u,v=.tuple #[u,.int .i64 R.2]/\St nF w w' [.row 136 4 u (R.1.map arC)]
def ClF (M R1:List Ar) (R2:Int) (w1:World) (vm:Value) (v:Value) (w2:World):Prop:=∃ u,v=.tuple #[u,.int .i64 R2]/\St (fps [.row 136 4 vm (M.map arC)]) w1 w2 [.row 136 4 u (R1.map arC)]
theorem b0K {l M:List Ar} {q q':Int} (h:j3 1 l) (hq:1<=q) (hqq:q < q') (hM:j3 q M) (hMe:r7 q M<=q'):j3 1 (a1S l q++(M++a05 (a05 l q) q')):=by
 obtain ⟨a1,a2,a3⟩:=a4B q h;rw [show min 1 q=1 by omega] at a2;obtain ⟨b1,b2⟩:=a1p q hq h;rw [show max 1 q=q by omega] at b1;obtain ⟨c1,c2⟩:=a1p q' (by omega) b1;rw [show max q q'=q' by omega] at c1;exact v9.2 ⟨a1,v9.2 ⟨a0C hM a2,a0C c1 (a8R hMe (by omega))⟩⟩
theorem b2v (L:List Ar) (q q':Int):(v6 L q q').length<=L.length:=by
 unfold v6 a1S a05;exact xd3 (xo8 _ _) (xo8 _ _)
theorem a4u {L:List Ar} {page pages prot:Int} (h:g6 L=0) (hs:a1Q page pages prot=true) :
  j3 1 L/\L.length<=255/\1<=page/\page<=255/\1<=pages/\page + pages<=256/\(∀ (i:Nat) (a:Ar),L[i]?=some a->a.ok)/\(a05 L page).length<=255/\(∀ (i:Nat) (a:Ar),(a05 L page)[i]?=some a->a.ok)/\(a1S L page).length<=255/\(a05 (a05 L page) (page + pages)).length<=255:=by
 obtain ⟨hlen,hgood⟩:=k9.1 h;obtain ⟨p1,p2,p3,p4,p5,p6⟩:=(a0J page pages prot).1 hs;have hB:=(a1p page p1 hgood.1).1;have hl:(a05 L page).length<=255:=xd3 (xo8 _ _) hlen;exact ⟨hgood.1,hlen,p1,p2,p3,by omega,y9 hgood,hl,a4c hB,xd3 (xo8 _ _) hlen,xd3 (xo8 _ _) hl⟩
theorem a4x {L:List Ar} {w:World} {v:Value} (page pages prot:Int) (k:FuncId) (caps:List Value) (C:List Ar->List Ar×Int) (hsl:Sl nF w 4 v (L.map arC))
  (hC:g6 L=0->a1Q page pages prot=true->(C (v6 L page (page + pages))).2=0->j3 page (C (v6 L page (page + pages))).1/\r7 page (C (v6 L page (page + pages))).1<=page + pages/\(C (v6 L page (page + pages))).1.length<=255)
  (hcl:∀ w1 vm,St nF w w1 [.row 136 4 vm ((v6 L page (page + pages)).map arC)]->g6 L=0->a1Q page pages prot=true->Fn Tryz.prog k ([vm]++caps) w1 (ClF (v6 L page (page + pages)) (C (v6 L page (page + pages))).1 (C (v6 L page (page + pages))).2 w1 vm)) :
  Fn Tryz.prog 115 [v,.int .i64 page,.int .i64 pages,.int .i64 prot,.func (.func k) #[] caps.toArray] w (a3u (a2y L page pages prot C) w):=by
 refine yEn Tryz.func115 Tryz.ntmps115 (by kernel_rfl) (by kernel_rfl) rfl rfl ?_;have hS:=St.start w;by_cases hc:g6 L=0
 ·by_cases hs:a1Q page pages prot=true
  ·obtain ⟨h1,h2,h3,h4,h5,h6,h7,h8,h9,h10,h11⟩:=a4u hc hs;have hR:a2y L page pages prot C=if (C (v6 L page (page + pages))).2≠0 then ([],(C (v6 L page (page + pages))).2) else (a1b L page (page + pages) (C (v6 L page (page + pages))).1,0):=by
    unfold a2y;rw [show n8 L page pages prot=0 from a1Z.2 ⟨hc,hs⟩];rfl
   rw [hR];have hC:=hC hc hs;have hcl:=fun w1 vm hh=>hcl w1 vm hh hc hs;generalize hM:C (v6 L page (page + pages))=R at *;obtain ⟨R1,R2⟩:=R;simp only at hC |-;clear hM;have hz:(!decide ((0:Int)=0))=false:=rfl;by_cases hr2:R2=0
   ·subst hr2;obtain ⟨r1,r2,r3⟩:=hC rfl
    repeat' (first|(with_reducible apply d5 c9);rfl;rfl;rfl|(with_reducible apply j7);rfl;rfl;omega;omega;rfl|refine yDn (by with_reducible constructor) ?_|(with_reducible apply i9);rfl;rfl|(with_reducible apply a0G hS c9);(iterate 7 rfl);clear hS;intro g w' hS|(with_reducible apply a0j);rfl;all_goals (intro hb hp;try (exfalso;omega))|(with_reducible apply f9 hS);rfl;rfl;rfl;refine ⟨_,a23 hsl,?_⟩;clear hS;intro w' hS|(with_reducible apply a7S);rfl;rfl;rfl;refine ⟨_,hs ▸ a7q page pages prot _,?_⟩|(with_reducible apply l9);rfl;rfl;rfl;refine ⟨_,a7I (hsl.now hS) h7 (by omega) (by omega),?_⟩;rintro _ w' ⟨va,vb,rfl,hS'⟩;replace hS:=hS.transA hS';simp only [t5] at hS;clear hS'|(with_reducible apply l9);rfl;rfl;rfl;refine ⟨_,a7I (hS.rowSl 1 rfl) h9 (by omega) (by omega),?_⟩;rintro _ w' ⟨vm,vc,rfl,hS'⟩;replace hS:=hS.transA hS';simp only [t5] at hS;clear hS'|(with_reducible apply l9);rfl;rfl;rfl;refine ⟨_,hcl _ vm hS.one,?_⟩;rintro _ w' ⟨vu,rfl,hS'⟩;replace hS:=hS.transM1 hS';simp only [t5] at hS;clear hS';obtain ⟨pu,cu,rfl⟩:=hS.rowSlice 0 rfl;obtain ⟨pc,cc,rfl⟩:=hS.rowSlice 1 rfl;obtain ⟨pa,ca,rfl⟩:=hS.rowSlice 2 rfl|(with_reducible apply l9);rfl;rfl;rfl;refine ⟨_,b0X (hS.rowRo 0 rfl) (hS.rowSl 3 rfl) (hS.rowSl 1 rfl) (hS.rowSl 2 rfl) (by omega) (by omega) (by omega),?_⟩;rintro vj w' hS';replace hS:=hS.transA hS';simp only [t5] at hS;clear hS'|(with_reducible apply l9);rfl;rfl;rfl;refine ⟨_,b1S (hS.rowSl 0 rfl) (b0K h1 h3 (by omega) r1 r2) (by simp only [xe5];omega),?_⟩;rintro _ w' hS';replace hS:=hS.transA hS';simp only [t5] at hS;clear hS')
    (refine a1a rfl ?_)
    exact ⟨_,rfl,hS.one⟩
   ·rw [xe6 hr2]
    repeat' (first|(with_reducible apply d5 c9);rfl;rfl;rfl|(with_reducible apply j7);rfl;rfl;omega;omega;rfl|refine yDn (by with_reducible constructor) ?_|(with_reducible apply i9);rfl;rfl|(with_reducible apply a0j);rfl;all_goals (intro hb hp;try (exfalso;omega))|(with_reducible apply f9 hS);rfl;rfl;rfl;refine ⟨_,a23 hsl,?_⟩;clear hS;intro w' hS|(with_reducible apply a7S);rfl;rfl;rfl;refine ⟨_,hs ▸ a7q page pages prot _,?_⟩|(with_reducible apply l9);rfl;rfl;rfl;refine ⟨_,a7I (hsl.now hS) h7 (by omega) (by omega),?_⟩;rintro _ w' ⟨va,vb,rfl,hS'⟩;replace hS:=hS.transA hS';simp only [t5] at hS;clear hS'|(with_reducible apply l9);rfl;rfl;rfl;refine ⟨_,a7I (hS.rowSl 1 rfl) h9 (by omega) (by omega),?_⟩;rintro _ w' ⟨vm,vc,rfl,hS'⟩;replace hS:=hS.transA hS';simp only [t5] at hS;clear hS'|(with_reducible apply l9);rfl;rfl;rfl;refine ⟨_,hcl _ vm hS.one,?_⟩;rintro _ w' ⟨vu,rfl,hS'⟩;replace hS:=hS.transM1 hS';simp only [t5] at hS;clear hS')
    (refine a1a rfl ?_)
    exact ⟨_,rfl,((hS.sub (xi4 _)).addNil _ _)⟩
  ·have hR:a2y L page pages prot C=([],3):=by
    have h3:n8 L page pages prot=3:=by unfold n8;simp [hc,hs]
    unfold a2y;rw [h3];rfl
   rw [hR];rw [xf8] at hs
   repeat' (first|(with_reducible apply d5 c9);rfl;rfl;rfl|refine yDn (by with_reducible constructor) ?_|(with_reducible apply i6);rfl;rfl|(with_reducible apply a0j);rfl;all_goals (intro hb hp;try (exfalso;omega))|(with_reducible apply f9 hS);rfl;rfl;rfl;refine ⟨_,a23 hsl,?_⟩;clear hS;intro w' hS|(with_reducible apply a7S);rfl;rfl;rfl;refine ⟨_,hs ▸ a7q page pages prot _,?_⟩)
   (refine a1a rfl ?_)
   exact ⟨_,rfl,((hS.sub (xi4 _)).addNil _ _)⟩
 ·have hR:a2y L page pages prot C=([],g6 L):=by
   have h3:n8 L page pages prot=g6 L:=by unfold n8;simp [hc]
   unfold a2y;rw [h3];simp [hc]
  rw [hR]
  repeat' (first|(with_reducible apply d5 c9);rfl;rfl;rfl|refine yDn (by with_reducible constructor) ?_|(with_reducible apply a0j);rfl;all_goals (intro hb hp;try (exfalso;omega))|(with_reducible apply f9 hS);rfl;rfl;rfl;refine ⟨_,a23 hsl,?_⟩;clear hS;intro w' hS)
  (refine a1a rfl ?_)
  exact ⟨_,rfl,((hS.sub (xi4 _)).addNil _ _)⟩
theorem b1w {M:List Ar} {w w1:World} {vm:Value} {Γ:List Asr} (h:St nF w w1 (.row 136 4 vm (M.map arC)::Γ)):Fn Tryz.prog 117 [vm] w1 (ClF M [] 0 w1 vm):=by
 refine yEn Tryz.func117 Tryz.ntmps117 (by kernel_rfl) (by kernel_rfl) rfl rfl ?_;have hS:=h.startM1
 repeat' (first|(with_reducible apply d5 c9);rfl;rfl;rfl|refine yDn (by with_reducible constructor) ?_)
 (refine a1a rfl ?_)
 exact ⟨_,rfl,(hS.sub (xi4 _)).addNil _ _⟩
theorem b4V {M:List Ar} {w w1:World} {vm:Value} {Γ:List Asr} {g1 g2 g3:Nat} {page pages prot:Int} (h:St nF w w1 (.row 136 4 vm (M.map arC)::Γ)) (h1:w.cell? ⟨g1,0,none⟩=some (.int .i64 page)) (h2:w.cell? ⟨g2,0,none⟩=some (.int .i64 pages)) (h3:w.cell? ⟨g3,0,none⟩=some (.int .i64 prot)) :
  Fn Tryz.prog 116 [vm,.pointer (some ⟨g1,0,none⟩),.pointer (some ⟨g2,0,none⟩),.pointer (some ⟨g3,0,none⟩)] w1 (ClF M (if M=[] then [⟨page,pages,prot,true⟩] else []) (if M=[] then 0 else 5) w1 vm):=by
 have k1:=h.bsM (Bs.of h1);have k2:=h.bsM (Bs.of h2);have k3:=h.bsM (Bs.of h3);obtain ⟨pm,cm,hv⟩:=h.rowSlice 0 rfl;subst hv;have hS:=h.startM1;refine yEn Tryz.func116 Tryz.ntmps116 (by kernel_rfl) (by kernel_rfl) rfl rfl ?_;by_cases hM:M=[]
 ·subst hM;have e1:(if ([]:List Ar)=[] then [(⟨page,pages,prot,true⟩:Ar)] else [])=[⟨page,pages,prot,true⟩]:=rfl;have e2:(if ([]:List Ar)=[] then (0:Int) else 5)=0:=rfl;rw [e1,e2]
  repeat' (first|(with_reducible apply d5 c9);rfl;rfl;rfl|(with_reducible apply d6);rfl;(apply Ld.sc c9;rfl;exact hS.bs (by assumption));rfl|(with_reducible apply v8 c9);rfl;rfl;exact (rfl:_=some [_,_,_,_]);rfl|refine yDn (by with_reducible constructor) ?_|(with_reducible apply i9);rfl;rfl|(with_reducible apply a0G hS c9);(iterate 7 rfl);clear hS;intro g w' hS)
  (refine a1a rfl ?_)
  exact ⟨_,rfl,hS.one⟩
 ·rw [xe7 hM,xe7 hM];have hl:0 < (M.map arC).length:=by rw [xi3];exact xa3.2 hM
  repeat' (first|(with_reducible apply d5 c9);rfl;rfl;rfl|refine yDn (by with_reducible constructor) ?_|(with_reducible apply d8);rfl;all_goals (intro hb hp;try (exfalso;omega)))
  (refine a1a rfl ?_)
  exact ⟨_,rfl,(hS.sub (xi4 _)).addNil _ _⟩
def prM (prot:Int) (M:List Ar) (i:Nat):List Ar:=x6 prot (M.take i)++M.drop i
theorem b6N {prot:Int} {M:List Ar} {i:Nat} {a:Ar} (ha:M[i]?=some a):((prM prot M i).map arC)[i]?=some (arC a):=by
 have hi:=(xa6.1 ha).1;unfold prM x6;rw [xh0,xa4 (by simp;omega)];simp [show i - min i M.length=0 from by omega,ha]
theorem b4D {prot:Int} {M:List Ar} {i:Nat} {a:Ar} (ha:M[i]?=some a):((prM prot M i).map arC).set i (p9 (arC a) 2 [.int .i64 prot])=(prM prot M (i + 1)).map arC:=by
 have hi:=(xa6.1 ha).1;have h1:M.drop i=a::M.drop (i + 1):=by
  rw [xd8 hi] at ha;rw [List.drop_eq_getElem_cons hi,Option.some.inj ha]
 unfold prM x6;rw [a0W ha,h1];have h2:(List.map arC (List.map (fun a=>({ a with prot:=prot }:Ar)) (List.take i M))).length=i:=by simp;omega
 rw [xj3,xf0 _ _ (by omega),h2];simp [arC,p9]
theorem a3Z {M:List Ar} (hok:∀ (i:Nat) (a:Ar),M[i]?=some a->a.ok) (i:Nat):0<=k7 (M.take i)/\k7 (M.take i)<=255 * (i:Int):=by
 induction i with
 |zero=>simp [k7]
 |succ i ih=>
  cases ha:M[i]? with
  |none=>
   have:M.length<=i:=by simpa using ha
   rw [xa0 (by omega)] at ih |-;omega
  |some a=>
   rw [a2n ha];have:=hok i a ha;unfold Ar.ok at this;omega
theorem b3e {M:List Ar} {w w1:World} {vm:Value} {Γ:List Asr} {g1 g2:Nat} {pages prot:Int} (h:St nF w w1 (.row 136 4 vm (M.map arC)::Γ)) (h1:w.cell? ⟨g1,0,none⟩=some (.int .i64 prot)) (h2:w.cell? ⟨g2,0,none⟩=some (.int .i64 pages)) (hok:∀ (i:Nat) (a:Ar),M[i]?=some a->a.ok) (hlen:M.length<=255) :
  Fn Tryz.prog 118 [vm,.pointer (some ⟨g1,0,none⟩),.pointer (some ⟨g2,0,none⟩)] w1 (ClF M (if k7 M < pages then [] else x6 prot M) (if k7 M < pages then 6 else 0) w1 vm):=by
 have k1:=h.bsM (Bs.of h1);have k2:=h.bsM (Bs.of h2);obtain ⟨pm,cm,hv⟩:=h.rowSlice 0 rfl;rw [xi3] at hv;subst hv;have hS:=h.startM1;generalize hF:fps [Asr.row 136 4 (.slice pm M.length cm) (M.map arC)]=F at *;refine yEn Tryz.func118 Tryz.ntmps118 (by kernel_rfl) (by kernel_rfl) rfl rfl ?_
 repeat' (first|(with_reducible apply d5 c9);rfl;rfl;rfl|refine yDn (by with_reducible constructor) ?_)
 refine a7O (X:=Nat) 0 (fun i=>[(0,.slice pm M.length cm),(2,.pointer (some ⟨g2,0,none⟩)),(1,.pointer (some ⟨g1,0,none⟩)),(8,.slice pm M.length cm),(9,.int .i64 M.length),(10,.int .i64 i),(6,.int .i64 (k7 (M.take i)))])
  (fun i w'=>i<=M.length/\St F w1 w' [.row 136 4 (.slice pm M.length cm) ((prM prot M i).map arC)]) (fun i=>M.length - i) ?_ ⟨by omega,hS⟩ ?_
 ·exact Fr.sub_of rfl
 rintro i w' ⟨hi,hS⟩;by_cases hlt:i < M.length
 ·obtain ⟨a,ha⟩:∃ a,M[i]?=some a:=⟨M[i],by simp [hlt]⟩;have hra:=b6N (prot:=prot) ha;have hrb:=b42 hra (p9 (arC a) 2 [.int .i64 prot]);have hbd:=a3Z hok i;have hst:=a2n ha;have hao:=hok i a ha;unfold Ar.ok at hao;obtain ⟨g0,hp⟩:=hS.rowSome 0 rfl (show 0 < M.length by omega);subst hp;have a2u:=b4D (prot:=prot) ha
  repeat' (first|(with_reducible apply d5 c9);rfl;rfl;rfl|(with_reducible apply d6);rfl;(apply Ld.sc c9;rfl;(first|exact hS.bs (by assumption)|exact hS.rowCj 0 rfl (by assumption) rfl));rfl|(with_reducible apply m8 c9);rfl;rfl;rfl;rfl;omega;rfl|(with_reducible apply j7);rfl;rfl;omega;omega;rfl|refine yDn (by with_reducible constructor) ?_|(with_reducible apply d8);rfl;all_goals (intro hb hp;try (exfalso;omega))|(with_reducible apply t3 hS c9 (i:=0));(iterate 4 rfl);assumption;(iterate 5 rfl);intro w' hS';simp only [List.set] at hS';clear hS;have hS:=hS';clear hS')
  refine a5l (i + 1) ?_ ⟨hlt,?_⟩ (by omega)
  ·rw [hst];exact Fr.sub_of rfl
  ·rw [<- a2u];exact hS
 ·obtain rfl:i=M.length:=by omega
  rw [xg1] at *;have he:prM prot M M.length=x6 prot M:=by unfold prM;simp
  rw [he] at hS;by_cases hs:k7 M < pages
  ·rw [xe6 hs,xe6 hs]
   repeat' (first|(with_reducible apply d5 c9);rfl;rfl;rfl|(with_reducible apply d6);rfl;(apply Ld.sc c9;rfl;exact hS.bs (by assumption));rfl|refine yDn (by with_reducible constructor) ?_|(with_reducible apply d8);rfl;all_goals (intro hb hp;try (exfalso;omega)))
   (refine a1a rfl ?_)
   exact ⟨_,rfl,hF ▸ (hS.sub (xi4 _)).addNil _ _⟩
  ·rw [xe7 hs,xe7 hs]
   repeat' (first|(with_reducible apply d5 c9);rfl;rfl;rfl|(with_reducible apply d6);rfl;(apply Ld.sc c9;rfl;exact hS.bs (by assumption));rfl|refine yDn (by with_reducible constructor) ?_|(with_reducible apply d8);rfl;all_goals (intro hb hp;try (exfalso;omega)))
   (refine a1a rfl ?_)
   exact ⟨_,rfl,hF ▸ hS⟩
theorem b3x {L:List Ar} {page pages prot:Int} (h:g6 L=0) (hs:a1Q page pages prot=true):j3 page (v6 L page (page + pages))/\r7 page (v6 L page (page + pages))<=page + pages/\(v6 L page (page + pages)).length<=255/\∀ (i:Nat) (a:Ar),(v6 L page (page + pages))[i]?=some a->a.ok:=by
 obtain ⟨h1,h2,h3,h4,h5,_⟩:=a4u h hs;obtain ⟨m1,m2,_⟩:=a2z (q:=page) (q':=page + pages) h1 h3 (by omega);exact ⟨m1,m2,xd3 (b2v _ _ _) h2,a4c m1⟩
def Cun (_:List Ar):List Ar×Int:=([],0)
def a9P (page pages prot:Int) (M:List Ar):List Ar×Int:=if M=[] then ([⟨page,pages,prot,true⟩],0) else ([],5)
def Cpr (pages prot:Int) (M:List Ar):List Ar×Int:=if k7 M < pages then ([],6) else (x6 prot M,0)
theorem b36 {L:List Ar} {w:World} {v:Value} (page pages:Int) (hsl:Sl nF w 4 v (L.map arC)):Fn Tryz.prog 64 [v,.int .i64 page,.int .i64 pages] w (a3u (r5 L page pages) w):=by
 rw [<- a9M];refine yEn Tryz.func64 Tryz.ntmps64 (by kernel_rfl) (by kernel_rfl) rfl rfl ?_;have hS:=St.start w
 repeat' (first|(with_reducible apply d5 c9);rfl;rfl;rfl|refine yDn (by with_reducible constructor) ?_|(with_reducible apply l9);rfl;rfl;rfl;refine ⟨_,a4x page pages 0 117 [] Cun (hsl.now hS) (fun _ hs _=>⟨trivial,by have:=(a0J page pages 0).1 hs;show page<=page + pages;omega,by simp [Cun]⟩) (fun w1 vm hh _ _=>b1w hh),?_⟩;rintro _ w' ⟨u,rfl,hS'⟩;replace hS:=hS.transA hS';simp only [t5] at hS;clear hS')
 (refine a1a rfl ?_)
 exact ⟨_,rfl,hS⟩
theorem b6r {L:List Ar} {w:World} {v:Value} (page pages prot:Int) (hsl:Sl nF w 4 v (L.map arC)):Fn Tryz.prog 62 [v,.int .i64 page,.int .i64 pages,.int .i64 prot] w (a3u (a0s L page pages prot) w):=by
 rw [<- b3j];have hC:g6 L=0->a1Q page pages prot=true->(a9P page pages prot (v6 L page (page + pages))).2=0->j3 page (a9P page pages prot (v6 L page (page + pages))).1/\r7 page (a9P page pages prot (v6 L page (page + pages))).1<=page + pages/\(a9P page pages prot (v6 L page (page + pages))).1.length<=255:=fun _ hs h0=>by
  obtain ⟨p1,p2,p3,p4,p5,p6⟩:=(a0J page pages prot).1 hs;unfold a9P at h0 |-;by_cases hM:v6 L page (page + pages)=[]
  ·rw [xe6 hM];refine ⟨⟨⟨p1,p2,p3,by simp only;omega,p5,p6⟩,xl9 _,trivial⟩,?_,by simp⟩;simp [r7,Ar.fin]
  ·rw [xe7 hM] at h0;simp at h0
 refine yEn Tryz.func62 Tryz.ntmps62 (by kernel_rfl) (by kernel_rfl) rfl rfl ?_;have hS:=St.start w
 repeat' (first|(with_reducible apply d5 c9);rfl;rfl;rfl|(with_reducible apply d6);rfl;(apply Ld.sc c9;rfl;(first|exact hS.blkC 0 rfl rfl|exact hS.blkC 1 rfl rfl|exact hS.blkC 2 rfl rfl));rfl|refine yDn (by with_reducible constructor) ?_|(with_reducible apply j6 hS);rfl;rfl;rfl;clear hS;intro g w' hS|(with_reducible apply l9);rfl;rfl;rfl;refine ⟨_,a4x page pages prot 116 [_,_,_] (a9P page pages prot) (hsl.now hS) hC (fun w1 vm hh _ _=>by unfold a9P;have:=b4V hh (hS.blkC 2 rfl rfl) (hS.blkC 1 rfl rfl) (hS.blkC 0 rfl rfl);by_cases hM:v6 L page (page + pages)=[] <;> simpa [hM] using this),?_⟩;rintro _ w' ⟨u,rfl,hS'⟩;replace hS:=hS.transA hS';simp only [t5] at hS;clear hS')
 (refine a1a rfl ?_)
 exact ⟨_,rfl,hS.one⟩
theorem a9k {L:List Ar} {w:World} {v:Value} (page pages prot:Int) (hsl:Sl nF w 4 v (L.map arC)):Fn Tryz.prog 67 [v,.int .i64 page,.int .i64 pages,.int .i64 prot] w (a3u (t7 L page pages prot) w):=by
 rw [<- b1P];have hC:g6 L=0->a1Q page pages prot=true->(Cpr pages prot (v6 L page (page + pages))).2=0->j3 page (Cpr pages prot (v6 L page (page + pages))).1/\r7 page (Cpr pages prot (v6 L page (page + pages))).1<=page + pages/\(Cpr pages prot (v6 L page (page + pages))).1.length<=255:=fun hc hs h0=>by
  obtain ⟨p1,p2,p3,p4,p5,p6⟩:=(a0J page pages prot).1 hs;obtain ⟨m1,m2,m3,m4⟩:=b3x hc hs;unfold Cpr at h0 |-;by_cases hM:k7 (v6 L page (page + pages)) < pages
  ·rw [xe6 hM] at h0;simp at h0
  ·rw [xe7 hM];obtain ⟨s1,s2,_⟩:=a2R prot ⟨p5,p6⟩ m1;exact ⟨s1,by rw [s2];exact m2,by simp [x6,m3]⟩
 refine yEn Tryz.func67 Tryz.ntmps67 (by kernel_rfl) (by kernel_rfl) rfl rfl ?_;have hS:=St.start w
 repeat' (first|(with_reducible apply d5 c9);rfl;rfl;rfl|(with_reducible apply d6);rfl;(apply Ld.sc c9;rfl;(first|exact hS.blkC 0 rfl rfl|exact hS.blkC 1 rfl rfl));rfl|refine yDn (by with_reducible constructor) ?_|(with_reducible apply j6 hS);rfl;rfl;rfl;clear hS;intro g w' hS|(with_reducible apply l9);rfl;rfl;rfl;refine ⟨_,a4x page pages prot 118 [_,_] (Cpr pages prot) (hsl.now hS) hC (fun w1 vm hh hc hs=>by unfold Cpr;obtain ⟨m1,m2,m3,m4⟩:=b3x hc hs;have:=b3e hh (hS.blkC 0 rfl rfl) (hS.blkC 1 rfl rfl) m4 m3;by_cases hM:k7 (v6 L page (page + pages)) < pages <;> simpa [hM] using this),?_⟩;rintro _ w' ⟨u,rfl,hS'⟩;replace hS:=hS.transA hS';simp only [t5] at hS;clear hS')
 (refine a1a rfl ?_)
 exact ⟨_,rfl,hS.one⟩
theorem b6L (p:Option Addr) (c:Nat) (page:Int) (w:World):Calls Tryz.prog 163 #[.slice p 0 c,.int .i64 page,.func (.func 164) #[] #[]] w (a9L [] page w):=by
 go_enter Tryz.func163,Tryz.ntmps163
 go_wp2
 go_loopw [9,10] (fun vi vj wr=>vi=.int .i64 0/\vj=.int .i64 0/\wr=w) (fun _ _ _=>0)
 case atStart=>exact ⟨rfl,rfl,rfl⟩
 case round=>
  obtain ⟨rfl,rfl,rfl⟩:=hrel
  go_wp2
  go_ret2
  exact ⟨0,by simp,rfl,(by repeat ((with_reducible exact Below.refl _ _))),a8F [] page⟩
theorem b67 {v:Value} {L:List Ar} {w:World} (page:Int) (h:SlAr w v L):Calls Tryz.prog 163 #[v,.int .i64 page,.func (.func 164) #[] #[]] w (a9L L page w):=by
 rcases h with ⟨p,c,rfl,rfl⟩|⟨b,off,cap,rfl,h2,h3,h4,h5⟩
 ·exact b6L p c page w
 ·exact b6X b off cap page h2 h3 h4 h5
theorem a2p {page:Int} {a:Ar} (h:a.fin<=page\/page < a.pg):y8 page a=false:=by unfold y8;simp;omega
theorem b3m {L:List Ar} {page:Int} (hg:a1D L) (hI:a3x L page L.length L.length):m9 L page=none :=
 a3E fun j b hj hb=>a2p (xd4 ((hI hg).1 j b hj hb))
theorem b2n {L:List Ar} {page:Int} {i:Nat} {a:Ar} (hg:a1D L) (hI:a3x L page i i) (ha:L[i]?=some a) (h:page < a.pg):m9 L page=none :=
 a3E fun j b hj hb=>by
  rcases xn6 j i with h1|h1
  ·exact a2p (xd4 ((hI hg).1 j b h1 hb))
  ·rcases Nat.lt_or_eq_of_le h1 with h2|h2
   ·have:=a5X hg h2 ha hb;have hk:=y9 hg i a ha;unfold Ar.ok at hk;exact a2p (xd1 (by unfold Ar.fin at this;omega))
   ·subst h2;rw [ha] at hb;cases hb;exact a2p (xd1 h)
theorem b3f {L:List Ar} {page:Int} {i:Nat} {a:Ar} (hg:a1D L) (hI:a3x L page i i) (ha:L[i]?=some a) (h:a.pg<=page):m9 L page=some a :=
 a5V (fun j b hj hb=>a2p (xd4 ((hI hg).1 j b hj hb))) ha (by unfold y8;simp;exact ⟨h,(hI hg).2 i a (xd2 _) ha⟩)
def a1N (L:List Ar) (page:Int):Option Ar:=if g6 L=0 then m9 L page else none
theorem b3a {v:Value} {L:List Ar} {w:World} (page:Int) (h:SlAr w v L):Calls Tryz.prog 112 #[v,.int .i64 page] w (RB (a41 (a1N L page)) w):=by
 have HC:=hid (fun w' (hb:Below w.heap.size w w')=>a4v (h.grown hb));have HS:=hid (fun w' (hb:Below w.heap.size w w')=>b67 page (h.grown hb));have hsz:(Tryz.prog.info? 136).map (·.size)=some 4:=by kernel_rfl
 have Hsz:=hid hsz;clear hsz;have hbw:=Below.refl w.heap.size w
 go_enter Tryz.func112,Tryz.ntmps112
 go_wp2_with (first|(with_reducible refine x8 4 ?_);refine l3 rfl (some 4) rfl (zl4) 136 (by kernel_rfl) w.heap.size w hbw hbw.size ?_;intro g4 wn4 hL4 hB4 hbn hkn hnn;skip;clear hbw hkn hnn;have hbw:=hbn;clear hbn|go_at_call 163;(with_reducible refine (HS.out _ hbw).mono ?_);rintro e wc ⟨i,hi,rfl,hbc,hI⟩;have hL4:=hL4.grown hbc hL4.lt;have hbn:=bt hbw hbc;clear hbw hbc;have hbw:=hbn;clear hbn)
 by_cases hc:g6 L=0
 ·obtain ⟨_,hg⟩:=k9.1 hc;have HQ:Hid (a1N L page=m9 L page):=by refine hid ?_;unfold a1N;rw [xe6 hc]
  rw [hc] at HC;clear hc;by_cases hlt:i < L.length
  ·obtain ⟨a,ha⟩:∃ a,L[i]?=some a:=⟨L[i],by simp [hlt]⟩;rcases h with ⟨p,c,rfl,rfl⟩|⟨b,off,cap,rfl,hbl,hcap,hmax,o4⟩
   ·simp at hlt
   have HL:=hid o4;have hne:((i:Int) == L.length)=false:=by rw [beq_eq_false_iff_ne];omega
   have hli:(i:Int) < L.length:=Int.ofNat_lt.2 hlt;clear o4 hmax;by_cases hp:page < a.pg
   ·have HX:=hid (b2n hg hI ha hp);clear hI
    go_wp2_with (first|(go_at_call 98;(with_reducible refine (HC.out _ hbw).mono ?_);rintro e wk ⟨rfl,hbc⟩);have hL4:=hL4.grown hbc hL4.lt;have hbn:=bt hbw hbc;clear hbw hbc;have hbw:=hbn;clear hbn;obtain ⟨c0,c1,c2,c3⟩:=(HL.out i a ha).grown hbw hbl|(with_reducible refine p7 4 ?_);refine j5 rfl 136 (.tmp 4) (.tmp 32) rfl rfl g4 (zl4) (zl4) rfl rfl hL4 Hsz.out rfl rfl w.heap.size w hbw hB4 ?_;intro wp4 hLn hbn hon;skip;clear hL4 hbw hon;have hL4:=hLn;have hbw:=hbn;clear hLn hbn)
    refine bodyPost_ret (v:=.tuple #[.agg (zl4).toArray,.bool false]) (s4 rfl _ g4 (zl4) (.bool false) _ rfl rfl hL4 Tryz.underlying136 rfl Hsz.out) rfl ⟨by rw [HQ.out,HX.out];rfl,hbw⟩
   ·have HX:=hid (b3f hg hI ha (by omega));clear hI;have hp':decide (page < a.pg)=false:=by simpa using hp
    go_wp2_with (first|(go_at_call 98;(with_reducible refine (HC.out _ hbw).mono ?_);rintro e wk ⟨rfl,hbc⟩);have hL4:=hL4.grown hbc hL4.lt;have hbn:=bt hbw hbc;clear hbw hbc;have hbw:=hbn;clear hbn;obtain ⟨c0,c1,c2,c3⟩:=(HL.out i a ha).grown hbw hbl|(with_reducible refine p7 4 ?_);refine j5 rfl 136 (.tmp 4) (.tmp 36) rfl rfl g4 ([.int .i64 a.pg,.int .i64 a.n,.int .i64 a.prot,.bool a.z]) (zl4) rfl rfl hL4 Hsz.out rfl rfl w.heap.size w hbw hB4 ?_;intro wp4 hLn hbn hon;skip;clear hL4 hbw hon;have hL4:=hLn;have hbw:=hbn;clear hLn hbn)
    refine bodyPost_ret (v:=.tuple #[.agg ([.int .i64 a.pg,.int .i64 a.n,.int .i64 a.prot,.bool a.z]).toArray,.bool true]) (s4 rfl _ g4 ([.int .i64 a.pg,.int .i64 a.n,.int .i64 a.prot,.bool a.z]) (.bool true) _ rfl rfl hL4 Tryz.underlying136 rfl Hsz.out) rfl ⟨by rw [HQ.out,HX.out];rfl,hbw⟩
  ·obtain rfl:i=L.length:=by omega
   have HX:=hid (b3m hg hI);have hlen:∃ n:Nat,n=L.length:=⟨_,rfl⟩;clear hI;rcases h with ⟨p,c,rfl,rfl⟩|⟨b,off,cap,rfl,hbl,hcap,hmax,o4⟩
   ·go_wp2_with (first|(go_at_call 98;(with_reducible refine (HC.out _ hbw).mono ?_);rintro e wk ⟨rfl,hbc⟩);have hL4:=hL4.grown hbc hL4.lt;have hbn:=bt hbw hbc;clear hbw hbc;have hbw:=hbn;clear hbn;skip|(with_reducible refine p7 4 ?_);refine j5 rfl 136 (.tmp 4) (.tmp 32) rfl rfl g4 (zl4) (zl4) rfl rfl hL4 Hsz.out rfl rfl w.heap.size w hbw hB4 ?_;intro wp4 hLn hbn hon;skip;clear hL4 hbw hon;have hL4:=hLn;have hbw:=hbn;clear hLn hbn)
    refine bodyPost_ret (v:=.tuple #[.agg (zl4).toArray,.bool false]) (s4 rfl _ g4 (zl4) (.bool false) _ rfl rfl hL4 Tryz.underlying136 rfl Hsz.out) rfl ⟨by rw [HQ.out,HX.out];rfl,hbw⟩
   ·clear o4 hmax
    go_wp2_with (first|(go_at_call 98;(with_reducible refine (HC.out _ hbw).mono ?_);rintro e wk ⟨rfl,hbc⟩);have hL4:=hL4.grown hbc hL4.lt;have hbn:=bt hbw hbc;clear hbw hbc;have hbw:=hbn;clear hbn;skip|(with_reducible refine p7 4 ?_);refine j5 rfl 136 (.tmp 4) (.tmp 32) rfl rfl g4 (zl4) (zl4) rfl rfl hL4 Hsz.out rfl rfl w.heap.size w hbw hB4 ?_;intro wp4 hLn hbn hon;skip;clear hL4 hbw hon;have hL4:=hLn;have hbw:=hbn;clear hLn hbn)
    refine bodyPost_ret (v:=.tuple #[.agg (zl4).toArray,.bool false]) (s4 rfl _ g4 (zl4) (.bool false) _ rfl rfl hL4 Tryz.underlying136 rfl Hsz.out) rfl ⟨by rw [HQ.out,HX.out];rfl,hbw⟩
 ·have HQ:Hid (a1N L page=none):=by refine hid ?_;unfold a1N;rw [xe7 hc]
  have hn:(g6 L != 0)=true:=by rw [xo9];exact hc
  clear hc;generalize g6 L=ck at *
  go_wp2_with (first|(go_at_call 98;(with_reducible refine (HC.out _ hbw).mono ?_);rintro e wk ⟨rfl,hbc⟩);have hL4:=hL4.grown hbc hL4.lt;have hbn:=bt hbw hbc;clear hbw hbc;have hbw:=hbn;clear hbn;skip|(with_reducible refine p7 4 ?_);refine j5 rfl 136 (.tmp 4) (.tmp 32) rfl rfl g4 (zl4) (zl4) rfl rfl hL4 Hsz.out rfl rfl w.heap.size w hbw hB4 ?_;intro wp4 hLn hbn hon;skip;clear hL4 hbw hon;have hL4:=hLn;have hbw:=hbn;clear hLn hbn)
  refine bodyPost_ret (v:=.tuple #[.agg (zl4).toArray,.bool false]) (s4 rfl _ g4 (zl4) (.bool false) _ rfl rfl hL4 Tryz.underlying136 rfl Hsz.out) rfl ⟨by rw [HQ.out];rfl,hbw⟩
theorem a7X {R:List Ar×Int} {w:World} {e:Ending} {w':World} (h:a1f R w e w'):∃ v,e=.returned v/\a3u R w v w':=by
 obtain ⟨v,he,ho,hb⟩:=h;exact ⟨_,he,v,rfl,a6Y ho hb⟩
theorem b2w {L:List Ar} {w:World} {v:Value} (page pages prot:Int) (hsl:Sl nF w 4 v (L.map arC)):Fn Tryz.prog 68 [v,.int .i64 page,.int .i64 pages,.int .i64 prot] w (a3u (a0s L page pages prot) w) :=
 ⟨⟨_,Tryz.func68,by kernel_rfl,by kernel_rfl⟩,(b1A page pages prot (x7 hsl)).mono fun _ _ h=>a7X h⟩
theorem a90 {L:List Ar} {w:World} {v:Value} (page pages:Int) (hsl:Sl nF w 4 v (L.map arC)):Fn Tryz.prog 69 [v,.int .i64 page,.int .i64 pages] w (a3u (r5 L page pages) w) :=
 ⟨⟨_,Tryz.func69,by kernel_rfl,by kernel_rfl⟩,(a87 page pages (x7 hsl)).mono fun _ _ h=>a7X h⟩
theorem a7W {L:List Ar} {w:World} {v:Value} (page pages prot:Int) (hsl:Sl nF w 4 v (L.map arC)):Fn Tryz.prog 71 [v,.int .i64 page,.int .i64 pages,.int .i64 prot] w (a3u (t7 L page pages prot) w) :=
 ⟨⟨_,Tryz.func71,by kernel_rfl,by kernel_rfl⟩,(a6p page pages prot (x7 hsl)).mono fun _ _ h=>a7X h⟩
theorem b4y {va vb:Value} {A B:List Ar} {w:World} (ha:Sl nF w 4 va (A.map arC)) (hb:Sl nF w 4 vb (B.map arC)):Fn Tryz.prog 59 [va,vb] w (RBf (.bool (decide (A=B))) w) :=
 Fn.of_rb ⟨Tryz.func59,by kernel_rfl,by kernel_rfl⟩ (a5m (x7 ha) (x7 hb))
theorem a6s {v:Value} {L:List Ar} {w:World} (h:Sl nF w 4 v (L.map arC)):Fn Tryz.prog 96 [v] w (RBf (.int .i64 (g6 L)) w) :=
 Fn.of_rb ⟨Tryz.func96,by kernel_rfl,by kernel_rfl⟩ (a3z (x7 h))
theorem b21 {v:Value} {L:List Ar} {w:World} (h:Sl nF w 4 v (L.map arC)) (hc:g6 L=0):Fn Tryz.prog 50 [v] w (RBf (.int .i64 (k7 L)) w) :=
 Fn.of_rb ⟨Tryz.func50,by kernel_rfl,by kernel_rfl⟩ (a9I (x7 h) hc)
theorem a4z {v:Value} {L:List Ar} {w:World} (page:Int) (h:Sl nF w 4 v (L.map arC)) (hok:∀ (i:Nat) (a:Ar),L[i]?=some a->a.ok):Fn Tryz.prog 97 [v,.int .i64 page] w (RBf (a41 (m9 L page)) w) :=
 Fn.of_rb ⟨Tryz.func97,by kernel_rfl,by kernel_rfl⟩ (a9r page (x7 h) hok)
theorem b4F {v:Value} {L:List Ar} {w:World} (page:Int) (h:Sl nF w 4 v (L.map arC)):Fn Tryz.prog 112 [v,.int .i64 page] w (RBf (a41 (a1N L page)) w) :=
 Fn.of_rb ⟨Tryz.func112,by kernel_rfl,by kernel_rfl⟩ (b3a page (x7 h))
theorem a8Z {v:Value} {L:List Ar} {w:World} (h:Sl nF w 4 v (L.map arC)):Fn Tryz.prog 43 [v] w (RBf (.int .i64 (if g6 L=0 then k7 L else 0)) w):=by
 by_cases hc:g6 L=0
 ·rw [xe6 hc];exact Fn.of_rb ⟨Tryz.func43,by kernel_rfl,by kernel_rfl⟩ (a9p (x7 h) hc)
 ·rw [xe7 hc];exact Fn.of_rb ⟨Tryz.func43,by kernel_rfl,by kernel_rfl⟩ (b0U (x7 h) hc)
theorem Sl.nil (w:World) (sz:Nat):Sl nF w sz (.slice none 0 0) []:=xd4 ⟨_,_,rfl,rfl⟩
theorem b15 {L:List Ar}:∀ {e:Int},j3 e L->L≠[]->e + L.length<=256:=by
 induction L with
 |nil=>intro e _ h;exact (h rfl).elim
 |cons a L ih=>
  intro e h _;obtain ⟨h1,h2,h3⟩:=h;unfold Ar.ok at h1;have hf:a.fin=a.pg + a.n:=rfl
  cases L with
  |nil=>simp;omega
  |cons b L=>
   have:=ih h3 (by simp);simp only [xb0] at this |-;omega
theorem a9x {L:List Ar} (h:a1D L):g6 L=0:=by
 refine k9.2 ⟨?_,h⟩;by_cases e:L=[]
 ·subst e;simp
 ·have:=b15 h.1 e;omega
def a8W:Option Ar->Int
 |none=>0
 |some a=>a.mk'
theorem a1h {L:List Ar} (p:Int):∀ {e:Int},j3 e L->f6 L p=a8W (m9 L p):=by
 induction L with
 |nil=>intro e _;rfl
 |cons a L ih=>
  intro e h;obtain ⟨h1,h2,h3⟩:=h;unfold m9 at ih |-;rw [List.find?_cons];by_cases hin:a.pg<=p/\p < a.fin
  ·rw [q9 hin];have:y8 p a=true:=by unfold y8;simp;exact hin
   rw [this];rfl
  ·rw [l7 hin];have:y8 p a=false:=by unfold y8;simp;omega
   rw [this];exact ih h3
theorem a2a {L:List Ar} {p:Int} {a:Ar} (h:j3 1 L) (hf:m9 L p=some a):a.ok:=by
 unfold m9 at hf;obtain ⟨i,hi⟩:=xd6.1 (xh9 hf);exact a4c h i a hi
theorem b08 {L M:List Ar} {p:Int} (hL:a1D L) (hM:a1D M) (h:f6 L p=f6 M p):(m9 L p).isSome=(m9 M p).isSome/\((m9 L p).getD a0r).prot=((m9 M p).getD a0r).prot/\((m9 L p).getD a0r).z=((m9 M p).getD a0r).z:=by
 rw [a1h p hL.1,a1h p hM.1] at h
 cases h1:m9 L p with
 |none=>
  cases h2:m9 M p with
  |none=>exact ⟨rfl,rfl,rfl⟩
  |some b=>rw [h1,h2] at h;have:=a3R (a2a hM.1 h2);unfold a8W at h;simp only at h;omega
 |some a=>
  cases h2:m9 M p with
  |none=>rw [h1,h2] at h;have:=a3R (a2a hL.1 h1);unfold a8W at h;simp only at h;omega
  |some b=>
   rw [h1,h2] at h;obtain ⟨e1,e2⟩:=a9Y (a2a hL.1 h1) (a2a hM.1 h2) h;exact ⟨rfl,e1,e2⟩
theorem a6Q {L:List Ar} {p:Int} (hL:a1D L) (h:f6 L p=0):m9 L p=none:=by
 rw [a1h p hL.1] at h
 cases h1:m9 L p with
 |none=>rfl
 |some a=>rw [h1] at h;have:=a3R (a2a hL.1 h1);unfold a8W at h;simp only at h;omega
theorem a6M {L:List Ar} {p prot:Int} {z:Bool} (hL:a1D L) (hp:0<=prot/\prot<=3) (h:f6 L p=1 + 2 * prot + (if z then 8 else 0)):∃ a,m9 L p=some a/\a.prot=prot/\a.z=z:=by
 rw [a1h p hL.1] at h
 cases h1:m9 L p with
 |none=>rw [h1] at h;unfold a8W at h;simp only at h;split at h <;> omega
 |some a=>
  rw [h1] at h;have h':a.mk'=(⟨1,1,prot,z⟩:Ar).mk':=h;obtain ⟨e1,e2⟩:=a9Y (a2a hL.1 h1) (by unfold Ar.ok;simp only;omega) h';exact ⟨a,rfl,e1,e2⟩
structure b4q (L R:List Ar) (page pages p:Int) (inn:Option Ar->Prop):Prop where
 good:g6 R=0
 out:¬ (page<=p/\p - page < pages)->(a1N R p).isSome=(a1N L p).isSome/\((a1N R p).getD a0r).prot=((a1N L p).getD a0r).prot/\((a1N R p).getD a0r).z=((a1N L p).getD a0r).z
 ins:page<=p/\p - page < pages->inn (a1N R p)
theorem a1r {L:List Ar} {p:Int} (h:g6 L=0):a1N L p=m9 L p:=xe6 h
theorem a7L {L M:List Ar} {page pages p:Int} {inn:Option Ar->Prop} (hc:g6 L=0) (h1:1<=page) (h2:1<=pages) (hM:j3 page M) (hMe:r7 page M<=page + pages)
  (hin:page<=p/\p - page < pages->∀ R,a1D R->f6 R p=f6 M p->inn (m9 R p)):b4q L (a1b L page (page + pages) M) page pages p inn:=by
 have hg:=(k9.1 hc).2;obtain ⟨g1,g2⟩:=a6J hg.1 h1 (by omega) hM hMe;have hcr:=a9x g1;refine ⟨hcr,fun h=>?_,fun h=>?_⟩
 ·rw [a1r hcr,a1r hc];exact b08 g1 hg (by rw [g2 p,xe7 (by omega)])
 ·rw [a1r hcr];exact hin h _ g1 (by rw [g2 p,xe6 (by omega)])
theorem a0Q {L:List Ar} {page pages prot:Int} (h:n8 L page pages prot=0):g6 L=0/\1<=page/\page<=255/\1<=pages/\pages<=256 - page/\0<=prot/\prot<=3:=by
 obtain ⟨h1,h2⟩:=a1Z.1 h;exact ⟨h1,(a0J page pages prot).1 h2⟩
theorem b2h {L:List Ar} {page pages prot:Int} (p:Int) (h:(a0s L page pages prot).2=0):b4q L (a0s L page pages prot).1 page pages p (fun o=>a1N L p=none/\∃ a,o=some a/\a.prot=prot/\a.z=true):=by
 unfold a0s at h |-;by_cases hs:n8 L page pages prot=0
 ·rw [xe7 (fun k=>k hs)] at h |-;by_cases hm:v6 L page (page + pages)=[]
  ·rw [xe6 hm];obtain ⟨hc,p1,p2,p3,p4,p5,p6⟩:=a0Q hs;have hg:=(k9.1 hc).2;refine a7L hc p1 p3 ⟨⟨p1,p2,p3,by simp only;omega,p5,p6⟩,xl9 _,trivial⟩ (by simp [r7,Ar.fin]) (fun hin R hR hpr=>⟨?_,?_⟩)
   ·rw [a1r hc];exact a6Q hg ((a7n hg.1 p1 (by omega)).1 hm p hin.1 (by omega))
   ·refine a6M hR ⟨p5,p6⟩ (z:=true) (hpr.trans ?_);rw [q9 (by unfold Ar.fin;simp only;omega)];rfl
  ·rw [xe7 hm] at h;simp at h
 ·rw [xe6 hs] at h;exact (hs h).elim
theorem a9u {L:List Ar} {page pages:Int} (p:Int) (h:(r5 L page pages).2=0):b4q L (r5 L page pages).1 page pages p (fun o=>o=none):=by
 unfold r5 at h |-;by_cases hs:n8 L page pages 0=0
 ·rw [xe7 (fun k=>k hs)] at h |-;obtain ⟨hc,p1,p2,p3,p4,p5,p6⟩:=a0Q hs;exact a7L hc p1 p3 trivial (by unfold r7;omega) (fun hin R hR hpr=>a6Q hR hpr)
 ·rw [xe6 hs] at h;exact (hs h).elim
theorem b1y {L:List Ar} {page pages prot:Int} (p:Int) (h:(t7 L page pages prot).2=0):b4q L (t7 L page pages prot).1 page pages p (fun o=>∃ a b,o=some a/\a1N L p=some b/\a.prot=prot/\a.z=b.z):=by
 unfold t7 at h |-;by_cases hs:n8 L page pages prot=0
 ·rw [xe7 (fun k=>k hs)] at h |-;by_cases hm:k7 (v6 L page (page + pages)) < pages
  ·rw [xe6 hm] at h;simp at h
  ·rw [xe7 hm];obtain ⟨hc,p1,p2,p3,p4,p5,p6⟩:=a0Q hs;have hg:=(k9.1 hc).2;obtain ⟨m1,m2,m3⟩:=a2z hg.1 p1 (q':=page + pages) (by omega);obtain ⟨s1,s2,s3⟩:=a2R prot ⟨p5,p6⟩ m1;obtain ⟨u1,u2⟩:=a6X m1 m2 (by omega);refine a7L hc p1 p3 s1 (by rw [s2];exact m2) (fun hin R hR hpr=>?_);have hne:f6 L p≠0:=by
    have:=u2.1 (by omega) p hin.1 (by omega);rw [m3 p,xe6 (by omega)] at this;exact this
   cases hb:m9 L p with
   |none=>rw [a1h p hg.1,hb] at hne;exact (hne rfl).elim
   |some b=>
    have hbo:=a2a hg.1 hb;have hpl:f6 L p=b.mk':=by rw [a1h p hg.1,hb];rfl
    rw [s3,m3,xe6 (by omega),hpl] at hpr;have hz:f6 R p=1 + 2 * prot + (if b.z then 8 else 0):=by
     rw [hpr];unfold a0y Ar.mk';unfold Ar.ok at hbo
     cases b.z <;> simp <;> (repeat' split) <;> omega
    obtain ⟨a,ha1,ha2,ha3⟩:=a6M hR ⟨p5,p6⟩ hz;exact ⟨a,b,ha1,by rw [a1r hc];exact hb,ha2,ha3⟩
 ·rw [xe6 hs] at h;exact (hs h).elim
def a0u:Int->List Sh->Bool
 |_,[]=>true
 |last,s::r=>t2 s && (decide (last < s.page) && a0u s.page r)
structure ShsV (w:World) (Lp:List (Sh×Value)) (vs:Value):Prop where
 sl:Sl nF w 3 vs (Lp.map fun p=>shC p.1 p.2)
 fx:∀ p ∈ Lp,ShV w p.1 p.2
theorem ShsV.now {w w':World} {Γ:List Asr} {Lp:List (Sh×Value)} {vs:Value} (h:ShsV w Lp vs) (hS:St nF w w' Γ):ShsV w' Lp vs:=⟨h.sl.now hS,fun p hp=>(h.fx p hp).now hS⟩
def shs (Lp:List (Sh×Value)):List Sh:=Lp.map (·.1)
theorem a1u (Lp:List (Sh×Value)):(shs Lp).length=Lp.length:=by unfold shs;simp
theorem a21 {Lp:List (Sh×Value)} {i:Nat} {p:Sh×Value} (h:Lp[i]?=some p):(shs Lp)[i]?=some p.1:=by unfold shs;rw [xh0,h];rfl
theorem a39 {A:List Ar} (hc:g6 A=0) {p:Int} {a:Ar} (h:m9 A p=some a):a.ok/\1<=p:=by
 have hg:=(k9.1 hc).2;have hok:=a2a hg.1 h;have:=xi0 h;unfold y8 at this;rw [xb2] at this;unfold Ar.ok at hok;exact ⟨hok,by omega⟩
structure Fm where
 data:List UInt8
 refs:Int
 dirty:Bool
 seen:Bool
 deriving DecidableEq
structure Sw where
 data:List UInt8
 refs:Int
 deriving DecidableEq
structure En where
 page:Int
 kind:Int
 at_:Int
 deriving DecidableEq
structure Sc where
 live:Bool
 areas:List Ar
 entries:List En
 deriving DecidableEq
structure Ker where
 sheets:List Sh
 frames:List Fm
 slots:List Sw
 spaces:List Sc
 hand:Int
def fm0:Fm:=⟨[],0,false,false⟩
def sw0:Sw:=⟨[],0⟩
def fmC (f:Fm):List Value:=[.string ⟨f.data.toArray⟩,.int .i64 f.refs,.bool f.dirty,.bool f.seen]
def swC (s:Sw):List Value:=[.string ⟨s.data.toArray⟩,.int .i64 s.refs]
def enC (e:En):List Value:=[.int .i64 e.page,.int .i64 e.kind,.int .i64 e.at_]
structure Sp where
 s:Sc
 va:Value
 ve:Value
def spC (p:Sp):List Value:=[.bool p.s.live,p.va,p.ve]
structure KV where
 sh:List (Sh×Value)
 fr:List Fm
 sl:List Sw
 sp:List Sp
 hand:Int
 vsh:Value
 vfr:Value
 vsl:Value
 vsp:Value
def KV.K (k:KV):Ker:=⟨shs k.sh,k.fr,k.sl,k.sp.map (·.s),k.hand⟩
def kvC (k:KV):List Value:=[k.vsh,k.vfr,k.vsl,k.vsp,.int .i64 k.hand]
structure SpV (w:World) (p:Sp):Prop where
 ar:Sl nF w 4 p.va (p.s.areas.map arC)
 en:Sl nF w 3 p.ve (p.s.entries.map enC)
structure KerV (w:World) (k:KV):Prop where
 sh:ShsV w k.sh k.vsh
 fr:Sl nF w 4 k.vfr (k.fr.map fmC)
 sl:Sl nF w 2 k.vsl (k.sl.map swC)
 sp:Sl nF w 3 k.vsp (k.sp.map spC)
 spv:∀ p ∈ k.sp,SpV w p
theorem SpV.now {w w':World} {Γ:List Asr} {p:Sp} (h:SpV w p) (hS:St nF w w' Γ):SpV w' p:=⟨h.ar.now hS,h.en.now hS⟩
theorem KerV.now {w w':World} {Γ:List Asr} {k:KV} (h:KerV w k) (hS:St nF w w' Γ):KerV w' k:=⟨h.sh.now hS,h.fr.now hS,h.sl.now hS,h.sp.now hS,fun p hp=>(h.spv p hp).now hS⟩
def a7r (l:List Sh) (p:Int):Option Sh:=l.find? fun s=>decide (s.page=p)
def a0L (l:List Sh) (z:Bool) (p:Int):Option (List UInt8):=if z then some (List.replicate 16 0) else (a7r l p).map a65
abbrev Nm:=En×Ar
def nmC (n:Nm):List Value:=[.int .i64 n.1.page,.int .i64 n.1.kind,.int .i64 n.1.at_,.int .i64 n.2.pg,.int .i64 n.2.n,.int .i64 n.2.prot,.bool n.2.z]
def a5s {α:Type} (p:α->Bool) (l:List α):Int:=match l.findIdx? p with
 |some i=>(i:Nat)
 |none=>-1
def a1i (s:Sc) (e:En):Nm:=(e,(m9 s.areas e.page).getD a0r)
def j8 (l:List Sc) (kind at_:Int):List Nm:=l.flatMap fun s=>(s.entries.filter fun e=>decide (e.kind=kind/\e.at_=at_)).map (a1i s)
def a0n (l:List Nm):Bool:=match l with
 |[]=>true
 |n::r=>r.all fun m=>decide (m.1.page=n.1.page/\m.2.z=n.2.z)
def a1C (A:List Ar) (nf ns:Int) (last:Int) (e:En):Bool:=(m9 A e.page).isSome && decide (last < e.page/\((e.kind=1/\0<=e.at_/\e.at_ < nf)\/(e.kind=2/\0<=e.at_/\e.at_ < ns)))
def a03 (A:List Ar) (nf ns:Int):Int->List En->Bool
 |_,[]=>true
 |last,e::r=>a1C A nf ns last e && a03 A nf ns e.page r
def a1q (l:List Sh) (A:List Ar):Bool:=A.all fun a=>(List.range a.n.toNat).all fun i=>(a0L l a.z (a.pg + (i:Nat))).isSome
def r6 (l:List Sh) (nf ns:Int) (s:Sc):Bool:=if s.live then decide (g6 s.areas=0) && (a1q l s.areas && a03 s.areas nf ns 0 s.entries) else decide (s.areas=[]/\s.entries=[])
def o8 (l:List Sc):Int:=(l.map fun s=>k7 s.areas).sum
def a0Y (l:List Sh) (f:Fm) (by_:List Nm):Bool:=match by_ with
 |[]=>decide (f=fm0)
 |n::r=>decide (f.refs=((n::r).length:Int)/\f.data.length=16) && (a0n (n::r) && (f.dirty||decide (some f.data=a0L l n.2.z n.1.page)))
def a1A (s:Sw) (by_:List Nm):Bool:=match by_ with
 |[]=>decide (s=sw0)
 |n::r=>decide (s.refs=((n::r).length:Int)/\s.data.length=16) && a0n (n::r)
def a0t (K:Ker):Bool:=(List.range K.frames.length).all fun i=>match K.frames[i]? with
 |some f=>a0Y K.sheets f (j8 K.spaces 1 (i:Nat))
 |none=>true
def a1j (K:Ker):Bool:=(List.range K.slots.length).all fun i=>match K.slots[i]? with
 |some s=>a1A s (j8 K.spaces 2 (i:Nat))
 |none=>true
def a1s (K:Ker):Bool:=decide (3<=K.frames.length/\K.frames.length<=64/\K.slots.length<=512/\1<=K.spaces.length/\K.spaces.length<=4/\K.sheets.length<=255)
def b4R (K:Ker):Bool:=K.spaces.all (r6 K.sheets K.frames.length K.slots.length)
def a4U (K:Ker):Bool:=(a0u 0 K.sheets && decide (0<=K.hand/\K.hand < K.frames.length)) && (b4R K && (decide (o8 K.spaces<=K.slots.length) && (a0t K && a1j K)))
def a09 (K:Ker):Int:=if a1s K=true then (if a4U K=true then 0 else 1) else 2
def lbd (l:List Int) (t:Int):Nat:=(l.takeWhile fun p=>decide (p < t)).length
theorem b20 {l:List Int} {t:Int} {i:Nat} (hi:i<=l.length) (h1:∀ (j:Nat) (p:Int),j < i->l[j]?=some p->p < t) (h2:∀ (p:Int),l[i]?=some p->t<=p):lbd l t=i:=by
 unfold lbd
 induction l generalizing i with
 |nil=>simp at hi;subst hi;rfl
 |cons a l ih=>
  cases i with
  |zero=>
   have:=h2 a rfl;rw [List.takeWhile_cons,xe7 (by simpa using this)];rfl
  |succ i=>
   have:=h1 0 a (by omega) rfl;rw [List.takeWhile_cons,xe6 (by simpa using this),xb0,ih (by simpa using hi) (fun j p hj hp=>h1 (j + 1) p (by omega) (by simpa using hp)) (fun p hp=>h2 p (by simpa using hp))]
def Rises (l:List Int):Prop:=l.Pairwise (·< ·)
theorem Rises.at_ {l:List Int} (h:Rises l) {i j:Nat} {a b:Int} (hij:i < j) (ha:l[i]?=some a) (hb:l[j]?=some b):a < b:=by
 obtain ⟨h1,rfl⟩:=xa6.1 ha;obtain ⟨h2,rfl⟩:=xa6.1 hb;exact xd5.1 h i j h1 h2 hij
theorem b43 {l:List Int} (h:Rises l) {i:Nat} {t:Int} (hi:l[i]?=some t):lbd l t=i :=
 b20 (Nat.le_of_lt (f7 hi)) (fun _ _ hj hp=>h.at_ hj hp hi) (fun p hp=>by rw [hi] at hp;cases hp;exact xl9 _)
theorem a5S {l:List Int} (h:Rises l) (t:Int):(l[lbd l t]?=some t) ↔ t ∈ l:=by
 constructor
 ·intro hh;exact xc8 hh
 ·intro hm;obtain ⟨i,hi⟩:=xd6.1 hm;rw [b43 h hi];exact hi
theorem a8p {α:Type} {p:α->Bool} {l:List α} {k:Nat} {x:α} (h:(l.take k).all (fun y=>!p y)=true) (hx:l[k]?=some x) (hp:p x=true):a5s p l=(k:Nat):=by
 unfold a5s;have:l.findIdx? p=some k:=by
  rw [xk5];obtain ⟨h1,rfl⟩:=xa6.1 hx;refine ⟨h1,hp,fun j hj=>?_⟩;have:=xc6.1 h l[j] (xd6.2 ⟨j,by rw [xe9];simp [hj]⟩)
  simpa using this
 rw [this]
theorem a63 {α:Type} {p:α->Bool} {l:List α} {k:Nat} (h:(l.take k).all (fun y=>!p y)=true) (hk:l.length<=k):a5s p l=-1:=by
 unfold a5s;rw [xa0 hk] at h;have:l.findIdx? p=none:=by
  rw [xk4];intro x hx;have:=xc6.1 h x hx
  simpa using this
 rw [this]
theorem b18 {α:Type} {p:α->Bool} {l:List α}:decide (0<=a5s p l)=l.any p:=by
 unfold a5s
 cases h:l.findIdx? p with
 |none=>
  rw [xk4] at h
  symm
  rw [show decide (0<=(-1:Int))=false from rfl,List.any_eq_false];intro x hx;simp [h x hx]
 |some i=>
  rw [xk5] at h;obtain ⟨h1,h2,-⟩:=h;rw [xi8 (by omega:(0:Int)<=((i:Nat):Int))]
  symm
  rw [xo0];exact ⟨l[i],by simp,h2⟩
section
variable {P:Program} {n:Nat} {ds:List Deferred} {E:Fr} {w:World} {Q:Exit->Act->World->Prop} {ops:Array Oper} {rest:List Oper} {d:Nat} {dst:Option Nat} {op:Op} {ty:TypeId} {pos:String} {after:Array Edge} {T:Tab}
end
section
variable {P:Program} {n:Nat} {ds:List Deferred} {E:Fr} {w:World} {Q:Exit->Act->World->Prop} {ops:Array Oper} {S:World->Prop} {q fuel:Nat} {li:Array Bool} {d:Nat} {op:Op} {ty:TypeId} {pos:String} {after:Array Edge} {T:Tab}
theorem Gets.pure {dst:Option Nat} {op:Op} {v:Value} (hT:TabOk P T) (hv:w7 T E op=some v):Gets P ⟨dst,op,ty,pos,after,none⟩ n ds E w (fun v' w'=>v'=v/\w'=w):=Gets.of_runs fun _ ha=>m7 hT ha hv
theorem Gets.build {dst:Option Nat} (hT:TabOk P T) {t s:Nat} {fs:List (Nat×Nat×Bool)} {z L:List Value} {parts:Array (Nat×Operand)} {ps:List (Nat×Value)} (ht:T.get t=some (.st s fs z)) (hp:evP E parts.toList=some ps) (hL:a1E (fun i=>(fs[i]?).map fun f=>(f.1,f.2.1)) z ps=some L):Gets P ⟨dst,.build t parts,ty,pos,after,none⟩ n ds E w (fun v' w'=>v'=.agg L.toArray/\w'=w):=Gets.of_runs fun _ ha=>a3q hT ht hp hL _ ha
end
theorem Sl.nil0 (w:World) (sz:Nat):Sl nF w sz (.slice none 0 0) []:=xd4 ⟨_,_,rfl,rfl⟩
section
variable {F:Nat->Prop} {w0 w w':World} {Γ Δ:List Asr}
def a8X {α:Type} (l:List α):List Nat->Option (List α)
 |[]=>some []
 |i::r=>match l[i]?,a8X l r with
  |some x,some xs=>some (x::xs)
  |_,_=>none
theorem a35 {α:Type} {l:List α}:∀ {is:List Nat} {xs:List α},a8X l is=some xs->∀ (k:Nat) (x:α),xs[k]?=some x->∃ i,is[k]?=some i/\l[i]?=some x:=by
 intro is
 induction is with
 |nil=>intro xs h k x hx;cases h;simp at hx
 |cons i r ih=>
  intro xs h k x hx;unfold a8X at h
  split at h
  ·rename_i y ys h1 h2
   cases h
   cases k with
   |zero=>simp at hx;subst hx;exact ⟨i,rfl,h1⟩
   |succ k=>simpa using ih h2 k x (by simpa using hx)
  ·cases h
theorem St.reorder (is:List Nat) (h:St F w0 w Γ) (hn:is.Nodup) (hp:a8X Γ is=some Δ):St F w0 w Δ:=by
 have hmem:∀ A ∈ Δ,A ∈ Γ:=fun A hA=>by
  obtain ⟨k,hk⟩:=xd6.1 hA;obtain ⟨i,_,hi⟩:=a35 hp k A hk;exact xc8 hi
 refine ⟨h.os,h.tape,h.output,h.size,h.base,fun A hA=>h.holds A (hmem A hA),fun A hA=>h.own A (hmem A hA),?_⟩;rw [xd5];intro j k hj hk hlt;obtain ⟨a,ha,ha2⟩:=a35 hp j _ (xd8 hj);obtain ⟨b,hb,hb2⟩:=a35 hp k _ (xd8 hk);refine a4w h.apart ha2 hb2 (fun e=>?_);subst e;obtain ⟨h1,h2⟩:=xa6.1 ha;obtain ⟨h3,h4⟩:=xa6.1 hb;have:=xd5.1 hn j k h1 h3 hlt;exact this (h2.trans h4.symm)
end
section
variable {P:Program} {n:Nat} {ds:List Deferred} {E:Fr} {w:World} {Q:Exit->Act->World->Prop} {ops:Array Oper} {rest:List Oper} {d:Nat} {ty:TypeId} {pos:String} {after:Array Edge}
theorem a7t {F:Nat->Prop} {w0:World} {Γ:List Asr} {id:Nat} {l:List Oper} (m:Nat) (hl:l.length=m) (hS:St F w0 w Γ) (hm:P.follows .mixedOrders=true) (h:∀ w1,St F w0 w1 Γ->WA P l.toArray Q (fun w'=>St F w0 w' Γ) m (Array.replicate m false) n ds E w1):WC P (.region id l.toArray true) Q n ds E w:=b27 _ m hl hS hm h
theorem a2f {i:Nat} (_C:Nn i) {S:World->Prop} {fuel:Nat} {li:Array Bool} {op:Op} {v:Value} (hi:ops[i]?=some ⟨some d,op,ty,pos,after,none⟩) (hs:Region.noSelect ops=true) (hf:Region.free .any ops li i=true) (hr:(Region.ready .any ops li).contains i=true)
  (hQ:∀ c (a:Act) w,Q (.panic c) (a.put (some d) v) w->Q (.panic c) a w) (hS:S w) (h:∀ a,Has n ds a E->a0S P ⟨some d,op,ty,pos,after,none⟩ a v) (hd:Nat.blt d n=true) (k:WA P ops Q S fuel (li.setIfInBounds i true) n ds ((d,v)::E) w):WA P ops Q S (fuel + 1) li n ds E w:=fun a ha=>
 wpAnyH_take hi hs hf hr hQ (xd4 ⟨rfl,fun w _=>h a ha w⟩) hS (k _ (ha.put d v hd))
theorem b6c {i:Nat} (_C:Nn i) {T:Tab} {S:World->Prop} {fuel:Nat} {li:Array Bool} (hT:TabOk P T) {t:TypeId} {x y:Operand} {el sz eb b off m c j:Nat} {ag:Bool} {z:List Value} {ii:Int} (hi:ops[i]?=some ⟨some d,.indexAddr t x y,ty,pos,after,none⟩) (hs:Region.noSelect ops=true) (hf:Region.free .any ops li i=true) (hr:(Region.ready .any ops li).contains i=true)
  (hQ:∀ c (a:Act) w v,Q (.panic c) (a.put (some d) v) w->Q (.panic c) a w) (hS:S w) (ht:T.get t=some (.sl el sz eb ag z)) (hx:E.ev x=some (.slice (some ⟨b,off,none⟩) m c)) (hy:E.ev y=some (.int .i64 ii)) (hj:(j:Int)=ii) (hm:j < m) (hd:Nat.blt d n=true) (k:WA P ops Q S fuel (li.setIfInBounds i true) n ds ((d,.pointer (some ⟨b,off + j * sz,none⟩))::E) w):WA P ops Q S (fuel + 1) li n ds E w :=
 a2f _C hi hs hf hr (fun c a w h=>hQ c a w _ h) hS (fun a ha=>a7y hT ht hx hy hj hm a ha _) hd k
end
end Go.Proofs.YtejnpppejalhfacGreat
namespace Go.Proofs.YtejnpppejalhfacGreat
set_option maxRecDepth 100000
set_option maxHeartbeats 8000000
open Go.RowKit Go.MapKept
structure MapAt (d:TypeDesc) (w:World) (r:Nat) (L:List (Value×Value)):Prop where
 held:∃ es c,w.heap[r]?=some (.map es c)/\es.toList.map (fun e=>(e.key,e.val))=L
 keys:∀ p ∈ L,IsKey d p.1
 once:(L.map (·.1)).Nodup
section
variable {P:Program} {d:TypeDesc} {w w':World} {r:Nat} {L:List (Value×Value)} {T K E:TypeId} {k v:Value}
theorem MapAt.lt (h:MapAt d w r L):r < w.heap.size:=by
 obtain ⟨es,c,hb,_⟩:=h.held;exact (xb7.1 hb).1
theorem MapAt.keep (h:MapAt d w r L) (hk:w'.heap[r]?=w.heap[r]?):MapAt d w' r L:=by
 obtain ⟨es,c,hb,hl⟩:=h.held;exact ⟨⟨es,c,hk.trans hb,hl⟩,h.keys,h.once⟩
theorem MapAt.below {B:Nat} (h:MapAt d w r L) (hb:Below B w w') (hr:r < B):MapAt d w' r L:=h.keep (hb.block r hr)
theorem MapAt.grown (h:MapAt d w r L) (hb:Below w.heap.size w w'):MapAt d w' r L:=h.below hb h.lt
theorem a4Q (hk:IsKey d k):∀ (l:List MapEntry) (i:Nat),(∀ e ∈ l,IsKey d e.key)->((l.map (·.key)).Nodup)->(∃ e ∈ l,e.key=k/\e.val=v)->∃ j,j < l.length/\Instr.findNow d k l i=some (some (i + j,v))/\((l[j]?).map (·.key))=some k:=by
 intro l i hl hn ⟨e,he,hek,hev⟩;rcases findNow_spec hk l i hl with ⟨_,h2⟩|⟨j,e',h1,h2,h3⟩
 ·exact (h2 e he hek).elim
 ·have hj:j < l.length:=(xa6.1 h2).1;have e':e'=e:=by
   obtain ⟨j2,hj2,hje⟩:=List.getElem_of_mem he;have a1:l[j]=e':=(xa6.1 h2).2;have:j=j2:=by
    have hnd:=xd5.1 hn;rcases Nat.lt_trichotomy j j2 with hlt|heq|hgt
    ·exact (hnd j j2 (by simpa using hj) (by simpa using hj2) hlt (by simp [a1,hje,h3,hek])).elim
    ·exact heq
    ·exact (hnd j2 j (by simpa using hj2) (by simpa using hj) hgt (by simp [a1,hje,h3,hek])).elim
   subst this;rw [<- a1,hje]
  subst e';exact ⟨j,hj,by rw [h1,hev],by rw [h2];simp [h3]⟩
theorem a4b (hk:IsKey d k) (l:List MapEntry) (i:Nat) (hl:∀ e ∈ l,IsKey d e.key) (hno:∀ e ∈ l,e.key≠k):Instr.findNow d k l i=some none:=by
 rcases findNow_spec hk l i hl with ⟨h1,_⟩|⟨j,e,_,h2,h3⟩
 ·exact h1
 ·exact (hno e (xc8 h2) h3).elim
theorem a5r (ht:P.underlying T=some (.map K E)) (hd:P.underlying K=some d) (h:MapAt d w r L) (hk:IsKey d k) (hm:(k,v) ∈ L) (ok:Bool) :
  (Instr.lookup T (.map (some r)) k ok).run P w=.ok (if ok then .tuple #[v,.bool true] else v) w:=by
 obtain ⟨es,c,hb,rfl⟩:=h.held;obtain ⟨e,he,hee⟩:=xh6.1 hm;simp only [Prod.mk.injEq] at hee;have hkeys:∀ e ∈ es.toList,IsKey d e.key:=fun e he=>h.keys (e.key,e.val) (xh6.2 ⟨e,he,rfl⟩);have hnd:(es.toList.map (·.key)).Nodup:=by have:=h.once;simpa [xn0,Function.comp_def] using this
 obtain ⟨j,_,hf,_⟩:=a4Q (v:=v) hk es.toList 0 hkeys hnd ⟨e,he,hee.1,hee.2⟩;have h1:=run_checkKey (P:=P) (w:=w) hd hk es.isEmpty 9999;have h2:=run_findKey (P:=P) (w:=w) hd hf
 cases ok <;> simp [Instr.lookup,run_underlying ht,Go.MapKept.run_getObj_map hb,h1,h2,Result.andThen]
theorem a49 (ht:P.underlying T=some (.map K E)) (hd:P.underlying K=some d) (h:MapAt d w r L) (hk:IsKey d k) (hm:∀ v,(k,v) ∉ L) {z:Value} (hz:(zeroValue E).run P w=.ok z w) (ok:Bool) :
  (Instr.lookup T (.map (some r)) k ok).run P w=.ok (if ok then .tuple #[z,.bool false] else z) w:=by
 obtain ⟨es,c,hb,rfl⟩:=h.held;have hkeys:∀ e ∈ es.toList,IsKey d e.key:=fun e he=>h.keys (e.key,e.val) (xh6.2 ⟨e,he,rfl⟩);have hf:=a4b hk es.toList 0 hkeys (fun e he hek=>hm e.val (xh6.2 ⟨e,he,by rw [<- hek]⟩));have h1:=run_checkKey (P:=P) (w:=w) hd hk es.isEmpty 9999;have h2:=run_findKey (P:=P) (w:=w) hd hf
 cases ok <;> simp [Instr.lookup,run_underlying ht,Go.MapKept.run_getObj_map hb,h1,h2,hz,Result.andThen]
end
end Go.Proofs.YtejnpppejalhfacGreat
namespace Go.Proofs.YtejnpppejalhfacGreat
set_option maxRecDepth 100000
set_option maxHeartbeats 8000000
open Go.RowKit Go.Sort Go.MapKept
structure MapG (D:TypeDesc) (es:Array MapEntry) (L:List (Value×Value)):Prop where
 held:es.toList.map (fun e=>(e.key,e.val))=L
 keys:∀ p ∈ L,IsKey D p.1
 once:(L.map (·.1)).Nodup
theorem MapG.nil (D:TypeDesc):MapG D #[] []:=⟨rfl,by simp,by simp⟩
theorem MapG.at_ {D:TypeDesc} {w:World} {r c:Nat} {es:Array MapEntry} {L:List (Value×Value)} (h:MapG D es L) (hr:w.heap[r]?=some (.map es c)):MapAt D w r L:=⟨⟨es,c,hr,h.held⟩,h.keys,h.once⟩
theorem MapG.size {D:TypeDesc} {es:Array MapEntry} {L:List (Value×Value)} (h:MapG D es L):es.size=L.length:=by
 have:=congrArg List.length h.held
 simpa using this
section
variable {P:Program} {n:Nat} {ds:List Deferred} {E:Fr} {w:World} {Q:Exit->Act->World->Prop} {ops:Array Oper} {rest:List Oper} {d:Nat} {dst:Option Nat} {ty:TypeId} {pos:String} {after:Array Edge} {F:Nat->Prop} {w0:World} {Γ:List Asr} {T:Tab} {D:TypeDesc}
theorem b6Q (hS:St F w0 w Γ) {t Kt Et:TypeId} {m x:Operand} {r c i:Nat} {es:Array MapEntry} {L:List (Value×Value)} {k v:Value} (ht:P.underlying t=some (.map Kt Et)) (hK:P.underlying Kt=some D) (hm:E.ev m=some (.map (some r))) (hx:E.ev x=some k) (hi:Γ[i]?=some (.obj r (.map es c))) (hL:MapG D es L) (hk:IsKey D k) (hv:(k,v) ∈ L) (ok:Bool) :
  Gets P ⟨dst,.lookup t m x ok,ty,pos,after,none⟩ n ds E w (fun v' w'=>v'=(if ok then .tuple #[v,.bool true] else v)/\w'=w):=Gets.of_at fun a ha=>by
 have hat:=hL.at_ (hS.at_ hi).1;have hrun:=a5r ht hK hat hk hv ok;simp only [execOp,ha.ev hm,ha.ev hx,Sem.run_bind,hrun,Result.andThen_ok,Sem.run_pure]
theorem b4u (hS:St F w0 w Γ) {t Kt Et:TypeId} {m x:Operand} {r c i:Nat} {es:Array MapEntry} {L:List (Value×Value)} {k z:Value} (ht:P.underlying t=some (.map Kt Et)) (hK:P.underlying Kt=some D) (hz:(P.info? Et).bind (·.zero)=some z) (hm:E.ev m=some (.map (some r))) (hx:E.ev x=some k) (hi:Γ[i]?=some (.obj r (.map es c))) (hL:MapG D es L) (hk:IsKey D k) (hv:∀ v,(k,v) ∉ L) (ok:Bool) :
  Gets P ⟨dst,.lookup t m x ok,ty,pos,after,none⟩ n ds E w (fun v' w'=>v'=(if ok then .tuple #[z,.bool false] else z)/\w'=w):=Gets.of_at fun a ha=>by
 have hat:=hL.at_ (hS.at_ hi).1;obtain ⟨zi,hzi,hz2⟩:=xn1.1 hz;have hz':(zeroValue Et).run P w=.ok z w:=by simp [zeroValue,typeInfo,hzi,hz2]
 have hrun:=a49 ht hK hat hk hv hz' ok;simp only [execOp,ha.ev hm,ha.ev hx,Sem.run_bind,hrun,Result.andThen_ok,Sem.run_pure]
theorem b3U {t Kt Et:TypeId} {r c:Nat} {es:Array MapEntry} {L:List (Value×Value)} {k u v:Value} (ht:P.underlying t=some (.map Kt Et)) (hK:P.underlying Kt=some D) (hr:w.heap[r]?=some (.map es c)) (hL:MapG D es L) (hk:IsKey D k) (hm:(k,u) ∈ L) :
  ∃ es' j,(Instr.mapUpdate t (.map (some r)) k v).run P w=.ok () { w with heap:=w.heap.setIfInBounds r (.map es' c) }/\(∃ u',L[j]?=some (k,u'))/\MapG D es' (L.set j (k,v)):=by
 have hat:=hL.at_ hr;have hkeys:∀ e ∈ es.toList,IsKey D e.key:=fun e he=>hat.keys (e.key,e.val) (by rw [<- hL.held];exact xh6.2 ⟨e,he,rfl⟩);have hnd:(es.toList.map (·.key)).Nodup:=by
  have:=hat.once;rw [<- hL.held,xn0] at this;exact this
 have hmem:∃ e ∈ es.toList,e.key=k/\e.val=u:=by
  have:((k,u):Value×Value) ∈ es.toList.map (fun e=>(e.key,e.val)):=by rw [hL.held];exact hm
  obtain ⟨e,he,h2⟩:=xh6.1 this;simp only [Prod.mk.injEq] at h2;exact ⟨e,he,h2⟩
 obtain ⟨j,hj,hf,hkj⟩:=a4Q (v:=u) hk es.toList 0 hkeys hnd hmem;rw [xa8] at hf;have h1:=run_checkKey (P:=P) (w:=w) hK hk false 9999;have h2:=run_findKey (P:=P) (w:=w) hK hf;have hjs:j < es.size:=by simpa using hj
 have hkj':(es[j]?.map (·.key)).getD k=k:=by
  rw [show es[j]?=es.toList[j]? by simp,hkj];rfl
 have h3:=run_keyThatStays (P:=P) (w:=w) hk;have hLj:∃ u',L[j]?=some (k,u'):=by
  have h4:=congrArg (fun l=>l[j]?) hL.held;simp only [xh0] at h4;have h5:es.toList[j]?=some es[j]:=by simp [hjs]
  rw [h5] at h4 hkj;simp only [xh1,Option.some.injEq] at h4 hkj;exact ⟨es[j].val,by rw [<- h4,hkj]⟩
 refine ⟨es.modify j fun e=>{ e with key:=k,val:=v },j,?_,hLj,⟨?_,?_,?_⟩⟩
 ·simp only [Instr.mapUpdate,run_underlying ht,Go.MapKept.run_getObj_map hr,h1,h2,Result.andThen_ok,Sem.run_bind,hkj',h3,run_setObj_map _ hr]
 ·refine xg6 fun m=>?_;rw [<- hL.held,Array.toList_modify,xh0,List.getElem?_modify,xd7,xh0,xi3];by_cases e:j=m
  ·subst e;have:es.toList[j]?=some es[j]:=by simp [hjs]
   rw [this,xe6 rfl,xe6 hj];simp
  ·simp [e]
 ·intro p hp;rcases xm3 hp with h|h
  ·exact hL.keys p h
  ·rw [h];exact hk
 ·obtain ⟨u',hq⟩:=hLj;rw [xk6];have:(L.map (·.1)).set j k=L.map (·.1):=by
   refine xg6 fun m=>?_;rw [xd7]
   split
   ·rename_i e;subst e;simp only [xi3,xh0,hq,xh1];rw [xe6 (f7 hq)]
   ·rfl
  rw [show (k,v).1=k from rfl,this];exact hL.once
theorem b2e {t Kt Et:TypeId} {r c:Nat} {es:Array MapEntry} {L:List (Value×Value)} {k v:Value} (ht:P.underlying t=some (.map Kt Et)) (hK:P.underlying Kt=some D) (hr:w.heap[r]?=some (.map es c)) (hL:MapG D es L) (hk:IsKey D k) (hm:∀ v,(k,v) ∉ L) :
  ∃ es' c',(Instr.mapUpdate t (.map (some r)) k v).run P w=.ok () { w with heap:=w.heap.setIfInBounds r (.map es' c') }/\MapG D es' (L++[(k,v)]):=by
 have hat:=hL.at_ hr;have hkeys:∀ e ∈ es.toList,IsKey D e.key:=fun e he=>hat.keys (e.key,e.val) (by rw [<- hL.held];exact xh6.2 ⟨e,he,rfl⟩);have hno:∀ e ∈ es.toList,e.key≠k:=fun e he hek=>by
  have:(e.key,e.val) ∈ L:=by rw [<- hL.held];exact xh6.2 ⟨e,he,rfl⟩
  exact hm e.val (by rw [<- hek];exact this)
 have hf:=a4b hk es.toList 0 hkeys hno;have h1:=run_checkKey (P:=P) (w:=w) hK hk false 9999;have h2:=run_findKey (P:=P) (w:=w) hK hf;refine ⟨es.push { key:=k,val:=v,born:=c },c + 1,?_,⟨by simp [hL.held],fun p hp=>?_,?_⟩⟩
 ·simp only [Instr.mapUpdate,run_underlying ht,Go.MapKept.run_getObj_map hr,h1,h2,Result.andThen_ok,Sem.run_bind,run_setObj_map _ hr]
 ·rcases xd9.1 hp with h|h
  ·exact hL.keys p h
  ·have:p=(k,v):=by simpa using h
   rw [this];exact hk
 ·rw [xj3,List.nodup_append];refine ⟨hL.once,by simp,fun a ha b hb'=>?_⟩;have:b=k:=by simpa using hb'
  subst this;rintro rfl;obtain ⟨p,hp,hpk⟩:=xh6.1 ha;exact hm p.2 (by rw [<- hpk];exact hp)
theorem St.updMap (hS:St F w0 w Γ) {r c i:Nat} {es:Array MapEntry} (hi:Γ[i]?=some (.obj r (.map es c))) (es':Array MapEntry) (c':Nat):St F w0 { w with heap:=w.heap.setIfInBounds r (.map es' c') } (Γ.set i (.obj r (.map es' c'))):=by
 have hr:=(hS.at_ hi).1;have a2u:=heap_set (o':=Obj.map es' c') hr;exact hS.upd hi ⟨rfl,rfl,rfl,by simp,fun g _ hg=>a2u.2 g (fun e=>hg (by simp [Asr.fp,e]))⟩ ⟨a2u.1,rfl⟩ (fun q hq=>xd4 hq)
theorem b6n (hS:St F w0 w Γ) {t Kt Et:TypeId} {m x y:Operand} {r c i:Nat} {es:Array MapEntry} {L:List (Value×Value)} {k v:Value} (ht:P.underlying t=some (.map Kt Et)) (hK:P.underlying Kt=some D) (hm:E.ev m=some (.map (some r))) (hx:E.ev x=some k) (hy:E.ev y=some v) (hi:Γ[i]?=some (.obj r (.map es c))) (hL:MapG D es L) (hk:IsKey D k) (hn:∀ v,(k,v) ∉ L) :
  Gets P ⟨dst,.mapUpdate t m x y,ty,pos,after,none⟩ n ds E w (fun _ w'=>∃ es' c',MapG D es' (L++[(k,v)])/\St F w0 w' (Γ.set i (.obj r (.map es' c')))):=fun a ha K Q kk=>by
 obtain ⟨es',c',hrun,h1⟩:=b2e (v:=v) ht hK (hS.at_ hi).1 hL hk hn;have hex:(execOp a.eval ⟨dst,.mapUpdate t m x y,ty,pos,after,none⟩).run P w=.ok .skip { w with heap:=w.heap.setIfInBounds r (.map es' c') }:=by
  simp only [execOp,ha.ev hm,ha.ev hx,ha.ev hy,Sem.run_bind,hrun,Result.andThen_ok,Sem.run_pure]
 unfold Oper.wp;rw [hex];exact kk undef _ ⟨es',c',h1,hS.updMap hi es' c'⟩
theorem b6I (hS:St F w0 w Γ) {t Kt Et:TypeId} {m x y:Operand} {r c i:Nat} {es:Array MapEntry} {L:List (Value×Value)} {k u v:Value} (ht:P.underlying t=some (.map Kt Et)) (hK:P.underlying Kt=some D) (hm:E.ev m=some (.map (some r))) (hx:E.ev x=some k) (hy:E.ev y=some v) (hi:Γ[i]?=some (.obj r (.map es c))) (hL:MapG D es L) (hk:IsKey D k) (hu:(k,u) ∈ L) :
  Gets P ⟨dst,.mapUpdate t m x y,ty,pos,after,none⟩ n ds E w (fun _ w'=>∃ es' c' j u',L[j]?=some (k,u')/\MapG D es' (L.set j (k,v))/\St F w0 w' (Γ.set i (.obj r (.map es' c')))):=fun a ha K Q kk=>by
 obtain ⟨es',j,hrun,⟨u',h1⟩,h2⟩:=b3U (v:=v) ht hK (hS.at_ hi).1 hL hk hu;have hex:(execOp a.eval ⟨dst,.mapUpdate t m x y,ty,pos,after,none⟩).run P w=.ok .skip { w with heap:=w.heap.setIfInBounds r (.map es' c) }:=by
  simp only [execOp,ha.ev hm,ha.ev hx,ha.ev hy,Sem.run_bind,hrun,Result.andThen_ok,Sem.run_pure]
 unfold Oper.wp;rw [hex];exact kk undef _ ⟨es',c,j,u',h1,h2,hS.updMap hi es' c⟩
theorem b1L (hS:St F w0 w Γ) {t:TypeId}:Gets P ⟨dst,.makeMap t none,ty,pos,after,none⟩ n ds E w (fun v w'=>∃ r,v=.map (some r)/\St F w0 w' (.obj r (.map #[] 0)::Γ)):=fun a ha K Q k=>by
 have hex:(execOp a.eval ⟨dst,.makeMap t none,ty,pos,after,none⟩).run P w=.ok (.value (.map (some w.heap.size))) (w.alloc (.map #[] 0)):=by
  simp only [execOp];rfl
 unfold Oper.wp;rw [hex];exact k _ _ ⟨_,rfl,hS.new (World.grownBy_alloc w _ none) ⟨(heap_alloc w _).1,rfl⟩ (by simp [Asr.fp])⟩
end
end Go.Proofs.YtejnpppejalhfacGreat
namespace Go.Proofs.YtejnpppejalhfacGreat
set_option maxRecDepth 100000
set_option maxHeartbeats 8000000
open Go.RowKit Go.Sort
section
variable {P:Program} {n:Nat} {ds:List Deferred} {E:Fr} {w:World} {Q:Exit->Act->World->Prop} {ops:Array Oper} {rest:List Oper} {d:Nat} {dst:Option Nat} {ty:TypeId} {pos:String} {after:Array Edge} {F:Nat->Prop} {w0:World} {Γ:List Asr} {T:Tab}
theorem b6Y {x y:Operand} {ats:Array TypeId} {m k:Int} (hx:E.ev x=some (.int .i64 m)) (hy:E.ev y=some (.int .i64 k)):∀ a,Has n ds a E->∀ dst,a0S P ⟨dst,.call { callee:=.builtin .min,args:=#[x,y],argTypes:=ats },ty,pos,after,none⟩ a (.int .i64 (min m k)):=fun a ha dst w=>by
 have e:(if k < m then k else m)=min m k:=by omega
 simp [execOp,resolve,invoke,builtin,ha.ev hx,ha.ev hy,Builtin.min_,Builtin.min2,Result.andThen,e]
theorem b2p (old c:List Value) (h:c.length<=old.length):p9 old 0 c=c++old.drop c.length:=by
 conv=>lhs;rw [<- xj7 c.length old]
 rw [a3K _ _ _ _ (by simp;omega),a5p _ _ (by simp;omega)]
theorem b4W (hS:St F w0 w Γ) (hT:TabOk P T) {t u e m cap g i:Nat} {ty2:TypeId} {x y:Operand} {old l:List UInt8} (ht:T.get t=some (.sl e 1 1 false [.int .u8 0])) (hx:E.ev x=some (.slice (some ⟨g,0,none⟩) m cap)) (hi:Γ[i]?=some (.row e 1 (.slice (some ⟨g,0,none⟩) m cap) (bR old))) (hy:E.ev y=some (.string ⟨l.toArray⟩)) :
  Gets P ⟨dst,.call { callee:=.builtin .copy,args:=#[x,y],argTypes:=#[t,u] },ty2,pos,after,none⟩ n ds E w (fun v' w'=>v'=.int .i64 ((l.take m).length:Nat)/\St F w0 w' (Γ.set i (.row e 1 (.slice (some ⟨g,0,none⟩) m cap) (bR (l.take m++old.drop (l.take m).length))))):=by
 intro a ha K Q k;obtain ⟨hown,hlen,hone⟩:=hS.at_ hi;rcases hown.2 with ⟨hv,_⟩|⟨g',cap',cur,hv,_,hg,hmc,hcm,hcs,htake⟩
 ·cases hv
 have hol:(bR old).length=old.length:=a3M old
 cases hv
 rw [hol] at hmc htake hx hi;simp only [hol] at k;obtain ⟨c,hc⟩:∃ c,c=l.take old.length:=⟨_,rfl⟩;have hcl:c.length=min l.length old.length:=by rw [hc,xa1];omega
 have hHL:HoldL w g cur.toList:=⟨e,hg⟩;have hcu:old.length<=cur.size:=by rw [hcs];omega
 obtain ⟨ji,zv,hu,hinfo,_,hs,hby,hz,hzl,_,hsz,hs0⟩:=hT.sl ht;have hst:=run_storeCells_cells (P:=P) g 0 (c.map fun b=>Value.int .u8 (b.toNat:Int)) 0 w (fun j hj=>by
  rw [xi3] at hj;rw [hHL.cell];simp only [xh7];exact ⟨_,xd8 (by simp;omega)⟩) (fun j _=>hHL.frozen _) (by simp [Value.oneCell'])
 have hcs2:((ByteArray.extract ⟨l.toArray⟩ 0 (Nat.min l.length old.length)).data.map fun b=>Value.int .u8 (b.toNat:Int)).toList=c.map fun b=>Value.int .u8 (b.toNat:Int):=by
  rw [a3O,hc,show l.take old.length=l.take (Nat.min l.length old.length) by rw [List.take_eq_take_iff];show min old.length l.length=min (min l.length old.length) l.length;omega];simp
 have hrun:(Builtin.copy_ #[t,u] ty2 #[.slice (some ⟨g,0,none⟩) old.length cap,.string ⟨l.toArray⟩]).run P w=.ok (goInt c.length) (w.setCells g 0 (c.map fun b=>Value.int .u8 (b.toNat:Int))):=by
  simp [Builtin.copy_,run_underlying hu,Builtin.lenOf,Builtin.firstCells,sizeOf,typeInfo,hinfo,hs,ByteArray.size];have e:List.take (Nat.min l.length old.length) (l.map fun b=>Value.int .u8 (b.toNat:Int))=c.map fun b=>Value.int .u8 (b.toNat:Int):=by rw [<- List.map_take,hc,show l.take old.length=l.take (Nat.min l.length old.length) by rw [List.take_eq_take_iff];show min old.length l.length=min (min l.length old.length) l.length;omega]
  rw [e,hst,hcl];rfl
 have hex:(execOp a.eval ⟨dst,.call { callee:=.builtin .copy,args:=#[x,y],argTypes:=#[t,u] },ty2,pos,after,none⟩).run P w=.ok (.value (.int .i64 (c.length:Nat))) (w.setCells g 0 (c.map fun b=>Value.int .u8 (b.toNat:Int))):=by
  simp [execOp,resolve,invoke,builtin,ha.ev hx,ha.ev hy,hrun,Result.andThen,goInt]
 unfold Oper.wp;rw [hex];simp only [<- hc] at k;have hcel:(bR (c++old.drop c.length)).length=old.length:=by rw [a3M,xe5,xb4];omega
 refine k _ _ ⟨rfl,hS.upd hi (a1l w g 0 _) ⟨⟨?_,.inr ⟨g,cap,_,by rw [hcel],xf9 _,a3w hg 0 _,by rw [hcel];exact hmc,hcm,by simp [a5G,hcs],?_⟩⟩,?_,?_⟩ (fun q hq=>xd4 hq)⟩
 ·rw [a7s,xi3,hcel,xe5,xb4];omega
 ·rw [hcel,Nat.mul_one,xg0,b2p _ _ (by simp;omega),a7s,xj3,xi3,List.take_append];rw [Nat.mul_one,a7s] at htake;have h1:(c.map fun b=>Value.int .u8 (b.toNat:Int)).take old.length=c.map fun b=>Value.int .u8 (b.toNat:Int):=xa0 (by rw [xi3];omega);rw [h1,xi3,List.map_drop,<- htake,List.drop_take]
 ·intro r hr;unfold bR at hr;obtain ⟨b,_,rfl⟩:=xh6.1 hr;rfl
 ·intro r hr;unfold bR at hr;obtain ⟨b,_,rfl⟩:=xh6.1 hr;rfl
end
end Go.Proofs.YtejnpppejalhfacGreat
namespace Go.Proofs.YtejnpppejalhfacGreat
set_option maxRecDepth 100000
set_option maxHeartbeats 8000000
open Go.RowKit Go.Sort Go.MapKept
section
variable {P:Program} {n:Nat} {ds:List Deferred} {E:Fr} {w:World} {Q:Exit->Act->World->Prop} {ops:Array Oper} {rest:List Oper} {d:Nat} {dst:Option Nat} {ty:TypeId} {pos:String} {after:Array Edge} {F:Nat->Prop} {w0:World} {Γ:List Asr} {T:Tab}
theorem b3W (hS:St F w0 w Γ) {t Kt Et:TypeId} {x:Operand} {r c i:Nat} {es:Array MapEntry} (ht:P.underlying t=some (.map Kt Et)) (hx:E.ev x=some (.map (some r))) (hi:Γ[i]?=some (.obj r (.map es c))) :
  Gets P ⟨dst,.call { callee:=.builtin .len,args:=#[x],argTypes:=#[t] },ty,pos,after,none⟩ n ds E w (fun v' w'=>v'=.int .i64 (es.size:Nat)/\w'=w):=Gets.of_at fun a ha=>by
 have hr:(Builtin.len_ #[t] ty #[.map (some r)]).run P w=.ok (.int .i64 es.size) w:=by
  simp [Builtin.len_,run_underlying ht,Go.MapKept.run_getObj_map (hS.at_ hi).1,goInt]
 simp [execOp,resolve,invoke,builtin,ha.ev hx,hr,Result.andThen]
theorem St.ownBs {Θ:List Asr} (hS:St F w0 w (Θ++Γ)) (i:Nat) {g k:Nat} {L:List Value} {v:Value} (hi:Γ[i]?=some (.blk g L)) (hk:L[k]?=some v):Bs (fps Θ) w ⟨g,k,none⟩ v:=by
 have hS2:=hS.sub (List.sublist_append_right Θ Γ);refine ⟨hS2.blkC i hi hk,fun ⟨A,hA,e⟩=>?_⟩;rcases (xe0.1 hS.apart).2.2 A hA _ (xc8 hi) with h1|h1
 ·rw [h1] at e;cases e
 ·exact h1 e
theorem St.ownSl {Θ:List Asr} (hS:St F w0 w (Θ++Γ)) (i:Nat) {e sz:Nat} {v:Value} {rows:List (List Value)} (hi:Γ[i]?=some (.row e sz v rows)):Sl (fps Θ) w sz v rows:=by
 have hS2:=hS.sub (List.sublist_append_right Θ Γ);rcases hS2.rowForm i hi with ⟨rfl,rfl⟩|⟨g,cap,rfl,h1,h2⟩
 ·exact xd4 ⟨_,_,rfl,rfl⟩
 ·have hr:=hS2.rowRo i hi;refine xd1 ⟨g,0,cap,rfl,h1,h2,⟨hr.lt,fun ⟨A,hA,e⟩=>?_,hr.len,hr.one,hr.cells⟩⟩;rcases (xe0.1 hS.apart).2.2 A hA _ (xc8 hi) with h1|h1
  ·rw [h1] at e;cases e
  ·exact h1 e
end
end Go.Proofs.YtejnpppejalhfacGreat
namespace Go.Proofs.YtejnpppejalhfacGreat
set_option maxRecDepth 100000
set_option maxHeartbeats 8000000
open Go.RowKit Go.Sort
section
variable {P:Program} {n:Nat} {ds:List Deferred} {E:Fr} {w:World} {Q:Exit->Act->World->Prop} {ops:Array Oper} {rest:List Oper} {d:Nat} {dst:Option Nat} {ty:TypeId} {pos:String} {after:Array Edge} {F:Nat->Prop} {w0:World} {Γ:List Asr} {T:Tab}
theorem b5U {t yt:TypeId} {x y:Operand} {m:Int} (hx:E.ev x=some (.int .u64 m)) (hy:E.ev y=some (.int .u64 1)) (h0:0<=m) (h1:m<=18446744073709551615):∀ a,Has n ds a E->∀ dst,a0S P ⟨dst,.binOp .shr t x y yt,ty,pos,after,none⟩ a (.int .u64 (m / 2)):=fun a ha _ w=>by
 simp only [execOp,ha.ev hx,ha.ev hy];simp [eqGuard,binOp,go_sem]
theorem b6q {t yt:TypeId} {x y:Operand} {m:Int} (hx:E.ev x=some (.int .u64 m)) (hy:E.ev y=some (.int .u64 1)) (h0:0<=m) (h1:m<=18446744073709551615) (hd:Nat.blt d n=true) (k':WL P ops Q rest n ds ((d,.int .u64 (m / 2))::E) w):WL P ops Q (⟨some d,.binOp .shr t x y yt,ty,pos,after,none⟩::rest) n ds E w:=a0V (fun a ha=>b5U hx hy h0 h1 a ha _) hd k'
theorem b1Z {m:Int} (h0:0<=m) (h1:m<=18446744073709551615):IntKind.u64.wrap (IntKind.i64.wrap m)=m:=by
 rw [IntKind.wrap_u64,IntKind.wrap_i64];omega
theorem b6S {t yt:TypeId} {x y:Operand} {m:Int} (hx:E.ev x=some (.int .u64 (IntKind.u64.wrap m))) (hy:E.ev y=some (.int .u64 1)) (hd:Nat.blt d n=true) (k':WL P ops Q rest n ds ((d,.int .u64 (IntKind.u64.wrap m / 2))::E) w):WL P ops Q (⟨some d,.binOp .shr t x y yt,ty,pos,after,none⟩::rest) n ds E w :=
 b6q hx hy (by rw [IntKind.wrap_u64];omega) (by rw [IntKind.wrap_u64];omega) hd k'
theorem b1h {m:Int} {h:Nat} (h0:0<=m) (h1:m<=18446744073709551615) (h2:m / 2=(h:Nat)) (h3:h<=9223372036854775807):IntKind.i64.wrap (IntKind.u64.wrap (IntKind.i64.wrap m) / 2)=(h:Nat):=by
 rw [b1Z h0 h1,h2,a5o (by omega) (by omega)]
theorem a99 (hT:TabOk P T) {t e sz eb:Nat} {ag:Bool} {ez:List Value} {yt:TypeId} {x y:Operand} {p:Option Addr} {m c:Nat} (ht:T.get t=some (.sl e sz eb ag ez)) (hx:E.ev x=some (.slice p m c)) (hy:E.ev y=some (.slice none 0 0)):∀ a,Has n ds a E->∀ dst,a0S P ⟨dst,.binOp .eql t x y yt,ty,pos,after,none⟩ a (.bool p.isNone):=fun a ha _ w=>by
 obtain ⟨ji,zv,hu,_⟩:=hT.sl ht;have e:=Go.Lib.run_eql_slice_nil (P:=P) w t _ p m c 0 0 hu;simp only [execOp,ha.ev hx,ha.ev hy,eqGuard];simp [e,Result.andThen]
theorem a1t (hT:TabOk P T) {t e sz eb:Nat} {ag:Bool} {ez:List Value} {yt:TypeId} {x y:Operand} {p:Option Addr} {m c:Nat} (ht:T.get t=some (.sl e sz eb ag ez)) (hx:E.ev x=some (.slice p m c)) (hy:E.ev y=some (.slice none 0 0)) (hd:Nat.blt d n=true) (k':WL P ops Q rest n ds ((d,.bool p.isNone)::E) w):WL P ops Q (⟨some d,.binOp .eql t x y yt,ty,pos,after,none⟩::rest) n ds E w:=a0V (fun a ha=>a99 hT ht hx hy a ha _) hd k'
theorem St.roC2 {b off sz:Nat} {rows:List (List Value)} (h:St F w0 w Γ) (hr:RoAt F w0 b off sz rows) {k j1 j2:Nat} {r:List Value} {u:Value} (hk:rows[k]?=some r) (hj:r[j1 + j2]?=some u):w.cell? ⟨b,off + k * sz + j1 + j2,none⟩=some u:=by
 rw [xf1 (off + k * sz)];exact h.roC hr hk hj
theorem St.roRs {b off sz:Nat} {rows:List (List Value)} (h:St F w0 w Γ) (hr:RoAt F w0 b off sz rows) {k:Nat} (j m:Nat) {r:List Value} (hk:rows[k]?=some r):w.rangeAt b (off + k * sz + j) ((r.drop j).take m):=fun i v hi=>by
 rw [xe9] at hi
 split at hi
 ·rw [xb5] at hi;have:=h.roC hr hk hi
  rwa [<- xf1] at this
 ·cases hi
end
end Go.Proofs.YtejnpppejalhfacGreat
namespace Go.Proofs.YtejnpppejalhfacGreat
set_option maxRecDepth 100000
set_option maxHeartbeats 8000000
open Go.RowKit
theorem b3A (off n all:Int):inB off n all=(decide (0<=off) && (decide (0<=n) && (decide (off<=all) && decide (n<=all - off)))):=by
 unfold inB;simp
theorem b3P (off n all:Int) (w:World) (h:0<=all) (h2:all<=9223372036854775807) :
  Calls Tryz.prog 162 #[.int .i64 off,.int .i64 n,.int .i64 all] w fun e w'=>e=.returned (.bool (inB off n all))/\w=w':=by
 have hs:=hid (b3A off n all)
 go_enter Tryz.func162,Tryz.ntmps162
 go_wp2
 all_goals
  go_ret
  refine ⟨x5 ?_,rfl⟩;rw [hs.out]
  first
   |(rw [IntWalk.wrap64_in (all - off) ⟨by omega,by omega⟩];simp [*];done)
   |(rw [Bool.eq_iff_iff];simp;omega)
theorem b3G (s t:List UInt8) (off:Nat) (w:World) (hs:s.length<=maxLen) (h:off + t.length<=s.length) :
  Calls Tryz.prog 149 #[.string ⟨s.toArray⟩,.int .i64 off,.string ⟨t.toArray⟩] w fun e w'=>e=.returned (.string ⟨(splice s off t).toArray⟩)/\∃ n,w'=w.drewN n:=by
 unfold maxLen at hs
 go_enter Tryz.func149,Tryz.ntmps149
 go_wp2
 go_quiet (fail)
 go_wp2
 go_ret
 refine ⟨?_,b0V⟩;exact b5g (by simp [splice,xa0])
theorem b4m (off n all:Nat) (h:off + n<=all):inB off n all=true:=by
 unfold inB;simp;omega
theorem b49 (s t:List UInt8) (off:Nat) (w:World) (hs:s.length<=maxLen) (h:off + t.length<=s.length) :
  Calls Tryz.prog 110 #[.string ⟨s.toArray⟩,.int .i64 off,.string ⟨t.toArray⟩] w fun e w'=>e=.returned (.tuple #[.string ⟨(splice s off t).toArray⟩,.int .i64 0])/\Below w.heap.size w w':=by
 unfold maxLen at hs;have hin:=b4m off t.length s.length h;have hin2:=hid hin;clear hin
 go_enter Tryz.func110,Tryz.ntmps110
 have hsz5:(Tryz.prog.info? 5).map (·.size)=some 1:=by kernel_rfl
 have Hsz5:=hid hsz5;clear hsz5
 go_wp2_with (first|go_at_call 162;(with_reducible refine (b3P _ _ _ _ (by omega) (by omega)).mono ?_);rintro e w' ⟨rfl,rfl⟩;rw [hin2.out]|(with_reducible refine x8 17 ?_);refine a4s rfl (.tmp 16) 9 179 5 rfl Tryz.underlying9 Tryz.underlying179 Tryz.underlying5 s rfl w.heap.size w (Below.refl _ _) (xd2 _) ?_;intro cap w1 hcap hb1 hby1 hsz1;have HB:=hid hby1;clear hby1|(with_reducible refine x8 22 ?_);refine a46 rfl (.tmp 20) (.tmp 21) 179 9 rfl 5 Tryz.underlying179 Hsz5.out _ (s.length - off) _ rfl t rfl w.heap.size off s HB.out ?c1 ?c2 w.heap.size w hb1 (xd2 _) ?_;(case c1=>go_must (rw [xa1];omega));(case c2=>go_must (rw [xa1];intro h0;rw [xe7 (by omega)]));intro w2 hb2 hsz2 hby2;have HB2:=hid hby2;clear hby2|(with_reducible refine x8 24 ?_);refine a5c rfl (.tmp 23) 179 9 5 rfl Tryz.underlying179 Tryz.underlying5 Tryz.underlying9 _ w.heap.size s.length _ rfl ?c3 HB2.out ?_;(case c3=>go_must (exact length_splice _ _ _ (by rw [xa1];omega)));clear HB2)
 all_goals
  go_ret2
  refine ⟨?_,hb2⟩;show Ending.returned (.tuple #[.string ⟨(splice s off (t.take (s.length - off))).toArray⟩,.int .i64 0])=_;rw [xa0 (show t.length<=s.length - off from by omega)]
theorem b52 (s t:List UInt8) (off:Int) (w:World) (hs:s.length<=maxLen) (h:inB off t.length s.length=false) :
  Calls Tryz.prog 110 #[.string ⟨s.toArray⟩,.int .i64 off,.string ⟨t.toArray⟩] w fun e w'=>e=.returned (.tuple #[.string ⟨#[]⟩,.int .i64 3])/\w=w':=by
 unfold maxLen at hs
 go_enter Tryz.func110,Tryz.ntmps110
 go_wp2_with (go_at_call 162;(with_reducible refine (b3P _ _ _ _ (by omega) (by omega)).mono ?_);rintro e w' ⟨rfl,rfl⟩;rw [h])
 go_ret2
 exact ⟨rfl,rfl⟩
end Go.Proofs.YtejnpppejalhfacGreat
namespace Go.Proofs.YtejnpppejalhfacGreat
set_option maxRecDepth 100000
set_option maxHeartbeats 8000000
open Go.RowKit Go.Sort
theorem b3X (s t:List UInt8) (off:Int) (w:World) (hs:s.length<=maxLen):Fn Tryz.prog 110 [.string ⟨s.toArray⟩,.int .i64 off,.string ⟨t.toArray⟩] w (RBf (.tuple #[.string ⟨(if inB off t.length s.length=true then splice s off.toNat t else []).toArray⟩,.int .i64 (if inB off t.length s.length=true then 0 else 3)]) w):=by
 by_cases h:inB off t.length s.length=true
 ·rw [xe6 h,xe6 h];unfold inB at h;simp only [xb2] at h;have h1:=b49 s t off.toNat w hs (by omega);rw [xp0 (by omega)] at h1;exact Fn.of_rb ⟨Tryz.func110,by kernel_rfl,by kernel_rfl⟩ (b3y h1)
 ·rw [xe7 h,xe7 h];exact (Fn.of_same ⟨Tryz.func110,by kernel_rfl,by kernel_rfl⟩ (b52 s t off w hs (by simpa using h))).mono (by rintro v w' ⟨rfl,rfl⟩;exact ⟨rfl,St.start _⟩)
theorem b4b (s t:List UInt8) (off:Nat) (w:World) (hs:s.length<=maxLen) (h:off + t.length<=s.length):Fn Tryz.prog 149 [.string ⟨s.toArray⟩,.int .i64 off,.string ⟨t.toArray⟩] w (RBf (.string ⟨(splice s off t).toArray⟩) w) :=
 ⟨⟨_,Tryz.func149,by kernel_rfl,by kernel_rfl⟩,(b3G s t off w hs h).mono fun _ _ ⟨he,n,hw⟩=>⟨_,he,rfl,by subst hw;exact (St.start w).grow ⟨rfl,rfl,rfl,xd2 _,fun _ _ _=>rfl⟩⟩⟩
theorem n6 (x a b:Int) (w:World):Fn Tryz.prog 70 [.int .i64 x,.int .i64 a,.int .i64 b] w (RBf (.bool (decide (a<=x/\x<=b))) w):=by
 refine yEn Tryz.func70 Tryz.ntmps70 (by kernel_rfl) (by kernel_rfl) rfl rfl ?_;have hS:=St.start w
 repeat' (first|(with_reducible apply d5 c9);rfl;rfl;rfl|refine yDn (by with_reducible constructor) ?_|(with_reducible apply l8);(iterate 4 rfl);assumption|(with_reducible apply a0a);(iterate 4 rfl);assumption;rfl|(with_reducible apply j9);rfl;assumption;rfl;rfl|(with_reducible apply i4);rfl;assumption;rfl;rfl|(with_reducible apply s7);rfl;rfl;rfl;all_goals (intro hb hp;try (exfalso;omega)))
 ·(refine l4 rfl ?_)
  exact ⟨by simp [hp],hS⟩
 ·(refine l4 rfl ?_)
  exact ⟨by simp;omega,hS⟩
theorem j4 {α:Type} {l:List α} {i:Nat} (h:(i:Int) < l.length):∃ x,l[i]?=some x:=⟨l[i]'(by omega),by simp⟩
end Go.Proofs.YtejnpppejalhfacGreat
