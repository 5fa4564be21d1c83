/- Texts that the proof stands on, one behind the other: As2, Ar19, Ar20, Ar21, Ar22, Ar23, Ar5, Ar11, Ar12, Ar13, Ar14, Ar15, Ar16. -/
import Derived.Maps.AppendAt
import Derived.Deep.RegionWith
import Derived.Deep.DeepCutAuto
import Derived.Lib.AppendZerosOnto
import Derived.Lib.Walk
import Derived.Test.YtejnpppejalhfacGreatPKernelMaps3
set_option linter.unusedVariables false
set_option linter.unusedSimpArgs false
namespace Go.Proofs.YtejnpppejalhfacGreat
set_option maxRecDepth 100000
set_option maxHeartbeats 8000000
open Go.RowKit Go.Sort
theorem a4c {L:List Ar}:∀ {e:Int},j3 e L->∀ (i:Nat) (a:Ar),L[i]?=some a->a.ok:=by
 induction L with
 |nil=>intro e _ i a h;simp at h
 |cons b L ih=>
  intro e h i a ha
  cases i with
  |zero=>simp at ha;subst ha;exact h.1
  |succ i=>exact ih h.2.2 i a (by simpa using ha)
theorem b6M {L:List Ar} {i m:Nat} (hi:i<=L.length) (hm:m=((jn L i).map arC).length):m<=i:=by
 rw [hm,xi3];exact b6m L i hi
theorem b5D {L:List Ar} {i:Nat} {a:Ar} (ha:L[i]?=some a) (h:∀ b,(jn L i).getLast?=some b->¬ b.alike a):(jn L i).map arC++[arC a]=(jn L (i + 1)).map arC:=by
 rw [a74 ha,b46 h];simp
theorem b0M {J:List Ar} (h:0 < J.length):∃ o b,J=o++[b]:=by
 rcases List.eq_nil_or_concat J with e|⟨o,b,e⟩
 ·subst e;simp at h
 ·exact ⟨o,b,by simpa using e⟩
theorem b7y {o:List Ar} {a b:Ar} (h:b.alike a):(((o++[b]).map arC).set o.length (p9 (arC b) 1 [.int .i64 (b.n + a.n)]))=(o6 (o++[b]) a).map arC:=by
 rw [b1Y h];simp [arC,p9]
theorem b7m {L:List Ar} (hr:j3 1 L) (i:Nat) (o:List Ar) (b:Ar) (h:jn L i=o++[b]):b.ok :=
 a4c (b4h hr i).1 o.length b (by rw [h];simp)
theorem b1S {L:List Ar} {v:Value} {w:World} (h:Sl nF w 4 v (L.map arC)) (hr:j3 1 L) (hlen:L.length<=1000):Fn Tryz.prog 170 [v] w (fun v' w'=>St nF w w' [.row 136 4 v' ((a3L L).map arC)]):=by
 obtain ⟨p0,c0,hv⟩:=h.form;rw [xi3] at hv;have hv0:=hv;subst hv;refine yEn Tryz.func170 Tryz.ntmps170 (by kernel_rfl) (by kernel_rfl) rfl rfl ?_;have hS:=(St.start w).addNil 136 4
 repeat' (first|(with_reducible apply d5 c9);rfl;rfl;rfl|refine yDn (by with_reducible constructor) ?_)
 refine a7O (X:=Nat×Nat×Option Addr×Nat) (0,0,none,0) (fun x=>[(7,.slice p0 L.length c0),(8,.int .i64 L.length),(9,.int .i64 x.1),(3,.slice x.2.2.1 x.2.1 x.2.2.2)])
  (fun x w'=>x.1<=L.length/\St nF w w' [.row 136 4 (.slice x.2.2.1 x.2.1 x.2.2.2) ((jn L x.1).map arC)]) (fun x=>L.length - x.1) ?_ ⟨by omega,hS⟩ ?_
 ·exact Fr.sub_of rfl
 rintro ⟨i,m,p,cap⟩ w' ⟨hi,hS⟩;have hm:=hS.rowLen 0 rfl;have hml:=b6M hi hm;simp only at hi hS hm hml |-;by_cases hlt:i < L.length
 ·obtain ⟨a,ha⟩:∃ a,L[i]?=some a:=⟨L[i],by simp [hlt]⟩;have hra:(L.map arC)[i]?=some (arC a):=by simp [ha]
  rcases h.parts.2 with h2|⟨b,off,rfl,_,_,hro⟩
  ·simp at h2;subst h2;simp at hlt
  have hao:=a4c hr i a ha;have hroom:(List.map arC (jn L i)).length<=1000:=by omega
  by_cases hj:0 < m
  ·obtain ⟨o,b1,he⟩:=b0M (J:=jn L i) (by rw [xi3] at hm;omega);obtain ⟨g0,rfl⟩:=hS.rowSome 0 rfl hj;have hrb:((jn L i).map arC)[o.length]?=some (arC b1):=by rw [he];simp
   have hmo:m=o.length + 1:=by rw [hm,he];simp
   have hb1:=b7m hr i o b1 he;have hfin:b1.n + a.n<=1000:=by unfold Ar.ok at hao hb1;omega
   have hfin2:0<=b1.n + a.n:=by unfold Ar.ok at hao hb1;omega
   have hix:(o.length:Int)=(m:Int) - 1:=by omega
   repeat' (first|(with_reducible apply d5 c9);rfl;rfl;rfl|(with_reducible apply d6);rfl;(apply Ld.st c9;rfl;exact hS.roR (by assumption) (by assumption);rfl);rfl|(with_reducible apply m8 c9);rfl;rfl;rfl;rfl;omega;rfl|refine yDn (by with_reducible constructor) ?_|(with_reducible apply f5 hS c9);rfl;rfl;rfl;clear hS;intro g w' hS|(with_reducible apply d7 hS c9 (i:=0));(iterate 8 rfl);exact (rfl:_=[_,_,_,_]);clear hS;intro w' hS;simp only [List.set] at hS|(with_reducible apply d8);rfl;all_goals (intro hb hp;try (exfalso;omega)))
   (focus ((with_reducible apply d9 _ _ _ (by kernel_rfl) (by kernel_rfl) hS);(repeat' (first|(first|(with_reducible apply a1M);rfl;rfl;omega;omega;rfl|(with_reducible apply g8 c9);rfl;rfl|(with_reducible apply i7);rfl;(intro wd hd;replace hd:St _ _ wd _:=hd;(apply Ld.st c9;rfl;(first|exact hd.blkR 0 rfl|exact hd.rowR 1 rfl (by assumption));rfl));rfl|(with_reducible apply a0f c9);rfl;rfl;rfl;assumption;omega;rfl|(first|(with_reducible apply y7);(iterate 4 rfl);assumption|(with_reducible apply y5);rfl;rfl;rfl;all_goals (intro hb hp;try (exfalso;omega))|(with_reducible apply q7);rfl;assumption;rfl;rfl))|(with_reducible apply s5);rfl;rfl;rfl;refine ⟨_,fun wd hd=>b5W b1 a _ hb1,?_⟩));all_goals ((with_reducible apply k8);intro w' hS';clear hS;have hS:=hS';clear hS')))
   repeat' (first|(with_reducible apply d5 c9);rfl;rfl;rfl|(with_reducible apply d6);rfl;(apply Ld.st c9;rfl;exact hS.blkR 0 rfl;rfl);rfl|refine yDn (by with_reducible constructor) ?_|(with_reducible apply a0G hS c9);(iterate 7 rfl);clear hS;intro g w' hS|(with_reducible apply d8);rfl;all_goals (intro hb hp;try (exfalso;omega)))
   ·(focus ((with_reducible apply a2K _ _ _ 11 (by kernel_rfl) (by kernel_rfl) hS);(simp only [xl5,xl6,xl1,xl2]);(repeat' ((first|(with_reducible apply b0c);rfl;rfl;omega;omega;rfl|(with_reducible apply a1M);rfl;rfl;omega;omega;rfl|(with_reducible apply g8 c9);rfl;rfl|(with_reducible apply i7);rfl;(intro wd hd;replace hd:St _ _ wd _:=hd;(apply Ld.sc c9;rfl;(first|exact hd.blkC 0 rfl rfl|exact hd.rowCj 1 rfl (by assumption) rfl)));rfl|(with_reducible apply a0f c9);rfl;rfl;rfl;assumption;omega;rfl)));all_goals ((with_reducible apply k8);intro w' hS';clear hS;have hS:=hS';clear hS')))
    repeat' (first|(with_reducible apply d5 c9);rfl;rfl;rfl|(with_reducible apply j7);rfl;rfl;omega;omega;rfl|refine yDn (by with_reducible constructor) ?_|(with_reducible apply t3 hS c9 (i:=1));(iterate 4 rfl);assumption;(iterate 5 rfl);intro w' hS';simp only [List.set] at hS';clear hS;have hS:=hS';clear hS')
    refine a5l ((i + 1,m,some ⟨g0,0,none⟩,cap)) ?_ ?_ ?_
    ·exact Fr.sub_of rfl
    ·refine ⟨hlt,?_⟩;rw [he,b7y hp,<- he,<- a74 ha] at hS;exact hS.drop
    ·simp only;omega
   ·repeat' (first|(with_reducible apply d5 c9);rfl;rfl;rfl|(with_reducible apply j7);rfl;rfl;omega;omega;rfl|refine yDn (by with_reducible constructor) ?_|(with_reducible apply a31 hS c9 2);(iterate 4 rfl);exact hS.rowRo 0 rfl;rfl;omega;rfl;intro p' cap' w' hS';simp only [List.set] at hS';clear hS;have hS:=hS';clear hS')
    refine a5l ((i + 1,((jn L i).map arC).length + 1,p',cap')) ?_ ?_ ?_
    ·exact Fr.sub_of rfl
    ·refine ⟨hlt,?_⟩;rw [<- b5D ha (fun b h=>by rw [he,List.getLast?_concat] at h;cases h;assumption)];exact hS.drop.drop
    ·simp only;omega
  ·repeat' (first|(with_reducible apply d5 c9);rfl;rfl;rfl|(with_reducible apply d6);rfl;(apply Ld.st c9;rfl;exact hS.roR (by assumption) (by assumption);rfl);rfl|(with_reducible apply m8 c9);rfl;rfl;rfl;rfl;omega;rfl|refine yDn (by with_reducible constructor) ?_|(with_reducible apply f5 hS c9);rfl;rfl;rfl;clear hS;intro g w' hS|(with_reducible apply d7 hS c9 (i:=0));(iterate 8 rfl);exact (rfl:_=[_,_,_,_]);clear hS;intro w' hS;simp only [List.set] at hS|(with_reducible apply d8);rfl;all_goals (intro hb hp;try (exfalso;omega)))
   (focus ((with_reducible apply d9 _ _ _ (by kernel_rfl) (by kernel_rfl) hS);(repeat' ((first|(with_reducible apply g8 c9);rfl;rfl|(first|(with_reducible apply a1I);(iterate 4 rfl);assumption;rfl|(with_reducible apply y5);rfl;rfl;rfl;all_goals (intro hb hp;try (exfalso;omega))|(with_reducible apply o5);rfl;assumption;rfl;rfl))));all_goals ((with_reducible apply k8);intro w' hS';clear hS;have hS:=hS';clear hS')))
   repeat' (first|(with_reducible apply d5 c9);rfl;rfl;rfl|(with_reducible apply d6);rfl;(apply Ld.st c9;rfl;exact hS.blkR 0 rfl;rfl);rfl|(with_reducible apply j7);rfl;rfl;omega;omega;rfl|refine yDn (by with_reducible constructor) ?_|(with_reducible apply i9);rfl;rfl|(with_reducible apply a0G hS c9);(iterate 7 rfl);clear hS;intro g w' hS|(with_reducible apply a31 hS c9 2);(iterate 4 rfl);exact hS.rowRo 0 rfl;rfl;omega;rfl;intro p' cap' w' hS';simp only [List.set] at hS';clear hS;have hS:=hS';clear hS')
   refine a5l ((i + 1,((jn L i).map arC).length + 1,p',cap')) ?_ ?_ ?_
   ·exact Fr.sub_of rfl
   ·refine ⟨hlt,?_⟩;rw [<- b5D ha (fun b h=>by rw [xi3] at hm;have:=List.length_pos_of_mem (List.mem_of_getLast? h);omega)];exact hS.drop.drop
   ·simp only;omega
 ·repeat' (first|(with_reducible apply d5 c9);rfl;rfl;rfl|refine yDn (by with_reducible constructor) ?_|(with_reducible apply d8);rfl;all_goals (intro hb hp;try (exfalso;omega)))
  (refine l4 rfl ?_)
  have:i=L.length:=by omega
  subst this;rw [<- b6t];exact hS
def ctA (L:List Ar) (q:Int) (i:Nat):List Ar:=a1S (L.take i) q
def ctB (L:List Ar) (q:Int) (i:Nat):List Ar:=a05 (L.take i) q
theorem b44 {L:List Ar} {q:Int} {i:Nat} {a:Ar} (ha:L[i]?=some a) (h:a.pg < q):ctA L q (i + 1)=ctA L q i++[{ a with n:=min a.fin q - a.pg }]:=by
 unfold ctA a1S;rw [a0W ha,xo7];simp [h]
theorem b6E {L:List Ar} {q:Int} {i:Nat} {a:Ar} (ha:L[i]?=some a) (h:¬ a.pg < q):ctA L q (i + 1)=ctA L q i:=by
 unfold ctA a1S;rw [a0W ha,xo7];simp [h]
theorem a95 {L:List Ar} {q:Int} {i:Nat} {a:Ar} (ha:L[i]?=some a) (h:q < a.fin):ctB L q (i + 1)=ctB L q i++[{ a with pg:=max a.pg q,n:=a.fin - max a.pg q }]:=by
 unfold ctB a05;rw [a0W ha,xo7];simp [h]
theorem b2G {L:List Ar} {q:Int} {i:Nat} {a:Ar} (ha:L[i]?=some a) (h:¬ q < a.fin):ctB L q (i + 1)=ctB L q i:=by
 unfold ctB a05;rw [a0W ha,xo7];simp [h]
theorem b5b (L:List Ar) (q:Int) (i:Nat):(ctA L q i).length<=i:=by
 unfold ctA a1S;exact xd3 (xo8 _ _) (by simp;omega)
theorem b38 (L:List Ar) (q:Int) (i:Nat):(ctB L q i).length<=i:=by
 unfold ctB a05;exact xd3 (xo8 _ _) (by simp;omega)
def RowsApart (v u:Value):Prop:=v.ownBlock=none\/v.ownBlock≠u.ownBlock
theorem RowsApart.symm {v u:Value} (h:RowsApart v u):RowsApart u v:=by
 unfold RowsApart at *
 cases hv:v.ownBlock <;> cases hu:u.ownBlock <;> simp_all
 omega
def a7l (A B:List Ar) (w:World) (e:Ending) (w':World):Prop:=∃ va vb,e=.returned (.tuple #[va,vb])/\w'.ownsRow w.heap.size 136 4 va A.length (a0h A)/\w'.ownsRow w.heap.size 136 4 vb B.length (a0h B)/\RowsApart va vb/\Below w.heap.size w w'
theorem a73 {w:World} {b:Nat} {a:Ar} (h:CellsAr w b 0 a):w.cell? ⟨b,0,none⟩=some (.int .i64 a.pg)/\w.cell? ⟨b,1,none⟩=some (.int .i64 a.n)/\w.cell? ⟨b,2,none⟩=some (.int .i64 a.prot)/\w.cell? ⟨b,3,none⟩=some (.bool a.z):=h
theorem a4r {w w':World} {o:Obj} {a:Addr} {v:Value} {row:Option Nat} (h:w.cell? a=some v) (hg:(w.alloc o).grownBy w' row) (hne:row≠some a.block):w'.cell? a=some v :=
 hg.cell ((World.grownBy_alloc w o none).cell h (by simp)) (Ne.symm hne)
theorem a6v (w:World) (g k:Nat) (u:Value):w.grownBy (w.setCell ⟨g,k,none⟩ u) (some g):=⟨rfl,rfl,rfl,by simp,fun j _ hj=>heap_setCell_other w ⟨g,k,none⟩ j u (fun e=>hj (by simp [e]))⟩
theorem a01 {w:World} {base n g k size:Nat} {e:TypeId} {v:Value} {xs:List Value} (h:w.ownsRow base e size v n xs) (hne:v.ownBlock≠some g) (u:Value):(w.setCell ⟨g,k,none⟩ u).ownsRow base e size v n xs :=
 h.kept (a6v w g k u) (xd1 hne)
theorem a3b {w:World} {base n size g:Nat} {e:TypeId} {v:Value} {xs:List Value} (h:w.ownsRow base e size v n xs) (hg:w.heap.size<=g):v.ownBlock≠some g:=fun e=>by
 have:=(h.lt g e).2;omega
theorem a4I {w w':World} {base n n' size:Nat} {e:TypeId} {v u v':Value} {xs ys:List Value} (ho:w.ownsRow base e size u n ys) (hap:RowsApart v u) (hg:w.grownBy w' v.ownBlock) (hat:v'.ownBlock=v.ownBlock\/v'.ownBlock=some w.heap.size) :
  w'.ownsRow base e size u n ys/\RowsApart v' u:=by
 refine ⟨ho.kept hg (by have:=hap.symm;unfold RowsApart at this;exact this),?_⟩;rcases hat with h|h
 ·unfold RowsApart at *;rw [h];exact hap
 ·right;rw [h];intro hu;have:=(ho.lt _ hu.symm).2;omega
theorem b16 {L:List Ar} {w:World} (b off cap:Nat) (page:Int) (hbl:b < w.heap.size) (o4:∀ i a,L[i]?=some a->CellsAr w b (off + i * 4) a) (hok:∀ (i:Nat) (a:Ar),L[i]?=some a->a.ok) (hlen:L.length<=1000) (hp:1<=page/\page<=600) :
  Calls Tryz.prog 169 #[.slice (some ⟨b,off,none⟩) L.length cap,.int .i64 page] w (a7l (a1S L page) (a05 L page) w):=by
 obtain ⟨i0,hi0,hz0,hs0,hy0⟩:=a3h;have HI:=hid hi0;have HZ:=hid hz0;have HSZ:=hid hs0;have HY:=hid hy0;have HL:=hid o4;have HO:=hid hok;obtain ⟨hp1,hp2⟩:=hp;clear hi0 hz0 hs0 hy0 o4 hok
 go_enter Tryz.func169,Tryz.ntmps169
 go_wp2
 go_loopw [6,7,14] (fun va vb vi wr=>∃ i:Nat,i<=L.length/\vi=.int .i64 i/\Below w.heap.size w wr/\wr.ownsRow w.heap.size 136 4 va (ctA L page i).length (a0h (ctA L page i))/\wr.ownsRow w.heap.size 136 4 vb (ctB L page i).length (a0h (ctB L page i))/\Hid (RowsApart va vb)) (fun _ _ vi _=>L.length - (intOf vi).toNat)
 case atStart=>exact ⟨0,by omega,rfl,Below.refl _ _,World.ownsRow_nil _ _ _ _,World.ownsRow_nil _ _ _ _,xd4 rfl⟩
 case round=>
  obtain ⟨i,hi,rfl,hb2,hoA,hoB,HAP⟩:=hrel;by_cases hlt:i < L.length
  ·obtain ⟨a,ha⟩:∃ a,L[i]?=some a:=⟨L[i],by simp [hlt]⟩;obtain ⟨c0,c1,c2,c3⟩:=(HL.out i a ha).grown hb2 hbl;have hao:=HO.out i a ha;have hbr:=a1z (xb6 hbl hb2.size);have hb2w:=hb2.size;have HMS:=hid (ms5 hlt);have hws:wrap64 ((i:Int) + 1)=(i:Int) + 1:=j0 _ (by omega) (by omega);have hlA:=b5b L page i;have hlB:=b38 L page i;have HE:=hid (fun w=>a5k a w);rw [a2A hao] at HE;unfold arC at HE;have hdef:a.fin=a.pg + a.n:=rfl;unfold Ar.ok at hao;have hmw:wrap64 (min a.fin page - a.pg)=min a.fin page - a.pg:=j0 _ (by omega) (by omega);have hmx:wrap64 (a.fin - max a.pg page)=a.fin - max a.pg page:=j0 _ (by omega) (by omega);have HDEF:=hid hdef;have HAO:=hid hao;clear hdef hao;by_cases h1:a.pg < page
   ·have HXA:=hid (b44 ha h1);have HB1:=hid (fun h=>@a95 L page i a ha h);have HB0:=hid (fun h=>@b2G L page i a ha h);generalize a.fin=f at *
    go_wp2
    refine a0F 8 (by kernel_rfl) (by kernel_rfl) ?_;simp only [xl5,xl6,xl1,xl2]
    repeat ((go_big_quiet_step ((go_at_call 153;exact Calls.regrown_of (HE.out _)))))
    refine wpQuiet_nil ?_;intro wq hw';obtain ⟨⟨dq,osq⟩,hw''⟩:=hw';have hbr:=n5 hw'';clear hw''
    first
     |(have hbn:=bt hbq hbr;clear hcq hfq hzq hbq hbr;have hbq:=hbn;clear hbn)
     |(have hbq:=hbr;clear hbr)
    obtain ⟨hcq,hfq,hzq⟩:=a0g hbq;have nA:=a3b hoA (show wr.heap.size<=wr.heap.size + 1 by omega);have nB:=a3b hoB (show wr.heap.size<=wr.heap.size + 1 by omega);have pA:=a3b hoA (xd2 _);have pB:=a3b hoB (xd2 _);have hoA:=t4 ((hoA.alloc _).alloc _) hbq;have hoB:=t4 ((hoB.alloc _).alloc _) hbq;have hb2a:=hb2.alloc hb2.size (.cells #[.int .i64 a.pg,.int .i64 a.n,.int .i64 a.prot,.bool a.z] 136);have hb2:=bt (hb2a.alloc hb2a.size _) hbq;clear hb2a;have hsz1:=hbq.size;simp at hsz1
    go_upto_region 8 with fail
    generalize hW:wq.setCell ⟨wr.heap.size + 1,1,none⟩ (.int .i64 (min f page - a.pg))=w6;have hoA:=hW ▸ a01 hoA nA (.int .i64 (min f page - a.pg)) (k:=1);have hoB:=hW ▸ a01 hoB nB (.int .i64 (min f page - a.pg)) (k:=1);have hwr:w.heap.size<=wr.heap.size:=hb2w;have hb6:=hW ▸ hb2.setCell (p:=⟨wr.heap.size + 1,1,none⟩) (Nat.le_succ_of_le hwr) (.int .i64 (min f page - a.pg));have y0:w6.cell? ⟨wr.heap.size + 1,0,none⟩=some (.int .i64 a.pg):=by rw [<- hW];simp [go_sem,hcq]
    have y1:w6.cell? ⟨wr.heap.size + 1,1,none⟩=some (.int .i64 (min f page - a.pg)):=by rw [<- hW];simp [go_sem,hcq]
    have y2:w6.cell? ⟨wr.heap.size + 1,2,none⟩=some (.int .i64 a.prot):=by rw [<- hW];simp [go_sem,hcq]
    have y3:w6.cell? ⟨wr.heap.size + 1,3,none⟩=some (.bool a.z):=by rw [<- hW];simp [go_sem,hcq]
    have x0:w6.cell? ⟨wr.heap.size,0,none⟩=some (.int .i64 a.pg):=by rw [<- hW];simp [go_sem,hcq]
    have x1:w6.cell? ⟨wr.heap.size,1,none⟩=some (.int .i64 a.n):=by rw [<- hW];simp [go_sem,hcq]
    have x2:w6.cell? ⟨wr.heap.size,2,none⟩=some (.int .i64 a.prot):=by rw [<- hW];simp [go_sem,hcq]
    have x3:w6.cell? ⟨wr.heap.size,3,none⟩=some (.bool a.z):=by rw [<- hW];simp [go_sem,hcq]
    have z6:wr.heap.size + 1 < w6.heap.size:=by rw [<- hW];simp;omega
    clear hW hcq hfq hzq hbq hb2;have z6a:=a1z z6
    go_upto_region 9 with (first|(with_reducible refine x8 34 ?_);refine wpList_append_own_at _ rfl (.tmp 31) (.tmp 33) 39 rfl w.heap.size 136 i0 (.agg #[.int .i64 0,.int .i64 0,.int .i64 0,.bool false]) 4 32 Tryz.underlying39 HI.out HZ.out HSZ.out HY.out rfl (by decide) (u6) ((ctA L page i).length) (a0h (ctA L page i)) rfl (hoA.alloc _) ⟨w6.heap.size,0,none⟩ 1 1 [.int .i64 a.pg,.int .i64 (min f page - a.pg),.int .i64 a.prot,.bool a.z] rfl rfl (a3o w6 _ _ _ _ _) (by intro u hu;simp at hu;rcases hu with rfl|rfl|rfl|rfl <;> rfl) (by unfold maxLen;omega) (by omega) (by have:=hb6.size;simp;omega) ?_;intro v3 w3 hown3 hg3 hn3 hat3)
    have hb3:=(hb6.alloc hb6.size _).grown hg3 (by have:=hb6.size;simp;omega) (fun j hj=>(hoA.lt j hj).1);obtain ⟨hoB3,HAP3⟩:=a4I (n':=0) (xs:=[]) (hoB.alloc _) HAP.out hg3 hat3;have hoA3:w3.ownsRow w.heap.size 136 4 v3 (ctA L page (i + 1)).length (a0h (ctA L page (i + 1))):=by
     rw [HXA.out,a1g,xe5];exact hown3
    have x0:=a4r x0 hg3 pA;have x1:=a4r x1 hg3 pA;have x2:=a4r x2 hg3 pA;have x3:=a4r x3 hg3 pA;have CX:CellsAr w3 wr.heap.size 0 a:=⟨x0,x1,x2,x3⟩;have z3:wr.heap.size < w3.heap.size:=by
     have:=hg3.size;simp at this;omega
    have HAP3:=hid HAP3;clear hoA hoB hown3 hg3 hn3 hat3 HAP y0 y1 y2 y3 z6 z6a nA nB pA pB hb6 HXA hmw;by_cases h2:page < f
    ·have HXB:=hid (HB1.out h2)
     go_wp2_with (first|(go_at_call 153;(with_reducible refine (HE.out _).mono ?_);rintro e w4 ⟨rfl,hbq⟩);have hoA4:=t4 hoA3 hbq;have hoB4:=t4 hoB3 hbq;have hb4:=bt hb3 hbq;have z4:wr.heap.size < w4.heap.size:=xb6 z3 hbq.size;have CX4:=CX.grown hbq z3;obtain ⟨q0,q1,q2,q3⟩:=a73 CX4;clear CX hbq hb3 hoA3 hoB3 z3;have hsx:=hb4.size)
     refine a0F 6 (by kernel_rfl) (by kernel_rfl) ?_;simp only [xl5,xl6,xl1,xl2]
     repeat ((go_big_quiet_step ((go_at_call 153;exact Calls.regrown_of (HE.out _)))))
     refine wpQuiet_nil ?_;intro wq hw';obtain ⟨⟨dq,osq⟩,hw''⟩:=hw';have hbr:=n5 hw'';clear hw''
     first
      |(have hbn:=bt hbq hbr;clear hcq hfq hzq hbq hbr;have hbq:=hbn;clear hbn)
      |(have hbq:=hbr;clear hbr)
     obtain ⟨hcq,hfq,hzq⟩:=a0g hbq;have nA:=a3b hoA4 (xd2 _);have nB:=a3b hoB4 (xd2 _);have hoA5:=t4 (hoA4.alloc _) hbq;have hoB5:=t4 (hoB4.alloc _) hbq;have hb5:=bt (hb4.alloc hsx _) hbq;have hsz5:=hbq.size;simp at hsz5
     go_upto_region 13 with fail
     generalize hW:wq.setCell ⟨w4.heap.size,1,none⟩ (.int .i64 (f - max a.pg page))=w8;have hoA8:=hW ▸ a01 hoA5 nA (.int .i64 (f - max a.pg page)) (k:=1);have hoB8:=hW ▸ a01 hoB5 nB (.int .i64 (f - max a.pg page)) (k:=1);have hb8:=hW ▸ hb5.setCell (p:=⟨w4.heap.size,1,none⟩) hsx (.int .i64 (f - max a.pg page));have y0:w8.cell? ⟨w4.heap.size,0,none⟩=some (.int .i64 (max a.pg page)):=by rw [<- hW];simp [go_sem,hcq]
     have y1:w8.cell? ⟨w4.heap.size,1,none⟩=some (.int .i64 (f - max a.pg page)):=by rw [<- hW];simp [go_sem,hcq]
     have y2:w8.cell? ⟨w4.heap.size,2,none⟩=some (.int .i64 a.prot):=by rw [<- hW];simp [go_sem,hcq]
     have y3:w8.cell? ⟨w4.heap.size,3,none⟩=some (.bool a.z):=by rw [<- hW];simp [go_sem,hcq]
     have z8:w4.heap.size < w8.heap.size:=by rw [<- hW];simp;omega
     clear hW hcq hfq hzq hbq hb5 hoA5 hoB5 hoA4 hoB4 hb4;have z8a:=a1z z8;have hs8:=hb8.size
     go_wp2_with (first|(with_reducible refine x8 54 ?_);refine wpList_append_own_at _ rfl (.tmp 51) (.tmp 53) 39 rfl w.heap.size 136 i0 (.agg #[.int .i64 0,.int .i64 0,.int .i64 0,.bool false]) 4 32 Tryz.underlying39 HI.out HZ.out HSZ.out HY.out rfl (by decide) (u7) ((ctB L page i).length) (a0h (ctB L page i)) rfl (hoB8.alloc _) ⟨w8.heap.size,0,none⟩ 1 1 [.int .i64 (max a.pg page),.int .i64 (f - max a.pg page),.int .i64 a.prot,.bool a.z] rfl rfl (a3o w8 _ _ _ _ _) (by intro u hu;simp at hu;rcases hu with rfl|rfl|rfl|rfl <;> rfl) (by unfold maxLen;omega) (by omega) (by simp;omega) ?_;intro v5 w5 hown5 hg5 hn5 hat5)
     have hb9:=(hb8.alloc hs8 _).grown hg5 (by simp;omega) (fun j hj=>(hoB8.lt j hj).1);obtain ⟨hoA9,HAP9⟩:=a4I (n':=0) (xs:=[]) (hoA8.alloc _) (HAP3.out.symm) hg5 hat5;refine ⟨⟨i + 1,hlt,rfl,hb9,hoA9,?_,hid HAP9.symm⟩,HMS.out⟩;rw [HXB.out,a1g,xe5];exact hown5
    ·have HXB:=hid (HB0.out (by (exact Int.not_lt.mp h2)))
     go_wp2_with (first|(go_at_call 153;(with_reducible refine (HE.out _).mono ?_);rintro e w4 ⟨rfl,hbq⟩);have hoA4:=t4 hoA3 hbq;have hoB4:=t4 hoB3 hbq;have hb4:=bt hb3 hbq;have z4:wr.heap.size < w4.heap.size:=xb6 z3 hbq.size;have CX4:=CX.grown hbq z3;obtain ⟨q0,q1,q2,q3⟩:=a73 CX4;clear CX hbq hb3 hoA3 hoB3 z3;have hsx:=hb4.size)
     refine ⟨⟨i + 1,hlt,rfl,hb4,hoA4,?_,HAP3⟩,HMS.out⟩;rw [HXB.out];exact hoB4
   ·have HXA:=hid (b6E ha h1);have HB1:=hid (fun h=>@a95 L page i a ha h);have HB0:=hid (fun h=>@b2G L page i a ha h);generalize a.fin=f at *
    go_upto_region 9 with fail
    have hb3:=hb2.alloc hb2w (.cells #[.int .i64 a.pg,.int .i64 a.n,.int .i64 a.prot,.bool a.z] 136);have hoA3:=hoA.alloc (.cells #[.int .i64 a.pg,.int .i64 a.n,.int .i64 a.prot,.bool a.z] 136);have hoB3:=hoB.alloc (.cells #[.int .i64 a.pg,.int .i64 a.n,.int .i64 a.prot,.bool a.z] 136);generalize hW:wr.alloc (.cells #[.int .i64 a.pg,.int .i64 a.n,.int .i64 a.prot,.bool a.z] 136)=w3 at *;have x0:w3.cell? ⟨wr.heap.size,0,none⟩=some (.int .i64 a.pg):=by rw [<- hW];simp [go_sem]
    have x1:w3.cell? ⟨wr.heap.size,1,none⟩=some (.int .i64 a.n):=by rw [<- hW];simp [go_sem]
    have x2:w3.cell? ⟨wr.heap.size,2,none⟩=some (.int .i64 a.prot):=by rw [<- hW];simp [go_sem]
    have x3:w3.cell? ⟨wr.heap.size,3,none⟩=some (.bool a.z):=by rw [<- hW];simp [go_sem]
    have z3:wr.heap.size < w3.heap.size:=by rw [<- hW];simp
    have CX:CellsAr w3 wr.heap.size 0 a:=⟨x0,x1,x2,x3⟩;rw [<- HXA.out] at hoA3;have HAP3:=HAP;clear hW hoA hoB hb2 HAP hmw;by_cases h2:page < f
    ·have HXB:=hid (HB1.out h2)
     go_wp2_with (first|(go_at_call 153;(with_reducible refine (HE.out _).mono ?_);rintro e w4 ⟨rfl,hbq⟩);have hoA4:=t4 hoA3 hbq;have hoB4:=t4 hoB3 hbq;have hb4:=bt hb3 hbq;have z4:wr.heap.size < w4.heap.size:=xb6 z3 hbq.size;have CX4:=CX.grown hbq z3;obtain ⟨q0,q1,q2,q3⟩:=a73 CX4;clear CX hbq hb3 hoA3 hoB3 z3;have hsx:=hb4.size)
     refine a0F 6 (by kernel_rfl) (by kernel_rfl) ?_;simp only [xl5,xl6,xl1,xl2]
     repeat ((go_big_quiet_step ((go_at_call 153;exact Calls.regrown_of (HE.out _)))))
     refine wpQuiet_nil ?_;intro wq hw';obtain ⟨⟨dq,osq⟩,hw''⟩:=hw';have hbr:=n5 hw'';clear hw''
     first
      |(have hbn:=bt hbq hbr;clear hcq hfq hzq hbq hbr;have hbq:=hbn;clear hbn)
      |(have hbq:=hbr;clear hbr)
     obtain ⟨hcq,hfq,hzq⟩:=a0g hbq;have nA:=a3b hoA4 (xd2 _);have nB:=a3b hoB4 (xd2 _);have hoA5:=t4 (hoA4.alloc _) hbq;have hoB5:=t4 (hoB4.alloc _) hbq;have hb5:=bt (hb4.alloc hsx _) hbq;have hsz5:=hbq.size;simp at hsz5
     go_upto_region 13 with fail
     generalize hW:wq.setCell ⟨w4.heap.size,1,none⟩ (.int .i64 (f - max a.pg page))=w8;have hoA8:=hW ▸ a01 hoA5 nA (.int .i64 (f - max a.pg page)) (k:=1);have hoB8:=hW ▸ a01 hoB5 nB (.int .i64 (f - max a.pg page)) (k:=1);have hb8:=hW ▸ hb5.setCell (p:=⟨w4.heap.size,1,none⟩) hsx (.int .i64 (f - max a.pg page));have y0:w8.cell? ⟨w4.heap.size,0,none⟩=some (.int .i64 (max a.pg page)):=by rw [<- hW];simp [go_sem,hcq]
     have y1:w8.cell? ⟨w4.heap.size,1,none⟩=some (.int .i64 (f - max a.pg page)):=by rw [<- hW];simp [go_sem,hcq]
     have y2:w8.cell? ⟨w4.heap.size,2,none⟩=some (.int .i64 a.prot):=by rw [<- hW];simp [go_sem,hcq]
     have y3:w8.cell? ⟨w4.heap.size,3,none⟩=some (.bool a.z):=by rw [<- hW];simp [go_sem,hcq]
     have z8:w4.heap.size < w8.heap.size:=by rw [<- hW];simp;omega
     clear hW hcq hfq hzq hbq hb5 hoA5 hoB5 hoA4 hoB4 hb4;have z8a:=a1z z8;have hs8:=hb8.size
     go_wp2_with (first|(with_reducible refine x8 54 ?_);refine wpList_append_own_at _ rfl (.tmp 51) (.tmp 53) 39 rfl w.heap.size 136 i0 (.agg #[.int .i64 0,.int .i64 0,.int .i64 0,.bool false]) 4 32 Tryz.underlying39 HI.out HZ.out HSZ.out HY.out rfl (by decide) (u7) ((ctB L page i).length) (a0h (ctB L page i)) rfl (hoB8.alloc _) ⟨w8.heap.size,0,none⟩ 1 1 [.int .i64 (max a.pg page),.int .i64 (f - max a.pg page),.int .i64 a.prot,.bool a.z] rfl rfl (a3o w8 _ _ _ _ _) (by intro u hu;simp at hu;rcases hu with rfl|rfl|rfl|rfl <;> rfl) (by unfold maxLen;omega) (by omega) (by simp;omega) ?_;intro v5 w5 hown5 hg5 hn5 hat5)
     have hb9:=(hb8.alloc hs8 _).grown hg5 (by simp;omega) (fun j hj=>(hoB8.lt j hj).1);obtain ⟨hoA9,HAP9⟩:=a4I (n':=0) (xs:=[]) (hoA8.alloc _) (HAP3.out.symm) hg5 hat5;refine ⟨⟨i + 1,hlt,rfl,hb9,hoA9,?_,hid HAP9.symm⟩,HMS.out⟩;rw [HXB.out,a1g,xe5];exact hown5
    ·have HXB:=hid (HB0.out (by (exact h2)))
     go_wp2_with (first|(go_at_call 153;(with_reducible refine (HE.out _).mono ?_);rintro e w4 ⟨rfl,hbq⟩);have hoA4:=t4 hoA3 hbq;have hoB4:=t4 hoB3 hbq;have hb4:=bt hb3 hbq;have z4:wr.heap.size < w4.heap.size:=xb6 z3 hbq.size;have CX4:=CX.grown hbq z3;obtain ⟨q0,q1,q2,q3⟩:=a73 CX4;clear CX hbq hb3 hoA3 hoB3 z3;have hsx:=hb4.size)
     refine ⟨⟨i + 1,hlt,rfl,hb4,hoA4,?_,HAP3⟩,HMS.out⟩;rw [HXB.out];exact hoB4
  ·go_wp2
   go_ret2
   obtain rfl:i=L.length:=by omega
   unfold ctA at hoA;unfold ctB at hoB;rw [xg1] at hoA hoB;exact ⟨_,_,rfl,hoA,hoB,HAP.out,hb2⟩
theorem b5a (p:Option Addr) (c:Nat) (page:Int) (w:World):Calls Tryz.prog 169 #[.slice p 0 c,.int .i64 page] w (a7l [] [] w):=by
 go_enter Tryz.func169,Tryz.ntmps169
 go_wp2
 go_loopw [6,7,14] (fun va vb vi wr=>va=.slice none 0 0/\vb=.slice none 0 0/\vi=.int .i64 0/\w=wr) (fun _ _ _ _=>0)
 case atStart=>exact ⟨rfl,rfl,rfl,rfl⟩
 case round=>
  obtain ⟨rfl,rfl,rfl,rfl⟩:=hrel
  go_wp2
  go_ret2
  exact ⟨_,_,rfl,World.ownsRow_nil _ _ _ _,World.ownsRow_nil _ _ _ _,xd4 rfl,Below.refl _ _⟩
theorem b6O {v:Value} {L:List Ar} {w:World} {page:Int} (h:SlAr w v L) (hok:∀ (i:Nat) (a:Ar),L[i]?=some a->a.ok) (hlen:L.length<=1000) (hp:1<=page/\page<=600):Calls Tryz.prog 169 #[v,.int .i64 page] w (a7l (a1S L page) (a05 L page) w):=by
 rcases h with ⟨p,c,rfl,rfl⟩|⟨b,off,cap,rfl,h2,h3,h4,h5⟩
 ·exact b5a p c page w
 ·exact b16 b off cap page h2 h5 hok hlen hp
def b3v (w:World) (e:Ending) (w':World):Prop:=∃ v,e=.returned v/\w'.ownsRow w.heap.size 136 4 v 0 []/\Below w.heap.size w w'
theorem b3p (n:Nat) (hn:n<=3000) (w:World):Calls Tryz.prog 200 #[.slice none 0 0,.int .i64 n] w (b3v w):=by
 have h1:¬ ((n:Int) < 0):=by omega
 by_cases h0:n=0
 ·subst h0
  go_enter Tryz.func200,Tryz.ntmps200
  go_wp2
  go_ret
  exact ⟨_,rfl,World.ownsRow_nil _ _ _ _,Below.refl _ _⟩
 obtain ⟨i0,hi0,hz0,hs0,hy0⟩:=a3h;have hn1:wrap64 ((n:Int) - 0)=n:=j0 _ (by omega) (by omega);have hbys:n * i0.bytes<=140737488355328:=by rw [hy0];omega
 have hrz:∀ ty,(Builtin.append_ #[39,3] ty #[.slice none 0 0,.int .i64 n]).run Tryz.prog w =
   .ok (.slice (some ⟨w.heap.size,0,none⟩) n (grownCap w n 0 136)) (w.drew.alloc (.cells (#[]++Builtin.zeroCells #[.int .i64 0,.int .i64 0,.int .i64 0,.bool false] n++Builtin.zeroCells #[.int .i64 0,.int .i64 0,.int .i64 0,.bool false] (grownCap w n 0 136 - n)) 136)):=fun ty=>by
  have h:=Lib.run_append_grow_zeros (P:=Tryz.prog) w 39 3 ty 136 i0 _ .i64 .i64 Tryz.underlying39 Tryz.underlying3 hi0 hz0 none 0 0 [] (run_firstCells_none w.drew i0.size 0 0 0) n (by omega) (by omega) (by omega) (by omega) (by omega)
   (by rw [xa8];exact growslice_fits (by omega) hbys)
  rw [xa8] at h;exact h
 have hge:=grownCap_ge w n 0 136;have hcm:=grownCap_le_maxLen w n 0 136 (by unfold maxLen;omega);have hG63:grownCap w n 0 136<=9223372036854775807:=by unfold maxLen at hcm;exact hcm
 have hzz:∀ k,(Builtin.zeroCells #[.int .i64 0,.int .i64 0,.int .i64 0,.bool false] k).size=k * 4:=fun k=>by simp [size_zeroCells]
 generalize grownCap w n 0 136=G at *;have HZZ:=hid hzz;have HHI:=hid hbys;have HCM:=hid hcm;clear hbys hi0 hz0 hs0 hy0 hzz hcm h1;obtain ⟨cur,hcur⟩:∃ cur,cur=(#[]++Builtin.zeroCells #[.int .i64 0,.int .i64 0,.int .i64 0,.bool false] n++Builtin.zeroCells #[.int .i64 0,.int .i64 0,.int .i64 0,.bool false] (G - n)):=⟨_,rfl⟩;rw [<- hcur] at hrz;have HCU:Hid (cur.size=G * 4):=hid (by
  rw [hcur,Array.size_append,Array.size_append,HZZ.out,HZZ.out];simp;omega)
 clear hcur
 go_enter Tryz.func200,Tryz.ntmps200
 go_wp2_with (at_builtin;refine Lib.wpList_append_run _ rfl _ _ _ _ rfl _ _ rfl rfl _ _ (hrz _) ?_)
 go_ret
 refine ⟨_,rfl,⟨rfl,xd1 ⟨w.heap.size,G,cur,rfl,xd2 _,heap_alloc_new w.drew _,xf9 _,HCM.out,HCU.out,rfl⟩⟩,Below.alloc (Below.drew (Below.refl _ _)) (xd2 _) _⟩
theorem a8z (L M:List Ar):a0h (L++M)=a0h L++a0h M:=by simp [a0h]
theorem b3I {w:World} {b:Nat}:∀ (L:List Ar) (off:Nat),(∀ i a,L[i]?=some a->CellsAr w b (off + i * 4) a)->∀ j u,(a0h L)[j]?=some u->w.cell? ⟨b,off + j,none⟩=some u:=by
 intro L
 induction L with
 |nil=>intro off _ j u h;simp [a0h] at h
 |cons a L ih=>
  intro off h j u hu;obtain ⟨c0,c1,c2,c3⟩:=h 0 a rfl;rw [show off + 0 * 4=off by omega] at c0 c1 c2 c3;have hfl:a0h (a::L)=arC a++a0h L:=by simp [a0h]
  rw [hfl] at hu;by_cases hj:j < 4
  ·rw [xa5 (by simpa [arC] using hj)] at hu
   match j,hj with
   |0,_=>simp [arC] at hu;subst hu;exact c0
   |1,_=>simp [arC] at hu;subst hu;exact c1
   |2,_=>simp [arC] at hu;subst hu;exact c2
   |3,_=>simp [arC] at hu;subst hu;exact c3
  ·rw [xa4 (by simp [arC];omega)] at hu;have hl:(arC a).length=4:=rfl;rw [hl] at hu;have:=ih (off + 4) (fun i a' ha=>by
    have:=h (i + 1) a' ha;rw [show off + (i + 1) * 4=off + 4 + i * 4 by omega] at this;exact this) (j - 4) u hu
   rw [show off + 4 + (j - 4)=off + j by omega] at this;exact this
theorem b2u (L:List Ar):∀ u ∈ a0h L,u.oneCell'=true:=by
 intro u hu;unfold a0h at hu;obtain ⟨a,_,ha⟩:=xh5.1 hu;simp [arC] at ha;rcases ha with rfl|rfl|rfl|rfl <;> rfl
theorem b1G {w:World} {base:Nat} {v u:Value} {L M:List Ar} (hown:w.ownsRow base 136 4 v L.length (a0h L)) (hs:SlAr w u M) (hlen:L.length + M.length<=10000) (hb:base<=w.heap.size) :
  ∃ v' w',(Builtin.append_ #[39,39] 39 #[v,u]).run Tryz.prog w=.ok v' w'/\w'.ownsRow base 136 4 v' (L++M).length (a0h (L++M))/\w.grownBy w' v.ownBlock:=by
 obtain ⟨i0,hi0,hz0,hs0,hy0⟩:=a3h;rcases hs with ⟨p,c,rfl,rfl⟩|⟨b,off,cap,rfl,h2,h3,h4,h5⟩
 ·cases p with
  |none=>
   have e:Builtin.append_ #[39,39] 39 #[v,.slice none 0 c]=Builtin.append_ #[39,39] 39 #[v,.slice none 0 0]:=rfl;rw [e];refine ⟨v,w,run_append_owned_none w base _ _ _ i0 4 Tryz.underlying39 hi0 v _ _ hown,?_,World.grownBy.refl _ _⟩;rw [List.append_nil];exact hown
  |some a=>
   obtain ⟨v',w',hr,ho,hg,_⟩:=run_append_own_wide (P:=Tryz.prog) w base 39 39 136 i0 _ 4 32 Tryz.underlying39 hi0 hz0 hs0 hy0 rfl (by decide) v _ _ hown a 0 c [] rfl (fun j u hu=>by simp at hu) (by simp) (by unfold maxLen;omega) (by simp at hlen;omega) hb;refine ⟨v',w',hr,?_,hg⟩;rw [List.append_nil] at ho |-;exact ho
 ·obtain ⟨v',w',hr,ho,hg,_⟩:=run_append_own_wide (P:=Tryz.prog) w base 39 39 136 i0 _ 4 32 Tryz.underlying39 hi0 hz0 hs0 hy0 rfl (by decide) v _ _ hown ⟨b,off,none⟩ M.length cap (a0h M) (a27 M) (fun j u hu=>by rw [Addr.add_lit];exact b3I M off h5 j u hu) (b2u M) (by unfold maxLen;omega) (by omega) hb;refine ⟨v',w',hr,?_,hg⟩;rw [a8z,xe5];exact ho
def cat (F:Nat->List Ar) (i:Nat):List Ar:=(List.range i).flatMap F
theorem a6a (F:Nat->List Ar) (i:Nat):cat F (i + 1)=cat F i++F i:=by simp [cat,List.range_succ]
theorem b5e {F:Nat->List Ar} {n:Nat} (h:∀ i,i < n->(F i).length<=1000):∀ i,i<=n->(cat F i).length<=i * 1000:=by
 intro i
 induction i with
 |zero=>intro _;simp [cat]
 |succ i ih=>
  intro hi;have:=ih (by omega);have:=h i (by omega);rw [a6a,xe5];omega
theorem b4n {w:World} {v:Value} {L:List Ar} (h:SlAr w v L):∃ base cap,v=.slice base L.length cap:=by
 rcases h with ⟨p,c,rfl,rfl⟩|⟨b,off,cap,rfl,_⟩
 ·exact ⟨p,c,rfl⟩
 ·exact ⟨_,_,rfl⟩
theorem SlAr.below {w w':World} {v:Value} {L:List Ar} (h:SlAr w v L) (hb:Below w.heap.size w w'):SlAr w' v L:=by
 rcases h with h|⟨b,off,cap,rfl,h2,h3,h4,h5⟩
 ·exact xd4 h
 ·exact xd1 ⟨b,off,cap,rfl,xb6 h2 hb.size,h3,h4,fun i a ha=>(h5 i a ha).grown hb h2⟩
theorem ms3 {i:Nat} (h:i < 3):3 - ((i:Int) + 1).toNat < 3 - (i:Int).toNat:=by omega
theorem a7U {w:World} (c:Nat) (V:Nat->Value) (F:Nat->List Ar) (hcl:c < w.heap.size) (hc:∀ i,i < 3->w.cell? ⟨c,i,none⟩=some (V i)) (hs:∀ i,i < 3->SlAr w (V i) (F i)) (hlen:∀ i,i < 3->(F i).length<=1000) :
  Calls Tryz.prog 171 #[.slice (some ⟨c,0,none⟩) 3 3] w (a7i (cat F 3) w):=by
 have HCL:=hid (b5e hlen);have HL:=hid hlen;have HS:=hid hs;have HC:=hid hc;clear hlen hs hc
 go_enter Tryz.func171,Tryz.ntmps171
 go_wp2
 go_loopw [3,11] (fun vs vi wr=>∃ i:Nat,i<=3/\vi=.int .i64 i/\vs=.int .i64 (cat F i).length/\wr=w) (fun _ vi _=>3 - (intOf vi).toNat)
 case atStart=>exact ⟨0,by omega,rfl,rfl,rfl⟩
 case round=>
  obtain ⟨i,hi,rfl,rfl,rfl⟩:=hrel;by_cases hlt:i < 3
  ·obtain ⟨base,cp,hv⟩:=b4n (HS.out i hlt);have hci:=HC.out i hlt;rw [hv] at hci;have h1:=HL.out i hlt;have h2:=HCL.out i hi;have hsum:wrap64 (((cat F i).length:Int) + (F i).length)=(cat F i).length + (F i).length:=j0 _ (by omega) (by omega);have hnn:¬ (((cat F i).length:Int) + (F i).length < 0):=by omega
   have hws:wrap64 ((i:Int) + 1)=(i:Int) + 1:=j0 _ (by omega) (by omega);have HMS:=hid (ms3 hlt);have HX:=hid (a6a F i);clear hv h1 h2
   go_wp2
   refine ⟨⟨i + 1,hlt,rfl,?_,by trivial⟩,HMS.out⟩;rw [HX.out,xe5,hsum,Int.natCast_add]
  ·obtain rfl:i=3:=by omega
   have HG:=hid (b3p (cat F 3).length (xd3 (HCL.out 3 (xd2 _)) (by decide)) wr)
   go_upto_region 11 with (go_at_call 200;refine HG.out.mono ?_;rintro e wz ⟨vz,rfl,hoz,hbz⟩)
   have hzz:=hbz.size
   go_loopw [6,27] (fun vo vi w2=>∃ i:Nat,i<=3/\vi=.int .i64 i/\Below wr.heap.size wr w2/\w2.ownsRow wr.heap.size 136 4 vo (cat F i).length (a0h (cat F i))) (fun _ vi _=>3 - (intOf vi).toNat)
   case atStart=>exact ⟨0,by omega,rfl,hbz,hoz⟩
   case round=>
    rename_i w2 _;obtain ⟨i,hi,rfl,hb2,hown⟩:=hrel;by_cases hlt:i < 3
    ·have hsl:=(HS.out i hlt).below hb2;have hci:=(hb2.cell (p:=⟨c,i,none⟩) hcl).trans (HC.out i hlt);have h1:=HL.out i hlt;have h2:=HCL.out i hi;have hws:wrap64 ((i:Int) + 1)=(i:Int) + 1:=j0 _ (by omega) (by omega);have HMS:=hid (ms3 hlt);have HX:=hid (a6a F i);obtain ⟨v3,w3,hr,ho3,hg3⟩:=b1G hown hsl (by omega) hb2.size;have HO3:=hid ho3;have HG3:=hid hg3;have HOW:=hid hown;clear h1 h2 hsl ho3 hg3 hown
     go_wp2_with (at_builtin;refine Lib.wpList_append_run _ rfl _ _ _ _ rfl _ _ rfl rfl _ _ hr ?_)
     have hown:=HOW.out;have hb3:=hb2.grown HG3.out hb2.size (fun j hj=>(hown.lt j hj).1);refine ⟨⟨i + 1,hlt,rfl,hb3,?_⟩,HMS.out⟩;rw [HX.out];exact HO3.out
    ·obtain rfl:i=3:=by omega
     go_wp2
     go_ret
     exact ⟨_,rfl,a2X hown (xd2 _),hb2⟩
def a48 (a:Ar) (page:Int):Int:=if wrap64 a.fin<=page then -1 else 1
theorem a97 (a:Ar) (page:Int) (w:World):Calls Tryz.prog 164 #[.agg (arC a).toArray,.int .i64 page] w (RB (.int .i64 (a48 a page)) w):=by
 have HE:=hid (fun w=>a5k a w);have HC:Hid (a48 a page=if wrap64 a.fin<=page then -1 else 1):=hid rfl;generalize wrap64 a.fin=f at *;unfold arC at *;by_cases h:f<=page
 ·go_enter Tryz.func164,Tryz.ntmps164
  go_wp2_with (first|go_at_call 153;(with_reducible refine (HE.out _).mono ?_);rintro e w1 ⟨rfl,hb1⟩)
  go_ret
  exact ⟨r9 (by rw [HC.out,xe6 h]),(by repeat (first|with_reducible exact Below.refl _ _|with_reducible refine Below.alloc ?_ (by (omega)) _|refine bt ?_ (by with_reducible assumption)))⟩
 ·go_enter Tryz.func164,Tryz.ntmps164
  go_wp2_with (first|go_at_call 153;(with_reducible refine (HE.out _).mono ?_);rintro e w1 ⟨rfl,hb1⟩)
  go_ret
  exact ⟨r9 (by rw [HC.out,xe7 (by omega)]),(by repeat (first|with_reducible exact Below.refl _ _|with_reducible refine Below.alloc ?_ (by (omega)) _|refine bt ?_ (by with_reducible assumption)))⟩
theorem b6b (a:Ar) (page:Int):(a48 a page == 0)=false:=by unfold a48;split <;> decide
theorem b33 {a:Ar} {page:Int}:a48 a page < 0 ↔ wrap64 a.fin<=page:=by unfold a48;split <;> omega
theorem a5X {L:List Ar} (h:a1D L):∀ {j k:Nat} {a b:Ar},j < k->L[j]?=some a->L[k]?=some b->a.fin<=b.pg:=by
 have ok:=(a28 L).1 h;intro j k
 induction k with
 |zero=>intro a b hj;omega
 |succ k ih=>
  intro a b hj ha hb;obtain ⟨hk,_⟩:=xa6.1 hb;obtain ⟨c,hc⟩:∃ c,L[k]?=some c:=⟨L[k],by simp⟩;have h1:=((a6W hb hc).1 (ok (k + 1) hk)).2.1;rcases xo5.1 hj with h2|h2
  ·have h3:=ih h2 ha hc;have h4:=y9 h k c hc;unfold Ar.ok at h4;unfold Ar.fin at *;omega
  ·subst h2;rw [ha] at hc;cases hc;exact h1
def a3x (L:List Ar) (page:Int) (i j:Nat):Prop:=a1D L->(∀ (t:Nat) (a:Ar),t < i->L[t]?=some a->a.fin<=page)/\(∀ (t:Nat) (a:Ar),j<=t->L[t]?=some a->page < a.fin)
theorem a8F (L:List Ar) (page:Int):a3x L page 0 L.length:=fun _=>⟨fun t a h=>by omega,fun t a h ha=>by obtain ⟨h2,_⟩:=xa6.1 ha;omega⟩
theorem b4t {L:List Ar} {page:Int} {i j h:Nat} {a:Ar} (hI:a3x L page i j) (ha:L[h]?=some a) (hc:a48 a page < 0):a3x L page (h + 1) j:=fun hg=>by
 have hok:=y9 hg h a ha;rw [b33,a2A hok] at hc;refine ⟨fun t b ht hb=>?_,(hI hg).2⟩;rcases xo5.1 ht with h1|h1
 ·have:=a5X hg h1 hb ha;have hb':=y9 hg t b hb;unfold Ar.ok at hok;unfold Ar.fin at *;omega
 ·subst h1;rw [ha] at hb;cases hb;exact hc
theorem b2l {L:List Ar} {page:Int} {i j h:Nat} {a:Ar} (hI:a3x L page i j) (ha:L[h]?=some a) (hc:¬ a48 a page < 0):a3x L page i h:=fun hg=>by
 have hok:=y9 hg h a ha;rw [b33,a2A hok] at hc;refine ⟨(hI hg).1,fun t b ht hb=>?_⟩;rcases Nat.lt_or_eq_of_le ht with h1|h1
 ·have:=a5X hg h1 ha hb;have hb':=y9 hg t b hb;unfold Ar.ok at hb';unfold Ar.fin at *;omega
 ·subst h1;rw [ha] at hb;cases hb;omega
def a9L (L:List Ar) (page:Int) (w:World) (e:Ending) (w':World):Prop:=∃ i:Nat,i<=L.length/\e=.returned (.tuple #[.int .i64 i,.bool false])/\Below w.heap.size w w'/\a3x L page i i
theorem b3Y (i j n:Nat) (hi:i<=n) (hj:j<=n) (h:n<=9223372036854775807):IntKind.u64.wrap (wrap64 ((i:Int) + j))=(i:Int) + j:=by
 rw [IntKind.wrap_u64];unfold wrap64;omega
theorem b1R (i j n:Nat) (hi:i<=n) (hj:j<=n) (h:n<=9223372036854775807):IntKind.u64.wrap ((i:Int) + j)=(i:Int) + j:=by
 rw [IntKind.wrap_u64];omega
theorem b07 (h n:Nat) (h1:h < n) (h2:n<=9223372036854775807):wrap64 ((h:Int) + 1)=(h:Int) + 1:=by unfold wrap64;omega
theorem b0w {n cap:Nat} (h:n<=cap) (hm:cap<=maxLen):n<=9223372036854775807:=xd3 h hm
theorem ms1 {i j h:Nat} (h1:i<=h) (h2:h < j):(j:Int).toNat - ((h:Int) + 1).toNat < (j:Int).toNat - (i:Int).toNat:=by omega
theorem ms2 {i j h:Nat} (h1:i<=h) (h2:h < j):(h:Int).toNat - (i:Int).toNat < (j:Int).toNat - (i:Int).toNat:=by omega
theorem b0R (i j n:Nat) (hi:i<=n) (hj:j<=n) (h:n<=9223372036854775807):wrap64 (((i:Int) + j) / 2)=((i + j) / 2:Nat):=by
 unfold wrap64;omega
theorem b6X {L:List Ar} {w:World} (b off cap:Nat) (page:Int) (hbl:b < w.heap.size) (hcap:L.length<=cap) (hmax:cap<=maxLen) (o4:∀ i a,L[i]?=some a->CellsAr w b (off + i * 4) a) :
  Calls Tryz.prog 163 #[.slice (some ⟨b,off,none⟩) L.length cap,.int .i64 page,.func (.func 164) #[] #[]] w (a9L L page w):=by
 have hlen:=b0w hcap hmax;clear hmax hcap;have HLEN:=hid hlen;clear hlen;have HL:=hid o4;have HI:=hid (a8F L page);clear o4
 go_enter Tryz.func163,Tryz.ntmps163
 go_wp2
 go_loopw [9,10] (fun vi vj wr=>∃ i j:Nat,i<=j/\j<=L.length/\vi=.int .i64 i/\vj=.int .i64 j/\Below w.heap.size w wr/\Hid (a3x L page i j)) (fun vi vj _=>(intOf vj).toNat - (intOf vi).toNat)
 case atStart=>exact ⟨0,L.length,by omega,by omega,rfl,rfl,Below.refl _ _,HI.out⟩
 case round=>
  clear HI;obtain ⟨i,j,hij,hj,rfl,rfl,hb,HI⟩:=hrel;by_cases hlt:i < j
  ·obtain ⟨h,hh⟩:∃ h,h=(i + j) / 2:=⟨_,rfl⟩;have hhj:h < j:=by omega
   have hih:i<=h:=by omega
   obtain ⟨a,ha⟩:∃ a,L[h]?=some a:=⟨L[h]'(by omega),by simp⟩;obtain ⟨c0,c1,c2,c3⟩:=(HL.out h a ha).grown hb hbl;have hbr:=a1z (xb6 hbl hb.size);have hsz:=hb.size;have hq0:=b1R i j L.length (xd3 hij hj) hj HLEN.out;have hq1:=b3Y i j L.length (xd3 hij hj) hj HLEN.out;have hq2:=b0R i j L.length (xd3 hij hj) hj HLEN.out;rw [<- hh] at hq2;have HC:=hid (fun w=>a97 a page w);unfold arC at HC;have hw1:wrap64 ((h:Int) + 1)=(h:Int) + 1:=b07 h L.length (xb6 hhj hj) HLEN.out;have hlh:(h:Int) < L.length:=Int.ofNat_lt.2 (xb6 hhj hj);clear hh
   go_upto_region 5 with fail
   rw [hq2];clear hq0 hq1 hq2;by_cases hc:a48 a page < 0
   ·have HX:=hid (b4t HI.out ha hc);generalize a48 a page=cv at *
    go_wp2_with (first|go_at_call 164;(with_reducible refine (HC.out _).mono ?_);rintro e w1 ⟨rfl,hb1⟩)
    go_roundw
    case rel=>exact ⟨h + 1,j,Nat.succ_le_of_lt hhj,hj,by rw [hw1];rfl,rfl,(by repeat (first|with_reducible assumption|refine bt ?_ (by with_reducible assumption))),HX.out⟩
    case measure=>(rw [hw1];exact ms1 hih hhj)
   ·have HX:=hid (b2l HI.out ha hc);generalize a48 a page=cv at *
    go_wp2_with (first|go_at_call 164;(with_reducible refine (HC.out _).mono ?_);rintro e w1 ⟨rfl,hb1⟩)
    go_roundw
    case rel=>exact ⟨i,h,hih,Nat.le_of_lt (xb6 hhj hj),rfl,rfl,(by repeat (first|with_reducible assumption|refine bt ?_ (by with_reducible assumption))),HX.out⟩
    case measure=>exact ms2 hih hhj
  ·obtain rfl:i=j:=by omega
   by_cases hn:i < L.length
   ·obtain ⟨a,ha⟩:∃ a,L[i]?=some a:=⟨L[i],by simp [hn]⟩;obtain ⟨c0,c1,c2,c3⟩:=(HL.out i a ha).grown hb hbl;have hbr:=a1z (xb6 hbl hb.size);have hsz:=hb.size;have HC:=hid (fun w=>a97 a page w);have hz:=b6b a page;unfold arC at HC;generalize a48 a page=cv at *
    go_wp2_with (first|go_at_call 164;(with_reducible refine (HC.out _).mono ?_);rintro e w1 ⟨rfl,hb1⟩)
    go_ret2
    exact ⟨i,hj,rfl,(by repeat (first|with_reducible assumption|refine bt ?_ (by with_reducible assumption))),HI.out⟩
   ·go_wp2
    go_ret2
    exact ⟨i,hj,rfl,(by repeat ((with_reducible assumption))),HI.out⟩
theorem a5m {va vb:Value} {A B:List Ar} {w:World} (ha:SlAr w va A) (hb:SlAr w vb B):Calls Tryz.prog 59 #[va,vb] w (RB (.bool (decide (A=B))) w):=by
 rcases ha with ⟨p,c,rfl,rfl⟩|⟨b1,off1,cap1,rfl,h2,h3,h4,h5⟩
 ·rcases hb with ⟨p2,c2,rfl,rfl⟩|⟨b2,off2,cap2,rfl,k2,k3,k4,k5⟩
  ·go_enter Tryz.func59,Tryz.ntmps59
   go_wp2
   go_loopw [5] (fun vi wr=>vi=.int .i64 0/\wr=w) (fun _ _=>0)
   case atStart=>exact ⟨rfl,rfl⟩
   case round=>
    obtain ⟨rfl,rfl⟩:=hrel
    go_wp2
    go_ret
    exact ⟨x5 (by simp),Below.refl _ _⟩
  ·cases B with
   |nil=>
    simp only [xa2]
    go_enter Tryz.func59,Tryz.ntmps59
    go_wp2
    go_loopw [5] (fun vi wr=>vi=.int .i64 0/\wr=w) (fun _ _=>0)
    case atStart=>exact ⟨rfl,rfl⟩
    case round=>
     obtain ⟨rfl,rfl⟩:=hrel
     go_wp2
     go_ret
     exact ⟨x5 (by simp),Below.refl _ _⟩
   |cons c B=>
    have hn:((0:Int) != ((c::B).length:Nat))=true:=by rw [xo9];simp;omega
    generalize hD:(c::B).length=n at *
    go_enter Tryz.func59,Tryz.ntmps59
    go_wp2
    go_ret
    exact ⟨x5 (by simp),Below.refl _ _⟩
 ·rcases hb with ⟨p2,c2,rfl,rfl⟩|⟨b2,off2,cap2,rfl,k2,k3,k4,k5⟩
  ·cases A with
   |nil=>
    simp only [xa2]
    go_enter Tryz.func59,Tryz.ntmps59
    go_wp2
    go_loopw [5] (fun vi wr=>vi=.int .i64 0/\wr=w) (fun _ _=>0)
    case atStart=>exact ⟨rfl,rfl⟩
    case round=>
     obtain ⟨rfl,rfl⟩:=hrel
     go_wp2
     go_ret
     exact ⟨x5 (by simp),Below.refl _ _⟩
   |cons c A=>
    have hn:(((c::A).length:Int) != 0)=true:=by rw [xo9];simp;omega
    generalize hD:(c::A).length=n at *
    go_enter Tryz.func59,Tryz.ntmps59
    go_wp2
    go_ret
    exact ⟨x5 (by simp),Below.refl _ _⟩
  ·by_cases hl:A.length=B.length
   ·exact b1r b1 off1 cap1 b2 off2 cap2 h2 k2 h5 k5 hl (b0w h3 h4)
   ·have HX:=hid (b4B hl);have hn:((A.length:Int) != B.length)=true:=by rw [xo9];omega
    clear hl h4 k4 h5 k5 h3 k3
    go_enter Tryz.func59,Tryz.ntmps59
    go_wp2
    go_ret
    exact ⟨x5 (xi7 HX.out).symm,Below.refl _ _⟩
theorem a1o (n lo hi:Int) (w:World):Calls Tryz.prog 70 #[.int .i64 n,.int .i64 lo,.int .i64 hi] w fun e w'=>e=.returned (.bool (decide (lo<=n/\n<=hi)))/\w=w':=by
 by_cases h1:lo<=n
 ·by_cases h2:n<=hi
  ·go_enter Tryz.func70,Tryz.ntmps70
   go_wp2
   go_ret
   exact ⟨x5 (by simp [h1,h2]),rfl⟩
  ·go_enter Tryz.func70,Tryz.ntmps70
   go_wp2
   go_ret
   exact ⟨x5 (by simp [h1,h2]),rfl⟩
 ·go_enter Tryz.func70,Tryz.ntmps70
  go_wp2
  go_ret
  exact ⟨x5 (by simp;omega),rfl⟩
theorem a07 {P:Program} {w:World} {ops:Array Oper} {rest:List Oper} {o:Oper} {a:Act} {Q:Exit->Act->World->Prop} (hw:Region.wanted o (yielded ops a.tmps)=true) (ty:TypeId) (x:Operand) (ho:o.op=.load ty x) (g:Nat) (L:List Value) (hx:a.eval x=.pointer (some ⟨g,0,none⟩)) (h:HoldL w g L) (d:TypeDesc)
  (hu:P.underlying ty=some d) (hd:(match d with|.struct _|.array _ _=>true|_=>false)=true) (hi:(P.info? ty).map (·.size)=some L.length)
  (next:wpList P ops Q rest (a.put o.dst (.agg L.toArray)) w):wpList P ops Q (o::rest) a w:=by
 obtain ⟨t,ht⟩:=h;unfold wpList;rw [xe6 hw];exact xd4 (wp_load_row ty x ho g hx t _ _ d ht hu hd (by simpa using hi) next)
theorem a3d {v:Value} {L:List Ar} {w:World} (h:SlAr w v L) (hok:∀ (i:Nat) (a:Ar),L[i]?=some a->a.ok) (hlen:L.length<=255):Calls Tryz.prog 120 #[v] w (y6 L w):=by
 rcases h with ⟨p,c,rfl,rfl⟩|⟨b,off,cap,rfl,h2,h3,h4,h5⟩
 ·exact b06 p c w
 ·exact b0S b off cap h2 h5 hok hlen
theorem a8m {L:List Ar} (hl:¬ 255 < L.length) (hr:¬ j3 1 L):g6 L=1:=by
 unfold g6;rw [xe7 hl,xe7 (fun g=>hr g.1)]
theorem a8i {L:List Ar} (hl:¬ 255 < L.length) (hr:j3 1 L):g6 L=if v7 (f6 L) 255=L then 0 else 1:=by
 unfold g6;rw [xe7 hl];by_cases h:a2m L
 ·rw [xe6 ⟨hr,h⟩,xe6 ((a4P hr).2 h)]
 ·rw [xe7 (fun g=>h g.2),xe7 (fun e=>h ((a4P hr).1 e))]
theorem a53 (p:Option Addr) (c:Nat) (w:World):Calls Tryz.prog 96 #[.slice p 0 c] w (RB (.int .i64 0) w):=by
 have hszb:(Tryz.prog.info? 188).map (·.size)=some 256:=by kernel_rfl
 have Hszb:=hid hszb;clear hszb;have hbw:=Below.refl w.heap.size w;obtain ⟨L,hL⟩:∃ L:List Ar,L=[]:=⟨_,rfl⟩;have HR:Hid (j3 1 L):=by rw [hL];exact trivial
 have HSL:Hid (SlAr w (.slice p 0 c) L):=xd4 ⟨_,_,rfl,hL⟩;have HBD:Hid (∀ w',Below w.heap.size w w'->Calls Tryz.prog 120 #[.slice p 0 c] w' (y6 L w')):=fun w' hb=>a3d (HSL.out.grown hb) (by rw [hL];intro i a h;simp at h) (by rw [hL];simp);unfold y6 at HBD;rw [xi8 HR.out] at HBD;have HAO:=hid (fun w'=>a1y (f6 L) (fun p=>a1n p HR.out) (r8 HR.out (by omega)) w');have HEQ:Hid (v7 (f6 L) 255=L):=hid (by rw [hL];exact a1W ⟨trivial,trivial⟩);clear hL
 go_enter Tryz.func96,Tryz.ntmps96
 go_wp2
 go_loopw [3] (fun vi wr=>vi=.int .i64 0/\w=wr) (fun _ _=>0)
 case atStart=>exact ⟨rfl,rfl⟩
 case round=>
  obtain ⟨rfl,rfl⟩:=hrel
  go_wp2_with (first|go_at_call 120;(with_reducible refine (HBD.out _ hbw).mono ?_);rintro e wc ⟨bd,rfl,hbc,hbd⟩;rw [hbd HR.out];clear hbd;have hbn:=bt hbw hbc;clear hbw hbc;have hbw:=hbn;clear hbn|(with_reducible refine x8 5 ?_);refine l3 rfl (some 5) rfl (bdC (fun _=>0)) 188 (by kernel_rfl) w.heap.size w hbw hbw.size ?_;intro g5 wn5 hL5 hB5 hbn hkn hnn;skip;clear hbw hkn hnn;have hbw:=hbn;clear hbn|(with_reducible refine p7 5 ?_);refine j5 rfl 188 (.tmp 5) (.tmp 48) rfl rfl g5 (bdC (f6 L)) (bdC (fun _=>0)) rfl rfl hL5 (by rw [Hszb.out,l6]) (by simp [l6]) (a1w _) w.heap.size w hbw hB5 ?_;intro wp5 hLn hbn hon;clear hL5 hbw hon;have hL5:=hLn;have hbw:=hbn;clear hLn hbn|(with_reducible refine x8 53 ?_);refine a07 rfl 188 (.tmp 5) rfl g5 (bdC (f6 L)) rfl hL5 _ Tryz.underlying188 rfl (by rw [Hszb.out,l6]) ?_|go_at_call 122;(with_reducible refine (HAO.out _).mono ?_);rintro e wa ⟨va,rfl,hsa,hba⟩;have hbn:=bt hbw hba;clear hbw hba;have hbw:=hbn;clear hbn)
  have HC:=a5m (a9y hsa) (HSL.out.grown hbw);rw [xi8 HEQ.out] at HC;have HC:=hid HC
  go_wp2_with (first|go_at_call 59;(with_reducible refine (HC.out).mono ?_);rintro e wz ⟨rfl,hbz⟩)
  go_ret
  exact ⟨r9 rfl,bt hbw hbz⟩
theorem a5a {L:List Ar} {w:World} (b off cap:Nat) (hbl:b < w.heap.size) (hcap:L.length<=cap) (hmax:cap<=maxLen) (o4:∀ i a,L[i]?=some a->CellsAr w b (off + i * 4) a) :
  Calls Tryz.prog 96 #[.slice (some ⟨b,off,none⟩) L.length cap] w (RB (.int .i64 (g6 L)) w):=by
 by_cases hm:255 < L.length
 ·have HC:=hid (a4R hm);clear hmax;generalize g6 L=r at *
  go_enter Tryz.func96,Tryz.ntmps96
  go_wp2
  go_ret
  exact ⟨r9 HC.out.symm,Below.refl _ _⟩
 have hszb:(Tryz.prog.info? 188).map (·.size)=some 256:=by kernel_rfl
 have Hszb:=hid hszb;clear hszb;have HSL:Hid (SlAr w (.slice (some ⟨b,off,none⟩) L.length cap) L):=xd1 ⟨b,off,cap,rfl,hbl,hcap,hmax,o4⟩;have HL:=hid o4;have hlen:L.length<=255:=by omega
 clear o4 hmax hcap;obtain ⟨r,hr⟩:∃ r,r=g6 L:=⟨_,rfl⟩;rw [<- hr];have HQ:=hid hr;clear hr
 go_enter Tryz.func96,Tryz.ntmps96
 go_wp2
 go_loopw [3] (fun vi wr=>∃ i:Nat,i<=L.length/\vi=.int .i64 i/\Below w.heap.size w wr/\Hid (∀ (j:Nat) (a:Ar),j < i->L[j]?=some a->a.ok)) (fun vi _=>L.length - (intOf vi).toNat)
 case atStart=>exact ⟨0,by omega,rfl,Below.refl _ _,fun j a hj=>by omega⟩
 case round=>
  obtain ⟨i,hi,rfl,hbw,HO⟩:=hrel;by_cases hlt:i < L.length
  ·obtain ⟨a,ha⟩:∃ a,L[i]?=some a:=⟨L[i],by simp [hlt]⟩;obtain ⟨c0,c1,c2,c3⟩:=(HL.out i a ha).grown hbw hbl;have hbr:=a1z (xb6 hbl hbw.size);have hsz:=hbw.size;have HW1:=hid (fun w=>a1o a.pg 1 255 w);have HW2:=hid (fun w=>a1o a.n 1 255 w);have HW4:=hid (fun w=>a1o a.prot 0 3 w);by_cases h1:1<=a.pg/\a.pg<=255
   ·rw [xi8 h1] at HW1;by_cases h2:1<=a.n/\a.n<=255
    ·rw [xi8 h2] at HW2;have hw1:wrap64 (a.pg + a.n)=a.pg + a.n:=j0 _ (by omega) (by omega);have hw2:wrap64 (a.pg + a.n - 1)=a.pg + a.n - 1:=j0 _ (by omega) (by omega);by_cases h3:255 < a.pg + a.n - 1
     ·have HX:=hid (a2Y ha (fun h=>by unfold Ar.ok at h;omega));clear h1 h2
      go_wp2_with (first|go_at_call 70;(with_reducible refine (HW1.out _).mono ?_);rintro e w1 ⟨rfl,rfl⟩|go_at_call 70;(with_reducible refine (HW2.out _).mono ?_);rintro e w1 ⟨rfl,rfl⟩|go_at_call 70;(with_reducible refine (HW4.out _).mono ?_);rintro e w1 ⟨rfl,rfl⟩)
      go_ret
      exact ⟨r9 (by rw [HQ.out,a0U hm hlt HX.out]),(by repeat (first|with_reducible exact Below.refl _ _|with_reducible assumption|with_reducible refine Below.alloc ?_ (by first|omega|(simp;done)|(simp;omega)) _|with_reducible refine Below.setCell ?_ (by first|omega|(simp;done)|(simp;omega)) _|with_reducible refine Below.drew ?_|with_reducible refine bt ?_ (below_regrown _ _ _)|refine bt ?_ (by with_reducible assumption)))⟩
     ·by_cases h4:0<=a.prot/\a.prot<=3
      ·rw [xi8 h4] at HW4;have HX:Hid (a.ok):=hid (by unfold Ar.ok;omega);have HMS:=hid (ms5 hlt);have hws:wrap64 ((i:Int) + 1)=(i:Int) + 1:=j0 _ (by omega) (by omega);have h3':a.pg + a.n - 1<=255:=by omega
       clear h1 h2 h3 h4
       go_wp2_with (first|go_at_call 70;(with_reducible refine (HW1.out _).mono ?_);rintro e w1 ⟨rfl,rfl⟩|go_at_call 70;(with_reducible refine (HW2.out _).mono ?_);rintro e w1 ⟨rfl,rfl⟩|go_at_call 70;(with_reducible refine (HW4.out _).mono ?_);rintro e w1 ⟨rfl,rfl⟩)
       go_roundw
       case rel=>
        refine ⟨i + 1,hlt,by first|rfl|(rw [hws];rfl),(by repeat (first|with_reducible exact Below.refl _ _|with_reducible assumption|with_reducible refine Below.alloc ?_ (by first|omega|(simp;done)|(simp;omega)) _|with_reducible refine Below.setCell ?_ (by first|omega|(simp;done)|(simp;omega)) _|with_reducible refine Below.drew ?_|with_reducible refine bt ?_ (below_regrown _ _ _)|refine bt ?_ (by with_reducible assumption))),fun j x hj hx=>?_⟩;rcases xo5.1 hj with h|h
        ·exact HO.out j x h hx
        ·subst h;rw [ha] at hx;cases hx;exact HX.out
       case measure=>first|exact HMS.out|(rw [hws];exact HMS.out)
      ·rw [xi7 h4] at HW4;have HX:=hid (a2Y ha (fun h=>by unfold Ar.ok at h;omega));have h3':a.pg + a.n - 1<=255:=by omega
       clear h1 h2 h3 h4
       go_wp2_with (first|go_at_call 70;(with_reducible refine (HW1.out _).mono ?_);rintro e w1 ⟨rfl,rfl⟩|go_at_call 70;(with_reducible refine (HW2.out _).mono ?_);rintro e w1 ⟨rfl,rfl⟩|go_at_call 70;(with_reducible refine (HW4.out _).mono ?_);rintro e w1 ⟨rfl,rfl⟩)
       go_ret
       exact ⟨r9 (by rw [HQ.out,a0U hm hlt HX.out]),(by repeat (first|with_reducible exact Below.refl _ _|with_reducible assumption|with_reducible refine Below.alloc ?_ (by first|omega|(simp;done)|(simp;omega)) _|with_reducible refine Below.setCell ?_ (by first|omega|(simp;done)|(simp;omega)) _|with_reducible refine Below.drew ?_|with_reducible refine bt ?_ (below_regrown _ _ _)|refine bt ?_ (by with_reducible assumption)))⟩
    ·rw [xi7 h2] at HW2;have HX:=hid (a2Y ha (fun h=>by unfold Ar.ok at h;omega));clear h1 h2
     go_wp2_with (first|go_at_call 70;(with_reducible refine (HW1.out _).mono ?_);rintro e w1 ⟨rfl,rfl⟩|go_at_call 70;(with_reducible refine (HW2.out _).mono ?_);rintro e w1 ⟨rfl,rfl⟩|go_at_call 70;(with_reducible refine (HW4.out _).mono ?_);rintro e w1 ⟨rfl,rfl⟩)
     go_ret
     exact ⟨r9 (by rw [HQ.out,a0U hm hlt HX.out]),(by repeat (first|with_reducible exact Below.refl _ _|with_reducible assumption|with_reducible refine Below.alloc ?_ (by first|omega|(simp;done)|(simp;omega)) _|with_reducible refine Below.setCell ?_ (by first|omega|(simp;done)|(simp;omega)) _|with_reducible refine Below.drew ?_|with_reducible refine bt ?_ (below_regrown _ _ _)|refine bt ?_ (by with_reducible assumption)))⟩
   ·rw [xi7 h1] at HW1;have HX:=hid (a2Y ha (fun h=>by unfold Ar.ok at h;omega));clear h1
    go_wp2_with (first|go_at_call 70;(with_reducible refine (HW1.out _).mono ?_);rintro e w1 ⟨rfl,rfl⟩|go_at_call 70;(with_reducible refine (HW2.out _).mono ?_);rintro e w1 ⟨rfl,rfl⟩|go_at_call 70;(with_reducible refine (HW4.out _).mono ?_);rintro e w1 ⟨rfl,rfl⟩)
    go_ret
    exact ⟨r9 (by rw [HQ.out,a0U hm hlt HX.out]),(by repeat (first|with_reducible exact Below.refl _ _|with_reducible assumption|with_reducible refine Below.alloc ?_ (by first|omega|(simp;done)|(simp;omega)) _|with_reducible refine Below.setCell ?_ (by first|omega|(simp;done)|(simp;omega)) _|with_reducible refine Below.drew ?_|with_reducible refine bt ?_ (below_regrown _ _ _)|refine bt ?_ (by with_reducible assumption)))⟩
  ·obtain rfl:i=L.length:=by omega
   have hok:∀ (j:Nat) (a:Ar),L[j]?=some a->a.ok:=fun j a hj=>HO.out j a (xa6.1 hj).1 hj;have HBD:Hid (∀ w',Below w.heap.size w w'->Calls Tryz.prog 120 #[.slice (some ⟨b,off,none⟩) L.length cap] w' (y6 L w')):=fun w' hb=>a3d (HSL.out.grown hb) hok hlen;unfold y6 at HBD;clear hok;by_cases hr:j3 1 L
   ·rw [xi8 hr] at HBD;have HR:=hid hr;have HAO:=hid (fun w'=>a1y (f6 L) (fun p=>a1n p hr) (r8 hr (by omega)) w');have hcs:=a8i hm hr;clear hr;by_cases he:v7 (f6 L) 255=L
    ·rw [xe6 he] at hcs;have HEQ:=hid he;have HCS:=hid hcs;clear he hcs
     go_wp2_with (first|go_at_call 120;(with_reducible refine (HBD.out _ hbw).mono ?_);rintro e wc ⟨bd,rfl,hbc,hbd⟩;rw [hbd HR.out];clear hbd;have hbn:=bt hbw hbc;clear hbw hbc;have hbw:=hbn;clear hbn|(with_reducible refine x8 5 ?_);refine l3 rfl (some 5) rfl (bdC (fun _=>0)) 188 (by kernel_rfl) w.heap.size w hbw hbw.size ?_;intro g5 wn5 hL5 hB5 hbn hkn hnn;skip;clear hbw hkn hnn;have hbw:=hbn;clear hbn|(with_reducible refine p7 5 ?_);refine j5 rfl 188 (.tmp 5) (.tmp 48) rfl rfl g5 (bdC (f6 L)) (bdC (fun _=>0)) rfl rfl hL5 (by rw [Hszb.out,l6]) (by simp [l6]) (a1w _) w.heap.size w hbw hB5 ?_;intro wp5 hLn hbn hon;clear hL5 hbw hon;have hL5:=hLn;have hbw:=hbn;clear hLn hbn|(with_reducible refine x8 53 ?_);refine a07 rfl 188 (.tmp 5) rfl g5 (bdC (f6 L)) rfl hL5 _ Tryz.underlying188 rfl (by rw [Hszb.out,l6]) ?_|go_at_call 122;(with_reducible refine (HAO.out _).mono ?_);rintro e wa ⟨va,rfl,hsa,hba⟩;have hbn:=bt hbw hba;clear hbw hba;have hbw:=hbn;clear hbn)
     have HC:=a5m (a9y hsa) (HSL.out.grown hbw);rw [xi8 HEQ.out] at HC;have HC:=hid HC
     go_wp2_with (first|go_at_call 59;(with_reducible refine (HC.out).mono ?_);rintro e wz ⟨rfl,hbz⟩)
     go_ret
     exact ⟨r9 (by rw [HQ.out,HCS.out]),bt hbw hbz⟩
    ·rw [xe7 he] at hcs;have HEQ:=hid he;have HCS:=hid hcs;clear he hcs
     go_wp2_with (first|go_at_call 120;(with_reducible refine (HBD.out _ hbw).mono ?_);rintro e wc ⟨bd,rfl,hbc,hbd⟩;rw [hbd HR.out];clear hbd;have hbn:=bt hbw hbc;clear hbw hbc;have hbw:=hbn;clear hbn|(with_reducible refine x8 5 ?_);refine l3 rfl (some 5) rfl (bdC (fun _=>0)) 188 (by kernel_rfl) w.heap.size w hbw hbw.size ?_;intro g5 wn5 hL5 hB5 hbn hkn hnn;skip;clear hbw hkn hnn;have hbw:=hbn;clear hbn|(with_reducible refine p7 5 ?_);refine j5 rfl 188 (.tmp 5) (.tmp 48) rfl rfl g5 (bdC (f6 L)) (bdC (fun _=>0)) rfl rfl hL5 (by rw [Hszb.out,l6]) (by simp [l6]) (a1w _) w.heap.size w hbw hB5 ?_;intro wp5 hLn hbn hon;clear hL5 hbw hon;have hL5:=hLn;have hbw:=hbn;clear hLn hbn|(with_reducible refine x8 53 ?_);refine a07 rfl 188 (.tmp 5) rfl g5 (bdC (f6 L)) rfl hL5 _ Tryz.underlying188 rfl (by rw [Hszb.out,l6]) ?_|go_at_call 122;(with_reducible refine (HAO.out _).mono ?_);rintro e wa ⟨va,rfl,hsa,hba⟩;have hbn:=bt hbw hba;clear hbw hba;have hbw:=hbn;clear hbn)
     have HC:=a5m (a9y hsa) (HSL.out.grown hbw);rw [xi7 HEQ.out] at HC;have HC:=hid HC
     go_wp2_with (first|go_at_call 59;(with_reducible refine (HC.out).mono ?_);rintro e wz ⟨rfl,hbz⟩)
     go_ret
     exact ⟨r9 (by rw [HQ.out,HCS.out]),bt hbw hbz⟩
   ·rw [xi7 hr] at HBD;have HX:Hid (r=1):=hid (by rw [HQ.out,a8m hm hr]);clear hr
    go_wp2_with (first|go_at_call 120;(with_reducible refine (HBD.out _ hbw).mono ?_);rintro e wc ⟨bd,rfl,hbc,hbd⟩;clear hbd;have hbn:=bt hbw hbc;clear hbw hbc;have hbw:=hbn;clear hbn|(with_reducible refine x8 5 ?_);refine l3 rfl (some 5) rfl (bdC (fun _=>0)) 188 (by kernel_rfl) w.heap.size w hbw hbw.size ?_;intro g5 wn5 hL5 hB5 hbn hkn hnn;skip;clear hbw hkn hnn;have hbw:=hbn;clear hbn|(with_reducible refine p7 5 ?_);refine j5 rfl 188 (.tmp 5) (.tmp 48) rfl rfl g5 (bdC bd) (bdC (fun _=>0)) rfl rfl hL5 (by rw [Hszb.out,l6]) (by simp [l6]) (a1w _) w.heap.size w hbw hB5 ?_;intro wp5 hLn hbn hon;clear hL5 hbw hon;have hL5:=hLn;have hbw:=hbn;clear hLn hbn)
    go_ret
    exact ⟨r9 HX.out.symm,hbw⟩
theorem a3z {v:Value} {L:List Ar} {w:World} (h:SlAr w v L):Calls Tryz.prog 96 #[v] w (RB (.int .i64 (g6 L)) w):=by
 rcases h with ⟨p,c,rfl,rfl⟩|⟨b,off,cap,rfl,h2,h3,h4,h5⟩
 ·exact a53 p c w
 ·exact a5a b off cap h2 h3 h4 h5
def n8 (L:List Ar) (page pages prot:Int):Int:=if g6 L≠0 then g6 L else if a1Q page pages prot=true then 0 else 3
theorem a0J (page pages prot:Int):a1Q page pages prot=true ↔ 1<=page/\page<=255/\1<=pages/\pages<=256 - page/\0<=prot/\prot<=3:=by unfold a1Q;simp
theorem a0p {v:Value} {L:List Ar} {w:World} (page pages prot:Int) (h:SlAr w v L):Calls Tryz.prog 119 #[v,.int .i64 page,.int .i64 pages,.int .i64 prot] w (RB (.int .i64 (n8 L page pages prot)) w):=by
 have HC:=hid (a3z h);have HW1:=hid (fun w=>a1o page 1 255 w);have HW2:=hid (fun w=>a1o pages 1 255 w);have HW4:=hid (fun w=>a1o prot 0 3 w);clear h;by_cases hc:g6 L=0
 ·have hE:n8 L page pages prot=if a1Q page pages prot=true then 0 else 3:=by unfold n8;rw [xe7 (fun h=>h hc)]
  rw [hc] at HC;have hS:=a0J page pages prot;by_cases h1:1<=page/\page<=255
  ·rw [xi8 h1] at HW1;by_cases h2:1<=pages/\pages<=255
   ·rw [xi8 h2] at HW2;have hw1:wrap64 (page + pages)=page + pages:=j0 _ (by omega) (by omega);have hw2:wrap64 (page + pages - 1)=page + pages - 1:=j0 _ (by omega) (by omega);by_cases h3:255 < page + pages - 1
    ·have HX:Hid (n8 L page pages prot=3):=hid (by rw [hE,xe7 (fun h=>by rw [hS] at h;omega)]);clear h1 h2 hE hS hc
     go_enter Tryz.func119,Tryz.ntmps119
     go_wp2_with (first|go_at_call 96;(with_reducible refine (HC.out).mono ?_);rintro e w1 ⟨rfl,hbw⟩|go_at_call 70;(with_reducible refine (HW1.out _).mono ?_);rintro e w1 ⟨rfl,rfl⟩|go_at_call 70;(with_reducible refine (HW2.out _).mono ?_);rintro e w1 ⟨rfl,rfl⟩)
     go_ret
     exact ⟨r9 HX.out.symm,hbw⟩
    ·have h3':page + pages - 1<=255:=by omega
     by_cases h4:0<=prot/\prot<=3
     ·rw [xi8 h4] at HW4;have HX:Hid (n8 L page pages prot=0):=hid (by rw [hE,xe6 (hS.2 (by omega))]);clear h1 h2 h3 h4 hE hS hc
      go_enter Tryz.func119,Tryz.ntmps119
      go_wp2_with (first|go_at_call 96;(with_reducible refine (HC.out).mono ?_);rintro e w1 ⟨rfl,hbw⟩|go_at_call 70;(with_reducible refine (HW1.out _).mono ?_);rintro e w1 ⟨rfl,rfl⟩|go_at_call 70;(with_reducible refine (HW2.out _).mono ?_);rintro e w1 ⟨rfl,rfl⟩|go_at_call 70;(with_reducible refine (HW4.out _).mono ?_);rintro e w1 ⟨rfl,rfl⟩)
      go_ret
      exact ⟨r9 HX.out.symm,hbw⟩
     ·rw [xi7 h4] at HW4;have HX:Hid (n8 L page pages prot=3):=hid (by rw [hE,xe7 (fun h=>by rw [hS] at h;omega)]);clear h1 h2 h3 h4 hE hS hc
      go_enter Tryz.func119,Tryz.ntmps119
      go_wp2_with (first|go_at_call 96;(with_reducible refine (HC.out).mono ?_);rintro e w1 ⟨rfl,hbw⟩|go_at_call 70;(with_reducible refine (HW1.out _).mono ?_);rintro e w1 ⟨rfl,rfl⟩|go_at_call 70;(with_reducible refine (HW2.out _).mono ?_);rintro e w1 ⟨rfl,rfl⟩|go_at_call 70;(with_reducible refine (HW4.out _).mono ?_);rintro e w1 ⟨rfl,rfl⟩)
      go_ret
      exact ⟨r9 HX.out.symm,hbw⟩
   ·rw [xi7 h2] at HW2;have HX:Hid (n8 L page pages prot=3):=hid (by rw [hE,xe7 (fun h=>by rw [hS] at h;omega)]);clear h1 h2 hE hS hc
    go_enter Tryz.func119,Tryz.ntmps119
    go_wp2_with (first|go_at_call 96;(with_reducible refine (HC.out).mono ?_);rintro e w1 ⟨rfl,hbw⟩|go_at_call 70;(with_reducible refine (HW1.out _).mono ?_);rintro e w1 ⟨rfl,rfl⟩|go_at_call 70;(with_reducible refine (HW2.out _).mono ?_);rintro e w1 ⟨rfl,rfl⟩)
    go_ret
    exact ⟨r9 HX.out.symm,hbw⟩
  ·rw [xi7 h1] at HW1;have HX:Hid (n8 L page pages prot=3):=hid (by rw [hE,xe7 (fun h=>by rw [hS] at h;omega)]);clear h1 hE hS hc
   go_enter Tryz.func119,Tryz.ntmps119
   go_wp2_with (first|go_at_call 96;(with_reducible refine (HC.out).mono ?_);rintro e w1 ⟨rfl,hbw⟩|go_at_call 70;(with_reducible refine (HW1.out _).mono ?_);rintro e w1 ⟨rfl,rfl⟩)
   go_ret
   exact ⟨r9 HX.out.symm,hbw⟩
 ·have HX:Hid (n8 L page pages prot=g6 L):=hid (by unfold n8;rw [xe6 hc]);have hn:(g6 L != 0)=true:=by rw [xo9];exact hc
  clear hc;generalize g6 L=ck at *
  go_enter Tryz.func119,Tryz.ntmps119
  go_wp2_with ((go_at_call 96;(with_reducible refine (HC.out).mono ?_);rintro e w1 ⟨rfl,hbw⟩))
  go_ret
  exact ⟨r9 HX.out.symm,hbw⟩
def a1H (base:Int->Int) (m lo q:Int) (x:Int):Int:=if lo<=x/\x < q then m else base x
theorem a6i (base:Int->Int) (m lo:Int):bdC (a1H base m lo lo)=bdC base:=a2F fun p _ _=>by unfold a1H;rw [xe7 (by omega)]
theorem a6N (base:Int->Int) (m lo:Int) (q:Nat) (h:lo<=q):(bdC (a1H base m lo q)).set q (.int .i64 m)=bdC (a1H base m lo ((q:Int) + 1)):=by
 rw [a7R];refine a2F fun p _ _=>?_;unfold a1H;by_cases e:p=q
 ·rw [xe6 e,xe6 (by omega)]
 ·rw [xe7 e];by_cases c:lo<=p/\p < q
  ·rw [xe6 c,xe6 (by omega)]
  ·rw [xe7 c,xe7 (by omega)]
theorem b4w (base:Int->Int) (m lo:Int) (q:Nat) (h:q < 256):(bdC (a1H base m lo q))[q]?=some (.int .i64 (base q)):=by
 rw [a5T _ _ h];unfold a1H;rw [xe7 (by omega)]
def a1f (R:List Ar×Int) (w:World) (e:Ending) (w':World):Prop:=∃ v,e=.returned (.tuple #[v,.int .i64 R.2])/\b0p w.heap.size w' v R.1/\Below w.heap.size w w'
def a0s (L:List Ar) (page pages prot:Int):List Ar×Int :=
 if n8 L page pages prot≠0 then ([],n8 L page pages prot)
 else if v6 L page (page + pages)=[] then (a1b L page (page + pages) [⟨page,pages,prot,true⟩],0) else ([],5)
theorem a1Z {L:List Ar} {page pages prot:Int}:n8 L page pages prot=0 ↔ g6 L=0/\a1Q page pages prot=true:=by
 unfold n8
 split
 ·exact ⟨fun h=>absurd h (by assumption),fun h=>absurd h.1 (by assumption)⟩
 ·rename_i h
  split
  ·exact ⟨fun _=>⟨Decidable.not_not.1 h,by assumption⟩,fun _=>rfl⟩
  ·exact ⟨fun h=>by omega,fun h=>absurd h.2 (by assumption)⟩
theorem b1E {L:List Ar} {page pages prot:Int} (hg:j3 1 L) (hs:1<=page/\page<=255/\1<=pages/\pages<=256 - page/\0<=prot/\prot<=3) :
  v7 (a1H (f6 L) (1 + 2 * prot + 8) page (page + pages)) 255=a1b L page (page + pages) [⟨page,pages,prot,true⟩]:=by
 have hok:(⟨page,pages,prot,true⟩:Ar).ok:=by unfold Ar.ok;simp only;omega
 refine a3I (M:=[⟨page,pages,prot,true⟩]) hg hs.1 (by omega) ⟨hok,xl9 _,trivial⟩ (by unfold r7 r7 Ar.fin;simp) _ fun p=>?_;unfold a1H;by_cases c:page<=p/\p < page + pages
 ·rw [xe6 c,xe6 c,q9 (by unfold Ar.fin;exact c)];simp [Ar.mk']
 ·rw [xe7 c,xe7 c]
theorem b29 {L:List Ar} {prot lo q:Int} (hg:j3 1 L) (hp:0<=prot/\prot<=3) (z:Bool) (p:Int):a7M (a1H (f6 L) (1 + 2 * prot + (if z then 8 else 0)) lo q p):=by
 unfold a1H
 split
 ·right;split <;> omega
 ·exact a1n p hg
theorem b3b {L:List Ar} {page pages prot:Int} (h:n8 L page pages prot≠0):a0s L page pages prot=([],n8 L page pages prot):=by unfold a0s;rw [xe6 h]
theorem a9e {L:List Ar} {page pages prot q:Int} (h:n8 L page pages prot=0) (hg:j3 1 L) (h1:1<=page) (h2:page<=q) (h3:q < page + pages) (hz:f6 L q≠0):a0s L page pages prot=([],5):=by
 unfold a0s;rw [xe7 (fun k=>k h),xe7 (fun k=>hz ((a7n hg h1 (by omega)).1 k q h2 h3))]
theorem b03 {L:List Ar} {page pages prot:Int} (h:n8 L page pages prot=0) (hg:j3 1 L) (h1:1<=page) (h2:1<=pages) (hz:∀ x,page<=x->x < page + pages->f6 L x=0):a0s L page pages prot=(a1b L page (page + pages) [⟨page,pages,prot,true⟩],0):=by
 unfold a0s;rw [xe7 (fun k=>k h),xe6 ((a7n hg h1 (by omega)).2 hz)]
theorem a4i (w:World) {n:Int} {R:List Ar×Int} (h:R=([],n)) {w':World} (hb:Below w.heap.size w w'):a1f R w (.returned (.tuple #[.slice none 0 0,.int .i64 n])) w':=by
 subst h;exact ⟨_,rfl,World.ownsRow_nil _ _ _ _,hb⟩
theorem b0N {v:Value} {L:List Ar} {w:World} (page pages prot:Int) (h:SlAr w v L) (he:n8 L page pages prot≠0):Calls Tryz.prog 68 #[v,.int .i64 page,.int .i64 pages,.int .i64 prot] w (a1f (a0s L page pages prot) w):=by
 have HC:=hid (a0p page pages prot h);have HX:=hid (b3b he);have hn:(n8 L page pages prot != 0)=true:=by rw [xo9];exact he
 clear h he;generalize n8 L page pages prot=ck at *
 go_enter Tryz.func68,Tryz.ntmps68
 go_wp2_with (first|go_at_call 119;(with_reducible refine (HC.out).mono ?_);rintro e w1 ⟨rfl,hbw⟩)
 go_ret2
 exact a4i w HX.out hbw
theorem b25 {v:Value} {L:List Ar} {w:World} (page pages prot:Int) (h:SlAr w v L) (he:n8 L page pages prot=0):Calls Tryz.prog 68 #[v,.int .i64 page,.int .i64 pages,.int .i64 prot] w (a1f (a0s L page pages prot) w):=by
 have HC:=hid (a0p page pages prot h);rw [he] at HC;obtain ⟨hc,hs⟩:=a1Z.1 he;obtain ⟨hlen,hgood⟩:=k9.1 hc;have hs:=(a0J _ _ _).1 hs;have hszb:(Tryz.prog.info? 188).map (·.size)=some 256:=by kernel_rfl
 have Hszb:=hid hszb;clear hszb;have hsz:(Tryz.prog.info? 3).map (·.size)=some 1:=by kernel_rfl
 have Hsz1:=hid hsz;clear hsz;have HR:=hid hgood.1;have HBD:Hid (∀ w',Below w.heap.size w w'->Calls Tryz.prog 120 #[v] w' (y6 L w')):=fun w' hb=>a3d (h.grown hb) (y9 hgood) hlen;unfold y6 at HBD;rw [xi8 HR.out] at HBD;have HM:=hid (fun w=>a5h (a5H prot true ⟨hs.2.2.2.2.1,hs.2.2.2.2.2⟩ w));have HAO:=hid (fun w'=>a1y (a1H (f6 L) (1 + 2 * prot + (if true then 8 else 0)) page (page + pages)) (fun p=>b29 HR.out ⟨hs.2.2.2.2.1,hs.2.2.2.2.2⟩ true p) (by unfold a1H;rw [xe7 (by omega)];exact r8 HR.out (by omega)) w');have HMB:=hid (b1E (prot:=prot) HR.out hs);have HTH:=hid (fun q h2 h3 hz=>a9e (q:=q) he HR.out hs.1 h2 h3 hz);have HGD:=hid (fun hz=>b03 he HR.out hs.1 hs.2.2.1 hz);obtain ⟨q0,hq0⟩:=xo6 (show 0<=page by omega);have hwp:wrap64 (page + pages)=page + pages:=j0 _ (by omega) (by omega);obtain ⟨hs1,hs2,hs3,hs4,_,_⟩:=hs;simp only [if_true] at HM HAO;generalize hmm:(1 + 2 * prot + 8:Int)=m at *;clear hmm h he hc hgood hlen;have hbw:=Below.refl w.heap.size w;have HQ0:=hid hq0;have hend:page<=page + pages:=by omega
 have hend2:page + pages<=256:=by omega
 clear hq0 hs3 hs4 hs2
 go_enter Tryz.func68,Tryz.ntmps68
 go_wp2_with (first|(go_at_call 119;(with_reducible refine (HC.out).mono ?_);rintro e w1 ⟨rfl,hb1⟩);have hbw:=hb1|go_at_call 120;(with_reducible refine (HBD.out _ hbw).mono ?_);rintro e wc ⟨bd,rfl,hbc,hbd⟩;rw [hbd HR.out];clear hbd;have hbn:=bt hbw hbc;clear hbw hbc;have hbw:=hbn;clear hbn|(with_reducible refine x8 11 ?_);refine l3 rfl (some 11) rfl (bdC (fun _=>0)) 188 (by kernel_rfl) w.heap.size w hbw hbw.size ?_;intro g11 wn11 hL11 hB11 hbn hkn hnn;skip;clear hbw hkn hnn;have hbw:=hbn;clear hbn|(with_reducible refine p7 11 ?_);refine j5 rfl 188 (.tmp 11) (.tmp 25) rfl rfl g11 (bdC (f6 L)) (bdC (fun _=>0)) rfl rfl hL11 (by rw [Hszb.out,l6]) (by simp [l6]) (a1w _) w.heap.size w hbw hB11 ?_;intro wp11 hLn hbn hon;clear hL11 hbw hon;have hL11:=hLn;have hbw:=hbn;clear hLn hbn)
 go_loopw [13] (fun vp wr=>∃ q:Nat,(page<=q/\(q:Int)<=page + pages)/\vp=.int .i64 q/\Below w.heap.size w wr/\HoldL wr g11 (bdC (a1H (f6 L) m page q))/\Hid (∀ x,page<=x->x < q->f6 L x=0)) (fun vp _=>(page + pages - intOf vp).toNat)
 case atStart=>
  refine ⟨q0,⟨Int.le_of_eq HQ0.out,by rw [<- HQ0.out];exact hend⟩,by rw [HQ0.out],hbw,?_,fun x h1 h2=>by rw [<- HQ0.out] at h2;omega⟩;have:=a6i (f6 L) m page;rw [<- HQ0.out,this];exact hL11
 case round=>
  clear hbw hL11;obtain ⟨q,⟨hq1,hq2⟩,rfl,hbw,hL11,HZ⟩:=hrel;by_cases hq:(q:Int) < page + pages
  ·have hq6:q < 256:=by omega
   have hq7:(q:Int) < 256:=by omega
   have e0:=(hL11.cell q).trans (b4w (f6 L) m page q hq6);have HQ1:=hid hq1;have HMONO:Hid (page<=((q + 1:Nat):Int)/\((q + 1:Nat):Int)<=page + pages):=hid (by omega);have HMS:Hid ((page + pages - ((q:Int) + 1)).toNat < (page + pages - (q:Int)).toNat):=hid (by omega);have HWS:Hid (wrap64 ((q:Int) + 1)=(q:Int) + 1):=hid (j0 _ (by omega) (by omega));have HP:=hid (a6N (f6 L) m page q hq1);by_cases hz:f6 L q=0
   ·have hzz:(f6 L (q:Int) != 0)=false:=by rw [bne_eq_false_iff_eq];exact hz
    have HX:=hid hz;clear hq1 hq2 hz hend hend2
    go_wp2_with (first|(go_at_call 121;(with_reducible refine (HM.out _).mono ?_);rintro e wc ⟨rfl,hbc⟩);have hL11:=hL11.grown hbc hL11.lt;have hbn:=bt hbw hbc;clear hbw hbc;have hbw:=hbn;clear hbn|(with_reducible refine p7 42 ?_);refine a0O rfl 3 (.tmp 42) (.tmp 41) rfl rfl Hsz1.out g11 q m rfl rfl (bdC (a1H (f6 L) m page q)) hL11 (by rw [l6];exact hq6) w.heap.size w hbw hB11 ?_;intro w6 hL6 hbw6 ho6;rw [HP.out] at hL6)
    go_roundw
    case rel=>
     refine ⟨q + 1,HMONO.out,by first|rfl|(rw [HWS.out];rfl),hbw6,hL6,fun x h1 h2=>?_⟩;rcases xo4 (show x<=q by omega) with h|h
     ·exact HZ.out x h1 h
     ·subst h;exact HX.out
    case measure=>first|exact HMS.out|(rw [HWS.out];exact HMS.out)
   ·have hzz:(f6 L (q:Int) != 0)=true:=by rw [xo9];exact hz
    have HX:=hid (HTH.out q hq1 hq hz);clear hq1 hq2 hz hend hend2
    go_wp2
    go_ret2
    exact a4i w HX.out hbw
  ·have hqe:(q:Int)=page + pages:=by omega
   have HX:=hid (HGD.out fun x h1 h2=>HZ.out x h1 (by omega));have hnl:page + pages<=(q:Int):=by omega
   rw [hqe] at hL11;clear hqe hq hq1 hq2 hend hend2 HZ
   go_wp2_with (first|(with_reducible refine x8 43 ?_);refine a0k rfl 188 (.tmp 11) rfl g11 (bdC (a1H (f6 L) m page (page + pages))) rfl hL11 _ Tryz.underlying188 rfl (by rw [Hszb.out,l6]) ?_|go_at_call 122;(with_reducible refine (HAO.out _).mono ?_);rintro e wa ⟨va,rfl,hsa,hba⟩)
   go_ret2
   refine ⟨va,?_,?_,bt hbw hba⟩
   ·show Ending.returned (.tuple #[va,.int .i64 0])=_;rw [HX.out]
   ·rw [HX.out,<- HMB.out];exact a2X hsa hbw.size
theorem b1A {v:Value} {L:List Ar} {w:World} (page pages prot:Int) (h:SlAr w v L):Calls Tryz.prog 68 #[v,.int .i64 page,.int .i64 pages,.int .i64 prot] w (a1f (a0s L page pages prot) w):=by
 by_cases he:n8 L page pages prot=0
 ·exact b25 page pages prot h he
 ·exact b0N page pages prot h he
def r5 (L:List Ar) (page pages:Int):List Ar×Int :=
 if n8 L page pages 0≠0 then ([],n8 L page pages 0) else (a1b L page (page + pages) [],0)
theorem a81 {L:List Ar} {page pages:Int} (hg:j3 1 L) (h1:1<=page) (h2:1<=pages):v7 (a1H (f6 L) 0 page (page + pages)) 255=a1b L page (page + pages) []:=by
 refine a3I (M:=[]) hg h1 (by omega) trivial (by unfold r7;omega) _ fun p=>?_;unfold a1H;rfl
theorem b1M {L:List Ar} {lo q:Int} (hg:j3 1 L) (p:Int):a7M (a1H (f6 L) 0 lo q p):=by
 unfold a1H
 split
 ·exact xd4 rfl
 ·exact a1n p hg
theorem a8e {v:Value} {L:List Ar} {w:World} (page pages:Int) (h:SlAr w v L) (he:n8 L page pages 0≠0):Calls Tryz.prog 69 #[v,.int .i64 page,.int .i64 pages] w (a1f (r5 L page pages) w):=by
 have HC:=hid (a0p page pages 0 h);have HX:Hid (r5 L page pages=([],n8 L page pages 0)):=hid (by unfold r5;rw [xe6 he]);have hn:(n8 L page pages 0 != 0)=true:=by rw [xo9];exact he
 clear h he;generalize n8 L page pages 0=ck at *
 go_enter Tryz.func69,Tryz.ntmps69
 go_wp2_with (first|go_at_call 119;(with_reducible refine (HC.out).mono ?_);rintro e w1 ⟨rfl,hbw⟩)
 go_ret2
 exact a4i w HX.out hbw
theorem a9l {v:Value} {L:List Ar} {w:World} (page pages:Int) (h:SlAr w v L) (he:n8 L page pages 0=0):Calls Tryz.prog 69 #[v,.int .i64 page,.int .i64 pages] w (a1f (r5 L page pages) w):=by
 have HC:=hid (a0p page pages 0 h);rw [he] at HC;obtain ⟨hc,hs⟩:=a1Z.1 he;obtain ⟨hlen,hgood⟩:=k9.1 hc;have hs:=(a0J _ _ _).1 hs;have hszb:(Tryz.prog.info? 188).map (·.size)=some 256:=by kernel_rfl
 have Hszb:=hid hszb;clear hszb;have hsz:(Tryz.prog.info? 3).map (·.size)=some 1:=by kernel_rfl
 have Hsz1:=hid hsz;clear hsz;have HR:=hid hgood.1;have HBD:Hid (∀ w',Below w.heap.size w w'->Calls Tryz.prog 120 #[v] w' (y6 L w')):=fun w' hb=>a3d (h.grown hb) (y9 hgood) hlen;unfold y6 at HBD;rw [xi8 HR.out] at HBD;have HAO:=hid (fun w'=>a1y (a1H (f6 L) 0 page (page + pages)) (fun p=>b1M HR.out p) (by unfold a1H;rw [xe7 (by omega)];exact r8 HR.out (by omega)) w');have HMB:=hid (a81 HR.out hs.1 hs.2.2.1);have HX:Hid (r5 L page pages=(a1b L page (page + pages) [],0)):=hid (by unfold r5;rw [xe7 (fun k=>k he)]);obtain ⟨q0,hq0⟩:=xo6 (show 0<=page by omega);have hwp:wrap64 (page + pages)=page + pages:=j0 _ (by omega) (by omega);obtain ⟨hs1,hs2,hs3,hs4,_,_⟩:=hs;clear h he hc hgood hlen;have hbw:=Below.refl w.heap.size w;have HQ0:=hid hq0;have hend:page<=page + pages:=by omega
 have hend2:page + pages<=256:=by omega
 clear hq0 hs3 hs4 hs2
 go_enter Tryz.func69,Tryz.ntmps69
 go_wp2_with (first|(go_at_call 119;(with_reducible refine (HC.out).mono ?_);rintro e w1 ⟨rfl,hb1⟩);have hbw:=hb1|go_at_call 120;(with_reducible refine (HBD.out _ hbw).mono ?_);rintro e wc ⟨bd,rfl,hbc,hbd⟩;rw [hbd HR.out];clear hbd;have hbn:=bt hbw hbc;clear hbw hbc;have hbw:=hbn;clear hbn|(with_reducible refine x8 9 ?_);refine l3 rfl (some 9) rfl (bdC (fun _=>0)) 188 (by kernel_rfl) w.heap.size w hbw hbw.size ?_;intro g9 wn9 hL9 hB9 hbn hkn hnn;skip;clear hbw hkn hnn;have hbw:=hbn;clear hbn|(with_reducible refine p7 9 ?_);refine j5 rfl 188 (.tmp 9) (.tmp 22) rfl rfl g9 (bdC (f6 L)) (bdC (fun _=>0)) rfl rfl hL9 (by rw [Hszb.out,l6]) (by simp [l6]) (a1w _) w.heap.size w hbw hB9 ?_;intro wp9 hLn hbn hon;clear hL9 hbw hon;have hL9:=hLn;have hbw:=hbn;clear hLn hbn)
 go_loopw [11] (fun vp wr=>∃ q:Nat,(page<=q/\(q:Int)<=page + pages)/\vp=.int .i64 q/\Below w.heap.size w wr/\HoldL wr g9 (bdC (a1H (f6 L) 0 page q))) (fun vp _=>(page + pages - intOf vp).toNat)
 case atStart=>
  refine ⟨q0,⟨Int.le_of_eq HQ0.out,by rw [<- HQ0.out];exact hend⟩,by rw [HQ0.out],hbw,?_⟩;have:=a6i (f6 L) 0 page;rw [<- HQ0.out,this];exact hL9
 case round=>
  clear hbw hL9;obtain ⟨q,⟨hq1,hq2⟩,rfl,hbw,hL9⟩:=hrel;by_cases hq:(q:Int) < page + pages
  ·have hq6:q < 256:=by omega
   have hq7:(q:Int) < 256:=by omega
   have HMONO:Hid (page<=((q + 1:Nat):Int)/\((q + 1:Nat):Int)<=page + pages):=hid (by omega);have HMS:Hid ((page + pages - ((q:Int) + 1)).toNat < (page + pages - (q:Int)).toNat):=hid (by omega);have HWS:Hid (wrap64 ((q:Int) + 1)=(q:Int) + 1):=hid (j0 _ (by omega) (by omega));have HP:=hid (a6N (f6 L) 0 page q hq1);clear hq1 hq2 hend hend2
   go_wp2_with (first|(with_reducible refine p7 33 ?_);refine a0O rfl 3 (.tmp 33) (.const (.int .i64 0)) rfl rfl Hsz1.out g9 q 0 rfl rfl (bdC (a1H (f6 L) 0 page q)) hL9 (by rw [l6];exact hq6) w.heap.size w hbw hB9 ?_;intro w6 hL6 hbw6 ho6;rw [HP.out] at hL6)
   go_roundw
   case rel=>exact ⟨q + 1,HMONO.out,by first|rfl|(rw [HWS.out];rfl),hbw6,hL6⟩
   case measure=>first|exact HMS.out|(rw [HWS.out];exact HMS.out)
  ·have hqe:(q:Int)=page + pages:=by omega
   have hnl:page + pages<=(q:Int):=by omega
   rw [hqe] at hL9;clear hqe hq hq1 hq2 hend hend2
   go_wp2_with (first|(with_reducible refine x8 34 ?_);refine a0k rfl 188 (.tmp 9) rfl g9 (bdC (a1H (f6 L) 0 page (page + pages))) rfl hL9 _ Tryz.underlying188 rfl (by rw [Hszb.out,l6]) ?_|go_at_call 122;(with_reducible refine (HAO.out _).mono ?_);rintro e wa ⟨va,rfl,hsa,hba⟩)
   go_ret2
   refine ⟨va,?_,?_,bt hbw hba⟩
   ·show Ending.returned (.tuple #[va,.int .i64 0])=_;rw [HX.out]
   ·rw [HX.out,<- HMB.out];exact a2X hsa hbw.size
theorem a87 {v:Value} {L:List Ar} {w:World} (page pages:Int) (h:SlAr w v L):Calls Tryz.prog 69 #[v,.int .i64 page,.int .i64 pages] w (a1f (r5 L page pages) w):=by
 by_cases he:n8 L page pages 0=0
 ·exact a9l page pages h he
 ·exact a8e page pages h he
def a3s (base:Int->Int) (f:Int->Int) (lo q:Int) (x:Int):Int:=if lo<=x/\x < q then f (base x) else base x
theorem a9Q (base f:Int->Int) (lo:Int):bdC (a3s base f lo lo)=bdC base:=a2F fun p _ _=>by unfold a3s;rw [xe7 (by omega)]
theorem b1v (base f:Int->Int) (lo:Int) (q:Nat) (h:lo<=q):(bdC (a3s base f lo q)).set q (.int .i64 (f (base q)))=bdC (a3s base f lo ((q:Int) + 1)):=by
 rw [a7R];refine a2F fun p _ _=>?_;unfold a3s;by_cases e:p=q
 ·rw [xe6 e,xe6 (by omega),e]
 ·rw [xe7 e];by_cases c:lo<=p/\p < q
  ·rw [xe6 c,xe6 (by omega)]
  ·rw [xe7 c,xe7 (by omega)]
theorem b4d (base f:Int->Int) (lo:Int) (q:Nat) (h:q < 256):(bdC (a3s base f lo q))[q]?=some (.int .i64 (base q)):=by
 rw [a5T _ _ h];unfold a3s;rw [xe7 (by omega)]
def t7 (L:List Ar) (page pages prot:Int):List Ar×Int :=
 if n8 L page pages prot≠0 then ([],n8 L page pages prot)
 else if k7 (v6 L page (page + pages)) < pages then ([],6) else (a1b L page (page + pages) (x6 prot (v6 L page (page + pages))),0)
theorem b1g {L:List Ar} {page pages:Int} (hg:j3 1 L) (h1:1<=page) (h2:1<=pages):k7 (v6 L page (page + pages))<=pages/\(k7 (v6 L page (page + pages))=pages ↔ ∀ p,page<=p->p < page + pages->f6 L p≠0):=by
 obtain ⟨m1,m2,m3⟩:=a2z hg h1 (show page < page + pages by omega);obtain ⟨s1,s2⟩:=a6X m1 m2 (by omega);refine ⟨by omega,?_⟩;rw [show page + pages - page=pages by omega] at s2;rw [s2];constructor
 ·intro h p g1 g2;have:=h p g1 g2
  rwa [m3,xe6 ⟨g1,g2⟩] at this
 ·intro h p g1 g2;rw [m3,xe6 ⟨g1,g2⟩];exact h p g1 g2
theorem a9N {L:List Ar} {page pages prot:Int} (hg:j3 1 L) (h1:1<=page) (h2:1<=pages) (hp:0<=prot/\prot<=3) :
  v7 (a3s (f6 L) (a0y prot) page (page + pages)) 255=a1b L page (page + pages) (x6 prot (v6 L page (page + pages))):=by
 obtain ⟨m1,m2,m3⟩:=a2z hg h1 (show page < page + pages by omega);obtain ⟨s1,s2,s3⟩:=a2R prot hp m1;refine a3I hg h1 (by omega) s1 (by rw [s2];exact m2) _ fun p=>?_;unfold a3s;by_cases c:page<=p/\p < page + pages
 ·rw [xe6 c,xe6 c,s3,m3,xe6 c]
 ·rw [xe7 c,xe7 c]
theorem b1o {L:List Ar} {prot lo q:Int} (hg:j3 1 L) (hp:0<=prot/\prot<=3) (p:Int):a7M (a3s (f6 L) (a0y prot) lo q p):=by
 unfold a3s
 split
 ·unfold a0y
  split
  ·exact xd4 rfl
  ·right;split <;> omega
 ·exact a1n p hg
theorem a8L {prot b:Int} (h:b≠0):a0y prot b=1 + 2 * prot + (if decide (8 < b)=true then 8 else 0):=by
 unfold a0y;rw [xe7 h];simp
theorem a6t {v:Value} {L:List Ar} {w:World} (page pages prot:Int) (h:SlAr w v L) (he:n8 L page pages prot≠0):Calls Tryz.prog 71 #[v,.int .i64 page,.int .i64 pages,.int .i64 prot] w (a1f (t7 L page pages prot) w):=by
 have HC:=hid (a0p page pages prot h);have HX:Hid (t7 L page pages prot=([],n8 L page pages prot)):=hid (by unfold t7;rw [xe6 he]);have hn:(n8 L page pages prot != 0)=true:=by rw [xo9];exact he
 clear h he;generalize n8 L page pages prot=ck at *
 go_enter Tryz.func71,Tryz.ntmps71
 go_wp2_with (first|go_at_call 119;(with_reducible refine (HC.out).mono ?_);rintro e w1 ⟨rfl,hbw⟩)
 go_ret2
 exact a4i w HX.out hbw
theorem a7P {v:Value} {L:List Ar} {w:World} (page pages prot:Int) (h:SlAr w v L) (he:n8 L page pages prot=0):Calls Tryz.prog 71 #[v,.int .i64 page,.int .i64 pages,.int .i64 prot] w (a1f (t7 L page pages prot) w):=by
 have HC:=hid (a0p page pages prot h);rw [he] at HC;obtain ⟨hc,hs⟩:=a1Z.1 he;obtain ⟨hlen,hgood⟩:=k9.1 hc;have hs:=(a0J _ _ _).1 hs;have hszb:(Tryz.prog.info? 188).map (·.size)=some 256:=by kernel_rfl
 have Hszb:=hid hszb;clear hszb;have hsz:(Tryz.prog.info? 3).map (·.size)=some 1:=by kernel_rfl
 have Hsz1:=hid hsz;clear hsz;have HR:=hid hgood.1;have HBD:Hid (∀ w',Below w.heap.size w w'->Calls Tryz.prog 120 #[v] w' (y6 L w')):=fun w' hb=>a3d (h.grown hb) (y9 hgood) hlen;unfold y6 at HBD;rw [xi8 HR.out] at HBD;have hpr:0<=prot/\prot<=3:=⟨hs.2.2.2.2.1,hs.2.2.2.2.2⟩;have HM:=hid (fun z w=>a5h (a5H prot z hpr w));have HAO:=hid (fun w'=>a1y (a3s (f6 L) (a0y prot) page (page + pages)) (fun p=>b1o HR.out hpr p) (by unfold a3s;rw [xe7 (by omega)];exact r8 HR.out (by omega)) w');have HMB:=hid (a9N HR.out hs.1 hs.2.2.1 hpr);obtain ⟨f1,f2⟩:=b1g HR.out hs.1 hs.2.2.1;have HTH:Hid (∀ q:Int,page<=q->q < page + pages->f6 L q=0->t7 L page pages prot=([],6)):=fun q h2 h3 hz=>by
  unfold t7;rw [xe7 (fun k=>k he),xe6];rcases xo4 f1 with g|g
  ·exact g
  ·exact absurd hz (f2.1 g q h2 h3)
 have HGD:Hid ((∀ x,page<=x->x < page + pages->f6 L x≠0)->t7 L page pages prot=(a1b L page (page + pages) (x6 prot (v6 L page (page + pages))),0)):=fun hz=>by
  unfold t7;rw [xe7 (fun k=>k he),xe7 (by have:=f2.2 hz;omega)]
 obtain ⟨q0,hq0⟩:=xo6 (show 0<=page by omega);have hwp:wrap64 (page + pages)=page + pages:=j0 _ (by omega) (by omega);obtain ⟨hs1,hs2,hs3,hs4,_,_⟩:=hs;clear h he hc hgood hlen f1 f2 hpr;have hbw:=Below.refl w.heap.size w;have HQ0:=hid hq0;have hend:page<=page + pages:=by omega
 have hend2:page + pages<=256:=by omega
 clear hq0 hs3 hs4 hs2
 go_enter Tryz.func71,Tryz.ntmps71
 go_wp2_with (first|(go_at_call 119;(with_reducible refine (HC.out).mono ?_);rintro e w1 ⟨rfl,hb1⟩);have hbw:=hb1|go_at_call 120;(with_reducible refine (HBD.out _ hbw).mono ?_);rintro e wc ⟨bd,rfl,hbc,hbd⟩;rw [hbd HR.out];clear hbd;have hbn:=bt hbw hbc;clear hbw hbc;have hbw:=hbn;clear hbn|(with_reducible refine x8 11 ?_);refine l3 rfl (some 11) rfl (bdC (fun _=>0)) 188 (by kernel_rfl) w.heap.size w hbw hbw.size ?_;intro g11 wn11 hL11 hB11 hbn hkn hnn;skip;clear hbw hkn hnn;have hbw:=hbn;clear hbn|(with_reducible refine p7 11 ?_);refine j5 rfl 188 (.tmp 11) (.tmp 25) rfl rfl g11 (bdC (f6 L)) (bdC (fun _=>0)) rfl rfl hL11 (by rw [Hszb.out,l6]) (by simp [l6]) (a1w _) w.heap.size w hbw hB11 ?_;intro wp11 hLn hbn hon;clear hL11 hbw hon;have hL11:=hLn;have hbw:=hbn;clear hLn hbn)
 go_loopw [13] (fun vp wr=>∃ q:Nat,(page<=q/\(q:Int)<=page + pages)/\vp=.int .i64 q/\Below w.heap.size w wr/\HoldL wr g11 (bdC (a3s (f6 L) (a0y prot) page q))/\Hid (∀ x,page<=x->x < q->f6 L x≠0)) (fun vp _=>(page + pages - intOf vp).toNat)
 case atStart=>
  refine ⟨q0,⟨Int.le_of_eq HQ0.out,by rw [<- HQ0.out];exact hend⟩,by rw [HQ0.out],hbw,?_,fun x h1 h2=>by rw [<- HQ0.out] at h2;omega⟩;have:=a9Q (f6 L) (a0y prot) page;rw [<- HQ0.out,this];exact hL11
 case round=>
  clear hbw hL11;obtain ⟨q,⟨hq1,hq2⟩,rfl,hbw,hL11,HZ⟩:=hrel;by_cases hq:(q:Int) < page + pages
  ·have hq6:q < 256:=by omega
   have hq7:(q:Int) < 256:=by omega
   have e0:=(hL11.cell q).trans (b4d (f6 L) (a0y prot) page q hq6);have HMONO:Hid (page<=((q + 1:Nat):Int)/\((q + 1:Nat):Int)<=page + pages):=hid (by omega);have HMS:Hid ((page + pages - ((q:Int) + 1)).toNat < (page + pages - (q:Int)).toNat):=hid (by omega);have HWS:Hid (wrap64 ((q:Int) + 1)=(q:Int) + 1):=hid (j0 _ (by omega) (by omega));have HP:=hid (b1v (f6 L) (a0y prot) page q hq1);by_cases hz:f6 L q=0
   ·have hzz:(f6 L (q:Int) == 0)=true:=by rw [beq_iff_eq];exact hz
    have HX:=hid (HTH.out q hq1 hq hz);clear hq1 hq2 hz hend hend2
    go_wp2
    go_ret2
    exact a4i w HX.out hbw
   ·have hzz:(f6 L (q:Int) == 0)=false:=by rw [beq_eq_false_iff_ne];exact hz
    have HX:=hid hz;have HRM:=hid (a8L (prot:=prot) hz);have HM2:=hid (HM.out (decide (8 < f6 L q)));rw [<- HRM.out] at HM2;clear hq1 hq2 hz hend hend2;obtain ⟨m,hm⟩:∃ m,m=a0y prot (f6 L q):=⟨_,rfl⟩;rw [<- hm] at HM2 HP;clear hm HRM
    go_wp2_with (first|(go_at_call 121;(with_reducible refine (HM2.out _).mono ?_);rintro e wc ⟨rfl,hbc⟩);have hL11:=hL11.grown hbc hL11.lt;have hbn:=bt hbw hbc;clear hbw hbc;have hbw:=hbn;clear hbn|(with_reducible refine p7 46 ?_);refine a0O rfl 3 (.tmp 46) (.tmp 45) rfl rfl Hsz1.out g11 q m rfl rfl (bdC (a3s (f6 L) (a0y prot) page q)) hL11 (by rw [l6];exact hq6) w.heap.size w hbw hB11 ?_;intro w6 hL6 hbw6 ho6;rw [HP.out] at hL6)
    go_roundw
    case rel=>
     refine ⟨q + 1,HMONO.out,by first|rfl|(rw [HWS.out];rfl),hbw6,hL6,fun x h1 h2=>?_⟩;rcases xo4 (show x<=q by omega) with h|h
     ·exact HZ.out x h1 h
     ·subst h;exact HX.out
    case measure=>first|exact HMS.out|(rw [HWS.out];exact HMS.out)
  ·have hqe:(q:Int)=page + pages:=by omega
   have HX:=hid (HGD.out fun x h1 h2=>HZ.out x h1 (by omega));have hnl:page + pages<=(q:Int):=by omega
   rw [hqe] at hL11;clear hqe hq hq1 hq2 hend hend2 HZ
   go_wp2_with (first|(with_reducible refine x8 47 ?_);refine a0k rfl 188 (.tmp 11) rfl g11 (bdC (a3s (f6 L) (a0y prot) page (page + pages))) rfl hL11 _ Tryz.underlying188 rfl (by rw [Hszb.out,l6]) ?_|go_at_call 122;(with_reducible refine (HAO.out _).mono ?_);rintro e wa ⟨va,rfl,hsa,hba⟩)
   go_ret2
   refine ⟨va,?_,?_,bt hbw hba⟩
   ·show Ending.returned (.tuple #[va,.int .i64 0])=_;rw [HX.out]
   ·rw [HX.out,<- HMB.out];exact a2X hsa hbw.size
theorem a6p {v:Value} {L:List Ar} {w:World} (page pages prot:Int) (h:SlAr w v L):Calls Tryz.prog 71 #[v,.int .i64 page,.int .i64 pages,.int .i64 prot] w (a1f (t7 L page pages prot) w):=by
 by_cases he:n8 L page pages prot=0
 ·exact a7P page pages prot h he
 ·exact a6t page pages prot h he
end Go.Proofs.YtejnpppejalhfacGreat
