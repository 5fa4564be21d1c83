/- Texts that the proof stands on, one behind the other: Ke24, Ke25, Sc27, Ke26, Ke27, Ke28, Ke29, Ke30, Ke31, Ke32. -/
import Derived.Test.YtejnpppejalhfabGreatPRestKernels12
set_option linter.unusedVariables false
set_option linter.unusedSimpArgs false
namespace Go.Proofs.YtejnpppejalhfabGreat
set_option maxRecDepth 100000
set_option maxHeartbeats 8000000
open Go.RowKit Go.Sort
theorem a2u {A:List Ar} {addr size way:Int} {i:Nat} {p:Int×Int} (h0:¬(way=2/\addr.tmod 8≠0)) (hi:(i:Int) < size) (hp:∀ j:Nat,j < i->a0h A way (addr + (j:Nat))=none) (h:a0h A way (addr + (i:Nat))=some p):a0l A addr size way=p:=by
 unfold a0l;rw [xf1 h0];have:(List.range size.toNat).findSome? (fun i=>a0h A way (addr + (i:Nat)))=some p:=by
  rw [List.findSome?_eq_some_iff];obtain ⟨m,hm⟩:∃ m,size.toNat=i + (m + 1):=⟨size.toNat - (i + 1),by omega⟩;refine ⟨List.range i,i,(List.range' (i + 1) m),?_,h,fun j hj=>hp j (xi4.1 hj)⟩;rw [hm,List.range_eq_range',List.range_eq_range',<- List.range'_append_1,xa9,List.range'_succ]
 rw [this];rfl
theorem a9J {A:List Ar} {addr size way:Int} (h0:¬(way=2/\addr.tmod 8≠0)) (hp:∀ j:Nat,(j:Int) < size->a0h A way (addr + (j:Nat))=none):a0l A addr size way=(0,0):=by
 unfold a0l;rw [xf1 h0];have:(List.range size.toNat).findSome? (fun i=>a0h A way (addr + (i:Nat)))=none:=by
  rw [List.findSome?_eq_none_iff];intro i hi;rw [xi4] at hi;exact hp i (by omega)
 rw [this];rfl
theorem b2b {w:World} {g:Nat} {k:KV} {sp:Nat} {vh:Value} {held:List Nat} (hV:WkV w g k sp vh held) {x:Sp} (hx:k.sp[sp]?=some x) (hc:l5 x.s.areas=0) {addr size way:Int} (hb0:-9223372036854775808<=addr) (hb1:addr<=9223372036854775807) (hs1:1<=size) (hs8:size<=8) (hway:way=0\/way=1\/way=2):Fn Tryz.prog 122 [.pointer (some ⟨g,0,none⟩),.int .i64 addr,.int .i64 size,.int .i64 way] w (RBf (.agg #[.int .i64 (a0l x.s.areas addr size way).1,.int .i64 (a0l x.s.areas addr size way).2]) w):=by
 have hV0:=hV;have hspc:=fun w1 (h:WkV w1 g k sp vh held)=>a3R h (d6 hx);obtain ⟨c0,c1,c2,c3,c4,c5,c6,hh,⟨k1,k2,k3,k4,k5⟩⟩:=hV;obtain ⟨bs,os,cs,hvsp⟩:=k4.form1 hx;have hrowS:=c9 (f:=spC) hx;have har:=(k5 x (xd0 hx)).ar;rw [hvsp] at hspc k4;unfold a2y at hspc;dsimp only at hspc;unfold spC at hrowS;have hfnd:=fun w1 (h:Sl nF w1 4 x.va (x.s.areas.map arC)) (p:Int)=>a6f p h;obtain ⟨n,hn⟩:∃ n:Nat,size=(n:Nat):=⟨size.toNat,by omega⟩;subst hn;obtain ⟨F,hF⟩:∃ F,F=a0l x.s.areas addr (n:Nat) way:=⟨_,rfl⟩;rw [<- hF];have hstep:∀ i:Nat,(∀ j:Nat,j < i->a0h x.s.areas way (addr + (j:Nat))=none)->1<=i->addr<=4095/\16<=addr:=fun i h h1=>by
  have h2:=a2E hc (h 0 (by omega));have h3:addr + ((0:Nat):Int)=addr:=by omega
  rw [h3] at h2;omega
 refine yEn Tryz.func122 Tryz.ntmps122 (by kernel_rfl) (by kernel_rfl) rfl rfl ?_;have hS:=St.start w
 repeat (with_reducible apply a2R)
 (with_reducible apply a2Q)
 (((with_reducible apply d8 hS a7);rfl;rfl;rfl);clear hS;intro g8 w' hS)
 (with_reducible apply a3C)
 (with_reducible apply a2g)
 repeat (with_reducible apply a2R)
 refine a07 (F:=nF) (w0:=w) (X:=Unit) (fun _=>[(0,.pointer (some ⟨g,0,none⟩)),(1,.int .i64 addr),(2,.int .i64 (n:Nat)),(3,.int .i64 way),(8,.pointer (some ⟨g8,0,none⟩)),(19,.bool (decide (way=2/\addr.tmod 8≠0)))]) (fun _=>[.blk g8 [.int .i64 0,.int .i64 0]]) (fun _=>True) ?_ ?_
 ·by_cases hw:way=2
  ·have hdw:decide (way=2)=true:=xj2 hw;have hdr:(!decide (addr.tmod 8=0))=decide (way=2/\addr.tmod 8≠0):=by
    by_cases h:addr.tmod 8=0
    ·rw [xj2 h,xj0 (fun h2=>h2.2 h)];rfl
    ·rw [xj0 h,xj2 ⟨hw,h⟩];rfl
   rw [<- hdr]
   repeat' (first|(with_reducible apply a8 a7);rfl;rfl;rfl|refine yDn (by with_reducible constructor) ?_|(with_reducible apply k8);(iterate 4 rfl);assumption|(with_reducible apply j3);rfl;assumption;rfl;rfl|(with_reducible apply a5m);rfl;rfl;omega;rfl)
   exact n5 () (by exact Fr.sub_of rfl) trivial hS
  ·have hdw:decide (way=2)=false:=xj0 hw;rw [show decide (way=2/\addr.tmod 8≠0)=false from xj0 (fun h=>hw h.1)]
   repeat' (first|(with_reducible apply a8 a7);rfl;rfl;rfl|refine yDn (by with_reducible constructor) ?_|(with_reducible apply x8);(iterate 4 rfl);assumption;rfl|(with_reducible apply f5);rfl;assumption;rfl;rfl)
   exact n5 () (by exact Fr.sub_of rfl) trivial hS
 clear hS;rintro - w2 - hS;by_cases hal:way=2/\addr.tmod 8≠0
 ·have hff:F=(3,addr):=by rw [hF];unfold a0l;rw [xf0 hal]
  rw [xj2 hal]
  repeat' (first|(with_reducible apply a8 a7);rfl;rfl;rfl|(with_reducible apply n7 a7);rfl;rfl;exact (rfl:_=some [_,_]);rfl|refine yDn (by with_reducible constructor) ?_|(with_reducible apply f6);rfl;rfl|(with_reducible apply b8 hS a7 (i:=0));(iterate 8 rfl);exact (rfl:_=[_,_]);clear hS;intro w' hS;simp only [List.set] at hS)
  (apply a0U;repeat (first|exact ResL.nil|apply ResL.cell;rfl;(apply Ld.st a7;rfl;exact hS.blkR 0 rfl;rfl)))
  exact ⟨by rw [hff],hS.sub (xj1 _)⟩
 rw [xj0 hal]
 repeat' (first|(with_reducible apply a8 a7);rfl;rfl;rfl|refine yDn (by with_reducible constructor) ?_|(with_reducible apply f8);rfl;rfl)
 replace hS:St nF w _ (.blk g8 [.int .i64 0,.int .i64 0]::[]):=hS;refine a2j hS 23 [0,1,3,8,22] rfl (n) (fun i=>∀ j:Nat,j < i->a0h x.s.areas way (addr + (j:Nat))=none) 0 rfl (xg4 _) (by (intros;omega)) ?_;rintro i w1 hi hall hS';clear hS;have hS:=hS';clear hS';by_cases hlt:i < n;rotate_left
 ·obtain rfl:i=n:=by omega
  have hff:F=(0,0):=hF.trans (a9J hal (fun j hj=>hall j (by omega)))
  repeat' (first|(with_reducible apply a8 a7);rfl;rfl;rfl|(with_reducible apply n7 a7);rfl;rfl;exact (rfl:_=some [_,_]);rfl|refine yDn (by with_reducible constructor) ?_|(with_reducible apply b8 hS a7 (i:=0));(iterate 8 rfl);exact (rfl:_=[_,_]);clear hS;intro w' hS;simp only [List.set] at hS|(with_reducible apply b9);rfl;all_goals (intro hb hp;try (exfalso;omega)))
  (apply a0U;repeat (first|exact ResL.nil|apply ResL.cell;rfl;(apply Ld.st a7;rfl;exact hS.blkR 0 rfl;rfl)))
  exact ⟨by rw [hff],hS.sub (xj1 _)⟩
 have hbd:-9223372036854775808<=addr + (i:Nat)/\addr + (i:Nat)<=9223372036854775807:=by
  by_cases h0:i=0
  ·subst h0;omega
  ·have:=hstep i hall (by omega);omega
 have hbd1:=hbd.1;have hbd2:=hbd.2;have hf2:=fun w1 h=>hfnd w1 h ((addr + (i:Nat)).tdiv 16);rw [a4x hc] at hf2
 cases hfa:q8 x.s.areas ((addr + (i:Nat)).tdiv 16) with
 |none=>
  rw [hfa] at hf2;unfold a3j arC at hf2;dsimp only [Option.getD,Option.isSome] at hf2;by_cases hneg:addr + (i:Nat) < 0
  ·have hdn:decide (addr + ((i:Nat):Int) < 0)=true:=xj2 hneg;have hff:F=(1,addr + (i:Nat)):=hF.trans (a2u hal (by omega) hall (by unfold a0h;rw [hfa]))
   repeat' (first|(with_reducible apply a8 a7);rfl;rfl;rfl|(with_reducible apply j4);rfl;rfl;omega;omega;rfl|(with_reducible apply n7 a7);rfl;rfl;exact (rfl:_=some [_,_]);rfl|refine yDn (by with_reducible constructor) ?_|(with_reducible apply x8);(iterate 4 rfl);assumption;rfl|(with_reducible apply j3);rfl;assumption;rfl;rfl|(with_reducible apply f6);rfl;rfl|(with_reducible apply d8 hS a7);rfl;rfl;rfl;clear hS;intro g w' hS|(with_reducible apply b8 hS a7 (i:=0));(iterate 8 rfl);exact (rfl:_=[_,_,_,_]);clear hS;intro w' hS;simp only [List.set] at hS|(with_reducible apply b8 hS a7 (i:=1));(iterate 8 rfl);exact (rfl:_=[_,_]);clear hS;intro w' hS;simp only [List.set] at hS|(with_reducible apply b9);rfl;all_goals (intro hb hp;try (exfalso;omega))|(with_reducible apply d7 hS);rfl;rfl;rfl;refine ⟨_,hspc _ (hV0.now hS),?_⟩;clear hS;intro w' hS|(with_reducible apply a1a a7);rfl;rfl;rfl;refine ⟨_,hS.baseC (k4.cel hrowS rfl) id,?_⟩|(with_reducible apply d7 hS);rfl;rfl;rfl;refine ⟨_,hf2 _ (har.now hS),?_⟩;clear hS;intro w' hS|(with_reducible apply a2d);rfl;rfl;omega;omega;omega;rfl)
   (apply a0U;repeat (first|exact ResL.nil|apply ResL.cell;rfl;(apply Ld.st a7;rfl;exact hS.blkR 1 rfl;rfl)))
   exact ⟨by rw [hff],hS.sub (xj1 _)⟩
  ·have hdn:decide (addr + ((i:Nat):Int) < 0)=false:=xj0 hneg;have hff:F=(1,addr + (i:Nat)):=hF.trans (a2u hal (by omega) hall (by unfold a0h;rw [hfa]))
   repeat' (first|(with_reducible apply a8 a7);rfl;rfl;rfl|(with_reducible apply j4);rfl;rfl;omega;omega;rfl|(with_reducible apply n7 a7);rfl;rfl;exact (rfl:_=some [_,_]);rfl|refine yDn (by with_reducible constructor) ?_|(with_reducible apply k8);(iterate 4 rfl);assumption|(with_reducible apply f5);rfl;assumption;rfl;rfl|(with_reducible apply f6);rfl;rfl|(with_reducible apply d8 hS a7);rfl;rfl;rfl;clear hS;intro g w' hS|(with_reducible apply b8 hS a7 (i:=0));(iterate 8 rfl);exact (rfl:_=[_,_,_,_]);clear hS;intro w' hS;simp only [List.set] at hS|(with_reducible apply b8 hS a7 (i:=1));(iterate 8 rfl);exact (rfl:_=[_,_]);clear hS;intro w' hS;simp only [List.set] at hS|(with_reducible apply b9);rfl;all_goals (intro hb hp;try (exfalso;omega))|(with_reducible apply d7 hS);rfl;rfl;rfl;refine ⟨_,hspc _ (hV0.now hS),?_⟩;clear hS;intro w' hS|(with_reducible apply a1a a7);rfl;rfl;rfl;refine ⟨_,hS.baseC (k4.cel hrowS rfl) id,?_⟩|(with_reducible apply d7 hS);rfl;rfl;rfl;refine ⟨_,hf2 _ (har.now hS),?_⟩;clear hS;intro w' hS|(with_reducible apply a2d);rfl;rfl;omega;omega;omega;rfl)
   (apply a0U;repeat (first|exact ResL.nil|apply ResL.cell;rfl;(apply Ld.st a7;rfl;exact hS.blkR 1 rfl;rfl)))
   exact ⟨by rw [hff],hS.sub (xj1 _)⟩
 |some a=>
  rw [hfa] at hf2;unfold a3j arC at hf2;dsimp only [Option.getD,Option.isSome] at hf2;by_cases hneg:addr + (i:Nat) < 0
  ·have hdn:decide (addr + ((i:Nat):Int) < 0)=true:=xj2 hneg;have hff:F=(1,addr + (i:Nat)):=hF.trans (a2u hal (by omega) hall (by unfold a0h;rw [hfa];exact xf0 hneg))
   repeat' (first|(with_reducible apply a8 a7);rfl;rfl;rfl|(with_reducible apply j4);rfl;rfl;omega;omega;rfl|(with_reducible apply n7 a7);rfl;rfl;exact (rfl:_=some [_,_]);rfl|refine yDn (by with_reducible constructor) ?_|(with_reducible apply x8);(iterate 4 rfl);assumption;rfl|(with_reducible apply j3);rfl;assumption;rfl;rfl|(with_reducible apply f6);rfl;rfl|(with_reducible apply d8 hS a7);rfl;rfl;rfl;clear hS;intro g w' hS|(with_reducible apply b8 hS a7 (i:=0));(iterate 8 rfl);exact (rfl:_=[_,_,_,_]);clear hS;intro w' hS;simp only [List.set] at hS|(with_reducible apply b8 hS a7 (i:=1));(iterate 8 rfl);exact (rfl:_=[_,_]);clear hS;intro w' hS;simp only [List.set] at hS|(with_reducible apply b9);rfl;all_goals (intro hb hp;try (exfalso;omega))|(with_reducible apply d7 hS);rfl;rfl;rfl;refine ⟨_,hspc _ (hV0.now hS),?_⟩;clear hS;intro w' hS|(with_reducible apply a1a a7);rfl;rfl;rfl;refine ⟨_,hS.baseC (k4.cel hrowS rfl) id,?_⟩|(with_reducible apply d7 hS);rfl;rfl;rfl;refine ⟨_,hf2 _ (har.now hS),?_⟩;clear hS;intro w' hS|(with_reducible apply a2d);rfl;rfl;omega;omega;omega;rfl)
   (apply a0U;repeat (first|exact ResL.nil|apply ResL.cell;rfl;(apply Ld.st a7;rfl;exact hS.blkR 1 rfl;rfl)))
   exact ⟨by rw [hff],hS.sub (xj1 _)⟩
  have hdn:decide (addr + ((i:Nat):Int) < 0)=false:=xj0 hneg;have hdv:(addr + ((i:Nat):Int)).tdiv 16=(addr + (i:Nat)) / 16:=xf2 (by omega);have haok:a.ok:=(a1i hc (by rw [hdv] at hfa;exact hfa)).1;unfold Ar.ok at haok;by_cases hw1:way=1
  ·have hdw:decide (way=1)=true:=xj2 hw1;have hdx:decide (way=2)=false:=xj0 (by omega);have h1:=b8a (p:=a.prot) (by omega) (by omega);by_cases hp1:a.prot=1\/a.prot=3
   ·rw [xf0 hp1] at h1;have hnx:a0h x.s.areas way (addr + (i:Nat))=none:=by
     unfold a0h;rw [hfa];dsimp only;rw [xf1 hneg,xf1];omega
    repeat' (first|(with_reducible apply a8 a7);rfl;rfl;rfl|(with_reducible apply a9);rfl;(apply Ld.sc a7;rfl;exact hS.blkC 0 rfl rfl);rfl|(with_reducible apply j4);rfl;rfl;omega;omega;rfl|refine yDn (by with_reducible constructor) ?_|(with_reducible apply k8);(iterate 4 rfl);assumption|(with_reducible apply x8);(iterate 4 rfl);assumption;rfl|(with_reducible apply j3);rfl;assumption;rfl;rfl|(with_reducible apply f5);rfl;assumption;rfl;rfl|(with_reducible apply f8);rfl;rfl|(with_reducible apply d8 hS a7);rfl;rfl;rfl;clear hS;intro g w' hS|(with_reducible apply b8 hS a7 (i:=0));(iterate 8 rfl);exact (rfl:_=[_,_,_,_]);clear hS;intro w' hS;simp only [List.set] at hS|(with_reducible apply b9);rfl;all_goals (intro hb hp;try (exfalso;omega))|(with_reducible apply d7 hS);rfl;rfl;rfl;refine ⟨_,hspc _ (hV0.now hS),?_⟩;clear hS;intro w' hS|(with_reducible apply a1a a7);rfl;rfl;rfl;refine ⟨_,hS.baseC (k4.cel hrowS rfl) id,?_⟩|(with_reducible apply d7 hS);rfl;rfl;rfl;refine ⟨_,hf2 _ (har.now hS),?_⟩;clear hS;intro w' hS|(with_reducible apply a2d);rfl;rfl;omega;omega;omega;rfl|(with_reducible apply a77);rfl;rfl;exact h1;rfl)
    exact a0O (i + 1) (by exact Fr.sub_of rfl) (by omega) (fun j hj=>by
     by_cases e:j=i
     ·rw [e];exact hnx
     ·exact hall j (by omega)) (by omega) (hS.sub (by repeat (first|exact xl8 _|apply xm1)))
   ·rw [xf1 hp1] at h1;have hff:F=(2,addr + (i:Nat)):=hF.trans (a2u hal (by omega) hall (by
     unfold a0h;rw [hfa];dsimp only;rw [xf1 hneg,xf0];omega))
    repeat' (first|(with_reducible apply a8 a7);rfl;rfl;rfl|(with_reducible apply a9);rfl;(apply Ld.sc a7;rfl;exact hS.blkC 0 rfl rfl);rfl|(with_reducible apply j4);rfl;rfl;omega;omega;rfl|(with_reducible apply n7 a7);rfl;rfl;exact (rfl:_=some [_,_]);rfl|refine yDn (by with_reducible constructor) ?_|(with_reducible apply k8);(iterate 4 rfl);assumption|(with_reducible apply j3);rfl;assumption;rfl;rfl|(with_reducible apply f5);rfl;assumption;rfl;rfl|(with_reducible apply f6);rfl;rfl|(with_reducible apply f8);rfl;rfl|(with_reducible apply d8 hS a7);rfl;rfl;rfl;clear hS;intro g w' hS|(with_reducible apply b8 hS a7 (i:=0));(iterate 8 rfl);exact (rfl:_=[_,_,_,_]);clear hS;intro w' hS;simp only [List.set] at hS|(with_reducible apply b8 hS a7 (i:=1));(iterate 8 rfl);exact (rfl:_=[_,_]);clear hS;intro w' hS;simp only [List.set] at hS|(with_reducible apply b9);rfl;all_goals (intro hb hp;try (exfalso;omega))|(with_reducible apply d7 hS);rfl;rfl;rfl;refine ⟨_,hspc _ (hV0.now hS),?_⟩;clear hS;intro w' hS|(with_reducible apply a1a a7);rfl;rfl;rfl;refine ⟨_,hS.baseC (k4.cel hrowS rfl) id,?_⟩|(with_reducible apply d7 hS);rfl;rfl;rfl;refine ⟨_,hf2 _ (har.now hS),?_⟩;clear hS;intro w' hS|(with_reducible apply a2d);rfl;rfl;omega;omega;omega;rfl|(with_reducible apply a77);rfl;rfl;exact h1;rfl)
    (apply a0U;repeat (first|exact ResL.nil|apply ResL.cell;rfl;(apply Ld.st a7;rfl;exact hS.blkR 1 rfl;rfl)))
    exact ⟨by rw [hff],hS.sub (xj1 _)⟩
  have hdw:decide (way=1)=false:=xj0 hw1;by_cases hw2:way=2
  ·have hdx:decide (way=2)=true:=xj2 hw2;have h1:=b7I (p:=a.prot) (by omega) (by omega);by_cases hp1:2<=a.prot
   ·rw [xf0 hp1] at h1;have hnx:a0h x.s.areas way (addr + (i:Nat))=none:=by
     unfold a0h;rw [hfa];dsimp only;rw [xf1 hneg,xf1];omega
    repeat' (first|(with_reducible apply a8 a7);rfl;rfl;rfl|(with_reducible apply a9);rfl;(apply Ld.sc a7;rfl;exact hS.blkC 0 rfl rfl);rfl|(with_reducible apply j4);rfl;rfl;omega;omega;rfl|refine yDn (by with_reducible constructor) ?_|(with_reducible apply k8);(iterate 4 rfl);assumption|(with_reducible apply x8);(iterate 4 rfl);assumption;rfl|(with_reducible apply j3);rfl;assumption;rfl;rfl|(with_reducible apply f5);rfl;assumption;rfl;rfl|(with_reducible apply f8);rfl;rfl|(with_reducible apply d8 hS a7);rfl;rfl;rfl;clear hS;intro g w' hS|(with_reducible apply b8 hS a7 (i:=0));(iterate 8 rfl);exact (rfl:_=[_,_,_,_]);clear hS;intro w' hS;simp only [List.set] at hS|(with_reducible apply b9);rfl;all_goals (intro hb hp;try (exfalso;omega))|(with_reducible apply d7 hS);rfl;rfl;rfl;refine ⟨_,hspc _ (hV0.now hS),?_⟩;clear hS;intro w' hS|(with_reducible apply a1a a7);rfl;rfl;rfl;refine ⟨_,hS.baseC (k4.cel hrowS rfl) id,?_⟩|(with_reducible apply d7 hS);rfl;rfl;rfl;refine ⟨_,hf2 _ (har.now hS),?_⟩;clear hS;intro w' hS|(with_reducible apply a2d);rfl;rfl;omega;omega;omega;rfl|(with_reducible apply a77);rfl;rfl;exact h1;rfl)
    exact a0O (i + 1) (by exact Fr.sub_of rfl) (by omega) (fun j hj=>by
     by_cases e:j=i
     ·rw [e];exact hnx
     ·exact hall j (by omega)) (by omega) (hS.sub (by repeat (first|exact xl8 _|apply xm1)))
   ·rw [xf1 hp1] at h1;have hff:F=(2,addr + (i:Nat)):=hF.trans (a2u hal (by omega) hall (by
     unfold a0h;rw [hfa];dsimp only;rw [xf1 hneg,xf0];omega))
    repeat' (first|(with_reducible apply a8 a7);rfl;rfl;rfl|(with_reducible apply a9);rfl;(apply Ld.sc a7;rfl;exact hS.blkC 0 rfl rfl);rfl|(with_reducible apply j4);rfl;rfl;omega;omega;rfl|(with_reducible apply n7 a7);rfl;rfl;exact (rfl:_=some [_,_]);rfl|refine yDn (by with_reducible constructor) ?_|(with_reducible apply k8);(iterate 4 rfl);assumption|(with_reducible apply x8);(iterate 4 rfl);assumption;rfl|(with_reducible apply j3);rfl;assumption;rfl;rfl|(with_reducible apply f5);rfl;assumption;rfl;rfl|(with_reducible apply f6);rfl;rfl|(with_reducible apply f8);rfl;rfl|(with_reducible apply d8 hS a7);rfl;rfl;rfl;clear hS;intro g w' hS|(with_reducible apply b8 hS a7 (i:=0));(iterate 8 rfl);exact (rfl:_=[_,_,_,_]);clear hS;intro w' hS;simp only [List.set] at hS|(with_reducible apply b8 hS a7 (i:=1));(iterate 8 rfl);exact (rfl:_=[_,_]);clear hS;intro w' hS;simp only [List.set] at hS|(with_reducible apply b9);rfl;all_goals (intro hb hp;try (exfalso;omega))|(with_reducible apply d7 hS);rfl;rfl;rfl;refine ⟨_,hspc _ (hV0.now hS),?_⟩;clear hS;intro w' hS|(with_reducible apply a1a a7);rfl;rfl;rfl;refine ⟨_,hS.baseC (k4.cel hrowS rfl) id,?_⟩|(with_reducible apply d7 hS);rfl;rfl;rfl;refine ⟨_,hf2 _ (har.now hS),?_⟩;clear hS;intro w' hS|(with_reducible apply a2d);rfl;rfl;omega;omega;omega;rfl|(with_reducible apply a77);rfl;rfl;exact h1;rfl)
    (apply a0U;repeat (first|exact ResL.nil|apply ResL.cell;rfl;(apply Ld.st a7;rfl;exact hS.blkR 1 rfl;rfl)))
    exact ⟨by rw [hff],hS.sub (xj1 _)⟩
  have hdx:decide (way=2)=false:=xj0 hw2;have hnx:a0h x.s.areas way (addr + (i:Nat))=none:=by
   unfold a0h;rw [hfa];dsimp only;rw [xf1 hneg,xf1];omega
  repeat' (first|(with_reducible apply a8 a7);rfl;rfl;rfl|(with_reducible apply j4);rfl;rfl;omega;omega;rfl|refine yDn (by with_reducible constructor) ?_|(with_reducible apply k8);(iterate 4 rfl);assumption|(with_reducible apply x8);(iterate 4 rfl);assumption;rfl|(with_reducible apply f5);rfl;assumption;rfl;rfl|(with_reducible apply f8);rfl;rfl|(with_reducible apply d8 hS a7);rfl;rfl;rfl;clear hS;intro g w' hS|(with_reducible apply b8 hS a7 (i:=0));(iterate 8 rfl);exact (rfl:_=[_,_,_,_]);clear hS;intro w' hS;simp only [List.set] at hS|(with_reducible apply b9);rfl;all_goals (intro hb hp;try (exfalso;omega))|(with_reducible apply d7 hS);rfl;rfl;rfl;refine ⟨_,hspc _ (hV0.now hS),?_⟩;clear hS;intro w' hS|(with_reducible apply a1a a7);rfl;rfl;rfl;refine ⟨_,hS.baseC (k4.cel hrowS rfl) id,?_⟩|(with_reducible apply d7 hS);rfl;rfl;rfl;refine ⟨_,hf2 _ (har.now hS),?_⟩;clear hS;intro w' hS|(with_reducible apply a2d);rfl;rfl;omega;omega;omega;rfl)
  exact a0O (i + 1) (by exact Fr.sub_of rfl) (by omega) (fun j hj=>by
   by_cases e:j=i
   ·rw [e];exact hnx
   ·exact hall j (by omega)) (by omega) (hS.sub (by repeat (first|exact xl8 _|apply xm1)))
theorem WkV.own {F:Nat->Prop} {w0 w:World} {g:Nat} {k:KV} {sp:Nat} {vh:Value} {held:List Nat} {Γ:List Asr} (hS:St F w0 w (wkS g k sp vh held++(a0H k++Γ))):WkV w g k sp vh held :=
 WkV.of (Γ:=[]) (by rw [List.append_nil];exact St.startM hS) (KRo.own hS)
theorem a9P {K:Ker} {space size way addr:Int} {sp:Nat} (h0:a0T K space size way=0) (hsp:space=(sp:Nat)) (hF:(a0l (n8 K sp) addr size way).1=0):Right K/\1<=size/\size<=8/\(way=0\/way=1\/way=2)/\16<=addr/\addr + size<=4096/\∀ i,0<=i->i < size->At K sp ((addr + i) / 16):=by
 unfold a0T at h0;by_cases hl:a1d K space=0;rotate_left
 ·rw [xf1 hl] at h0;exact absurd h0 hl
 rw [xf0 hl] at h0;by_cases h1:size < 1\/8 < size
 ·rw [xf0 h1] at h0;cases h0
 rw [xf1 h1] at h0;by_cases h2:way < 0\/2 < way
 ·rw [xf0 h2] at h0;cases h0
 unfold a1d at hl;by_cases h3:a0N K=0;rotate_left
 ·rw [xf1 h3] at hl;exact absurd hl h3
 rw [xf0 h3] at hl;have hr:=a2Z.1 h3;subst hsp;by_cases h4:0<=((sp:Nat):Int)/\((sp:Nat):Int) < (K.spaces.length:Int)/\(a0E K ((sp:Nat):Int).toNat).live=true;rotate_left
 ·rw [xf1 h4] at hl;cases hl
 obtain ⟨-,hlt,hlv⟩:=h4;have hsl:sp < K.spaces.length:=by omega
 have hs:=xe1 hsl;have hsc:=(a0u hr _ (xd0 hs)).1;have hA:n8 K sp=K.spaces[sp].areas:=by unfold n8;rw [a1o hs]
 have hc:l5 (n8 K sp)=0:=by rw [hA];exact hsc.ar
 obtain ⟨-,hno⟩:=a9r hc hF (by omega);have hf0:=a2E hc (hno 0 (by omega) (by omega));have hf1:=a2E hc (hno (size - 1) (by omega) (by omega));refine ⟨hr,by omega,by omega,by omega,by omega,by omega,fun i hi1 hi2=>⟨hlv,?_⟩⟩;obtain ⟨-,-,-,a,ha⟩:=a2E hc (hno i hi1 hi2);rw [ha];rfl
def a4D (F:Int×Int):Value:=.agg #[.int .i64 F.1,.int .i64 F.2]
theorem b4H {w:World} {k:KV} (hK:KerV w k) {space addr size way:Int} (hb0:-9223372036854775808<=addr) (hb1:addr<=9223372036854775807):Fn Tryz.prog 73 [.agg (kvC k).toArray,.int .i64 space,.int .i64 addr,.int .i64 size,.int .i64 way] w (fun v w'=>
  (a0T k.K space size way≠0/\v=.tuple #[.pointer none,a4D (0,0),.int .i64 (a0T k.K space size way)]/\St nF w w' []) \/
  (a0T k.K space size way=0/\(a0l (n8 k.K space.toNat) addr size way).1≠0/\v=.tuple #[.pointer none,a4D (a0l (n8 k.K space.toNat) addr size way),.int .i64 0]/\St nF w w' []) \/
  ∃ (g sp:Nat) (k':KV) (vh:Value) (held:List Nat),a0T k.K space size way=0/\(a0l (n8 k.K space.toNat) addr size way).1=0/\space=(sp:Nat)/\v=.tuple #[.pointer (some ⟨g,0,none⟩),a4D (0,0),.int .i64 0]/\k'.K=a1I k.K sp addr size (decide (way=1))/\St nF w w' (wkS g k' sp vh held++a0H k')):=by
 have hbeg:=fun w1 (h:KerV w1 k)=>b21 h space;have hK0:=hK;obtain ⟨RE,hRE⟩:∃ e,e=a0T k.K space size way:=⟨_,rfl⟩;rw [<- hRE];unfold a0T at hRE;obtain ⟨sh,fr,sl,sps,hand,vsh,vfr,vsl,vsp⟩:=k;obtain ⟨k1,k2,k3,k4,k5⟩:=hK;dsimp only at k1 k2 k3 k4 k5;obtain ⟨p1,c1,rfl⟩:=k1.sl.len;obtain ⟨p2,c2,rfl⟩:=k2.len;obtain ⟨p3,c3,rfl⟩:=k3.len;obtain ⟨p4,c4,rfl⟩:=k4.len;generalize hKK:KV.K ⟨sh,fr,sl,sps,hand,.slice p1 sh.length c1,.slice p2 fr.length c2,.slice p3 sl.length c3,.slice p4 sps.length c4⟩=K at hbeg hRE |-;unfold a4D;dsimp only;have hpre:∀ w1 Γ1,St nF w w1 Γ1->KerV w1 ⟨sh,fr,sl,sps,hand,.slice p1 sh.length c1,.slice p2 fr.length c2,.slice p3 sl.length c3,.slice p4 sps.length c4⟩:=fun w1 Γ1 h=>hK0.now h;unfold kvC at hbeg |-;dsimp only at hbeg |-;refine yEn Tryz.func73 Tryz.ntmps73 (by kernel_rfl) (by kernel_rfl) rfl rfl ?_;have hS:=St.start w
 repeat' (first|(with_reducible apply a8 a7);rfl;rfl;rfl|(with_reducible apply a9);rfl;(apply Ld.st a7;rfl;exact hS.blkR 1 rfl;rfl);rfl|refine yDn (by with_reducible constructor) ?_|(with_reducible apply l8 hS);rfl;rfl;rfl;clear hS;intro g w' hS|(with_reducible apply d8 hS a7);rfl;rfl;rfl;clear hS;intro g w' hS)
 refine a8q rfl rfl (hbeg _ (hpre _ _ hS)) rfl ?_;rintro v w2 (⟨he,rfl,hS'⟩|⟨gw,sp,k',he,hsp,rfl,hk',hS'⟩)
 ·replace hS:=hS.transA hS';simp only [v6] at hS;rw [xf1 he] at hRE;have hd:decide (a1d K space=0)=false:=xj0 he;rw [<- hRE] at he hd |-
  repeat' (first|(with_reducible apply a8 a7);rfl;rfl;rfl|(with_reducible apply n7 a7);rfl;rfl;exact (rfl:_=some [_,_]);rfl|refine yDn (by with_reducible constructor) ?_|(with_reducible apply b8 hS a7 (i:=0));(iterate 8 rfl);exact (rfl:_=[_,_]);clear hS;intro w' hS;simp only [List.set] at hS|(with_reducible apply a08);rfl;all_goals (intro hb hp;try (exfalso;omega)))
  (apply a3L;repeat (first|exact ResL.nil|apply ResL.tmp;rfl|apply ResL.cell;rfl;(apply Ld.st a7;rfl;exact hS.blkR 0 rfl;rfl)))
  exact xd6 ⟨he,rfl,hS.sub (xj1 _)⟩
 rw [xf0 he] at hRE;replace hS:=hS.trans hS';clear hS' hbeg;replace hS:=hS.perm xm4;dsimp only [List.cons_append,List.nil_append] at hS;have hsub:∀ {w1 L},St nF w w1 L->St nF w w1 []:=fun h=>h.sub (xj1 _);by_cases h1:size < 1\/8 < size
 ·rw [xf0 h1] at hRE;subst hRE
  repeat' (first|(with_reducible apply a8 a7);rfl;rfl;rfl|(with_reducible apply n7 a7);rfl;rfl;exact (rfl:_=some [_,_]);rfl|refine yDn (by with_reducible constructor) ?_|(with_reducible apply k8);(iterate 4 rfl);assumption|(with_reducible apply x8);(iterate 4 rfl);assumption;rfl|(with_reducible apply j3);rfl;assumption;rfl;rfl|(with_reducible apply f5);rfl;assumption;rfl;rfl|(with_reducible apply f6);rfl;rfl|(with_reducible apply f8);rfl;rfl|(with_reducible apply b8 hS a7 (i:=0));(iterate 8 rfl);exact (rfl:_=[_,_]);clear hS;intro w' hS;simp only [List.set] at hS|(with_reducible apply q7);rfl;rfl;rfl;all_goals (intro hb hp;try (exfalso;omega))|(with_reducible apply b9);rfl;all_goals (intro hb hp;try (exfalso;omega)))
  all_goals (apply a3L)
  all_goals (repeat (first|exact ResL.nil|apply ResL.tmp;rfl|apply ResL.cell;rfl;(apply Ld.st a7;rfl;exact hS.blkR 0 rfl;rfl)))
  all_goals (exact xd6 ⟨by omega,rfl,hsub hS⟩)
 rw [xf1 h1] at hRE;by_cases h2:way < 0\/2 < way
 ·rw [xf0 h2] at hRE;subst hRE
  repeat' (first|(with_reducible apply a8 a7);rfl;rfl;rfl|(with_reducible apply n7 a7);rfl;rfl;exact (rfl:_=some [_,_]);rfl|refine yDn (by with_reducible constructor) ?_|(with_reducible apply k8);(iterate 4 rfl);assumption|(with_reducible apply x8);(iterate 4 rfl);assumption;rfl|(with_reducible apply j3);rfl;assumption;rfl;rfl|(with_reducible apply f5);rfl;assumption;rfl;rfl|(with_reducible apply f6);rfl;rfl|(with_reducible apply f8);rfl;rfl|(with_reducible apply b8 hS a7 (i:=0));(iterate 8 rfl);exact (rfl:_=[_,_]);clear hS;intro w' hS;simp only [List.set] at hS|(with_reducible apply q7);rfl;rfl;rfl;all_goals (intro hb hp;try (exfalso;omega))|(with_reducible apply b9);rfl;all_goals (intro hb hp;try (exfalso;omega)))
  all_goals (apply a3L)
  all_goals (repeat (first|exact ResL.nil|apply ResL.tmp;rfl|apply ResL.cell;rfl;(apply Ld.st a7;rfl;exact hS.blkR 0 rfl;rfl)))
  all_goals (exact xd6 ⟨by omega,rfl,hsub hS⟩)
 rw [xf1 h2] at hRE;have hRE0:a0T K space size way=0:=by unfold a0T;rw [xf0 he,xf1 h1,xf1 h2]
 subst hsp;rw [show (((sp:Nat):Int)).toNat=sp from rfl];have hr:Right k'.K:=by
  rw [hk'];unfold a1d at he;by_cases h3:a0N K=0
  ·exact a2Z.1 h3
  ·rw [xf1 h3] at he;exact absurd he h3
 obtain ⟨x,hx⟩:∃ x,k'.sp[sp]?=some x:=by
  unfold a1d at he;by_cases h3:a0N K=0
  ·rw [xf0 h3] at he;by_cases h4:0<=((sp:Nat):Int)/\((sp:Nat):Int) < (K.spaces.length:Int)/\(a0E K ((sp:Nat):Int).toNat).live=true
   ·have:K.spaces.length=k'.sp.length:=by rw [<- hk'];exact xi9 _
    exact j0 (by omega)
   ·rw [xf1 h4] at he;cases he
  ·rw [xf1 h3] at he;exact absurd he h3
 have hxA:n8 K sp=x.s.areas:=by rw [<- hk'];unfold n8;rw [a1o (a2W hx)]
 have hsc:=(a0u hr x.s (xd0 (a2W hx))).1;obtain ⟨F,hF⟩:∃ F,F=a0l (n8 K sp) addr size way:=⟨_,rfl⟩;have hflt:=fun w1 vh held Γ1 (h:St nF w w1 (wkS gw k' sp vh held++(a0H k'++Γ1)))=>b2b (WkV.own h) hx hsc.ar hb0 hb1 (size:=size) (way:=way) (by omega) (by omega) (by omega);rw [<- hxA,<- hF] at hflt;rw [<- hF];have hback:∀ {w1 a b},St nF w w1 (a::b::(wkS gw k' sp (.slice none 0 0) []++a0H k'))->St nF w w1 (wkS gw k' sp (.slice none 0 0) []++(a0H k'++[a,b])):=fun h=>by
  rw [<- xg0];exact h.perm (xm4 (l₁:=[_,_]))
 by_cases hF0:F.1=0;rotate_left
 ·have hd:decide (F.1=0)=false:=xj0 hF0
  repeat' (first|(with_reducible apply a8 a7);rfl;rfl;rfl|(with_reducible apply a9);rfl;(apply Ld.sc a7;rfl;exact hS.blkC 0 rfl rfl);rfl|refine yDn (by with_reducible constructor) ?_|(with_reducible apply k8);(iterate 4 rfl);assumption|(with_reducible apply f5);rfl;assumption;rfl;rfl|(with_reducible apply f8);rfl;rfl|(with_reducible apply d8 hS a7);rfl;rfl;rfl;clear hS;intro g w' hS|(with_reducible apply b8 hS a7 (i:=0));(iterate 8 rfl);exact (rfl:_=[_,_]);clear hS;intro w' hS;simp only [List.set] at hS|(with_reducible apply q7);rfl;rfl;rfl;all_goals (intro hb hp;try (exfalso;omega))|(with_reducible apply b9);rfl;all_goals (intro hb hp;try (exfalso;omega))|(with_reducible apply a08);rfl;all_goals (intro hb hp;try (exfalso;omega))|(with_reducible apply d7 hS);rfl;rfl;rfl;refine ⟨_,hflt _ _ _ _ (hback hS),?_⟩;clear hS;intro w' hS)
  (focus ((with_reducible apply a0p _ _ _ 2 (by kernel_rfl) (by kernel_rfl) hS);(simp only [xl2,xl3,xl6,xl7]);(repeat' ((first|(with_reducible apply i7 a7);rfl;rfl|(with_reducible apply i9);rfl;(intro wd hd;replace hd:St _ _ wd _:=hd;(apply Ld.st a7;rfl;exact hd.blkR 0 rfl;rfl));rfl)));all_goals ((with_reducible apply j7);intro w' hS';clear hS;have hS:=hS';clear hS')))
  repeat' (first|(with_reducible apply a8 a7);rfl;rfl;rfl|refine yDn (by with_reducible constructor) ?_|(with_reducible apply b8 hS a7 (i:=1));(iterate 8 rfl);exact (rfl:_=[_,_]);clear hS;intro w' hS;simp only [List.set] at hS)
  (apply a3L;repeat (first|exact ResL.nil|apply ResL.tmp;rfl|apply ResL.cell;rfl;(apply Ld.st a7;rfl;exact hS.blkR 1 rfl;rfl)))
  exact xd3 (xd6 ⟨hRE,hF0,rfl,hsub hS⟩)
 have hd:decide (F.1=0)=true:=xj2 hF0;obtain ⟨-,hs1,hs8,hwy,ha16,ha4,hAt⟩:=a9P hRE0 rfl (by rw [<- hF];exact hF0)
 repeat' (first|(with_reducible apply a8 a7);rfl;rfl;rfl|(with_reducible apply a9);rfl;(apply Ld.sc a7;rfl;exact hS.blkC 0 rfl rfl);rfl|refine yDn (by with_reducible constructor) ?_|(with_reducible apply k8);(iterate 4 rfl);assumption|(with_reducible apply f5);rfl;assumption;rfl;rfl|(with_reducible apply f8);rfl;rfl|(with_reducible apply d8 hS a7);rfl;rfl;rfl;clear hS;intro g w' hS|(with_reducible apply b8 hS a7 (i:=0));(iterate 8 rfl);exact (rfl:_=[_,_]);clear hS;intro w' hS;simp only [List.set] at hS|(with_reducible apply q7);rfl;rfl;rfl;all_goals (intro hb hp;try (exfalso;omega))|(with_reducible apply b9);rfl;all_goals (intro hb hp;try (exfalso;omega))|(with_reducible apply a08);rfl;all_goals (intro hb hp;try (exfalso;omega))|(with_reducible apply d7 hS);rfl;rfl;rfl;refine ⟨_,hflt _ _ _ _ (hback hS),?_⟩;clear hS;intro w' hS|(with_reducible apply b1a);rfl;rfl;omega;omega;omega;rfl)
 replace hS:=hS.sub (xm1 _ (List.Sublist.cons_cons _ (xm1 _ (xl8 _))));obtain ⟨B,hB⟩:∃ B,B=a0z K sp (addr / 16) (decide (way=1)) []:=⟨_,rfl⟩;obtain ⟨C,hC⟩:∃ C,C=a0z B.1 sp ((addr + size - 1) / 16) (decide (way=1)) [B.2]:=⟨_,rfl⟩;have hrK:a1I K sp addr size (decide (way=1))=if (addr + size - 1) / 16=addr / 16 then B.1 else C.1:=by unfold a1I;rw [<- hB,<- hC]
 refine k9 (F:=nF) (w0:=w) (X:=Nat×KV×Value×List Nat) (fun x=>[(16,.int .i64 (addr / 16 + (x.1:Nat)))]) [2,3,4,11,13] rfl (fun x=>.blk _ [.int .i64 0,.int .i64 0]::(wkS gw x.2.1 sp x.2.2.1 x.2.2.2++a0H k')) (Γ:=[]) (fun x=>KLike k' x.2.1/\((x.1=0/\x.2.1.K=K/\x.2.2.2=[])\/(x.1=1/\x.2.1.K=B.1/\x.2.2.2=[B.2])\/(x.1=2/\(addr + size - 1) / 16≠addr / 16/\x.2.1.K=C.1))) (fun x=>2 - x.1) (0,k',.slice none 0 0,[]) (by dsimp only;rw [show addr / 16 + ((0:Nat):Int)=addr / 16 by omega];exact Fr.sub_of rfl) ⟨KLike.refl _,xd6 ⟨rfl,hk',rfl⟩⟩ (by rw [List.append_nil];exact hS) ?_;clear hS;rintro ⟨r,k2,vh2,hd2⟩ w3 ⟨hl2,hcase⟩ hS;dsimp only at hl2 hcase hS |-;rw [List.append_nil] at hS;rw [<- a1V hl2] at hS;have hwrap:∀ {w1 a L R},St nF w w1 (a::(L++R))->St nF w w1 (L++(R++[a])):=fun h=>by
  rw [<- xg0];exact h.perm (xm2 _ _).symm
 have hwrap2:∀ {w1 a L R},St nF w w1 (L++(R++[a]))->St nF w w1 (a::(L++R)):=fun h=>by
  rw [<- xg0] at h;exact h.perm (xm2 _ _)
 dsimp only [List.cons_append,List.nil_append];by_cases hmore:addr / 16 + (r:Nat)<=(addr + size - 1) / 16;rotate_left
 ·have hd3:decide (addr / 16 + ((r:Nat):Int)<=(addr + size - 1) / 16)=false:=xj0 hmore;have hK2:k2.K=a1I K sp addr size (decide (way=1)):=by
   rw [hrK];rcases hcase with ⟨rfl,-,-⟩|⟨rfl,h3,-⟩|⟨rfl,h3,h4⟩
   ·omega
   ·rw [xf0 (by omega),h3]
   ·rw [xf1 h3,h4]
  repeat' (first|(with_reducible apply a8 a7);rfl;rfl;rfl|(with_reducible apply j4);rfl;rfl;omega;omega;rfl|(with_reducible apply a0m);rfl;rfl;omega;omega;rfl|(with_reducible apply n7 a7);rfl;rfl;exact (rfl:_=some [_,_]);rfl|refine yDn (by with_reducible constructor) ?_|(with_reducible apply f8);rfl;assumption|(with_reducible apply b8 hS a7 (i:=0));(iterate 8 rfl);exact (rfl:_=[_,_]);clear hS;intro w' hS;simp only [List.set] at hS|(with_reducible apply b1a);rfl;rfl;omega;omega;omega;rfl)
  (apply a3L;repeat (first|exact ResL.nil|apply ResL.tmp;rfl|apply ResL.cell;rfl;(apply Ld.st a7;rfl;exact hS.blkR 0 rfl;rfl)))
  exact xd3 (xd3 ⟨gw,sp,k2,vh2,hd2,hRE,hF0,rfl,rfl,hK2,hS.drop⟩)
 have hd3:decide (addr / 16 + ((r:Nat):Int)<=(addr + size - 1) / 16)=true:=xj2 hmore;rcases hcase with ⟨rfl,h3,rfl⟩|⟨rfl,h3,rfl⟩|⟨rfl,h3,h4⟩
 ·have hp:=hAt 0 (by omega) (by omega);rw [Int.add_zero] at hp;have hr2:Right k2.K:=by rw [h3,<- hk'];exact hr
  have hbr:=fun w1 Γ1 (h:St nF w w1 (wkS gw k2 sp vh2 []++(a0H k2++Γ1)))=>a8d h (KRo.own h) hr2 (page:=addr / 16) (by rw [h3];exact hp) (decide (way=1)) (by simp) (by simp);rw [h3,<- hB] at hbr;rw [show addr / 16 + ((0:Nat):Int)=addr / 16 by omega] at hd3 |-
  repeat' (first|(with_reducible apply a8 a7);rfl;rfl;rfl|(with_reducible apply j4);rfl;rfl;omega;omega;rfl|(with_reducible apply a0m);rfl;rfl;omega;omega;rfl|refine yDn (by with_reducible constructor) ?_|(with_reducible apply f6);rfl;assumption|(with_reducible apply b1a);rfl;rfl;omega;omega;omega;rfl)
  replace hS:=hwrap hS
  repeat' (first|(with_reducible apply a8 a7);rfl;rfl;rfl|(with_reducible apply j4);rfl;rfl;omega;omega;rfl|refine yDn (by with_reducible constructor) ?_|(with_reducible apply r6);rfl;rfl;rfl;refine ⟨_,hbr _ _ hS,?_⟩;rintro _ w4 ⟨rfl,k3,vh3,e3,l3,h4⟩;(replace hS:=hwrap2 (St.transM hS h4));clear h4)
  rw [a1V hl2] at hS;exact e9 (1,k3,vh3,[B.2]) (by dsimp only;rw [show addr / 16 + ((1:Nat):Int)=addr / 16 + 1 by omega];exact Fr.sub_of rfl) ⟨hl2.trans l3,xd3 (xd6 ⟨rfl,e3,rfl⟩)⟩ (by rw [List.append_nil];exact hS) (by show 2 - 1 < 2 - 0;omega)
 ·have hp:=hAt 0 (by omega) (by omega);rw [Int.add_zero] at hp;have hp2:=hAt (size - 1) (by omega) (by omega);rw [show addr + (size - 1)=addr + size - 1 by omega] at hp2;have hpg:(addr + size - 1) / 16=addr / 16 + ((1:Nat):Int):=by omega
  have hbo:=(a33 (by rw [<- hk'];exact hr) hp (decide (way=1)) (held:=[]) (by simp) (by simp)).1;rw [<- hB] at hbo;have hr2:Right k2.K:=by rw [h3];exact hbo.right
  have hbr:=fun w1 Γ1 (h:St nF w w1 (wkS gw k2 sp vh2 [B.2]++(a0H k2++Γ1)))=>a8d h (KRo.own h) hr2 (page:=(addr + size - 1) / 16) (by rw [h3];exact hp2.same hbo.same.ar hbo.same.live) (decide (way=1)) (by simp) (fun i hi=>by
   rw [xi8] at hi;subst hi;exact ⟨addr / 16,by omega,by rw [h3];exact hbo.ent⟩)
  rw [h3,<- hC,hpg] at hbr
  repeat' (first|(with_reducible apply a8 a7);rfl;rfl;rfl|(with_reducible apply j4);rfl;rfl;omega;omega;rfl|(with_reducible apply a0m);rfl;rfl;omega;omega;rfl|refine yDn (by with_reducible constructor) ?_|(with_reducible apply f6);rfl;assumption|(with_reducible apply b1a);rfl;rfl;omega;omega;omega;rfl)
  replace hS:=hwrap hS
  repeat' (first|(with_reducible apply a8 a7);rfl;rfl;rfl|(with_reducible apply j4);rfl;rfl;omega;omega;rfl|refine yDn (by with_reducible constructor) ?_|(with_reducible apply r6);rfl;rfl;rfl;refine ⟨_,hbr _ _ hS,?_⟩;rintro _ w4 ⟨rfl,k3,vh3,e3,l3,h4⟩;(replace hS:=hwrap2 (St.transM hS h4));clear h4)
  rw [a1V hl2] at hS;exact e9 (2,k3,vh3,_) (by dsimp only;rw [show addr / 16 + ((2:Nat):Int)=addr / 16 + ((1:Nat):Int) + 1 by omega];exact Fr.sub_of rfl) ⟨hl2.trans l3,xd3 (xd3 ⟨rfl,by omega,e3⟩)⟩ (by rw [List.append_nil];exact hS) (by show 2 - 2 < 2 - 1;omega)
 ·exfalso;omega
section
variable {P:Program} {n:Nat} {ds:List Deferred} {E:Fr} {w w':World} {Q:Exit->Act->World->Prop} {ops:Array Oper} {rest:List Oper} {d:Nat} {dst:Option Nat} {ty:TypeId} {pos:String} {after:Array Edge} {F:Nat->Prop} {w0:World} {Γ:List Asr} {T:Tab}
theorem b1x {t yt:TypeId} {x y:Operand} {p:Option Addr} (ht:P.underlying t=some (.pointer (P.pointee t))) (hx:E.ev x=some (.pointer p)) (hy:E.ev y=some (.pointer none)):∀ a,Has n ds a E->∀ dst,a05 P ⟨dst,.binOp .eql t x y yt,ty,pos,after,none⟩ a (.bool p.isNone):=fun a ha _ w=>by
 have e:=run_eql_pointer_nil (P:=P) (w:=w) t p ht;simp only [execOp,ha.ev hx,ha.ev hy,eqGuard];simp [e,Result.andThen]
theorem a8B {t yt:TypeId} {x y:Operand} {p:Option Addr} (ht:P.underlying t=some (.pointer (P.pointee t))) (hx:E.ev x=some (.pointer p)) (hy:E.ev y=some (.pointer none)) (hd:Nat.blt d n=true) (k':WL P ops Q rest n ds ((d,.bool p.isNone)::E) w):WL P ops Q (⟨some d,.binOp .eql t x y yt,ty,pos,after,none⟩::rest) n ds E w:=a0v (fun a ha=>b1x ht hx hy a ha _) hd k'
end
def a37 (k:KV):List Asr:=frA k::slA k::a04 k::(k.sp.map a0c++a0H k)
theorem KerV.own {F:Nat->Prop} {w0 w:World} {k:KV} {Γ:List Asr} (hS:St F w0 w (a37 k++Γ)):KerV w k:=by
 have hmem:∀ {e sz:Nat} {v:Value} {rows:List (List Value)},Asr.row e sz v rows ∈ a37 k->Sl nF w sz v rows:=fun h=>hS.slMem (xe5 Γ h);have hr:∀ {A},A ∈ a0H k->A ∈ a37 k:=fun h=>xc6 _ (xc6 _ (xc6 _ (xe6 _ h)));refine ⟨⟨hmem (e:=94) (hr xc5),fun p hp=>?_⟩,hmem (e:=89) xc5,hmem (e:=143) (xc6 _ xc5),hmem (e:=75) (xc6 _ (xc6 _ xc5)),fun p hp=>⟨?_,?_⟩⟩
 ·exact hmem (e:=96) (hr (xc6 _ (xe5 _ (xm5.2 ⟨p,hp,rfl⟩))))
 ·exact hmem (e:=81) (hr (xc6 _ (xe6 _ (xm5.2 ⟨p,hp,rfl⟩))))
 ·exact hmem (e:=91) (xc6 _ (xc6 _ (xc6 _ (xe5 _ (xm5.2 ⟨p,hp,rfl⟩)))))
def b6l:Ker:=⟨[],[],[],[],0⟩
def kv0:KV:=⟨[],[],[],[],0,.slice none 0 0,.slice none 0 0,.slice none 0 0,.slice none 0 0⟩
theorem b58 (w:World):KerV w kv0:=⟨⟨Sl.nil0 w 3,(fun _ h=>by cases h)⟩,Sl.nil0 w 4,Sl.nil0 w 2,Sl.nil0 w 3,(fun _ h=>by cases h)⟩
def Came (w w':World) (k:KV):Prop:=(k=kv0/\St nF w w' [])\/St nF w w' (a37 k)
theorem Came.st {w w':World} {k:KV} (h:Came w w' k):St nF w w' []:=by
 rcases h with ⟨-,h⟩|h
 ·exact h
 ·exact h.sub (xj1 _)
theorem Came.V {w w':World} {k:KV} (h:Came w w' k):KerV w' k:=by
 rcases h with ⟨rfl,-⟩|h
 ·exact b58 w'
 ·exact KerV.own (Γ:=[]) (by rw [List.append_nil];exact h)
theorem b5o {w w':World} {g sp:Nat} {k:KV} {vh:Value} {held:List Nat} {Γ:List Asr} (h:St nF w w' (wkS g k sp vh held++(a0H k++Γ))):Came w w' k:=by
 refine xd3 ?_;rw [<- xg0] at h;replace h:=h.sub (xm3 _ _);unfold wkS at h;have h2:St nF w w' (frA k::slA k::a04 k::(k.sp.map a0c++a0H k)):=h.drop.drop;exact h2
def okR (K:Ker) (space addr size way:Int):Prop:=a0T K space size way=0/\(a0l (n8 K space.toNat) addr size way).1=0
instance (K:Ker) (space addr size way:Int):Decidable (okR K space addr size way):=by unfold okR;infer_instance
def a4u (K:Ker) (space addr size way:Int):Ker:=if okR K space addr size way then a1I K space.toNat addr size (decide (way=1)) else b6l
def a4B (K:Ker) (space addr size way:Int):Int×Int:=if a0T K space size way=0 then a0l (n8 K space.toNat) addr size way else (0,0)
theorem b2p {K:Ker} {space addr size way:Int} (h:okR K space addr size way):a4B K space addr size way=(0,0):=by
 unfold a4B;rw [xf0 h.1];obtain ⟨h1,h2⟩:=h;have hs1:1<=size:=by
  unfold a0T at h1;by_cases hl:a1d K space=0
  ·rw [xf0 hl] at h1;by_cases h3:size < 1\/8 < size
   ·rw [xf0 h3] at h1;cases h1
   ·omega
  ·rw [xf1 hl] at h1;exact absurd h1 hl
 unfold a0l at h2 |-;by_cases hw:way=2/\addr.tmod 8≠0
 ·rw [xf0 hw] at h2;cases h2
 ·rw [xf1 hw] at h2 |-
  cases hf:(List.range size.toNat).findSome? fun i=>a0h (n8 K space.toNat) way (addr + (i:Nat)) with
  |none=>rfl
  |some p=>
   exfalso;rw [hf] at h2;dsimp only [Option.getD] at h2;obtain ⟨i,-,hi⟩:=List.exists_of_findSome?_eq_some hf;unfold a0h at hi
   split at hi
   ·cases hi;cases h2
   ·split at hi
    ·cases hi;cases h2
    ·split at hi
     ·cases hi;cases h2
     ·cases hi
theorem b3C {w:World} {k:KV} (hK:KerV w k) {space addr size way:Int} (hb0:-9223372036854775808<=addr) (hb1:addr<=9223372036854775807):Fn Tryz.prog 33 [.agg (kvC k).toArray,.int .i64 space,.int .i64 addr,.int .i64 size,.int .i64 way] w (fun v w'=>∃ k',v=.tuple #[.agg (kvC k').toArray,a4D (a4B k.K space addr size way),.int .i64 (a0T k.K space size way)]/\k'.K=a4u k.K space addr size way/\Came w w' k'):=by
 have hre:=fun w1 (h:KerV w1 k)=>b4H h (space:=space) (size:=size) (way:=way) hb0 hb1;have hK0:=hK;obtain ⟨sh,fr,sl,sps,hand,vsh,vfr,vsl,vsp⟩:=k;obtain ⟨k1,k2,k3,k4,k5⟩:=hK;dsimp only at k1 k2 k3 k4 k5;obtain ⟨p1,c1,rfl⟩:=k1.sl.len;obtain ⟨p2,c2,rfl⟩:=k2.len;obtain ⟨p3,c3,rfl⟩:=k3.len;obtain ⟨p4,c4,rfl⟩:=k4.len;generalize hKK:KV.K ⟨sh,fr,sl,sps,hand,.slice p1 sh.length c1,.slice p2 fr.length c2,.slice p3 sl.length c3,.slice p4 sps.length c4⟩=K at hre |-;have hpre:∀ w1 Γ1,St nF w w1 Γ1->KerV w1 ⟨sh,fr,sl,sps,hand,.slice p1 sh.length c1,.slice p2 fr.length c2,.slice p3 sl.length c3,.slice p4 sps.length c4⟩:=fun w1 Γ1 h=>hK0.now h;unfold a4D at hre |-;unfold kvC at hre;dsimp only at hre;unfold kvC;dsimp only;refine yEn Tryz.func33 Tryz.ntmps33 (by kernel_rfl) (by kernel_rfl) rfl rfl ?_;have hS:=St.start w
 repeat' (first|(with_reducible apply a8 a7);rfl;rfl;rfl|(with_reducible apply a9);rfl;(apply Ld.st a7;rfl;exact hS.blkR 2 rfl;rfl);rfl|refine yDn (by with_reducible constructor) ?_|(with_reducible apply l8 hS);rfl;rfl;rfl;clear hS;intro g w' hS|(with_reducible apply d8 hS a7);rfl;rfl;rfl;clear hS;intro g w' hS)
 refine a8q rfl rfl (hre _ (hpre _ _ hS)) rfl ?_;rintro v w2 (⟨he,rfl,hS'⟩|⟨he,hf,rfl,hS'⟩|⟨gw,sp,k',vh,held,he,hf,hsp,rfl,hk',hS'⟩)
 ·replace hS:=hS.transA hS';simp only [v6] at hS
  repeat' (first|(with_reducible apply a8 a7);rfl;rfl;rfl|refine yDn (by with_reducible constructor) ?_|(with_reducible apply f6);rfl;rfl|(with_reducible apply d8 hS a7);rfl;rfl;rfl;clear hS;intro g w' hS|(with_reducible apply b8 hS a7 (i:=0));(iterate 8 rfl);exact (rfl:_=[_,_]);clear hS;intro w' hS;simp only [List.set] at hS|(with_reducible apply a8B (by kernel_rfl));rfl;rfl;rfl)
  rename Nat=>g14
  refine a4h (fun w'=>St nF w w' [.blk g14 [.int .i64 0,.int .i64 0]]) 6 rfl hS (by kernel_rfl) ?_;intro w1 hS';clear hS;have hS:=hS';clear hS';have hH:St nF w w1 [.blk g14 [.int .i64 0,.int .i64 0]]:=hS.sub (.cons_cons _ (xj1 _))
  ((with_reducible apply y6 (nn 0) a7);rfl;kernel_rfl;kernel_rfl;kernel_rfl;exact (fun _ _ _ _ h=>h);exact hH;rfl;rfl;exact (rfl:_=some [_,_,_,_,_]);rfl)
  ((with_reducible apply z7 (nn 1));rfl;kernel_rfl;exact (fun _ _ _ h=>h);exact hH;rfl;(intro wd hd;replace hd:St _ _ wd _:=hd;(apply Ld.st a7;rfl;exact hd.blkR 0 rfl;rfl));rfl)
  ((with_reducible apply m8 (nn 2) a7);rfl;kernel_rfl;exact (fun _ _ _ h=>h);exact hH;rfl;rfl)
  refine l4 (i:=3) (by kernel_rfl) ?_;refine p8 (Φ:=fun _ w'=>St _ _ w' _) rfl (m7 hS a7 (i:=2) rfl rfl rfl rfl rfl (xg1 rfl) (xc7.1 rfl)) ?_;intro _ w' hS';simp only [List.set] at hS';clear hS;have hS:=hS';clear hS';refine ⟨(hS.sub (.cons_cons _ (xj1 _))),?_⟩;refine l4 (i:=4) (by kernel_rfl) ?_;refine p8 (Φ:=fun _ w'=>St _ _ w' _) rfl (m7 hS a7 (i:=1) rfl rfl rfl rfl rfl (xg1 rfl) (xc7.1 rfl)) ?_;intro _ w' hS';simp only [List.set] at hS';clear hS;have hS:=hS';clear hS';refine ⟨(hS.sub (.cons_cons _ (xj1 _))),?_⟩;have hH:St nF w w' [.blk g14 [.int .i64 0,.int .i64 0]]:=hS.sub (.cons_cons _ (xj1 _))
  ((with_reducible apply m8 (nn 5) a7);rfl;kernel_rfl;exact (fun _ _ _ h=>h);exact hH;rfl;rfl)
  refine v8 (by kernel_rfl) ?_
  repeat' ((refine yDn (by with_reducible constructor) ?_))
  (apply a3L;repeat (first|exact ResL.nil|apply ResL.tmp;rfl|apply ResL.cell;rfl;(apply Ld.st a7;rfl;(first|exact hS.blkR 1 rfl|exact hS.blkR 2 rfl);rfl)))
  refine ⟨kv0,?_,?_,xd6 ⟨rfl,hS.sub (xj1 _)⟩⟩
  ·unfold a4B;rw [xf1 he];rfl
  ·unfold a4u;rw [xf1 (fun h=>he h.1)];rfl
 ·replace hS:=hS.transA hS';simp only [v6] at hS
  repeat' (first|(with_reducible apply a8 a7);rfl;rfl;rfl|refine yDn (by with_reducible constructor) ?_|(with_reducible apply f6);rfl;rfl|(with_reducible apply d8 hS a7);rfl;rfl;rfl;clear hS;intro g w' hS|(with_reducible apply b8 hS a7 (i:=0));(iterate 8 rfl);exact (rfl:_=[_,_]);clear hS;intro w' hS;simp only [List.set] at hS|(with_reducible apply a8B (by kernel_rfl));rfl;rfl;rfl)
  rename Nat=>g14
  refine a4h (fun w'=>St nF w w' [.blk g14 [.int .i64 (a0l (n8 K space.toNat) addr size way).1,.int .i64 (a0l (n8 K space.toNat) addr size way).2]]) 6 rfl hS (by kernel_rfl) ?_;intro w1 hS';clear hS;have hS:=hS';clear hS';have hH:St nF w w1 [.blk g14 [.int .i64 (a0l (n8 K space.toNat) addr size way).1,.int .i64 (a0l (n8 K space.toNat) addr size way).2]]:=hS.sub (.cons_cons _ (xj1 _))
  ((with_reducible apply y6 (nn 0) a7);rfl;kernel_rfl;kernel_rfl;kernel_rfl;exact (fun _ _ _ _ h=>h);exact hH;rfl;rfl;exact (rfl:_=some [_,_,_,_,_]);rfl)
  ((with_reducible apply z7 (nn 1));rfl;kernel_rfl;exact (fun _ _ _ h=>h);exact hH;rfl;(intro wd hd;replace hd:St _ _ wd _:=hd;(apply Ld.st a7;rfl;exact hd.blkR 0 rfl;rfl));rfl)
  ((with_reducible apply m8 (nn 2) a7);rfl;kernel_rfl;exact (fun _ _ _ h=>h);exact hH;rfl;rfl)
  refine l4 (i:=3) (by kernel_rfl) ?_;refine p8 (Φ:=fun _ w'=>St _ _ w' _) rfl (m7 hS a7 (i:=2) rfl rfl rfl rfl rfl (xg1 rfl) (xc7.1 rfl)) ?_;intro _ w' hS';simp only [List.set] at hS';clear hS;have hS:=hS';clear hS';refine ⟨(hS.sub (.cons_cons _ (xj1 _))),?_⟩;refine l4 (i:=4) (by kernel_rfl) ?_;refine p8 (Φ:=fun _ w'=>St _ _ w' _) rfl (m7 hS a7 (i:=1) rfl rfl rfl rfl rfl (xg1 rfl) (xc7.1 rfl)) ?_;intro _ w' hS';simp only [List.set] at hS';clear hS;have hS:=hS';clear hS';refine ⟨(hS.sub (.cons_cons _ (xj1 _))),?_⟩;have hH:St nF w w' [.blk g14 [.int .i64 (a0l (n8 K space.toNat) addr size way).1,.int .i64 (a0l (n8 K space.toNat) addr size way).2]]:=hS.sub (.cons_cons _ (xj1 _))
  ((with_reducible apply m8 (nn 5) a7);rfl;kernel_rfl;exact (fun _ _ _ h=>h);exact hH;rfl;rfl)
  refine v8 (by kernel_rfl) ?_
  repeat' ((refine yDn (by with_reducible constructor) ?_))
  (apply a3L;repeat (first|exact ResL.nil|apply ResL.tmp;rfl|apply ResL.cell;rfl;(apply Ld.st a7;rfl;(first|exact hS.blkR 1 rfl|exact hS.blkR 2 rfl);rfl)))
  refine ⟨kv0,?_,?_,xd6 ⟨rfl,hS.sub (xj1 _)⟩⟩
  ·unfold a4B;rw [xf0 he,he];rfl
  ·unfold a4u;rw [xf1 (fun h=>hf h.2)];rfl
 ·have hkv:KerV w2 k':=(WkV.own (Γ:=[]) (by rw [List.append_nil];exact hS')).ker;replace hS:=hS.trans hS';clear hS' hre;replace hS:=hS.perm xm4;dsimp only [List.cons_append,List.nil_append] at hS
  repeat' (first|(with_reducible apply a8 a7);rfl;rfl;rfl|refine yDn (by with_reducible constructor) ?_|(with_reducible apply f8);rfl;rfl|(with_reducible apply d8 hS a7);rfl;rfl;rfl;clear hS;intro g w' hS|(with_reducible apply b8 hS a7 (i:=0));(iterate 8 rfl);exact (rfl:_=[_,_]);clear hS;intro w' hS;simp only [List.set] at hS|(with_reducible apply a8B (by kernel_rfl));rfl;rfl;rfl)
  rename Nat=>g14
  obtain ⟨sh',fr',sl',sps',hand',vsh',vfr',vsl',vsp'⟩:=k';obtain ⟨m1,m2,m3,m4,-⟩:=hkv;dsimp only at m1 m2 m3 m4;obtain ⟨q1,d1,rfl⟩:=m1.sl.len;obtain ⟨q2,d2,rfl⟩:=m2.len;obtain ⟨q3,d3,rfl⟩:=m3.len;obtain ⟨q4,d4,rfl⟩:=m4.len;unfold wkS wkB at hS;dsimp only [List.cons_append,List.nil_append] at hS;refine a4h (fun w'=>St nF w w' [.blk g14 [.int .i64 0,.int .i64 0],.blk gw [.slice q1 sh'.length d1,.slice q2 fr'.length d2,.slice q3 sl'.length d3,.slice q4 sps'.length d4,.int .i64 hand',.int .i64 (sp:Nat),vh]]) 9 rfl hS (by kernel_rfl) ?_;intro w1 hS';clear hS;have hS:=hS';clear hS';have hH:St nF w w1 [.blk g14 [.int .i64 0,.int .i64 0],.blk gw [.slice q1 sh'.length d1,.slice q2 fr'.length d2,.slice q3 sl'.length d3,.slice q4 sps'.length d4,.int .i64 hand',.int .i64 (sp:Nat),vh]]:=hS.sub (.cons_cons _ (.cons _ (.cons _ (.cons _ (.cons_cons _ (xj1 _))))))
  ((with_reducible apply m8 (nn 0) a7);rfl;kernel_rfl;exact (fun _ _ _ h=>h);exact hH;rfl;rfl)
  ((with_reducible apply m8 (nn 1) a7);rfl;kernel_rfl;exact (fun _ _ _ h=>h);exact hH;rfl;rfl)
  ((with_reducible apply m8 (nn 2) a7);rfl;kernel_rfl;exact (fun _ _ _ h=>h);exact hH;rfl;rfl)
  ((with_reducible apply a8n (nn 3));rfl;kernel_rfl;kernel_rfl;kernel_rfl;exact (fun _ _ _ h=>h);exact hH;rfl;(intro wd hd;replace hd:St _ _ wd _:=hd;(apply Ld.st a7;rfl;exact (hd.blkRk 1 0 5 rfl);rfl));rfl)
  ((with_reducible apply z7 (nn 4));rfl;kernel_rfl;exact (fun _ _ _ h=>h);exact hH;rfl;(intro wd hd;replace hd:St _ _ wd _:=hd;(apply Ld.st a7;rfl;exact hd.blkR 0 rfl;rfl));rfl)
  ((with_reducible apply m8 (nn 5) a7);rfl;kernel_rfl;exact (fun _ _ _ h=>h);exact hH;rfl;rfl)
  refine l4 (i:=6) (by kernel_rfl) ?_;simp only [xl2,xl3,xl7];refine p8 (Φ:=fun _ w'=>St _ _ w' _) rfl (m7 hS a7 (i:=2) rfl rfl rfl rfl rfl (xg1 rfl) (xc7.1 rfl)) ?_;intro _ w' hS';simp only [List.set] at hS';clear hS;have hS:=hS';clear hS';refine ⟨(hS.sub (.cons_cons _ (.cons _ (.cons _ (.cons _ (.cons_cons _ (xj1 _))))))),?_⟩;refine l4 (i:=7) (by kernel_rfl) ?_;refine p8 (Φ:=fun _ w'=>St _ _ w' _) rfl (m7 hS a7 (i:=1) rfl rfl rfl rfl rfl (xg1 rfl) (xc7.1 rfl)) ?_;intro _ w' hS';simp only [List.set] at hS';clear hS;have hS:=hS';clear hS';refine ⟨(hS.sub (.cons_cons _ (.cons _ (.cons _ (.cons _ (.cons_cons _ (xj1 _))))))),?_⟩;have hH:St nF w w' [.blk g14 [.int .i64 0,.int .i64 0],.blk gw [.slice q1 sh'.length d1,.slice q2 fr'.length d2,.slice q3 sl'.length d3,.slice q4 sps'.length d4,.int .i64 hand',.int .i64 (sp:Nat),vh]]:=hS.sub (.cons_cons _ (.cons _ (.cons _ (.cons _ (.cons_cons _ (xj1 _))))))
  ((with_reducible apply m8 (nn 8) a7);rfl;kernel_rfl;exact (fun _ _ _ h=>h);exact hH;rfl;rfl)
  refine v8 (by kernel_rfl) ?_
  repeat' ((refine yDn (by with_reducible constructor) ?_))
  (apply a3L;repeat (first|exact ResL.nil|apply ResL.tmp;rfl|apply ResL.cell;rfl;(apply Ld.st a7;rfl;(first|exact hS.blkR 1 rfl|exact hS.blkR 2 rfl);rfl)))
  have hok:okR K space addr size way:=⟨he,hf⟩;refine ⟨⟨sh',fr',sl',sps',hand',.slice q1 sh'.length d1,.slice q2 fr'.length d2,.slice q3 sl'.length d3,.slice q4 sps'.length d4⟩,?_,?_,?_⟩
  ·rw [b2p hok,he];rfl
  ·rw [hk'];unfold a4u;rw [xf0 hok,hsp];rfl
  ·refine b5o (Γ:=[]) (g:=gw) (sp:=sp) (vh:=vh) (held:=held) ?_;rw [List.append_nil];exact hS.sub (.cons _ (.cons _ (.cons _ (.cons _ (.refl _)))))
section
variable {P:Program} {n:Nat} {ds:List Deferred} {E:Fr} {ops:Array Oper} {rest:List Oper} {d:Nat} {ty:TypeId} {pos:String} {after:Array Edge} {T:Tab}
end
theorem KRo.ownG {F:Nat->Prop} {w0 w:World} {Θ:List Asr} {k:KV} {Γ:List Asr} (hS:St F w0 w (Θ++(a0H k++Γ))):KRo (fps Θ) w k:=by
 have hmem:∀ {e sz:Nat} {v:Value} {rows:List (List Value)},Asr.row e sz v rows ∈ a0H k->Sl (fps Θ) w sz v rows:=fun h=>by
  obtain ⟨j,hj⟩:=xd9.1 (xe5 Γ h);exact hS.ownSl j hj
 refine ⟨⟨hmem xc5,fun p hp=>?_⟩,fun p hp=>?_⟩
 ·exact hmem (e:=96) (xc6 _ (xe5 _ (xm5.2 ⟨p,hp,rfl⟩)))
 ·exact hmem (e:=81) (xc6 _ (xe6 _ (xm5.2 ⟨p,hp,rfl⟩)))
section
variable {P:Program} {n:Nat} {ds:List Deferred} {E:Fr} {w:World} {Q:Exit->Act->World->Prop} {ops:Array Oper} {S:World->Prop} {fuel:Nat} {li:Array Bool} {d:Nat} {op:Op} {ty:TypeId} {pos:String} {after:Array Edge} {F:Nat->Prop} {w0:World} {Γ:List Asr} {T:Tab}
end
def okL (K:Ker) (space addr size way:Int):Prop:=okR K space addr size way/\way≠1
instance (K:Ker) (space addr size way:Int):Decidable (okL K space addr size way):=by unfold okL;infer_instance
theorem b0z {K:Ker} {space:Int} (h:a1d K space=0):Right K/\∃ sp:Nat,space=(sp:Nat)/\sp < K.spaces.length/\(a0E K sp).live=true:=by
 unfold a1d at h;by_cases h3:a0N K=0
 ·rw [xf0 h3] at h;by_cases h4:0<=space/\space < (K.spaces.length:Int)/\(a0E K space.toNat).live=true
  ·exact ⟨a2Z.1 h3,space.toNat,by omega,by omega,h4.2.2⟩
  ·rw [xf1 h4] at h;cases h
 ·rw [xf1 h3] at h;exact absurd h h3
def b2N (A:List Ar) (L:List Sh) (en frames slots:Int):Int:=if a1n A L en=0 then (if frames < 3 then 9 else if 64 < frames\/slots < 0\/512 < slots then 3 else if slots < y9 A then 8 else 0) else a1n A L en
def b5i (A:List Ar) (L:List Sh) (en frames slots:Int):Ker:=if b2N A L en frames slots=0 then ⟨L,List.replicate frames.toNat fm0,List.replicate slots.toNat sw0,[⟨true,A,[]⟩],0⟩ else b6l
theorem a8k {w w':World} {k:KV} (h:St nF w w' (kA k)):Came w w' k:=xd3 (h.perm (a8W k))
def b1B (A:List Ar) (Lp:List (Sh×Value)) (va vs vF vS vP:Value) (nf ns:Nat):KV:=⟨Lp,List.replicate nf fm0,List.replicate ns sw0,[⟨⟨true,A,[]⟩,va,.slice none 0 0⟩],0,vs,vF,vS,vP⟩
theorem b5R {w:World} {A:List Ar} {Lp:List (Sh×Value)} {va vs vF vS vP:Value} {nf ns:Nat} (hA:Sl nF w 4 va (A.map arC)) (hL:ShsV w Lp vs) (h1:Sl nF w 4 vF (List.replicate nf [.string ⟨#[]⟩,.int .i64 0,.bool false,.bool false])) (h2:Sl nF w 2 vS (List.replicate ns [.string ⟨#[]⟩,.int .i64 0])) (h3:Sl nF w 3 vP [[.bool true,va,.slice none 0 0]]):KerV w (b1B A Lp va vs vF vS vP nf ns):=by
 refine ⟨hL,?_,?_,h3,fun p hp=>?_⟩
 ·show Sl nF w 4 vF ((List.replicate nf fm0).map fmC);rw [xn7];exact h1
 ·show Sl nF w 2 vS ((List.replicate ns sw0).map swC);rw [xn7];exact h2
 ·have:p=⟨⟨true,A,[]⟩,va,.slice none 0 0⟩:=xi8.1 hp;subst this;exact ⟨hA,Sl.nil0 w 3⟩
theorem b57 {A:List Ar} {Lp:List (Sh×Value)} {va vs vF vS vP:Value} {nf ns:Nat} (hA:A.length<=255) (hL:Lp.length<=255) (hx:∀ x ∈ Lp,x.1.fixes.length<=16) (h1:nf<=1000) (h2:ns<=1000):KBd (b1B A Lp va vs vF vS vP nf ns):=by
 refine ⟨?_,?_,?_,?_,fun x hxm=>?_,fun p hp=>?_,fun p hp=>?_⟩
 ·show (List.replicate nf fm0).length<=1000;rw [xi0];omega
 ·show (List.replicate ns sw0).length<=1000;rw [xi0];omega
 ·show Lp.length<=1000;omega
 ·show 1<=1000;omega
 ·have:=hx x hxm;omega
 ·have:p=⟨⟨true,A,[]⟩,va,.slice none 0 0⟩:=xi8.1 hp;subst this;show A.length<=1000;omega
 ·have:p=⟨⟨true,A,[]⟩,va,.slice none 0 0⟩:=xi8.1 hp;subst this;show 0<=1000;omega
theorem a7J:∀ {l:List Ar} {e:Int},x6 e l->e<=256->a1k e l<=256
 |[],_,_,h=>h
 |a::l,e,h,_=>a7J (l:=l) (e:=a.fin) h.2.2 (by have:=h.1;unfold Ar.ok at this;unfold Ar.fin;omega)
theorem b5U {A:List Ar} {L:List Sh} {en:Int} (h:a1n A L en=0):l5 A=0/\A.length<=255/\L.length<=255/\∀ S ∈ L,S.fixes.length<=16:=by
 unfold a1n at h;by_cases h1:l5 A=0
 ·rw [xf0 h1] at h;by_cases h2:lkB A L en=true
  ·unfold lkB at h2;rw [b5l] at h2;simp only [xb2,xb3] at h2;obtain ⟨h3,⟨h4,-⟩,-⟩:=h2;obtain ⟨h5,h6⟩:=x7.1 h1;have h7:=(b1Y (l:=A) (q:=1) (q':=256) h6.1 (a7J h6.1 (by omega)) (by omega)).1;exact ⟨h1,h5,by omega,fun S hS=>a4n ((a2l h4).1 S hS).1⟩
  ·rw [xf1 h2] at h;cases h
 ·rw [xf1 h1] at h;exact absurd h h1
theorem b6U {w:World} {A:List Ar} {Lp:List (Sh×Value)} {va vs:Value} {en:Int} (hA:Sl nF w 4 va (A.map arC)) (hL:ShsV w Lp vs) (hen:-9223372036854775808<=en) (hen2:en<=9223372036854775807) {frames slots:Int}:Fn Tryz.prog 18 [lkA va vs en,.int .i64 frames,.int .i64 slots] w (fun v w'=>∃ k',v=.tuple #[.agg (kvC k').toArray,.int .i64 (b2N A (shs Lp) en frames slots)]/\k'.K=b5i A (shs Lp) en frames slots/\Came w w' k'):=by
 have hchk:=fun w1 Γ1 (h:St nF w w1 Γ1)=>b0N (hA.now h) (hL.now h) hen hen2;have htot:=fun w1 Γ1 (h:St nF w w1 Γ1)=>a6U (hA.now h);obtain ⟨RE,hRE⟩:∃ e,e=b2N A (shs Lp) en frames slots:=⟨_,rfl⟩;unfold b5i;rw [<- hRE];unfold b2N at hRE;obtain ⟨pa,ca,rfl⟩:=hA.len;obtain ⟨ph,ch,rfl⟩:=hL.sl.len;unfold lkA at hchk |-;unfold kvC;have hno:∀ {w1 Γ1},St nF w w1 Γ1->∀ {e:Int},e≠0->∃ k':KV,Value.tuple #[.agg #[.slice none 0 0,.slice none 0 0,.slice none 0 0,.slice none 0 0,.int .i64 0],.int .i64 e]=.tuple #[.agg [k'.vsh,k'.vfr,k'.vsl,k'.vsp,.int .i64 k'.hand].toArray,.int .i64 e]/\k'.K=(if e=0 then (⟨shs Lp,List.replicate frames.toNat fm0,List.replicate slots.toNat sw0,[⟨true,A,[]⟩],0⟩:Ker) else b6l)/\Came w w1 k':=by
  intro w1 Γ1 h e he;exact ⟨kv0,rfl,by rw [xf1 he];rfl,xd6 ⟨rfl,h.sub (xj1 _)⟩⟩
 by_cases h0:a1n A (shs Lp) en=0;rotate_left
 ·rw [xf1 h0] at hRE;have hd:decide (a1n A (shs Lp) en=0)=false:=xj0 h0;rw [<- hRE] at hd hchk h0;refine yEn Tryz.func18 Tryz.ntmps18 (by kernel_rfl) (by kernel_rfl) rfl rfl ?_;have hS:=St.start w
  repeat' (first|(with_reducible apply a8 a7);rfl;rfl;rfl|(with_reducible apply a9);rfl;(apply Ld.st a7;rfl;exact hS.blkR 1 rfl;rfl);rfl|(with_reducible apply n7 a7);rfl;rfl;exact (rfl:_=some [_,_,_,_,_]);rfl|refine yDn (by with_reducible constructor) ?_|(with_reducible apply l8 hS);rfl;rfl;rfl;clear hS;intro g w' hS|(with_reducible apply d8 hS a7);rfl;rfl;rfl;clear hS;intro g w' hS|(with_reducible apply b8 hS a7 (i:=0));(iterate 8 rfl);exact (rfl:_=[_,_,_,_,_]);clear hS;intro w' hS;simp only [List.set] at hS|(with_reducible apply a08);rfl;all_goals (intro hb hp;try (exfalso;omega))|(with_reducible apply d7 hS);rfl;rfl;rfl;refine ⟨_,hchk _ _ hS,?_⟩;clear hS;intro w' hS)
  (apply a26;repeat (first|exact ResL.nil|apply ResL.tmp;rfl|apply ResL.cell;rfl;(apply Ld.st a7;rfl;exact hS.blkR 0 rfl;rfl)))
  exact hno hS h0
 rw [xf0 h0] at hRE;rw [h0] at hchk;obtain ⟨hc,hb1,hb2,hb3⟩:=b5U h0;rw [xf0 hc] at htot;by_cases h1:frames < 3
 ·rw [xf0 h1] at hRE;subst hRE;have hd:decide (frames < 3)=true:=xj2 h1;refine yEn Tryz.func18 Tryz.ntmps18 (by kernel_rfl) (by kernel_rfl) rfl rfl ?_;have hS:=St.start w
  repeat' (first|(with_reducible apply a8 a7);rfl;rfl;rfl|(with_reducible apply a9);rfl;(apply Ld.st a7;rfl;exact hS.blkR 1 rfl;rfl);rfl|(with_reducible apply n7 a7);rfl;rfl;exact (rfl:_=some [_,_,_,_,_]);rfl|refine yDn (by with_reducible constructor) ?_|(with_reducible apply f6);rfl;assumption|(with_reducible apply f8);rfl;rfl|(with_reducible apply l8 hS);rfl;rfl;rfl;clear hS;intro g w' hS|(with_reducible apply d8 hS a7);rfl;rfl;rfl;clear hS;intro g w' hS|(with_reducible apply b8 hS a7 (i:=0));(iterate 8 rfl);exact (rfl:_=[_,_,_,_,_]);clear hS;intro w' hS;simp only [List.set] at hS|(with_reducible apply d7 hS);rfl;rfl;rfl;refine ⟨_,hchk _ _ hS,?_⟩;clear hS;intro w' hS)
  (apply a26;repeat (first|exact ResL.nil|apply ResL.tmp;rfl|apply ResL.cell;rfl;(apply Ld.st a7;rfl;exact hS.blkR 0 rfl;rfl)))
  exact hno hS (by omega)
 rw [xf1 h1] at hRE;have hd1:decide (frames < 3)=false:=xj0 h1;by_cases h2:64 < frames\/slots < 0\/512 < slots
 ·rw [xf0 h2] at hRE;subst hRE;refine yEn Tryz.func18 Tryz.ntmps18 (by kernel_rfl) (by kernel_rfl) rfl rfl ?_;have hS:=St.start w
  repeat' (first|(with_reducible apply a8 a7);rfl;rfl;rfl|(with_reducible apply a9);rfl;(apply Ld.st a7;rfl;exact hS.blkR 1 rfl;rfl);rfl|(with_reducible apply n7 a7);rfl;rfl;exact (rfl:_=some [_,_,_,_,_]);rfl|refine yDn (by with_reducible constructor) ?_|(with_reducible apply f6);rfl;assumption|((with_reducible apply f8);rfl;first|rfl|assumption)|(with_reducible apply l8 hS);rfl;rfl;rfl;clear hS;intro g w' hS|(with_reducible apply d8 hS a7);rfl;rfl;rfl;clear hS;intro g w' hS|(with_reducible apply b8 hS a7 (i:=0));(iterate 8 rfl);exact (rfl:_=[_,_,_,_,_]);clear hS;intro w' hS;simp only [List.set] at hS|(with_reducible apply b9);rfl;all_goals (intro hb hp;try (exfalso;omega))|(with_reducible apply d7 hS);rfl;rfl;rfl;refine ⟨_,hchk _ _ hS,?_⟩;clear hS;intro w' hS)
  all_goals (apply a26)
  all_goals (repeat (first|exact ResL.nil|apply ResL.tmp;rfl|apply ResL.cell;rfl;(apply Ld.st a7;rfl;exact hS.blkR 0 rfl;rfl)))
  all_goals (exact hno hS (by omega))
 rw [xf1 h2] at hRE;have hd2:decide (64 < frames)=false:=xj0 (by omega);have hd3:decide (slots < 0)=false:=xj0 (by omega);have hd4:decide (512 < slots)=false:=xj0 (by omega);by_cases h3:slots < y9 A
 ·rw [xf0 h3] at hRE;subst hRE;have hd5:decide (slots < y9 A)=true:=xj2 h3;refine yEn Tryz.func18 Tryz.ntmps18 (by kernel_rfl) (by kernel_rfl) rfl rfl ?_;have hS:=St.start w
  repeat' (first|(with_reducible apply a8 a7);rfl;rfl;rfl|(with_reducible apply a9);rfl;(first|apply Ld.sl a7;rfl;exact hS.blkC 1 rfl rfl|apply Ld.st a7;rfl;exact hS.blkR 1 rfl;rfl);rfl|(with_reducible apply n7 a7);rfl;rfl;exact (rfl:_=some [_,_,_,_,_]);rfl|refine yDn (by with_reducible constructor) ?_|(with_reducible apply f6);rfl;assumption|((with_reducible apply f8);rfl;first|rfl|assumption)|(with_reducible apply l8 hS);rfl;rfl;rfl;clear hS;intro g w' hS|(with_reducible apply d8 hS a7);rfl;rfl;rfl;clear hS;intro g w' hS|(with_reducible apply b8 hS a7 (i:=0));(iterate 8 rfl);exact (rfl:_=[_,_,_,_,_]);clear hS;intro w' hS;simp only [List.set] at hS|(with_reducible apply d7 hS);rfl;rfl;rfl;refine ⟨_,hchk _ _ hS,?_⟩;clear hS;intro w' hS|(with_reducible apply d7 hS);rfl;rfl;rfl;refine ⟨_,htot _ _ hS,?_⟩;clear hS;intro w' hS)
  (apply a26;repeat (first|exact ResL.nil|apply ResL.tmp;rfl|apply ResL.cell;rfl;(apply Ld.st a7;rfl;exact hS.blkR 0 rfl;rfl)))
  exact hno hS (by omega)
 rw [xf1 h3] at hRE;subst hRE;rw [xf0 rfl];have hd5:decide (slots < y9 A)=false:=xj0 h3;obtain ⟨nf,rfl⟩:∃ n:Nat,frames=(n:Nat):=⟨frames.toNat,by omega⟩;obtain ⟨ns,rfl⟩:∃ n:Nat,slots=(n:Nat):=⟨slots.toNat,by omega⟩;refine yEn Tryz.func18 Tryz.ntmps18 (by kernel_rfl) (by kernel_rfl) rfl rfl ?_;have hS:=St.start w
 repeat' (first|(with_reducible apply a8 a7);rfl;rfl;rfl|(with_reducible apply a9);rfl;(first|apply Ld.sl a7;rfl;exact hS.blkC 1 rfl rfl|apply Ld.st a7;rfl;exact hS.blkR 1 rfl;rfl);rfl|refine yDn (by with_reducible constructor) ?_|((with_reducible apply f8);rfl;first|rfl|assumption)|(with_reducible apply l8 hS);rfl;rfl;rfl;clear hS;intro g w' hS|(with_reducible apply d8 hS a7);rfl;rfl;rfl;clear hS;intro g w' hS|(with_reducible apply d7 hS);rfl;rfl;rfl;refine ⟨_,hchk _ _ hS,?_⟩;clear hS;intro w' hS|(with_reducible apply d7 hS);rfl;rfl;rfl;refine ⟨_,htot _ _ hS,?_⟩;clear hS;intro w' hS)
 rename_i g3 _ _ _;have hAw:=fun w1 Γ1 (h:St nF w w1 Γ1)=>hA.now h;have hLw:=fun w1 Γ1 (h:St nF w w1 Γ1)=>hL.now h;have hlen:Lp.length<=255:=by rw [<- a0Z];exact hb2
 have hfx:∀ x ∈ Lp,x.1.fixes.length<=16:=fun x hx=>hb3 x.1 (xm5.2 ⟨x,hx,rfl⟩);have hown:=fun w1 Γ1 (h:St nF w w1 Γ1) gF gS gP (r1:Sl nF w1 4 (.slice (some ⟨gF,0,none⟩) nf nf) (List.replicate nf [.string ⟨#[]⟩,.int .i64 0,.bool false,.bool false])) (r2:Sl nF w1 2 (.slice (some ⟨gS,0,none⟩) ns ns) (List.replicate ns [.string ⟨#[]⟩,.int .i64 0])) (r3:Sl nF w1 3 (.slice (some ⟨gP,0,none⟩) 1 1) [[.bool true,.slice pa A.length ca,.slice none 0 0]])=>b4t (b5R (hAw _ _ h) (hLw _ _ h) r1 r2 r3) (b57 (va:=.slice pa A.length ca) (vs:=.slice ph Lp.length ch) (vF:=.slice (some ⟨gF,0,none⟩) nf nf) (vS:=.slice (some ⟨gS,0,none⟩) ns ns) (vP:=.slice (some ⟨gP,0,none⟩) 1 1) (nf:=nf) (ns:=ns) hb1 hlen hfx (by omega) (by omega));unfold b1B kvC at hown;refine a07 (F:=nF) (w0:=w) (X:=KV) (fun _=>[(6,.pointer (some ⟨g,0,none⟩)),(7,.int .i64 0)]) (fun k'=>.blk g (kvC k')::kA k') (fun k'=>k'.K=(⟨shs Lp,List.replicate nf fm0,List.replicate ns sw0,[⟨true,A,[]⟩],0⟩:Ker)) ?_ ?_
 ·refine a4h (fun w'=>St nF w w' [.blk g3 [.slice pa A.length ca,.slice ph Lp.length ch,.int .i64 en]]) 14 rfl hS (by kernel_rfl) ?_;intro w1 hS';clear hS;have hS:=hS';clear hS'
  ((with_reducible apply m8 (nn 0) a7);rfl;kernel_rfl;exact (fun _ _ _ h=>h);exact (hS.sub (by repeat (first|exact xl8 _|apply xm1)));rfl;rfl)
  ((with_reducible apply z7 (nn 1));rfl;kernel_rfl;exact (fun _ _ _ h=>h);exact (hS.sub (by repeat (first|exact xl8 _|apply xm1)));rfl;(intro wd hd;replace hd:St _ _ wd _:=hd;(apply Ld.sl a7;rfl;exact hd.blkC 0 rfl rfl));rfl)
  ((with_reducible apply m8 (nn 2) a7);rfl;kernel_rfl;exact (fun _ _ _ h=>h);exact (hS.sub (by repeat (first|exact xl8 _|apply xm1)));rfl;rfl)
  ((with_reducible apply m8 (nn 4) a7);rfl;kernel_rfl;exact (fun _ _ _ h=>h);exact (hS.sub (by repeat (first|exact xl8 _|apply xm1)));rfl;rfl)
  ((with_reducible apply m8 (nn 6) a7);rfl;kernel_rfl;exact (fun _ _ _ h=>h);exact (hS.sub (by repeat (first|exact xl8 _|apply xm1)));rfl;rfl)
  ((with_reducible apply z7 (nn 7));rfl;kernel_rfl;exact (fun _ _ _ h=>h);exact (hS.sub (by repeat (first|exact xl8 _|apply xm1)));rfl;(intro wd hd;replace hd:St _ _ wd _:=hd;(apply Ld.sl a7;rfl;exact hd.blkC 0 rfl rfl));rfl)
  ((with_reducible apply y6 (nn 8) a7);rfl;kernel_rfl;kernel_rfl;kernel_rfl;exact (fun _ _ _ _ h=>h);exact (hS.sub (by repeat (first|exact xl8 _|apply xm1)));rfl;rfl;exact (rfl:_=some [_,_,_]);rfl)
  refine a8V (i:=3) (j:=5) (l:=9) (by kernel_rfl) ?_ ?_ ?_
  ·refine j5 rfl (y0 hS a7 (m:=nf) rfl rfl rfl rfl rfl (by omega) (by omega) rfl) rfl ?_;rintro _ w' ⟨gF,rfl,hS'⟩;clear hS;have hS:=hS';clear hS';refine ⟨(hS.sub (by repeat (first|exact xl8 _|apply xm1))),?_⟩;refine a2x (i:=5) (j:=9) (by kernel_rfl) ?_ ?_
   ·refine j5 rfl (y0 hS a7 (m:=ns) rfl rfl rfl rfl rfl (by omega) (by omega) rfl) rfl ?_;rintro _ w' ⟨gS,rfl,hS'⟩;clear hS;have hS:=hS';clear hS';refine ⟨(hS.sub (by repeat (first|exact xl8 _|apply xm1))),?_⟩;refine l4 (i:=9) (by kernel_rfl) ?_;refine j5 rfl (o7 hS a7 rfl rfl rfl rfl rfl rfl) rfl ?_;rintro _ w' ⟨gP,rfl,hS'⟩;clear hS;have hS:=hS';clear hS';refine ⟨(hS.sub (by repeat (first|exact xl8 _|apply xm1))),?_⟩
    ((with_reducible apply y6 (nn 10) a7);rfl;kernel_rfl;kernel_rfl;kernel_rfl;exact (fun _ _ _ _ h=>h);exact (hS.sub (by repeat (first|exact xl8 _|apply xm1)));rfl;rfl;exact (rfl:_=some [_,_,_,_,_]);rfl)
    replace hS:=St.reorder [2,1,0,3,4] hS (by decide) rfl;refine l4 (i:=11) (by kernel_rfl) ?_;refine j5 rfl (s9 (first:=[]) (caps:=[]) rfl rfl (hown _ _ hS gF gS gP (hS.rowSl 0 rfl) (hS.rowSl 1 rfl) (hS.rowSl 2 rfl))) rfl ?_;rintro _ w' ⟨k',rfl,hk',h2⟩;replace hS:=hS.trans h2;clear h2 hown;replace hS:=hS.perm xm4;obtain ⟨sh',fr',sl',sps',hand',vsh',vfr',vsl',vsp'⟩:=k';unfold kA at hS;dsimp only [List.cons_append,List.nil_append] at hS;obtain ⟨q1,d1,rfl⟩:=hS.rowSlice 5 rfl;obtain ⟨q2,d2,rfl⟩:=hS.rowSlice 6 rfl;obtain ⟨q3,d3,rfl⟩:=hS.rowSlice 7 rfl;obtain ⟨q4,d4,rfl⟩:=hS.rowSlice 8 rfl;refine ⟨(hS.sub (.cons _ (.cons _ (.cons _ (.cons _ (.cons_cons _ (xj1 _))))))),?_⟩;refine l4 (i:=12) (by kernel_rfl) ?_;refine p8 (Φ:=fun _ w'=>St _ _ w' _) rfl (m7 hS a7 (i:=3) rfl rfl rfl rfl rfl (xg1 rfl) (xc7.1 rfl)) ?_;intro _ w' hS';simp only [List.set] at hS';clear hS;have hS:=hS';clear hS';refine ⟨(hS.sub (.cons _ (.cons _ (.cons _ (.cons _ (.cons_cons _ (xj1 _))))))),?_⟩
    ((with_reducible apply m8 (nn 13) a7);rfl;kernel_rfl;exact (fun _ _ _ h=>h);exact (hS.sub (.cons _ (.cons _ (.cons _ (.cons _ (.cons_cons _ (xj1 _)))))));rfl;rfl)
    refine v8 (by kernel_rfl) ?_;exact n5 _ (by exact Fr.sub_of rfl) hk' (hS.sub (.cons _ (.cons _ (.cons _ (.cons_cons _ (.cons _ (.refl _)))))))
   ·refine j5 rfl (o7 hS a7 rfl rfl rfl rfl rfl rfl) rfl ?_;rintro _ w' ⟨gP,rfl,hS'⟩;clear hS;have hS:=hS';clear hS';refine ⟨(hS.sub (by repeat (first|exact xl8 _|apply xm1))),?_⟩;refine l4 (i:=5) (by kernel_rfl) ?_;refine j5 rfl (y0 hS a7 (m:=ns) rfl rfl rfl rfl rfl (by omega) (by omega) rfl) rfl ?_;rintro _ w' ⟨gS,rfl,hS'⟩;clear hS;have hS:=hS';clear hS';refine ⟨(hS.sub (by repeat (first|exact xl8 _|apply xm1))),?_⟩
    ((with_reducible apply y6 (nn 10) a7);rfl;kernel_rfl;kernel_rfl;kernel_rfl;exact (fun _ _ _ _ h=>h);exact (hS.sub (by repeat (first|exact xl8 _|apply xm1)));rfl;rfl;exact (rfl:_=some [_,_,_,_,_]);rfl)
    replace hS:=St.reorder [2,0,1,3,4] hS (by decide) rfl;refine l4 (i:=11) (by kernel_rfl) ?_;refine j5 rfl (s9 (first:=[]) (caps:=[]) rfl rfl (hown _ _ hS gF gS gP (hS.rowSl 0 rfl) (hS.rowSl 1 rfl) (hS.rowSl 2 rfl))) rfl ?_;rintro _ w' ⟨k',rfl,hk',h2⟩;replace hS:=hS.trans h2;clear h2 hown;replace hS:=hS.perm xm4;obtain ⟨sh',fr',sl',sps',hand',vsh',vfr',vsl',vsp'⟩:=k';unfold kA at hS;dsimp only [List.cons_append,List.nil_append] at hS;obtain ⟨q1,d1,rfl⟩:=hS.rowSlice 5 rfl;obtain ⟨q2,d2,rfl⟩:=hS.rowSlice 6 rfl;obtain ⟨q3,d3,rfl⟩:=hS.rowSlice 7 rfl;obtain ⟨q4,d4,rfl⟩:=hS.rowSlice 8 rfl;refine ⟨(hS.sub (.cons _ (.cons _ (.cons _ (.cons _ (.cons_cons _ (xj1 _))))))),?_⟩;refine l4 (i:=12) (by kernel_rfl) ?_;refine p8 (Φ:=fun _ w'=>St _ _ w' _) rfl (m7 hS a7 (i:=3) rfl rfl rfl rfl rfl (xg1 rfl) (xc7.1 rfl)) ?_;intro _ w' hS';simp only [List.set] at hS';clear hS;have hS:=hS';clear hS';refine ⟨(hS.sub (.cons _ (.cons _ (.cons _ (.cons _ (.cons_cons _ (xj1 _))))))),?_⟩
    ((with_reducible apply m8 (nn 13) a7);rfl;kernel_rfl;exact (fun _ _ _ h=>h);exact (hS.sub (.cons _ (.cons _ (.cons _ (.cons _ (.cons_cons _ (xj1 _)))))));rfl;rfl)
    refine v8 (by kernel_rfl) ?_;exact n5 _ (by exact Fr.sub_of rfl) hk' (hS.sub (.cons _ (.cons _ (.cons _ (.cons_cons _ (.cons _ (.refl _)))))))
  ·refine j5 rfl (y0 hS a7 (m:=ns) rfl rfl rfl rfl rfl (by omega) (by omega) rfl) rfl ?_;rintro _ w' ⟨gS,rfl,hS'⟩;clear hS;have hS:=hS';clear hS';refine ⟨(hS.sub (by repeat (first|exact xl8 _|apply xm1))),?_⟩;refine a2x (i:=3) (j:=9) (by kernel_rfl) ?_ ?_
   ·refine j5 rfl (y0 hS a7 (m:=nf) rfl rfl rfl rfl rfl (by omega) (by omega) rfl) rfl ?_;rintro _ w' ⟨gF,rfl,hS'⟩;clear hS;have hS:=hS';clear hS';refine ⟨(hS.sub (by repeat (first|exact xl8 _|apply xm1))),?_⟩;refine l4 (i:=9) (by kernel_rfl) ?_;refine j5 rfl (o7 hS a7 rfl rfl rfl rfl rfl rfl) rfl ?_;rintro _ w' ⟨gP,rfl,hS'⟩;clear hS;have hS:=hS';clear hS';refine ⟨(hS.sub (by repeat (first|exact xl8 _|apply xm1))),?_⟩
    ((with_reducible apply y6 (nn 10) a7);rfl;kernel_rfl;kernel_rfl;kernel_rfl;exact (fun _ _ _ _ h=>h);exact (hS.sub (by repeat (first|exact xl8 _|apply xm1)));rfl;rfl;exact (rfl:_=some [_,_,_,_,_]);rfl)
    replace hS:=St.reorder [1,2,0,3,4] hS (by decide) rfl;refine l4 (i:=11) (by kernel_rfl) ?_;refine j5 rfl (s9 (first:=[]) (caps:=[]) rfl rfl (hown _ _ hS gF gS gP (hS.rowSl 0 rfl) (hS.rowSl 1 rfl) (hS.rowSl 2 rfl))) rfl ?_;rintro _ w' ⟨k',rfl,hk',h2⟩;replace hS:=hS.trans h2;clear h2 hown;replace hS:=hS.perm xm4;obtain ⟨sh',fr',sl',sps',hand',vsh',vfr',vsl',vsp'⟩:=k';unfold kA at hS;dsimp only [List.cons_append,List.nil_append] at hS;obtain ⟨q1,d1,rfl⟩:=hS.rowSlice 5 rfl;obtain ⟨q2,d2,rfl⟩:=hS.rowSlice 6 rfl;obtain ⟨q3,d3,rfl⟩:=hS.rowSlice 7 rfl;obtain ⟨q4,d4,rfl⟩:=hS.rowSlice 8 rfl;refine ⟨(hS.sub (.cons _ (.cons _ (.cons _ (.cons _ (.cons_cons _ (xj1 _))))))),?_⟩;refine l4 (i:=12) (by kernel_rfl) ?_;refine p8 (Φ:=fun _ w'=>St _ _ w' _) rfl (m7 hS a7 (i:=3) rfl rfl rfl rfl rfl (xg1 rfl) (xc7.1 rfl)) ?_;intro _ w' hS';simp only [List.set] at hS';clear hS;have hS:=hS';clear hS';refine ⟨(hS.sub (.cons _ (.cons _ (.cons _ (.cons _ (.cons_cons _ (xj1 _))))))),?_⟩
    ((with_reducible apply m8 (nn 13) a7);rfl;kernel_rfl;exact (fun _ _ _ h=>h);exact (hS.sub (.cons _ (.cons _ (.cons _ (.cons _ (.cons_cons _ (xj1 _)))))));rfl;rfl)
    refine v8 (by kernel_rfl) ?_;exact n5 _ (by exact Fr.sub_of rfl) hk' (hS.sub (.cons _ (.cons _ (.cons _ (.cons_cons _ (.cons _ (.refl _)))))))
   ·refine j5 rfl (o7 hS a7 rfl rfl rfl rfl rfl rfl) rfl ?_;rintro _ w' ⟨gP,rfl,hS'⟩;clear hS;have hS:=hS';clear hS';refine ⟨(hS.sub (by repeat (first|exact xl8 _|apply xm1))),?_⟩;refine l4 (i:=3) (by kernel_rfl) ?_;refine j5 rfl (y0 hS a7 (m:=nf) rfl rfl rfl rfl rfl (by omega) (by omega) rfl) rfl ?_;rintro _ w' ⟨gF,rfl,hS'⟩;clear hS;have hS:=hS';clear hS';refine ⟨(hS.sub (by repeat (first|exact xl8 _|apply xm1))),?_⟩
    ((with_reducible apply y6 (nn 10) a7);rfl;kernel_rfl;kernel_rfl;kernel_rfl;exact (fun _ _ _ _ h=>h);exact (hS.sub (by repeat (first|exact xl8 _|apply xm1)));rfl;rfl;exact (rfl:_=some [_,_,_,_,_]);rfl)
    replace hS:=St.reorder [0,2,1,3,4] hS (by decide) rfl;refine l4 (i:=11) (by kernel_rfl) ?_;refine j5 rfl (s9 (first:=[]) (caps:=[]) rfl rfl (hown _ _ hS gF gS gP (hS.rowSl 0 rfl) (hS.rowSl 1 rfl) (hS.rowSl 2 rfl))) rfl ?_;rintro _ w' ⟨k',rfl,hk',h2⟩;replace hS:=hS.trans h2;clear h2 hown;replace hS:=hS.perm xm4;obtain ⟨sh',fr',sl',sps',hand',vsh',vfr',vsl',vsp'⟩:=k';unfold kA at hS;dsimp only [List.cons_append,List.nil_append] at hS;obtain ⟨q1,d1,rfl⟩:=hS.rowSlice 5 rfl;obtain ⟨q2,d2,rfl⟩:=hS.rowSlice 6 rfl;obtain ⟨q3,d3,rfl⟩:=hS.rowSlice 7 rfl;obtain ⟨q4,d4,rfl⟩:=hS.rowSlice 8 rfl;refine ⟨(hS.sub (.cons _ (.cons _ (.cons _ (.cons _ (.cons_cons _ (xj1 _))))))),?_⟩;refine l4 (i:=12) (by kernel_rfl) ?_;refine p8 (Φ:=fun _ w'=>St _ _ w' _) rfl (m7 hS a7 (i:=3) rfl rfl rfl rfl rfl (xg1 rfl) (xc7.1 rfl)) ?_;intro _ w' hS';simp only [List.set] at hS';clear hS;have hS:=hS';clear hS';refine ⟨(hS.sub (.cons _ (.cons _ (.cons _ (.cons _ (.cons_cons _ (xj1 _))))))),?_⟩
    ((with_reducible apply m8 (nn 13) a7);rfl;kernel_rfl;exact (fun _ _ _ h=>h);exact (hS.sub (.cons _ (.cons _ (.cons _ (.cons _ (.cons_cons _ (xj1 _)))))));rfl;rfl)
    refine v8 (by kernel_rfl) ?_;exact n5 _ (by exact Fr.sub_of rfl) hk' (hS.sub (.cons _ (.cons _ (.cons _ (.cons_cons _ (.cons _ (.refl _)))))))
  ·refine j5 rfl (o7 hS a7 rfl rfl rfl rfl rfl rfl) rfl ?_;rintro _ w' ⟨gP,rfl,hS'⟩;clear hS;have hS:=hS';clear hS';refine ⟨(hS.sub (by repeat (first|exact xl8 _|apply xm1))),?_⟩;refine a2x (i:=3) (j:=5) (by kernel_rfl) ?_ ?_
   ·refine j5 rfl (y0 hS a7 (m:=nf) rfl rfl rfl rfl rfl (by omega) (by omega) rfl) rfl ?_;rintro _ w' ⟨gF,rfl,hS'⟩;clear hS;have hS:=hS';clear hS';refine ⟨(hS.sub (by repeat (first|exact xl8 _|apply xm1))),?_⟩;refine l4 (i:=5) (by kernel_rfl) ?_;refine j5 rfl (y0 hS a7 (m:=ns) rfl rfl rfl rfl rfl (by omega) (by omega) rfl) rfl ?_;rintro _ w' ⟨gS,rfl,hS'⟩;clear hS;have hS:=hS';clear hS';refine ⟨(hS.sub (by repeat (first|exact xl8 _|apply xm1))),?_⟩
    ((with_reducible apply y6 (nn 10) a7);rfl;kernel_rfl;kernel_rfl;kernel_rfl;exact (fun _ _ _ _ h=>h);exact (hS.sub (by repeat (first|exact xl8 _|apply xm1)));rfl;rfl;exact (rfl:_=some [_,_,_,_,_]);rfl)
    replace hS:=St.reorder [1,0,2,3,4] hS (by decide) rfl;refine l4 (i:=11) (by kernel_rfl) ?_;refine j5 rfl (s9 (first:=[]) (caps:=[]) rfl rfl (hown _ _ hS gF gS gP (hS.rowSl 0 rfl) (hS.rowSl 1 rfl) (hS.rowSl 2 rfl))) rfl ?_;rintro _ w' ⟨k',rfl,hk',h2⟩;replace hS:=hS.trans h2;clear h2 hown;replace hS:=hS.perm xm4;obtain ⟨sh',fr',sl',sps',hand',vsh',vfr',vsl',vsp'⟩:=k';unfold kA at hS;dsimp only [List.cons_append,List.nil_append] at hS;obtain ⟨q1,d1,rfl⟩:=hS.rowSlice 5 rfl;obtain ⟨q2,d2,rfl⟩:=hS.rowSlice 6 rfl;obtain ⟨q3,d3,rfl⟩:=hS.rowSlice 7 rfl;obtain ⟨q4,d4,rfl⟩:=hS.rowSlice 8 rfl;refine ⟨(hS.sub (.cons _ (.cons _ (.cons _ (.cons _ (.cons_cons _ (xj1 _))))))),?_⟩;refine l4 (i:=12) (by kernel_rfl) ?_;refine p8 (Φ:=fun _ w'=>St _ _ w' _) rfl (m7 hS a7 (i:=3) rfl rfl rfl rfl rfl (xg1 rfl) (xc7.1 rfl)) ?_;intro _ w' hS';simp only [List.set] at hS';clear hS;have hS:=hS';clear hS';refine ⟨(hS.sub (.cons _ (.cons _ (.cons _ (.cons _ (.cons_cons _ (xj1 _))))))),?_⟩
    ((with_reducible apply m8 (nn 13) a7);rfl;kernel_rfl;exact (fun _ _ _ h=>h);exact (hS.sub (.cons _ (.cons _ (.cons _ (.cons _ (.cons_cons _ (xj1 _)))))));rfl;rfl)
    refine v8 (by kernel_rfl) ?_;exact n5 _ (by exact Fr.sub_of rfl) hk' (hS.sub (.cons _ (.cons _ (.cons _ (.cons_cons _ (.cons _ (.refl _)))))))
   ·refine j5 rfl (y0 hS a7 (m:=ns) rfl rfl rfl rfl rfl (by omega) (by omega) rfl) rfl ?_;rintro _ w' ⟨gS,rfl,hS'⟩;clear hS;have hS:=hS';clear hS';refine ⟨(hS.sub (by repeat (first|exact xl8 _|apply xm1))),?_⟩;refine l4 (i:=3) (by kernel_rfl) ?_;refine j5 rfl (y0 hS a7 (m:=nf) rfl rfl rfl rfl rfl (by omega) (by omega) rfl) rfl ?_;rintro _ w' ⟨gF,rfl,hS'⟩;clear hS;have hS:=hS';clear hS';refine ⟨(hS.sub (by repeat (first|exact xl8 _|apply xm1))),?_⟩
    ((with_reducible apply y6 (nn 10) a7);rfl;kernel_rfl;kernel_rfl;kernel_rfl;exact (fun _ _ _ _ h=>h);exact (hS.sub (by repeat (first|exact xl8 _|apply xm1)));rfl;rfl;exact (rfl:_=some [_,_,_,_,_]);rfl)
    replace hS:=St.reorder [0,1,2,3,4] hS (by decide) rfl;refine l4 (i:=11) (by kernel_rfl) ?_;refine j5 rfl (s9 (first:=[]) (caps:=[]) rfl rfl (hown _ _ hS gF gS gP (hS.rowSl 0 rfl) (hS.rowSl 1 rfl) (hS.rowSl 2 rfl))) rfl ?_;rintro _ w' ⟨k',rfl,hk',h2⟩;replace hS:=hS.trans h2;clear h2 hown;replace hS:=hS.perm xm4;obtain ⟨sh',fr',sl',sps',hand',vsh',vfr',vsl',vsp'⟩:=k';unfold kA at hS;dsimp only [List.cons_append,List.nil_append] at hS;obtain ⟨q1,d1,rfl⟩:=hS.rowSlice 5 rfl;obtain ⟨q2,d2,rfl⟩:=hS.rowSlice 6 rfl;obtain ⟨q3,d3,rfl⟩:=hS.rowSlice 7 rfl;obtain ⟨q4,d4,rfl⟩:=hS.rowSlice 8 rfl;refine ⟨(hS.sub (.cons _ (.cons _ (.cons _ (.cons _ (.cons_cons _ (xj1 _))))))),?_⟩;refine l4 (i:=12) (by kernel_rfl) ?_;refine p8 (Φ:=fun _ w'=>St _ _ w' _) rfl (m7 hS a7 (i:=3) rfl rfl rfl rfl rfl (xg1 rfl) (xc7.1 rfl)) ?_;intro _ w' hS';simp only [List.set] at hS';clear hS;have hS:=hS';clear hS';refine ⟨(hS.sub (.cons _ (.cons _ (.cons _ (.cons _ (.cons_cons _ (xj1 _))))))),?_⟩
    ((with_reducible apply m8 (nn 13) a7);rfl;kernel_rfl;exact (fun _ _ _ h=>h);exact (hS.sub (.cons _ (.cons _ (.cons _ (.cons _ (.cons_cons _ (xj1 _)))))));rfl;rfl)
    refine v8 (by kernel_rfl) ?_;exact n5 _ (by exact Fr.sub_of rfl) hk' (hS.sub (.cons _ (.cons _ (.cons _ (.cons_cons _ (.cons _ (.refl _)))))))
 clear hS;intro k' w1 hk' hS;unfold kvC at hS
 repeat' ((refine yDn (by with_reducible constructor) ?_))
 (apply a26;repeat (first|exact ResL.nil|apply ResL.tmp;rfl|apply ResL.cell;rfl;(apply Ld.st a7;rfl;exact hS.blkR 0 rfl;rfl)))
 exact ⟨k',rfl,by rw [xh9,xh9];exact hk',a8k hS.drop⟩
end Go.Proofs.YtejnpppejalhfabGreat
