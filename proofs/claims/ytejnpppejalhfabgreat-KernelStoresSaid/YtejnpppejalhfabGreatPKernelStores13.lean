/- Texts that the proof stands on, one behind the other: Ke24, Ke25, Sc27, Ke26, Ke27, Ke28, Ke29, Ke30, Ke31, Ke32, Ke41. -/
import Derived.Test.YtejnpppejalhfabGreatPKernelStores12
set_option linter.unusedVariables false
set_option linter.unusedSimpArgs false
namespace Go.Proofs.YtejnpppejalhfabGreat
set_option maxRecDepth 100000
set_option maxHeartbeats 8000000
open Go.RowKit Go.Sort
theorem v5 {A:List Ar} {addr size way:Int} {i:Nat} {p:Int×Int} (h0:¬(way=2/\addr.tmod 8≠0)) (hi:(i:Int) < size) (hp:∀ j:Nat,j < i->n5 A way (addr + (j:Nat))=none) (h:n5 A way (addr + (i:Nat))=some p):w8 A addr size way=p:=by
 unfold w8;rw [xf1 h0];have:(List.range size.toNat).findSome? (fun i=>n5 A way (addr + (i:Nat)))=some p:=by
  rw [List.findSome?_eq_some_iff];obtain ⟨m,hm⟩:∃ m,size.toNat=i + (m + 1):=⟨size.toNat - (i + 1),by omega⟩;refine ⟨List.range i,i,(List.range' (i + 1) m),?_,h,fun j hj=>hp j (xi5.1 hj)⟩;rw [hm,List.range_eq_range',List.range_eq_range',<- List.range'_append_1,xa9,List.range'_succ]
 rw [this];rfl
theorem a2F {A:List Ar} {addr size way:Int} (h0:¬(way=2/\addr.tmod 8≠0)) (hp:∀ j:Nat,(j:Int) < size->n5 A way (addr + (j:Nat))=none):w8 A addr size way=(0,0):=by
 unfold w8;rw [xf1 h0];have:(List.range size.toNat).findSome? (fun i=>n5 A way (addr + (i:Nat)))=none:=by
  rw [List.findSome?_eq_none_iff];intro i hi;rw [xi5] at hi;exact hp i (by omega)
 rw [this];rfl
theorem b1P {w:World} {g:Nat} {k:KV} {sp:Nat} {vh:Value} {held:List Nat} (hV:WkV w g k sp vh held) {x:Sp} (hx:k.sp[sp]?=some x) (hc:l7 x.s.areas=0) {addr size way:Int} (hb0:-9223372036854775808<=addr) (hb1:addr<=9223372036854775807) (hs1:1<=size) (hs8:size<=8) (hway:way=0\/way=1\/way=2):Fn Tryz.prog 122 [.pointer (some ⟨g,0,none⟩),.int .i64 addr,.int .i64 size,.int .i64 way] w (RBf (.agg #[.int .i64 (w8 x.s.areas addr size way).1,.int .i64 (w8 x.s.areas addr size way).2]) w):=by
 have hV0:=hV;have hspc:=fun w1 (h:WkV w1 g k sp vh held)=>a3Q h (c9 hx);obtain ⟨c0,c1,c2,c3,c4,c5,c6,hh,⟨k1,k2,k3,k4,k5⟩⟩:=hV;obtain ⟨bs,os,cs,hvsp⟩:=k4.form1 hx;have hrowS:=d5 (f:=spC) hx;have har:=(k5 x (xd0 hx)).ar;rw [hvsp] at hspc k4;unfold a14 at hspc;dsimp only at hspc;unfold spC at hrowS;have hfnd:=fun w1 (h:Sl nF w1 4 x.va (x.s.areas.map arC)) (p:Int)=>a77 p h;obtain ⟨n,hn⟩:∃ n:Nat,size=(n:Nat):=⟨size.toNat,by omega⟩;subst hn;by_cases hal:way=2/\addr.tmod 8≠0
 ·have hF:w8 x.s.areas addr (n:Nat) way=(3,addr):=by unfold w8;rw [xf0 hal]
  obtain ⟨rfl,hal2⟩:=hal;have hd:decide (addr.tmod 8=0)=false:=xj5 hal2;refine yEn Tryz.func122 Tryz.ntmps122 (by kernel_rfl) (by kernel_rfl) rfl rfl ?_;have hS:=St.start w
  repeat' (first|(with_reducible apply a8 a7);rfl;rfl;rfl|(with_reducible apply l4 a7);rfl;rfl;exact (rfl:_=some [_,_]);rfl|refine yDn (by with_reducible constructor) ?_|(with_reducible apply k6);(iterate 4 rfl);rfl|(with_reducible apply f7);rfl;rfl;rfl;rfl|(with_reducible apply d7 hS a7);rfl;rfl;rfl;clear hS;intro g w' hS|(with_reducible apply b8 hS a7 (i:=0));(iterate 8 rfl);exact (rfl:_=[_,_]);clear hS;intro w' hS;simp only [List.set] at hS|(with_reducible apply a1u);rfl;all_goals (intro hb hp;try (exfalso;omega))|(with_reducible apply a5c);rfl;rfl;omega;rfl)
  (apply t9;repeat (first|exact ResL.nil|apply ResL.cell;rfl;(apply Ld.st a7;rfl;exact hS.blkR 0 rfl;rfl)))
  exact ⟨by rw [hF],hS.sub (xj6 _)⟩
 obtain ⟨F,hF⟩:∃ F,F=w8 x.s.areas addr (n:Nat) way:=⟨_,rfl⟩;rw [<- hF];have hstep:∀ i:Nat,(∀ j:Nat,j < i->n5 x.s.areas way (addr + (j:Nat))=none)->1<=i->addr<=4095/\16<=addr:=fun i h h1=>by
  have h2:=a11 hc (h 0 (by omega));have h3:addr + ((0:Nat):Int)=addr:=by omega
  rw [h3] at h2;omega
 rcases hway with rfl|rfl|rfl
 ·refine yEn Tryz.func122 Tryz.ntmps122 (by kernel_rfl) (by kernel_rfl) rfl rfl ?_;have hS:=St.start w
  repeat' (first|(with_reducible apply a8 a7);rfl;rfl;rfl|refine yDn (by with_reducible constructor) ?_|(with_reducible apply r9);(iterate 4 rfl);rfl;rfl|(with_reducible apply d9);rfl;rfl;rfl;rfl|(with_reducible apply f8);rfl;rfl|(with_reducible apply d7 hS a7);rfl;rfl;rfl;clear hS;intro g w' hS)
  replace hS:St nF w w' (.blk _ [.int .i64 0,.int .i64 0]::[]):=hS;refine a1A hS 23 [0,1,3,8,22] rfl (n) (fun i=>∀ j:Nat,j < i->n5 x.s.areas 0 (addr + (j:Nat))=none) 0 rfl (xg5 _) (by (intros;omega)) ?_;rintro i w1 hi hall hS';clear hS;have hS:=hS';clear hS';by_cases hlt:i < n;rotate_left
  ·obtain rfl:i=n:=by omega
   have hff:F=(0,0):=hF.trans (a2F hal (fun j hj=>hall j (by omega)))
   repeat' (first|(with_reducible apply a8 a7);rfl;rfl;rfl|(with_reducible apply l4 a7);rfl;rfl;exact (rfl:_=some [_,_]);rfl|refine yDn (by with_reducible constructor) ?_|(with_reducible apply b8 hS a7 (i:=0));(iterate 8 rfl);exact (rfl:_=[_,_]);clear hS;intro w' hS;simp only [List.set] at hS|(with_reducible apply b9);rfl;all_goals (intro hb hp;try (exfalso;omega)))
   (apply t9;repeat (first|exact ResL.nil|apply ResL.cell;rfl;(apply Ld.st a7;rfl;exact hS.blkR 0 rfl;rfl)))
   exact ⟨by rw [hff],hS.sub (xj6 _)⟩
  have hbd:-9223372036854775808<=addr + (i:Nat)/\addr + (i:Nat)<=9223372036854775807:=by
   by_cases h0:i=0
   ·subst h0;omega
   ·have:=hstep i hall (by omega);omega
  have hbd1:=hbd.1;have hbd2:=hbd.2;have hf2:=fun w1 h=>hfnd w1 h ((addr + (i:Nat)).tdiv 16);rw [a2q hc] at hf2
  cases hfa:o9 x.s.areas ((addr + (i:Nat)).tdiv 16) with
  |none=>
   rw [hfa] at hf2;unfold a1I arC at hf2;dsimp only [Option.getD,Option.isSome] at hf2;by_cases hneg:addr + (i:Nat) < 0
   ·have hdn:decide (addr + ((i:Nat):Int) < 0)=true:=xj7 hneg;have hff:F=(1,addr + (i:Nat)):=hF.trans (v5 hal (by omega) hall (by unfold n5;rw [hfa]))
    repeat' (first|(with_reducible apply a8 a7);rfl;rfl;rfl|(with_reducible apply j4);rfl;rfl;omega;omega;rfl|(with_reducible apply l4 a7);rfl;rfl;exact (rfl:_=some [_,_]);rfl|refine yDn (by with_reducible constructor) ?_|(with_reducible apply r9);(iterate 4 rfl);assumption;rfl|(with_reducible apply f7);rfl;assumption;rfl;rfl|(with_reducible apply f6);rfl;rfl|(with_reducible apply d7 hS a7);rfl;rfl;rfl;clear hS;intro g w' hS|(with_reducible apply b8 hS a7 (i:=0));(iterate 8 rfl);exact (rfl:_=[_,_,_,_]);clear hS;intro w' hS;simp only [List.set] at hS|(with_reducible apply b8 hS a7 (i:=1));(iterate 8 rfl);exact (rfl:_=[_,_]);clear hS;intro w' hS;simp only [List.set] at hS|(with_reducible apply b9);rfl;all_goals (intro hb hp;try (exfalso;omega))|(with_reducible apply d6 hS);rfl;rfl;rfl;refine ⟨_,hspc _ (hV0.now hS),?_⟩;clear hS;intro w' hS|(with_reducible apply a0a a7);rfl;rfl;rfl;refine ⟨_,hS.baseC (k4.cel hrowS rfl) id,?_⟩|(with_reducible apply d6 hS);rfl;rfl;rfl;refine ⟨_,hf2 _ (har.now hS),?_⟩;clear hS;intro w' hS|(with_reducible apply a0A);rfl;rfl;omega;omega;omega;rfl)
    (apply t9;repeat (first|exact ResL.nil|apply ResL.cell;rfl;(apply Ld.st a7;rfl;exact hS.blkR 1 rfl;rfl)))
    exact ⟨by rw [hff],hS.sub (xj6 _)⟩
   ·have hdn:decide (addr + ((i:Nat):Int) < 0)=false:=xj5 hneg;have hff:F=(1,addr + (i:Nat)):=hF.trans (v5 hal (by omega) hall (by unfold n5;rw [hfa]))
    repeat' (first|(with_reducible apply a8 a7);rfl;rfl;rfl|(with_reducible apply j4);rfl;rfl;omega;omega;rfl|(with_reducible apply l4 a7);rfl;rfl;exact (rfl:_=some [_,_]);rfl|refine yDn (by with_reducible constructor) ?_|(with_reducible apply k6);(iterate 4 rfl);assumption|(with_reducible apply d9);rfl;assumption;rfl;rfl|(with_reducible apply f6);rfl;rfl|(with_reducible apply d7 hS a7);rfl;rfl;rfl;clear hS;intro g w' hS|(with_reducible apply b8 hS a7 (i:=0));(iterate 8 rfl);exact (rfl:_=[_,_,_,_]);clear hS;intro w' hS;simp only [List.set] at hS|(with_reducible apply b8 hS a7 (i:=1));(iterate 8 rfl);exact (rfl:_=[_,_]);clear hS;intro w' hS;simp only [List.set] at hS|(with_reducible apply b9);rfl;all_goals (intro hb hp;try (exfalso;omega))|(with_reducible apply d6 hS);rfl;rfl;rfl;refine ⟨_,hspc _ (hV0.now hS),?_⟩;clear hS;intro w' hS|(with_reducible apply a0a a7);rfl;rfl;rfl;refine ⟨_,hS.baseC (k4.cel hrowS rfl) id,?_⟩|(with_reducible apply d6 hS);rfl;rfl;rfl;refine ⟨_,hf2 _ (har.now hS),?_⟩;clear hS;intro w' hS|(with_reducible apply a0A);rfl;rfl;omega;omega;omega;rfl)
    (apply t9;repeat (first|exact ResL.nil|apply ResL.cell;rfl;(apply Ld.st a7;rfl;exact hS.blkR 1 rfl;rfl)))
    exact ⟨by rw [hff],hS.sub (xj6 _)⟩
  |some a=>
   rw [hfa] at hf2;unfold a1I arC at hf2;dsimp only [Option.getD,Option.isSome] at hf2;by_cases hneg:addr + (i:Nat) < 0
   ·have hdn:decide (addr + ((i:Nat):Int) < 0)=true:=xj7 hneg;have hff:F=(1,addr + (i:Nat)):=hF.trans (v5 hal (by omega) hall (by unfold n5;rw [hfa];exact xf0 hneg))
    repeat' (first|(with_reducible apply a8 a7);rfl;rfl;rfl|(with_reducible apply j4);rfl;rfl;omega;omega;rfl|(with_reducible apply l4 a7);rfl;rfl;exact (rfl:_=some [_,_]);rfl|refine yDn (by with_reducible constructor) ?_|(with_reducible apply r9);(iterate 4 rfl);assumption;rfl|(with_reducible apply f7);rfl;assumption;rfl;rfl|(with_reducible apply f6);rfl;rfl|(with_reducible apply d7 hS a7);rfl;rfl;rfl;clear hS;intro g w' hS|(with_reducible apply b8 hS a7 (i:=0));(iterate 8 rfl);exact (rfl:_=[_,_,_,_]);clear hS;intro w' hS;simp only [List.set] at hS|(with_reducible apply b8 hS a7 (i:=1));(iterate 8 rfl);exact (rfl:_=[_,_]);clear hS;intro w' hS;simp only [List.set] at hS|(with_reducible apply b9);rfl;all_goals (intro hb hp;try (exfalso;omega))|(with_reducible apply d6 hS);rfl;rfl;rfl;refine ⟨_,hspc _ (hV0.now hS),?_⟩;clear hS;intro w' hS|(with_reducible apply a0a a7);rfl;rfl;rfl;refine ⟨_,hS.baseC (k4.cel hrowS rfl) id,?_⟩|(with_reducible apply d6 hS);rfl;rfl;rfl;refine ⟨_,hf2 _ (har.now hS),?_⟩;clear hS;intro w' hS|(with_reducible apply a0A);rfl;rfl;omega;omega;omega;rfl)
    (apply t9;repeat (first|exact ResL.nil|apply ResL.cell;rfl;(apply Ld.st a7;rfl;exact hS.blkR 1 rfl;rfl)))
    exact ⟨by rw [hff],hS.sub (xj6 _)⟩
   have hdn:decide (addr + ((i:Nat):Int) < 0)=false:=xj5 hneg;have hdv:(addr + ((i:Nat):Int)).tdiv 16=(addr + (i:Nat)) / 16:=xf2 (by omega);have haok:a.ok:=(a0U hc (by rw [hdv] at hfa;exact hfa)).1;unfold Ar.ok at haok
   (skip)
   repeat' (first|(with_reducible apply a8 a7);rfl;rfl;rfl|(with_reducible apply j4);rfl;rfl;omega;omega;rfl|refine yDn (by with_reducible constructor) ?_|(with_reducible apply k6);(iterate 4 rfl);assumption|(with_reducible apply r9);(iterate 4 rfl);rfl;rfl|(with_reducible apply d9);rfl;(first|rfl|assumption);rfl;rfl|(with_reducible apply f8);rfl;rfl|(with_reducible apply d7 hS a7);rfl;rfl;rfl;clear hS;intro g w' hS|(with_reducible apply b8 hS a7 (i:=0));(iterate 8 rfl);exact (rfl:_=[_,_,_,_]);clear hS;intro w' hS;simp only [List.set] at hS|(with_reducible apply b9);rfl;all_goals (intro hb hp;try (exfalso;omega))|(with_reducible apply d6 hS);rfl;rfl;rfl;refine ⟨_,hspc _ (hV0.now hS),?_⟩;clear hS;intro w' hS|(with_reducible apply a0a a7);rfl;rfl;rfl;refine ⟨_,hS.baseC (k4.cel hrowS rfl) id,?_⟩|(with_reducible apply d6 hS);rfl;rfl;rfl;refine ⟨_,hf2 _ (har.now hS),?_⟩;clear hS;intro w' hS|(with_reducible apply a0A);rfl;rfl;omega;omega;omega;rfl)
   have hnx:n5 x.s.areas 0 (addr + (i:Nat))=none:=by
    unfold n5;rw [hfa];dsimp only;rw [xf1 hneg,xf1];omega
   exact a0R (i + 1) (by exact Fr.sub_of rfl) (by omega) (fun j hj=>by
    by_cases e:j=i
    ·rw [e];exact hnx
    ·exact hall j (by omega)) (by omega) (hS.sub (by repeat (first|exact xm3 _|apply xm6)))
 ·refine yEn Tryz.func122 Tryz.ntmps122 (by kernel_rfl) (by kernel_rfl) rfl rfl ?_;have hS:=St.start w
  repeat' (first|(with_reducible apply a8 a7);rfl;rfl;rfl|refine yDn (by with_reducible constructor) ?_|(with_reducible apply r9);(iterate 4 rfl);rfl;rfl|(with_reducible apply d9);rfl;rfl;rfl;rfl|(with_reducible apply f8);rfl;rfl|(with_reducible apply d7 hS a7);rfl;rfl;rfl;clear hS;intro g w' hS)
  replace hS:St nF w w' (.blk _ [.int .i64 0,.int .i64 0]::[]):=hS;refine a1A hS 23 [0,1,3,8,22] rfl (n) (fun i=>∀ j:Nat,j < i->n5 x.s.areas 1 (addr + (j:Nat))=none) 0 rfl (xg5 _) (by (intros;omega)) ?_;rintro i w1 hi hall hS';clear hS;have hS:=hS';clear hS';by_cases hlt:i < n;rotate_left
  ·obtain rfl:i=n:=by omega
   have hff:F=(0,0):=hF.trans (a2F hal (fun j hj=>hall j (by omega)))
   repeat' (first|(with_reducible apply a8 a7);rfl;rfl;rfl|(with_reducible apply l4 a7);rfl;rfl;exact (rfl:_=some [_,_]);rfl|refine yDn (by with_reducible constructor) ?_|(with_reducible apply b8 hS a7 (i:=0));(iterate 8 rfl);exact (rfl:_=[_,_]);clear hS;intro w' hS;simp only [List.set] at hS|(with_reducible apply b9);rfl;all_goals (intro hb hp;try (exfalso;omega)))
   (apply t9;repeat (first|exact ResL.nil|apply ResL.cell;rfl;(apply Ld.st a7;rfl;exact hS.blkR 0 rfl;rfl)))
   exact ⟨by rw [hff],hS.sub (xj6 _)⟩
  have hbd:-9223372036854775808<=addr + (i:Nat)/\addr + (i:Nat)<=9223372036854775807:=by
   by_cases h0:i=0
   ·subst h0;omega
   ·have:=hstep i hall (by omega);omega
  have hbd1:=hbd.1;have hbd2:=hbd.2;have hf2:=fun w1 h=>hfnd w1 h ((addr + (i:Nat)).tdiv 16);rw [a2q hc] at hf2
  cases hfa:o9 x.s.areas ((addr + (i:Nat)).tdiv 16) with
  |none=>
   rw [hfa] at hf2;unfold a1I arC at hf2;dsimp only [Option.getD,Option.isSome] at hf2;by_cases hneg:addr + (i:Nat) < 0
   ·have hdn:decide (addr + ((i:Nat):Int) < 0)=true:=xj7 hneg;have hff:F=(1,addr + (i:Nat)):=hF.trans (v5 hal (by omega) hall (by unfold n5;rw [hfa]))
    repeat' (first|(with_reducible apply a8 a7);rfl;rfl;rfl|(with_reducible apply j4);rfl;rfl;omega;omega;rfl|(with_reducible apply l4 a7);rfl;rfl;exact (rfl:_=some [_,_]);rfl|refine yDn (by with_reducible constructor) ?_|(with_reducible apply r9);(iterate 4 rfl);assumption;rfl|(with_reducible apply f7);rfl;assumption;rfl;rfl|(with_reducible apply f6);rfl;rfl|(with_reducible apply d7 hS a7);rfl;rfl;rfl;clear hS;intro g w' hS|(with_reducible apply b8 hS a7 (i:=0));(iterate 8 rfl);exact (rfl:_=[_,_,_,_]);clear hS;intro w' hS;simp only [List.set] at hS|(with_reducible apply b8 hS a7 (i:=1));(iterate 8 rfl);exact (rfl:_=[_,_]);clear hS;intro w' hS;simp only [List.set] at hS|(with_reducible apply b9);rfl;all_goals (intro hb hp;try (exfalso;omega))|(with_reducible apply d6 hS);rfl;rfl;rfl;refine ⟨_,hspc _ (hV0.now hS),?_⟩;clear hS;intro w' hS|(with_reducible apply a0a a7);rfl;rfl;rfl;refine ⟨_,hS.baseC (k4.cel hrowS rfl) id,?_⟩|(with_reducible apply d6 hS);rfl;rfl;rfl;refine ⟨_,hf2 _ (har.now hS),?_⟩;clear hS;intro w' hS|(with_reducible apply a0A);rfl;rfl;omega;omega;omega;rfl)
    (apply t9;repeat (first|exact ResL.nil|apply ResL.cell;rfl;(apply Ld.st a7;rfl;exact hS.blkR 1 rfl;rfl)))
    exact ⟨by rw [hff],hS.sub (xj6 _)⟩
   ·have hdn:decide (addr + ((i:Nat):Int) < 0)=false:=xj5 hneg;have hff:F=(1,addr + (i:Nat)):=hF.trans (v5 hal (by omega) hall (by unfold n5;rw [hfa]))
    repeat' (first|(with_reducible apply a8 a7);rfl;rfl;rfl|(with_reducible apply j4);rfl;rfl;omega;omega;rfl|(with_reducible apply l4 a7);rfl;rfl;exact (rfl:_=some [_,_]);rfl|refine yDn (by with_reducible constructor) ?_|(with_reducible apply k6);(iterate 4 rfl);assumption|(with_reducible apply d9);rfl;assumption;rfl;rfl|(with_reducible apply f6);rfl;rfl|(with_reducible apply d7 hS a7);rfl;rfl;rfl;clear hS;intro g w' hS|(with_reducible apply b8 hS a7 (i:=0));(iterate 8 rfl);exact (rfl:_=[_,_,_,_]);clear hS;intro w' hS;simp only [List.set] at hS|(with_reducible apply b8 hS a7 (i:=1));(iterate 8 rfl);exact (rfl:_=[_,_]);clear hS;intro w' hS;simp only [List.set] at hS|(with_reducible apply b9);rfl;all_goals (intro hb hp;try (exfalso;omega))|(with_reducible apply d6 hS);rfl;rfl;rfl;refine ⟨_,hspc _ (hV0.now hS),?_⟩;clear hS;intro w' hS|(with_reducible apply a0a a7);rfl;rfl;rfl;refine ⟨_,hS.baseC (k4.cel hrowS rfl) id,?_⟩|(with_reducible apply d6 hS);rfl;rfl;rfl;refine ⟨_,hf2 _ (har.now hS),?_⟩;clear hS;intro w' hS|(with_reducible apply a0A);rfl;rfl;omega;omega;omega;rfl)
    (apply t9;repeat (first|exact ResL.nil|apply ResL.cell;rfl;(apply Ld.st a7;rfl;exact hS.blkR 1 rfl;rfl)))
    exact ⟨by rw [hff],hS.sub (xj6 _)⟩
  |some a=>
   rw [hfa] at hf2;unfold a1I arC at hf2;dsimp only [Option.getD,Option.isSome] at hf2;by_cases hneg:addr + (i:Nat) < 0
   ·have hdn:decide (addr + ((i:Nat):Int) < 0)=true:=xj7 hneg;have hff:F=(1,addr + (i:Nat)):=hF.trans (v5 hal (by omega) hall (by unfold n5;rw [hfa];exact xf0 hneg))
    repeat' (first|(with_reducible apply a8 a7);rfl;rfl;rfl|(with_reducible apply j4);rfl;rfl;omega;omega;rfl|(with_reducible apply l4 a7);rfl;rfl;exact (rfl:_=some [_,_]);rfl|refine yDn (by with_reducible constructor) ?_|(with_reducible apply r9);(iterate 4 rfl);assumption;rfl|(with_reducible apply f7);rfl;assumption;rfl;rfl|(with_reducible apply f6);rfl;rfl|(with_reducible apply d7 hS a7);rfl;rfl;rfl;clear hS;intro g w' hS|(with_reducible apply b8 hS a7 (i:=0));(iterate 8 rfl);exact (rfl:_=[_,_,_,_]);clear hS;intro w' hS;simp only [List.set] at hS|(with_reducible apply b8 hS a7 (i:=1));(iterate 8 rfl);exact (rfl:_=[_,_]);clear hS;intro w' hS;simp only [List.set] at hS|(with_reducible apply b9);rfl;all_goals (intro hb hp;try (exfalso;omega))|(with_reducible apply d6 hS);rfl;rfl;rfl;refine ⟨_,hspc _ (hV0.now hS),?_⟩;clear hS;intro w' hS|(with_reducible apply a0a a7);rfl;rfl;rfl;refine ⟨_,hS.baseC (k4.cel hrowS rfl) id,?_⟩|(with_reducible apply d6 hS);rfl;rfl;rfl;refine ⟨_,hf2 _ (har.now hS),?_⟩;clear hS;intro w' hS|(with_reducible apply a0A);rfl;rfl;omega;omega;omega;rfl)
    (apply t9;repeat (first|exact ResL.nil|apply ResL.cell;rfl;(apply Ld.st a7;rfl;exact hS.blkR 1 rfl;rfl)))
    exact ⟨by rw [hff],hS.sub (xj6 _)⟩
   have hdn:decide (addr + ((i:Nat):Int) < 0)=false:=xj5 hneg;have hdv:(addr + ((i:Nat):Int)).tdiv 16=(addr + (i:Nat)) / 16:=xf2 (by omega);have haok:a.ok:=(a0U hc (by rw [hdv] at hfa;exact hfa)).1;unfold Ar.ok at haok
   (skip)
   have h1:=b75 (p:=a.prot) (by omega) (by omega);by_cases hp1:a.prot=1\/a.prot=3
   ·rw [xf0 hp1] at h1
    repeat' (first|(with_reducible apply a8 a7);rfl;rfl;rfl|(with_reducible apply a9);rfl;(apply Ld.sc a7;rfl;exact hS.blkC 0 rfl rfl);rfl|(with_reducible apply j4);rfl;rfl;omega;omega;rfl|refine yDn (by with_reducible constructor) ?_|((with_reducible apply k6);(iterate 4 rfl);first|rfl|assumption)|(with_reducible apply r9);(iterate 4 rfl);rfl;rfl|(with_reducible apply f7);rfl;rfl;rfl;rfl|(with_reducible apply d9);rfl;(first|rfl|assumption);rfl;rfl|(with_reducible apply f8);rfl;rfl|(with_reducible apply d7 hS a7);rfl;rfl;rfl;clear hS;intro g w' hS|(with_reducible apply b8 hS a7 (i:=0));(iterate 8 rfl);exact (rfl:_=[_,_,_,_]);clear hS;intro w' hS;simp only [List.set] at hS|(with_reducible apply b9);rfl;all_goals (intro hb hp;try (exfalso;omega))|(with_reducible apply d6 hS);rfl;rfl;rfl;refine ⟨_,hspc _ (hV0.now hS),?_⟩;clear hS;intro w' hS|(with_reducible apply a0a a7);rfl;rfl;rfl;refine ⟨_,hS.baseC (k4.cel hrowS rfl) id,?_⟩|(with_reducible apply d6 hS);rfl;rfl;rfl;refine ⟨_,hf2 _ (har.now hS),?_⟩;clear hS;intro w' hS|(with_reducible apply a0A);rfl;rfl;omega;omega;omega;rfl|(with_reducible apply b1c);rfl;rfl;exact h1;rfl)
    have hnx:n5 x.s.areas 1 (addr + (i:Nat))=none:=by
     unfold n5;rw [hfa];dsimp only;rw [xf1 hneg,xf1];omega
    exact a0R (i + 1) (by exact Fr.sub_of rfl) (by omega) (fun j hj=>by
     by_cases e:j=i
     ·rw [e];exact hnx
     ·exact hall j (by omega)) (by omega) (hS.sub (by repeat (first|exact xm3 _|apply xm6)))
   ·rw [xf1 hp1] at h1;have hff:F=(2,addr + (i:Nat)):=hF.trans (v5 hal (by omega) hall (by
     unfold n5;rw [hfa];dsimp only;rw [xf1 hneg,xf0];omega))
    repeat' (first|(with_reducible apply a8 a7);rfl;rfl;rfl|(with_reducible apply a9);rfl;(apply Ld.sc a7;rfl;exact hS.blkC 0 rfl rfl);rfl|(with_reducible apply j4);rfl;rfl;omega;omega;rfl|(with_reducible apply l4 a7);rfl;rfl;exact (rfl:_=some [_,_]);rfl|refine yDn (by with_reducible constructor) ?_|((with_reducible apply k6);(iterate 4 rfl);first|rfl|assumption)|(with_reducible apply f7);rfl;rfl;rfl;rfl|(with_reducible apply d9);rfl;assumption;rfl;rfl|(with_reducible apply f6);rfl;rfl|(with_reducible apply f8);rfl;rfl|(with_reducible apply d7 hS a7);rfl;rfl;rfl;clear hS;intro g w' hS|(with_reducible apply b8 hS a7 (i:=0));(iterate 8 rfl);exact (rfl:_=[_,_,_,_]);clear hS;intro w' hS;simp only [List.set] at hS|(with_reducible apply b8 hS a7 (i:=1));(iterate 8 rfl);exact (rfl:_=[_,_]);clear hS;intro w' hS;simp only [List.set] at hS|(with_reducible apply b9);rfl;all_goals (intro hb hp;try (exfalso;omega))|(with_reducible apply d6 hS);rfl;rfl;rfl;refine ⟨_,hspc _ (hV0.now hS),?_⟩;clear hS;intro w' hS|(with_reducible apply a0a a7);rfl;rfl;rfl;refine ⟨_,hS.baseC (k4.cel hrowS rfl) id,?_⟩|(with_reducible apply d6 hS);rfl;rfl;rfl;refine ⟨_,hf2 _ (har.now hS),?_⟩;clear hS;intro w' hS|(with_reducible apply a0A);rfl;rfl;omega;omega;omega;rfl|(with_reducible apply b1c);rfl;rfl;exact h1;rfl)
    (apply t9;repeat (first|exact ResL.nil|apply ResL.cell;rfl;(apply Ld.st a7;rfl;exact hS.blkR 1 rfl;rfl)))
    exact ⟨by rw [hff],hS.sub (xj6 _)⟩
 ·refine yEn Tryz.func122 Tryz.ntmps122 (by kernel_rfl) (by kernel_rfl) rfl rfl ?_;have hS:=St.start w
  repeat' (first|(with_reducible apply a8 a7);rfl;rfl;rfl|refine yDn (by with_reducible constructor) ?_|(with_reducible apply k6);(iterate 4 rfl);rfl|(with_reducible apply f7);rfl;rfl;rfl;rfl|(with_reducible apply d7 hS a7);rfl;rfl;rfl;clear hS;intro g w' hS|(with_reducible apply a1u);rfl;all_goals (intro hb hp;try (exfalso;omega))|(with_reducible apply a5c);rfl;rfl;omega;rfl)
  replace hS:St nF w w' (.blk _ [.int .i64 0,.int .i64 0]::[]):=hS;refine a1A hS 23 [0,1,3,8,22] rfl (n) (fun i=>∀ j:Nat,j < i->n5 x.s.areas 2 (addr + (j:Nat))=none) 0 rfl (xg5 _) (by (intros;omega)) ?_;rintro i w1 hi hall hS';clear hS;have hS:=hS';clear hS';by_cases hlt:i < n;rotate_left
  ·obtain rfl:i=n:=by omega
   have hff:F=(0,0):=hF.trans (a2F hal (fun j hj=>hall j (by omega)))
   repeat' (first|(with_reducible apply a8 a7);rfl;rfl;rfl|(with_reducible apply l4 a7);rfl;rfl;exact (rfl:_=some [_,_]);rfl|refine yDn (by with_reducible constructor) ?_|(with_reducible apply b8 hS a7 (i:=0));(iterate 8 rfl);exact (rfl:_=[_,_]);clear hS;intro w' hS;simp only [List.set] at hS|(with_reducible apply b9);rfl;all_goals (intro hb hp;try (exfalso;omega)))
   (apply t9;repeat (first|exact ResL.nil|apply ResL.cell;rfl;(apply Ld.st a7;rfl;exact hS.blkR 0 rfl;rfl)))
   exact ⟨by rw [hff],hS.sub (xj6 _)⟩
  have hbd:-9223372036854775808<=addr + (i:Nat)/\addr + (i:Nat)<=9223372036854775807:=by
   by_cases h0:i=0
   ·subst h0;omega
   ·have:=hstep i hall (by omega);omega
  have hbd1:=hbd.1;have hbd2:=hbd.2;have hf2:=fun w1 h=>hfnd w1 h ((addr + (i:Nat)).tdiv 16);rw [a2q hc] at hf2
  cases hfa:o9 x.s.areas ((addr + (i:Nat)).tdiv 16) with
  |none=>
   rw [hfa] at hf2;unfold a1I arC at hf2;dsimp only [Option.getD,Option.isSome] at hf2;by_cases hneg:addr + (i:Nat) < 0
   ·have hdn:decide (addr + ((i:Nat):Int) < 0)=true:=xj7 hneg;have hff:F=(1,addr + (i:Nat)):=hF.trans (v5 hal (by omega) hall (by unfold n5;rw [hfa]))
    repeat' (first|(with_reducible apply a8 a7);rfl;rfl;rfl|(with_reducible apply j4);rfl;rfl;omega;omega;rfl|(with_reducible apply l4 a7);rfl;rfl;exact (rfl:_=some [_,_]);rfl|refine yDn (by with_reducible constructor) ?_|(with_reducible apply r9);(iterate 4 rfl);assumption;rfl|(with_reducible apply f7);rfl;assumption;rfl;rfl|(with_reducible apply f6);rfl;rfl|(with_reducible apply d7 hS a7);rfl;rfl;rfl;clear hS;intro g w' hS|(with_reducible apply b8 hS a7 (i:=0));(iterate 8 rfl);exact (rfl:_=[_,_,_,_]);clear hS;intro w' hS;simp only [List.set] at hS|(with_reducible apply b8 hS a7 (i:=1));(iterate 8 rfl);exact (rfl:_=[_,_]);clear hS;intro w' hS;simp only [List.set] at hS|(with_reducible apply b9);rfl;all_goals (intro hb hp;try (exfalso;omega))|(with_reducible apply d6 hS);rfl;rfl;rfl;refine ⟨_,hspc _ (hV0.now hS),?_⟩;clear hS;intro w' hS|(with_reducible apply a0a a7);rfl;rfl;rfl;refine ⟨_,hS.baseC (k4.cel hrowS rfl) id,?_⟩|(with_reducible apply d6 hS);rfl;rfl;rfl;refine ⟨_,hf2 _ (har.now hS),?_⟩;clear hS;intro w' hS|(with_reducible apply a0A);rfl;rfl;omega;omega;omega;rfl)
    (apply t9;repeat (first|exact ResL.nil|apply ResL.cell;rfl;(apply Ld.st a7;rfl;exact hS.blkR 1 rfl;rfl)))
    exact ⟨by rw [hff],hS.sub (xj6 _)⟩
   ·have hdn:decide (addr + ((i:Nat):Int) < 0)=false:=xj5 hneg;have hff:F=(1,addr + (i:Nat)):=hF.trans (v5 hal (by omega) hall (by unfold n5;rw [hfa]))
    repeat' (first|(with_reducible apply a8 a7);rfl;rfl;rfl|(with_reducible apply j4);rfl;rfl;omega;omega;rfl|(with_reducible apply l4 a7);rfl;rfl;exact (rfl:_=some [_,_]);rfl|refine yDn (by with_reducible constructor) ?_|(with_reducible apply k6);(iterate 4 rfl);assumption|(with_reducible apply d9);rfl;assumption;rfl;rfl|(with_reducible apply f6);rfl;rfl|(with_reducible apply d7 hS a7);rfl;rfl;rfl;clear hS;intro g w' hS|(with_reducible apply b8 hS a7 (i:=0));(iterate 8 rfl);exact (rfl:_=[_,_,_,_]);clear hS;intro w' hS;simp only [List.set] at hS|(with_reducible apply b8 hS a7 (i:=1));(iterate 8 rfl);exact (rfl:_=[_,_]);clear hS;intro w' hS;simp only [List.set] at hS|(with_reducible apply b9);rfl;all_goals (intro hb hp;try (exfalso;omega))|(with_reducible apply d6 hS);rfl;rfl;rfl;refine ⟨_,hspc _ (hV0.now hS),?_⟩;clear hS;intro w' hS|(with_reducible apply a0a a7);rfl;rfl;rfl;refine ⟨_,hS.baseC (k4.cel hrowS rfl) id,?_⟩|(with_reducible apply d6 hS);rfl;rfl;rfl;refine ⟨_,hf2 _ (har.now hS),?_⟩;clear hS;intro w' hS|(with_reducible apply a0A);rfl;rfl;omega;omega;omega;rfl)
    (apply t9;repeat (first|exact ResL.nil|apply ResL.cell;rfl;(apply Ld.st a7;rfl;exact hS.blkR 1 rfl;rfl)))
    exact ⟨by rw [hff],hS.sub (xj6 _)⟩
  |some a=>
   rw [hfa] at hf2;unfold a1I arC at hf2;dsimp only [Option.getD,Option.isSome] at hf2;by_cases hneg:addr + (i:Nat) < 0
   ·have hdn:decide (addr + ((i:Nat):Int) < 0)=true:=xj7 hneg;have hff:F=(1,addr + (i:Nat)):=hF.trans (v5 hal (by omega) hall (by unfold n5;rw [hfa];exact xf0 hneg))
    repeat' (first|(with_reducible apply a8 a7);rfl;rfl;rfl|(with_reducible apply j4);rfl;rfl;omega;omega;rfl|(with_reducible apply l4 a7);rfl;rfl;exact (rfl:_=some [_,_]);rfl|refine yDn (by with_reducible constructor) ?_|(with_reducible apply r9);(iterate 4 rfl);assumption;rfl|(with_reducible apply f7);rfl;assumption;rfl;rfl|(with_reducible apply f6);rfl;rfl|(with_reducible apply d7 hS a7);rfl;rfl;rfl;clear hS;intro g w' hS|(with_reducible apply b8 hS a7 (i:=0));(iterate 8 rfl);exact (rfl:_=[_,_,_,_]);clear hS;intro w' hS;simp only [List.set] at hS|(with_reducible apply b8 hS a7 (i:=1));(iterate 8 rfl);exact (rfl:_=[_,_]);clear hS;intro w' hS;simp only [List.set] at hS|(with_reducible apply b9);rfl;all_goals (intro hb hp;try (exfalso;omega))|(with_reducible apply d6 hS);rfl;rfl;rfl;refine ⟨_,hspc _ (hV0.now hS),?_⟩;clear hS;intro w' hS|(with_reducible apply a0a a7);rfl;rfl;rfl;refine ⟨_,hS.baseC (k4.cel hrowS rfl) id,?_⟩|(with_reducible apply d6 hS);rfl;rfl;rfl;refine ⟨_,hf2 _ (har.now hS),?_⟩;clear hS;intro w' hS|(with_reducible apply a0A);rfl;rfl;omega;omega;omega;rfl)
    (apply t9;repeat (first|exact ResL.nil|apply ResL.cell;rfl;(apply Ld.st a7;rfl;exact hS.blkR 1 rfl;rfl)))
    exact ⟨by rw [hff],hS.sub (xj6 _)⟩
   have hdn:decide (addr + ((i:Nat):Int) < 0)=false:=xj5 hneg;have hdv:(addr + ((i:Nat):Int)).tdiv 16=(addr + (i:Nat)) / 16:=xf2 (by omega);have haok:a.ok:=(a0U hc (by rw [hdv] at hfa;exact hfa)).1;unfold Ar.ok at haok
   (skip)
   have h1:=b7N (p:=a.prot) (by omega) (by omega);by_cases hp1:2<=a.prot
   ·rw [xf0 hp1] at h1
    repeat' (first|(with_reducible apply a8 a7);rfl;rfl;rfl|(with_reducible apply a9);rfl;(apply Ld.sc a7;rfl;exact hS.blkC 0 rfl rfl);rfl|(with_reducible apply j4);rfl;rfl;omega;omega;rfl|refine yDn (by with_reducible constructor) ?_|((with_reducible apply k6);(iterate 4 rfl);first|rfl|assumption)|(with_reducible apply r9);(iterate 4 rfl);rfl;rfl|(with_reducible apply f7);rfl;rfl;rfl;rfl|(with_reducible apply d9);rfl;(first|rfl|assumption);rfl;rfl|(with_reducible apply f8);rfl;rfl|(with_reducible apply d7 hS a7);rfl;rfl;rfl;clear hS;intro g w' hS|(with_reducible apply b8 hS a7 (i:=0));(iterate 8 rfl);exact (rfl:_=[_,_,_,_]);clear hS;intro w' hS;simp only [List.set] at hS|(with_reducible apply b9);rfl;all_goals (intro hb hp;try (exfalso;omega))|(with_reducible apply d6 hS);rfl;rfl;rfl;refine ⟨_,hspc _ (hV0.now hS),?_⟩;clear hS;intro w' hS|(with_reducible apply a0a a7);rfl;rfl;rfl;refine ⟨_,hS.baseC (k4.cel hrowS rfl) id,?_⟩|(with_reducible apply d6 hS);rfl;rfl;rfl;refine ⟨_,hf2 _ (har.now hS),?_⟩;clear hS;intro w' hS|(with_reducible apply a0A);rfl;rfl;omega;omega;omega;rfl|(with_reducible apply b1c);rfl;rfl;exact h1;rfl)
    have hnx:n5 x.s.areas 2 (addr + (i:Nat))=none:=by
     unfold n5;rw [hfa];dsimp only;rw [xf1 hneg,xf1];omega
    exact a0R (i + 1) (by exact Fr.sub_of rfl) (by omega) (fun j hj=>by
     by_cases e:j=i
     ·rw [e];exact hnx
     ·exact hall j (by omega)) (by omega) (hS.sub (by repeat (first|exact xm3 _|apply xm6)))
   ·rw [xf1 hp1] at h1;have hff:F=(2,addr + (i:Nat)):=hF.trans (v5 hal (by omega) hall (by
     unfold n5;rw [hfa];dsimp only;rw [xf1 hneg,xf0];omega))
    repeat' (first|(with_reducible apply a8 a7);rfl;rfl;rfl|(with_reducible apply a9);rfl;(apply Ld.sc a7;rfl;exact hS.blkC 0 rfl rfl);rfl|(with_reducible apply j4);rfl;rfl;omega;omega;rfl|(with_reducible apply l4 a7);rfl;rfl;exact (rfl:_=some [_,_]);rfl|refine yDn (by with_reducible constructor) ?_|((with_reducible apply k6);(iterate 4 rfl);first|rfl|assumption)|(with_reducible apply r9);(iterate 4 rfl);rfl;rfl|(with_reducible apply f7);rfl;rfl;rfl;rfl|(with_reducible apply d9);rfl;(first|rfl|assumption);rfl;rfl|(with_reducible apply f6);rfl;rfl|(with_reducible apply f8);rfl;rfl|(with_reducible apply d7 hS a7);rfl;rfl;rfl;clear hS;intro g w' hS|(with_reducible apply b8 hS a7 (i:=0));(iterate 8 rfl);exact (rfl:_=[_,_,_,_]);clear hS;intro w' hS;simp only [List.set] at hS|(with_reducible apply b8 hS a7 (i:=1));(iterate 8 rfl);exact (rfl:_=[_,_]);clear hS;intro w' hS;simp only [List.set] at hS|(with_reducible apply b9);rfl;all_goals (intro hb hp;try (exfalso;omega))|(with_reducible apply d6 hS);rfl;rfl;rfl;refine ⟨_,hspc _ (hV0.now hS),?_⟩;clear hS;intro w' hS|(with_reducible apply a0a a7);rfl;rfl;rfl;refine ⟨_,hS.baseC (k4.cel hrowS rfl) id,?_⟩|(with_reducible apply d6 hS);rfl;rfl;rfl;refine ⟨_,hf2 _ (har.now hS),?_⟩;clear hS;intro w' hS|(with_reducible apply a0A);rfl;rfl;omega;omega;omega;rfl|(with_reducible apply b1c);rfl;rfl;exact h1;rfl)
    (apply t9;repeat (first|exact ResL.nil|apply ResL.cell;rfl;(apply Ld.st a7;rfl;exact hS.blkR 1 rfl;rfl)))
    exact ⟨by rw [hff],hS.sub (xj6 _)⟩
theorem WkV.own {F:Nat->Prop} {w0 w:World} {g:Nat} {k:KV} {sp:Nat} {vh:Value} {held:List Nat} {Γ:List Asr} (hS:St F w0 w (wkS g k sp vh held++(a0L k++Γ))):WkV w g k sp vh held :=
 WkV.of (Γ:=[]) (by rw [List.append_nil];exact St.startM hS) (KRo.own hS)
theorem a6j {K:Ker} {space size way addr:Int} {sp:Nat} (h0:a0x K space size way=0) (hsp:space=(sp:Nat)) (hF:(w8 (m6 K sp) addr size way).1=0):Right K/\1<=size/\size<=8/\(way=0\/way=1\/way=2)/\16<=addr/\addr + size<=4096/\∀ i,0<=i->i < size->At K sp ((addr + i) / 16):=by
 unfold a0x at h0;by_cases hl:a0S K space=0;rotate_left
 ·rw [xf1 hl] at h0;exact absurd h0 hl
 rw [xf0 hl] at h0;by_cases h1:size < 1\/8 < size
 ·rw [xf0 h1] at h0;cases h0
 rw [xf1 h1] at h0;by_cases h2:way < 0\/2 < way
 ·rw [xf0 h2] at h0;cases h0
 unfold a0S at hl;by_cases h3:a07 K=0;rotate_left
 ·rw [xf1 h3] at hl;exact absurd hl h3
 rw [xf0 h3] at hl;have hr:=a35.1 h3;subst hsp;by_cases h4:0<=((sp:Nat):Int)/\((sp:Nat):Int) < (K.spaces.length:Int)/\(a0l K ((sp:Nat):Int).toNat).live=true;rotate_left
 ·rw [xf1 h4] at hl;cases hl
 obtain ⟨-,hlt,hlv⟩:=h4;have hsl:sp < K.spaces.length:=by omega
 have hs:=xe1 hsl;have hsc:=(y8 hr _ (xd0 hs)).1;have hA:m6 K sp=K.spaces[sp].areas:=by unfold m6;rw [a00 hs]
 have hc:l7 (m6 K sp)=0:=by rw [hA];exact hsc.ar
 obtain ⟨-,hno⟩:=a9v hc hF (by omega);have hf0:=a11 hc (hno 0 (by omega) (by omega));have hf1:=a11 hc (hno (size - 1) (by omega) (by omega));refine ⟨hr,by omega,by omega,by omega,by omega,by omega,fun i hi1 hi2=>⟨hlv,?_⟩⟩;obtain ⟨-,-,-,a,ha⟩:=a11 hc (hno i hi1 hi2);rw [ha];rfl
def a26 (F:Int×Int):Value:=.agg #[.int .i64 F.1,.int .i64 F.2]
theorem b3f {w:World} {k:KV} (hK:KerV w k) {space addr size way:Int} (hb0:-9223372036854775808<=addr) (hb1:addr<=9223372036854775807):Fn Tryz.prog 73 [.agg (kvC k).toArray,.int .i64 space,.int .i64 addr,.int .i64 size,.int .i64 way] w (fun v w'=>
  (a0x k.K space size way≠0/\v=.tuple #[.pointer none,a26 (0,0),.int .i64 (a0x k.K space size way)]/\St nF w w' []) \/
  (a0x k.K space size way=0/\(w8 (m6 k.K space.toNat) addr size way).1≠0/\v=.tuple #[.pointer none,a26 (w8 (m6 k.K space.toNat) addr size way),.int .i64 0]/\St nF w w' []) \/
  ∃ (g sp:Nat) (k':KV) (vh:Value) (held:List Nat),a0x k.K space size way=0/\(w8 (m6 k.K space.toNat) addr size way).1=0/\space=(sp:Nat)/\v=.tuple #[.pointer (some ⟨g,0,none⟩),a26 (0,0),.int .i64 0]/\k'.K=a0F k.K sp addr size (decide (way=1))/\St nF w w' (wkS g k' sp vh held++a0L k')):=by
 have hbeg:=fun w1 (h:KerV w1 k)=>b4y h space;have hK0:=hK;obtain ⟨RE,hRE⟩:∃ e,e=a0x k.K space size way:=⟨_,rfl⟩;rw [<- hRE];unfold a0x at hRE;obtain ⟨sh,fr,sl,sps,hand,vsh,vfr,vsl,vsp⟩:=k;obtain ⟨k1,k2,k3,k4,k5⟩:=hK;dsimp only at k1 k2 k3 k4 k5;obtain ⟨p1,c1,rfl⟩:=k1.sl.len;obtain ⟨p2,c2,rfl⟩:=k2.len;obtain ⟨p3,c3,rfl⟩:=k3.len;obtain ⟨p4,c4,rfl⟩:=k4.len;generalize hKK:KV.K ⟨sh,fr,sl,sps,hand,.slice p1 sh.length c1,.slice p2 fr.length c2,.slice p3 sl.length c3,.slice p4 sps.length c4⟩=K at hbeg hRE |-;unfold a26;dsimp only;have hpre:∀ w1 Γ1,St nF w w1 Γ1->KerV w1 ⟨sh,fr,sl,sps,hand,.slice p1 sh.length c1,.slice p2 fr.length c2,.slice p3 sl.length c3,.slice p4 sps.length c4⟩:=fun w1 Γ1 h=>hK0.now h;unfold kvC at hbeg |-;dsimp only at hbeg |-;refine yEn Tryz.func73 Tryz.ntmps73 (by kernel_rfl) (by kernel_rfl) rfl rfl ?_;have hS:=St.start w
 repeat' (first|(with_reducible apply a8 a7);rfl;rfl;rfl|(with_reducible apply a9);rfl;(apply Ld.st a7;rfl;exact hS.blkR 1 rfl;rfl);rfl|refine yDn (by with_reducible constructor) ?_|(with_reducible apply l9 hS);rfl;rfl;rfl;clear hS;intro g w' hS|(with_reducible apply d7 hS a7);rfl;rfl;rfl;clear hS;intro g w' hS)
 refine a5q rfl rfl (hbeg _ (hpre _ _ hS)) rfl ?_;rintro v w2 (⟨he,rfl,hS'⟩|⟨gw,sp,k',he,hsp,rfl,hk',hS'⟩)
 ·replace hS:=hS.transA hS';simp only [t4] at hS;rw [xf1 he] at hRE;have hd:decide (a0S K space=0)=false:=xj5 he;rw [<- hRE] at he hd |-
  repeat' (first|(with_reducible apply a8 a7);rfl;rfl;rfl|(with_reducible apply l4 a7);rfl;rfl;exact (rfl:_=some [_,_]);rfl|refine yDn (by with_reducible constructor) ?_|(with_reducible apply b8 hS a7 (i:=0));(iterate 8 rfl);exact (rfl:_=[_,_]);clear hS;intro w' hS;simp only [List.set] at hS|(with_reducible apply a1u);rfl;all_goals (intro hb hp;try (exfalso;omega)))
  (apply a3M;repeat (first|exact ResL.nil|apply ResL.tmp;rfl|apply ResL.cell;rfl;(apply Ld.st a7;rfl;exact hS.blkR 0 rfl;rfl)))
  exact xd6 ⟨he,rfl,hS.sub (xj6 _)⟩
 rw [xf0 he] at hRE;replace hS:=hS.trans hS';clear hS' hbeg;replace hS:=hS.perm xm9;dsimp only [List.cons_append,List.nil_append] at hS;have hsub:∀ {w1 L},St nF w w1 L->St nF w w1 []:=fun h=>h.sub (xj6 _);by_cases h1:size < 1\/8 < size
 ·rw [xf0 h1] at hRE;subst hRE
  repeat' (first|(with_reducible apply a8 a7);rfl;rfl;rfl|(with_reducible apply l4 a7);rfl;rfl;exact (rfl:_=some [_,_]);rfl|refine yDn (by with_reducible constructor) ?_|(with_reducible apply k6);(iterate 4 rfl);assumption|(with_reducible apply r9);(iterate 4 rfl);assumption;rfl|(with_reducible apply f7);rfl;assumption;rfl;rfl|(with_reducible apply d9);rfl;assumption;rfl;rfl|(with_reducible apply f6);rfl;rfl|(with_reducible apply f8);rfl;rfl|(with_reducible apply b8 hS a7 (i:=0));(iterate 8 rfl);exact (rfl:_=[_,_]);clear hS;intro w' hS;simp only [List.set] at hS|(with_reducible apply r5);rfl;rfl;rfl;all_goals (intro hb hp;try (exfalso;omega))|(with_reducible apply b9);rfl;all_goals (intro hb hp;try (exfalso;omega)))
  all_goals (apply a3M)
  all_goals (repeat (first|exact ResL.nil|apply ResL.tmp;rfl|apply ResL.cell;rfl;(apply Ld.st a7;rfl;exact hS.blkR 0 rfl;rfl)))
  all_goals (exact xd6 ⟨by omega,rfl,hsub hS⟩)
 rw [xf1 h1] at hRE;by_cases h2:way < 0\/2 < way
 ·rw [xf0 h2] at hRE;subst hRE
  repeat' (first|(with_reducible apply a8 a7);rfl;rfl;rfl|(with_reducible apply l4 a7);rfl;rfl;exact (rfl:_=some [_,_]);rfl|refine yDn (by with_reducible constructor) ?_|(with_reducible apply k6);(iterate 4 rfl);assumption|(with_reducible apply r9);(iterate 4 rfl);assumption;rfl|(with_reducible apply f7);rfl;assumption;rfl;rfl|(with_reducible apply d9);rfl;assumption;rfl;rfl|(with_reducible apply f6);rfl;rfl|(with_reducible apply f8);rfl;rfl|(with_reducible apply b8 hS a7 (i:=0));(iterate 8 rfl);exact (rfl:_=[_,_]);clear hS;intro w' hS;simp only [List.set] at hS|(with_reducible apply r5);rfl;rfl;rfl;all_goals (intro hb hp;try (exfalso;omega))|(with_reducible apply b9);rfl;all_goals (intro hb hp;try (exfalso;omega)))
  all_goals (apply a3M)
  all_goals (repeat (first|exact ResL.nil|apply ResL.tmp;rfl|apply ResL.cell;rfl;(apply Ld.st a7;rfl;exact hS.blkR 0 rfl;rfl)))
  all_goals (exact xd6 ⟨by omega,rfl,hsub hS⟩)
 rw [xf1 h2] at hRE;have hRE0:a0x K space size way=0:=by unfold a0x;rw [xf0 he,xf1 h1,xf1 h2]
 subst hsp;rw [show (((sp:Nat):Int)).toNat=sp from rfl];have hr:Right k'.K:=by
  rw [hk'];unfold a0S at he;by_cases h3:a07 K=0
  ·exact a35.1 h3
  ·rw [xf1 h3] at he;exact absurd he h3
 obtain ⟨x,hx⟩:∃ x,k'.sp[sp]?=some x:=by
  unfold a0S at he;by_cases h3:a07 K=0
  ·rw [xf0 h3] at he;by_cases h4:0<=((sp:Nat):Int)/\((sp:Nat):Int) < (K.spaces.length:Int)/\(a0l K ((sp:Nat):Int).toNat).live=true
   ·have:K.spaces.length=k'.sp.length:=by rw [<- hk'];exact xj4 _
    exact j5 (by omega)
   ·rw [xf1 h4] at he;cases he
  ·rw [xf1 h3] at he;exact absurd he h3
 have hxA:m6 K sp=x.s.areas:=by rw [<- hk'];unfold m6;rw [a00 (a1J hx)]
 have hsc:=(y8 hr x.s (xd0 (a1J hx))).1;obtain ⟨F,hF⟩:∃ F,F=w8 (m6 K sp) addr size way:=⟨_,rfl⟩;have hflt:=fun w1 vh held Γ1 (h:St nF w w1 (wkS gw k' sp vh held++(a0L k'++Γ1)))=>b1P (WkV.own h) hx hsc.ar hb0 hb1 (size:=size) (way:=way) (by omega) (by omega) (by omega);rw [<- hxA,<- hF] at hflt;rw [<- hF];have hback:∀ {w1 a b},St nF w w1 (a::b::(wkS gw k' sp (.slice none 0 0) []++a0L k'))->St nF w w1 (wkS gw k' sp (.slice none 0 0) []++(a0L k'++[a,b])):=fun h=>by
  rw [<- xg1];exact h.perm (xm9 (l₁:=[_,_]))
 by_cases hF0:F.1=0;rotate_left
 ·have hd:decide (F.1=0)=false:=xj5 hF0
  repeat' (first|(with_reducible apply a8 a7);rfl;rfl;rfl|(with_reducible apply a9);rfl;(apply Ld.sc a7;rfl;exact hS.blkC 0 rfl rfl);rfl|refine yDn (by with_reducible constructor) ?_|(with_reducible apply k6);(iterate 4 rfl);assumption|(with_reducible apply d9);rfl;assumption;rfl;rfl|(with_reducible apply f8);rfl;rfl|(with_reducible apply d7 hS a7);rfl;rfl;rfl;clear hS;intro g w' hS|(with_reducible apply b8 hS a7 (i:=0));(iterate 8 rfl);exact (rfl:_=[_,_]);clear hS;intro w' hS;simp only [List.set] at hS|(with_reducible apply r5);rfl;rfl;rfl;all_goals (intro hb hp;try (exfalso;omega))|(with_reducible apply b9);rfl;all_goals (intro hb hp;try (exfalso;omega))|(with_reducible apply a1u);rfl;all_goals (intro hb hp;try (exfalso;omega))|(with_reducible apply d6 hS);rfl;rfl;rfl;refine ⟨_,hflt _ _ _ _ (hback hS),?_⟩;clear hS;intro w' hS)
  (focus ((with_reducible apply a0c _ _ _ 2 (by kernel_rfl) (by kernel_rfl) hS);(simp only [xl7,xl8,xm1,xm2]);(repeat' ((first|(with_reducible apply i9 a7);rfl;rfl|(with_reducible apply i7);rfl;(intro wd hd;replace hd:St _ _ wd _:=hd;(apply Ld.st a7;rfl;exact hd.blkR 0 rfl;rfl));rfl)));all_goals ((with_reducible apply j9);intro w' hS';clear hS;have hS:=hS';clear hS')))
  repeat' (first|(with_reducible apply a8 a7);rfl;rfl;rfl|refine yDn (by with_reducible constructor) ?_|(with_reducible apply b8 hS a7 (i:=1));(iterate 8 rfl);exact (rfl:_=[_,_]);clear hS;intro w' hS;simp only [List.set] at hS)
  (apply a3M;repeat (first|exact ResL.nil|apply ResL.tmp;rfl|apply ResL.cell;rfl;(apply Ld.st a7;rfl;exact hS.blkR 1 rfl;rfl)))
  exact xd3 (xd6 ⟨hRE,hF0,rfl,hsub hS⟩)
 have hd:decide (F.1=0)=true:=xj7 hF0;obtain ⟨-,hs1,hs8,hwy,ha16,ha4,hAt⟩:=a6j hRE0 rfl (by rw [<- hF];exact hF0)
 repeat' (first|(with_reducible apply a8 a7);rfl;rfl;rfl|(with_reducible apply a9);rfl;(apply Ld.sc a7;rfl;exact hS.blkC 0 rfl rfl);rfl|refine yDn (by with_reducible constructor) ?_|(with_reducible apply k6);(iterate 4 rfl);assumption|(with_reducible apply d9);rfl;assumption;rfl;rfl|(with_reducible apply f8);rfl;rfl|(with_reducible apply d7 hS a7);rfl;rfl;rfl;clear hS;intro g w' hS|(with_reducible apply b8 hS a7 (i:=0));(iterate 8 rfl);exact (rfl:_=[_,_]);clear hS;intro w' hS;simp only [List.set] at hS|(with_reducible apply r5);rfl;rfl;rfl;all_goals (intro hb hp;try (exfalso;omega))|(with_reducible apply b9);rfl;all_goals (intro hb hp;try (exfalso;omega))|(with_reducible apply a1u);rfl;all_goals (intro hb hp;try (exfalso;omega))|(with_reducible apply d6 hS);rfl;rfl;rfl;refine ⟨_,hflt _ _ _ _ (hback hS),?_⟩;clear hS;intro w' hS|(with_reducible apply a8P);rfl;rfl;omega;omega;omega;rfl)
 replace hS:=hS.sub (xm6 _ (List.Sublist.cons_cons _ (xm6 _ (xm3 _))));obtain ⟨B,hB⟩:∃ B,B=a0y K sp (addr / 16) (decide (way=1)) []:=⟨_,rfl⟩;obtain ⟨C,hC⟩:∃ C,C=a0y B.1 sp ((addr + size - 1) / 16) (decide (way=1)) [B.2]:=⟨_,rfl⟩;have hrK:a0F K sp addr size (decide (way=1))=if (addr + size - 1) / 16=addr / 16 then B.1 else C.1:=by unfold a0F;rw [<- hB,<- hC]
 refine l5 (F:=nF) (w0:=w) (X:=Nat×KV×Value×List Nat) (fun x=>[(16,.int .i64 (addr / 16 + (x.1:Nat)))]) [2,3,4,11,13] rfl (fun x=>.blk _ [.int .i64 0,.int .i64 0]::(wkS gw x.2.1 sp x.2.2.1 x.2.2.2++a0L k')) (Γ:=[]) (fun x=>KLike k' x.2.1/\((x.1=0/\x.2.1.K=K/\x.2.2.2=[])\/(x.1=1/\x.2.1.K=B.1/\x.2.2.2=[B.2])\/(x.1=2/\(addr + size - 1) / 16≠addr / 16/\x.2.1.K=C.1))) (fun x=>2 - x.1) (0,k',.slice none 0 0,[]) (by dsimp only;rw [show addr / 16 + ((0:Nat):Int)=addr / 16 by omega];exact Fr.sub_of rfl) ⟨KLike.refl _,xd6 ⟨rfl,hk',rfl⟩⟩ (by rw [List.append_nil];exact hS) ?_;clear hS;rintro ⟨r,k2,vh2,hd2⟩ w3 ⟨hl2,hcase⟩ hS;dsimp only at hl2 hcase hS |-;rw [List.append_nil] at hS;rw [<- a1Q hl2] at hS;have hwrap:∀ {w1 a L R},St nF w w1 (a::(L++R))->St nF w w1 (L++(R++[a])):=fun h=>by
  rw [<- xg1];exact h.perm (xm7 _ _).symm
 have hwrap2:∀ {w1 a L R},St nF w w1 (L++(R++[a]))->St nF w w1 (a::(L++R)):=fun h=>by
  rw [<- xg1] at h;exact h.perm (xm7 _ _)
 dsimp only [List.cons_append,List.nil_append];by_cases hmore:addr / 16 + (r:Nat)<=(addr + size - 1) / 16;rotate_left
 ·have hd3:decide (addr / 16 + ((r:Nat):Int)<=(addr + size - 1) / 16)=false:=xj5 hmore;have hK2:k2.K=a0F K sp addr size (decide (way=1)):=by
   rw [hrK];rcases hcase with ⟨rfl,-,-⟩|⟨rfl,h3,-⟩|⟨rfl,h3,h4⟩
   ·omega
   ·rw [xf0 (by omega),h3]
   ·rw [xf1 h3,h4]
  repeat' (first|(with_reducible apply a8 a7);rfl;rfl;rfl|(with_reducible apply j4);rfl;rfl;omega;omega;rfl|(with_reducible apply a0h);rfl;rfl;omega;omega;rfl|(with_reducible apply l4 a7);rfl;rfl;exact (rfl:_=some [_,_]);rfl|refine yDn (by with_reducible constructor) ?_|(with_reducible apply f8);rfl;assumption|(with_reducible apply b8 hS a7 (i:=0));(iterate 8 rfl);exact (rfl:_=[_,_]);clear hS;intro w' hS;simp only [List.set] at hS|(with_reducible apply a8P);rfl;rfl;omega;omega;omega;rfl)
  (apply a3M;repeat (first|exact ResL.nil|apply ResL.tmp;rfl|apply ResL.cell;rfl;(apply Ld.st a7;rfl;exact hS.blkR 0 rfl;rfl)))
  exact xd3 (xd3 ⟨gw,sp,k2,vh2,hd2,hRE,hF0,rfl,rfl,hK2,hS.drop⟩)
 have hd3:decide (addr / 16 + ((r:Nat):Int)<=(addr + size - 1) / 16)=true:=xj7 hmore;rcases hcase with ⟨rfl,h3,rfl⟩|⟨rfl,h3,rfl⟩|⟨rfl,h3,h4⟩
 ·have hp:=hAt 0 (by omega) (by omega);rw [Int.add_zero] at hp;have hr2:Right k2.K:=by rw [h3,<- hk'];exact hr
  have hbr:=fun w1 Γ1 (h:St nF w w1 (wkS gw k2 sp vh2 []++(a0L k2++Γ1)))=>a7T h (KRo.own h) hr2 (page:=addr / 16) (by rw [h3];exact hp) (decide (way=1)) (by simp) (by simp);rw [h3,<- hB] at hbr;rw [show addr / 16 + ((0:Nat):Int)=addr / 16 by omega] at hd3 |-
  repeat' (first|(with_reducible apply a8 a7);rfl;rfl;rfl|(with_reducible apply j4);rfl;rfl;omega;omega;rfl|(with_reducible apply a0h);rfl;rfl;omega;omega;rfl|refine yDn (by with_reducible constructor) ?_|(with_reducible apply f6);rfl;assumption|(with_reducible apply a8P);rfl;rfl;omega;omega;omega;rfl)
  replace hS:=hwrap hS
  repeat' (first|(with_reducible apply a8 a7);rfl;rfl;rfl|(with_reducible apply j4);rfl;rfl;omega;omega;rfl|refine yDn (by with_reducible constructor) ?_|(with_reducible apply o8);rfl;rfl;rfl;refine ⟨_,hbr _ _ hS,?_⟩;rintro _ w4 ⟨rfl,k3,vh3,e3,l3,h4⟩;(replace hS:=hwrap2 (St.transM hS h4));clear h4)
  rw [a1Q hl2] at hS;exact e9 (1,k3,vh3,[B.2]) (by dsimp only;rw [show addr / 16 + ((1:Nat):Int)=addr / 16 + 1 by omega];exact Fr.sub_of rfl) ⟨hl2.trans l3,xd3 (xd6 ⟨rfl,e3,rfl⟩)⟩ (by rw [List.append_nil];exact hS) (by show 2 - 1 < 2 - 0;omega)
 ·have hp:=hAt 0 (by omega) (by omega);rw [Int.add_zero] at hp;have hp2:=hAt (size - 1) (by omega) (by omega);rw [show addr + (size - 1)=addr + size - 1 by omega] at hp2;have hpg:(addr + size - 1) / 16=addr / 16 + ((1:Nat):Int):=by omega
  have hbo:=(a3U (by rw [<- hk'];exact hr) hp (decide (way=1)) (held:=[]) (by simp) (by simp)).1;rw [<- hB] at hbo;have hr2:Right k2.K:=by rw [h3];exact hbo.right
  have hbr:=fun w1 Γ1 (h:St nF w w1 (wkS gw k2 sp vh2 [B.2]++(a0L k2++Γ1)))=>a7T h (KRo.own h) hr2 (page:=(addr + size - 1) / 16) (by rw [h3];exact hp2.same hbo.same.ar hbo.same.live) (decide (way=1)) (by simp) (fun i hi=>by
   rw [xi9] at hi;subst hi;exact ⟨addr / 16,by omega,by rw [h3];exact hbo.ent⟩)
  rw [h3,<- hC,hpg] at hbr
  repeat' (first|(with_reducible apply a8 a7);rfl;rfl;rfl|(with_reducible apply j4);rfl;rfl;omega;omega;rfl|(with_reducible apply a0h);rfl;rfl;omega;omega;rfl|refine yDn (by with_reducible constructor) ?_|(with_reducible apply f6);rfl;assumption|(with_reducible apply a8P);rfl;rfl;omega;omega;omega;rfl)
  replace hS:=hwrap hS
  repeat' (first|(with_reducible apply a8 a7);rfl;rfl;rfl|(with_reducible apply j4);rfl;rfl;omega;omega;rfl|refine yDn (by with_reducible constructor) ?_|(with_reducible apply o8);rfl;rfl;rfl;refine ⟨_,hbr _ _ hS,?_⟩;rintro _ w4 ⟨rfl,k3,vh3,e3,l3,h4⟩;(replace hS:=hwrap2 (St.transM hS h4));clear h4)
  rw [a1Q hl2] at hS;exact e9 (2,k3,vh3,_) (by dsimp only;rw [show addr / 16 + ((2:Nat):Int)=addr / 16 + ((1:Nat):Int) + 1 by omega];exact Fr.sub_of rfl) ⟨hl2.trans l3,xd3 (xd3 ⟨rfl,by omega,e3⟩)⟩ (by rw [List.append_nil];exact hS) (by show 2 - 2 < 2 - 1;omega)
 ·exfalso;omega
section
variable {P:Program} {n:Nat} {ds:List Deferred} {E:Fr} {w w':World} {Q:Exit->Act->World->Prop} {ops:Array Oper} {rest:List Oper} {d:Nat} {dst:Option Nat} {ty:TypeId} {pos:String} {after:Array Edge} {F:Nat->Prop} {w0:World} {Γ:List Asr} {T:Tab}
theorem b0P {t yt:TypeId} {x y:Operand} {p:Option Addr} (ht:P.underlying t=some (.pointer (P.pointee t))) (hx:E.ev x=some (.pointer p)) (hy:E.ev y=some (.pointer none)):∀ a,Has n ds a E->∀ dst,a0Z P ⟨dst,.binOp .eql t x y yt,ty,pos,after,none⟩ a (.bool p.isNone):=fun a ha _ w=>by
 have e:=run_eql_pointer_nil (P:=P) (w:=w) t p ht;simp only [execOp,ha.ev hx,ha.ev hy,eqGuard];simp [e,Result.andThen]
theorem a76 {t yt:TypeId} {x y:Operand} {p:Option Addr} (ht:P.underlying t=some (.pointer (P.pointee t))) (hx:E.ev x=some (.pointer p)) (hy:E.ev y=some (.pointer none)) (hd:Nat.blt d n=true) (k':WL P ops Q rest n ds ((d,.bool p.isNone)::E) w):WL P ops Q (⟨some d,.binOp .eql t x y yt,ty,pos,after,none⟩::rest) n ds E w:=a0s (fun a ha=>b0P ht hx hy a ha _) hd k'
end
def a38 (k:KV):List Asr:=frA k::slA k::a05 k::(k.sp.map a0b++a0L k)
theorem KerV.own {F:Nat->Prop} {w0 w:World} {k:KV} {Γ:List Asr} (hS:St F w0 w (a38 k++Γ)):KerV w k:=by
 have hmem:∀ {e sz:Nat} {v:Value} {rows:List (List Value)},Asr.row e sz v rows ∈ a38 k->Sl nF w sz v rows:=fun h=>hS.slMem (xe5 Γ h);have hr:∀ {A},A ∈ a0L k->A ∈ a38 k:=fun h=>xc6 _ (xc6 _ (xc6 _ (xe6 _ h)));refine ⟨⟨hmem (e:=94) (hr xc5),fun p hp=>?_⟩,hmem (e:=89) xc5,hmem (e:=143) (xc6 _ xc5),hmem (e:=75) (xc6 _ (xc6 _ xc5)),fun p hp=>⟨?_,?_⟩⟩
 ·exact hmem (e:=96) (hr (xc6 _ (xe5 _ (xj0.2 ⟨p,hp,rfl⟩))))
 ·exact hmem (e:=81) (hr (xc6 _ (xe6 _ (xj0.2 ⟨p,hp,rfl⟩))))
 ·exact hmem (e:=91) (xc6 _ (xc6 _ (xc6 _ (xe5 _ (xj0.2 ⟨p,hp,rfl⟩)))))
def b5c:Ker:=⟨[],[],[],[],0⟩
def kv0:KV:=⟨[],[],[],[],0,.slice none 0 0,.slice none 0 0,.slice none 0 0,.slice none 0 0⟩
theorem b1q (w:World):KerV w kv0:=⟨⟨Sl.nil0 w 3,(fun _ h=>by cases h)⟩,Sl.nil0 w 4,Sl.nil0 w 2,Sl.nil0 w 3,(fun _ h=>by cases h)⟩
def Came (w w':World) (k:KV):Prop:=(k=kv0/\St nF w w' [])\/St nF w w' (a38 k)
theorem Came.st {w w':World} {k:KV} (h:Came w w' k):St nF w w' []:=by
 rcases h with ⟨-,h⟩|h
 ·exact h
 ·exact h.sub (xj6 _)
theorem Came.V {w w':World} {k:KV} (h:Came w w' k):KerV w' k:=by
 rcases h with ⟨rfl,-⟩|h
 ·exact b1q w'
 ·exact KerV.own (Γ:=[]) (by rw [List.append_nil];exact h)
theorem b5k {w w':World} {g sp:Nat} {k:KV} {vh:Value} {held:List Nat} {Γ:List Asr} (h:St nF w w' (wkS g k sp vh held++(a0L k++Γ))):Came w w' k:=by
 refine xd3 ?_;rw [<- xg1] at h;replace h:=h.sub (xm8 _ _);unfold wkS at h;have h2:St nF w w' (frA k::slA k::a05 k::(k.sp.map a0b++a0L k)):=h.drop.drop;exact h2
def okR (K:Ker) (space addr size way:Int):Prop:=a0x K space size way=0/\(w8 (m6 K space.toNat) addr size way).1=0
instance (K:Ker) (space addr size way:Int):Decidable (okR K space addr size way):=by unfold okR;infer_instance
def b0J (K:Ker) (space addr size way:Int):Ker:=if okR K space addr size way then a0F K space.toNat addr size (decide (way=1)) else b5c
def a27 (K:Ker) (space addr size way:Int):Int×Int:=if a0x K space size way=0 then w8 (m6 K space.toNat) addr size way else (0,0)
theorem b14 {K:Ker} {space addr size way:Int} (h:okR K space addr size way):a27 K space addr size way=(0,0):=by
 unfold a27;rw [xf0 h.1];obtain ⟨h1,h2⟩:=h;have hs1:1<=size:=by
  unfold a0x at h1;by_cases hl:a0S K space=0
  ·rw [xf0 hl] at h1;by_cases h3:size < 1\/8 < size
   ·rw [xf0 h3] at h1;cases h1
   ·omega
  ·rw [xf1 hl] at h1;exact absurd h1 hl
 unfold w8 at h2 |-;by_cases hw:way=2/\addr.tmod 8≠0
 ·rw [xf0 hw] at h2;cases h2
 ·rw [xf1 hw] at h2 |-
  cases hf:(List.range size.toNat).findSome? fun i=>n5 (m6 K space.toNat) way (addr + (i:Nat)) with
  |none=>rfl
  |some p=>
   exfalso;rw [hf] at h2;dsimp only [Option.getD] at h2;obtain ⟨i,-,hi⟩:=List.exists_of_findSome?_eq_some hf;unfold n5 at hi
   split at hi
   ·cases hi;cases h2
   ·split at hi
    ·cases hi;cases h2
    ·split at hi
     ·cases hi;cases h2
     ·cases hi
section
variable {P:Program} {n:Nat} {ds:List Deferred} {E:Fr} {ops:Array Oper} {rest:List Oper} {d:Nat} {ty:TypeId} {pos:String} {after:Array Edge} {T:Tab}
theorem b3T {C:World->Prop} {K:Act->Prop} (hT:TabOk P T) {t sz:Nat} {z:Value} {x lo hi:Operand} {k1 k2:IntKind} {l:List UInt8} {i j:Int} (ht:T.get t=some (.sc .string sz z)) (hx:E.ev x=some (.string ⟨l.toArray⟩)) (hlo:E.ev lo=some (.int k1 i)) (hhi:E.ev hi=some (.int k2 j)) (h0:0<=i) (h1:i<=j) (h2:j<=l.length) (hd:Nat.blt d n=true) (k:WD P ops C K rest n ds ((d,.string ⟨((l.drop i.toNat).take (j.toNat - i.toNat)).toArray⟩)::E)):WD P ops C K (⟨some d,.slice t x (some lo) (some hi) none,ty,pos,after,none⟩::rest) n ds E:=a2c (fun a ha=>a9A hT ht hx hlo hhi h0 h1 h2 a ha _) hd k
end
theorem b1l {s:List UInt8} {c:UInt8}:∀ {o:Nat},o < s.length->splice s o [c]=s.set o c:=by
 intro o h;rw [List.set_eq_take_append_cons_drop,xf0 h];rfl
theorem b1A {F:Nat->Prop} {w0 w:World} {Γ:List Asr} {k:KV} {gc f:Nat} {l:List UInt8} {off i:Nat} {x:UInt8} (hS0:St F w0 w ([.blk gc [.string ⟨l.toArray⟩],frA k]++Γ)) (hf:f < k.fr.length) (hoff:off < (j7 k.fr f).data.length) (hlen:(j7 k.fr f).data.length<=1000) (hx:l[i]?=some x) (hi:(i:Int) < 9223372036854775807):Fn Tryz.prog 75 [a14 k.vfr (f * 4),.int .i64 (off:Nat),.int .i64 (i:Nat),.pointer (some ⟨gc,0,none⟩)] w (fun v w'=>v=.tuple #[]/\St (fps [.blk gc [.string ⟨l.toArray⟩],frA k]) w w' [.blk gc [.string ⟨l.toArray⟩],frA { k with fr:=k.fr.set f ⟨(j7 k.fr f).data.set off x,(j7 k.fr f).refs,(j7 k.fr f).dirty,(j7 k.fr f).seen⟩ }]):=by
 have hS:=St.startM hS0;generalize fps [_,_]=G at hS |-;obtain ⟨sh,fr,sl,sps,hand,vsh,vfr,vsl,vsp⟩:=k;dsimp only at hf hoff hlen hS |-;unfold frA at hS |-;dsimp only at hS |-;obtain ⟨pg,cg,rfl⟩:=hS.rowSlice 1 rfl;simp only [xj4] at hS |-;obtain ⟨gg,rfl⟩:=hS.rowSome 1 rfl (by omega);obtain ⟨fm,hfm⟩:=j5 (l:=fr) (i:=f) (by omega);rw [m8 hfm] at hoff hlen |-;have hrow:=d5 (f:=fmC) hfm;have e1:(fr.map fmC).set f (o5 [.string ⟨fm.data.toArray⟩,.int .i64 fm.refs,.bool fm.dirty,.bool fm.seen] 0 [.string ⟨(fm.data.set off x).toArray⟩])=(fr.set f ⟨fm.data.set off x,fm.refs,fm.dirty,fm.seen⟩).map fmC:=by rw [xl6];rfl
 unfold fmC at hrow;unfold a14;dsimp only;have hil:=c9 hx;have hsub:(l.drop i).take (i + 1 - i)=[x]:=by
  rw [show i + 1 - i=1 by omega,xo1 hil,(xa7.1 hx).2];rfl
 have hlay:∀ w1 l',l'=[x]->Fn Tryz.prog 76 [.string ⟨fm.data.toArray⟩,.int .i64 (off:Nat),.string ⟨l'.toArray⟩] w1 (RBf (.tuple #[.string ⟨(fm.data.set off x).toArray⟩,.int .i64 0]) w1):=by
  rintro w1 _ rfl;have h:=b0A fm.data [x] (off:Nat) w1 (by unfold maxLen;omega);rw [show inB ((off:Nat):Int) [x].length fm.data.length=true by unfold inB;simp;omega,xf0 rfl,xf0 rfl,xi0,b1l hoff] at h;exact h
 refine yEn Tryz.func75 Tryz.ntmps75 (by kernel_rfl) (by kernel_rfl) rfl rfl ?_
 repeat' (fail)
 refine a1l 2 17 18 rfl hS (by kernel_rfl) ?_;intro w10 hS';clear hS;have hS:=hS';clear hS';simp only [xl7,xl8]
 ((with_reducible apply j0 (nn 0) a7);rfl;kernel_rfl;exact (fun _ _ _ h=>h);exact xd3 hS;rfl;rfl)
 ((with_reducible apply j0 (nn 1) a7);rfl;kernel_rfl;exact (fun _ _ _ h=>h);exact xd3 hS;rfl;rfl)
 ((with_reducible apply j0 (nn 2) a7);rfl;kernel_rfl;exact (fun _ _ _ h=>h);exact xd3 hS;rfl;rfl)
 ((with_reducible apply j0 (nn 3) a7);rfl;kernel_rfl;exact (fun _ _ _ h=>h);exact xd3 hS;rfl;rfl)
 ((with_reducible apply k9 (nn 4));rfl;kernel_rfl;kernel_rfl;rfl;exact (fun _ _ _ h=>h);exact hS;rfl;(intro w2 hw2;(replace hw2:St _ _ w2 _:=hw2;(apply Ld.sc a7;rfl;exact hw2.rowC0 1 rfl (by assumption) rfl)));rfl)
 ((with_reducible apply j0 (nn 5) a7);rfl;kernel_rfl;exact (fun _ _ _ h=>h);exact xd3 hS;rfl;rfl)
 ((with_reducible apply k9 (nn 6));rfl;kernel_rfl;kernel_rfl;rfl;exact (fun _ _ _ h=>h);exact hS;rfl;(intro w2 hw2;(replace hw2:St _ _ w2 _:=hw2;(apply Ld.sc a7;rfl;exact hw2.blkC 0 rfl rfl)));rfl)
 ((with_reducible apply j0 (nn 7) a7);rfl;kernel_rfl;exact (fun _ _ _ h=>h);exact xd3 hS;rfl;rfl)
 ((with_reducible apply j0 (nn 8) a7);rfl;kernel_rfl;exact (fun _ _ _ h=>h);exact xd3 hS;rfl;rfl)
 ((with_reducible apply a0X (nn 9));rfl;kernel_rfl;kernel_rfl;kernel_rfl;rfl;exact (fun _ _ _ h=>h);exact xd3 hS;(intro a ha;exact b0X rfl rfl (by omega) (by omega) a ha _);rfl)
 ((with_reducible apply a0X (nn 10));rfl;kernel_rfl;kernel_rfl;kernel_rfl;rfl;exact (fun _ _ _ h=>h);exact xd3 hS;(intro a ha;exact a9A a7 rfl rfl rfl rfl (by omega) (by omega) (by omega) a ha _);rfl)
 refine n7 (i:=11) (by kernel_rfl) ?_;refine l6 rfl (a0f (first:=[]) (caps:=[]) rfl rfl (hlay _ _ hsub)) rfl ?_;rintro _ w' ⟨rfl,hS'⟩;replace hS:=hS.transA hS';simp only [t4] at hS;clear hS';refine ⟨xd3 (xd3 hS),?_⟩
 ((with_reducible apply j0 (nn 12) a7);rfl;kernel_rfl;exact (fun _ _ _ h=>h);exact xd3 hS;rfl;rfl)
 ((with_reducible apply j0 (nn 13) a7);rfl;kernel_rfl;exact (fun _ _ _ h=>h);exact xd3 hS;rfl;rfl)
 ((with_reducible apply j0 (nn 14) a7);rfl;kernel_rfl;exact (fun _ _ _ h=>h);exact xd3 hS;rfl;rfl)
 ((with_reducible apply j0 (nn 15) a7);rfl;kernel_rfl;exact (fun _ _ _ h=>h);exact xd3 hS;rfl;rfl)
 ((with_reducible apply j0 (nn 16) a7);rfl;kernel_rfl;exact (fun _ _ _ h=>h);exact xd3 hS;rfl;rfl)
 refine n7 (i:=17) (by kernel_rfl) ?_;refine a0E (Φ:=fun _ w'=>St _ _ w' _) rfl (a2l hS a7 (i:=1) (kk:=f) (j:=0) rfl rfl rfl rfl rfl hrow rfl rfl (xg2 rfl) rfl) ?_;intro _ w' hS';simp only [List.set] at hS';rw [show (Value.string ⟨(fm.data.set off x).toArray⟩).cells.toList=[.string ⟨(fm.data.set off x).toArray⟩] from rfl] at hS';rw [e1] at hS';clear hS;have hS:=hS';clear hS';refine ⟨xd6 rfl,?_⟩;refine a0P (by kernel_rfl) ?_
 (refine a5Z rfl ?_)
 exact ⟨rfl,hS⟩
def wkR (g:Nat) (k:KV) (sp:Nat) (vh:Value) (held:List Nat):List Asr:=.blk g (wkB k sp vh)::hdA vh held::slA k::a05 k::k.sp.map a0b
theorem wk_perm {g:Nat} {k:KV} {sp:Nat} {vh:Value} {held:List Nat}:(wkS g k sp vh held).Perm (frA k::wkR g k sp vh held):=xn1 (l₁:=[_,_])
theorem KRo.ownG {F:Nat->Prop} {w0 w:World} {Θ:List Asr} {k:KV} {Γ:List Asr} (hS:St F w0 w (Θ++(a0L k++Γ))):KRo (fps Θ) w k:=by
 have hmem:∀ {e sz:Nat} {v:Value} {rows:List (List Value)},Asr.row e sz v rows ∈ a0L k->Sl (fps Θ) w sz v rows:=fun h=>by
  obtain ⟨j,hj⟩:=xd9.1 (xe5 Γ h);exact hS.ownSl j hj
 refine ⟨⟨hmem xc5,fun p hp=>?_⟩,fun p hp=>?_⟩
 ·exact hmem (e:=96) (xc6 _ (xe5 _ (xj0.2 ⟨p,hp,rfl⟩)))
 ·exact hmem (e:=81) (xc6 _ (xe6 _ (xj0.2 ⟨p,hp,rfl⟩)))
def kvS (k:KV) (sp:Nat) (a:Nat) (s:List UInt8) (i:Nat):KV:={ k with fr:=(a0j k.K sp (a:Nat) s i).frames }
theorem a3t (K:Ker) (sp:Nat) (a:Int) (s:List UInt8):∀ i,(a0j K sp a s i).sheets=K.sheets/\(a0j K sp a s i).spaces=K.spaces/\(a0j K sp a s i).slots=K.slots/\(a0j K sp a s i).hand=K.hand
 |0=>⟨rfl,rfl,rfl,rfl⟩
 |i + 1=>by
  obtain ⟨h1,h2,h3,h4⟩:=a3t K sp a s i;show (a2b (a0j K sp a s i) sp _ _).sheets=_/\(a2b (a0j K sp a s i) sp _ _).spaces=_/\(a2b (a0j K sp a s i) sp _ _).slots=_/\(a2b (a0j K sp a s i) sp _ _).hand=_;unfold a2b
  split
  ·exact ⟨h1,h2,h3,h4⟩
  ·exact ⟨h1,h2,h3,h4⟩
theorem b5N (k:KV) (sp a:Nat) (s:List UInt8) (i:Nat):(kvS k sp a s i).K=a0j k.K sp (a:Nat) s i:=by
 obtain ⟨h1,h2,h3,h4⟩:=a3t k.K sp (a:Nat) s i;generalize hX:a0j k.K sp (a:Nat) s i=X at *;unfold kvS;rw [hX];obtain ⟨x1,x2,x3,x4,x5⟩:=X;dsimp only at h1 h2 h3 h4;subst h1 h2 h3 h4;rfl
theorem b4B (k:KV) (sp a:Nat) (s:List UInt8):kvS k sp a s 0=k:=rfl
theorem a81 {k:KV} {sp a i f:Nat} {s:List UInt8} {y:UInt8} (he:k7 (j3 k.K sp) (((a:Nat) + (i:Nat):Int) / 16)=some ⟨((a:Nat) + (i:Nat):Int) / 16,1,(f:Nat)⟩) (hy:s[i]?=some y):{ kvS k sp a s i with fr:=(kvS k sp a s i).fr.set f ⟨(j7 (kvS k sp a s i).fr f).data.set ((a + i) % 16) y,(j7 (kvS k sp a s i).fr f).refs,(j7 (kvS k sp a s i).fr f).dirty,(j7 (kvS k sp a s i).fr f).seen⟩ }=kvS k sp a s (i + 1):=by
 obtain ⟨h1,h2,h3,h4⟩:=a3t k.K sp (a:Nat) s i;unfold kvS;show _={ k with fr:=(a2b (a0j k.K sp (a:Nat) s i) sp ((a:Nat) + (i:Nat)) (s.getD i 0)).frames };unfold a2b;have he2:j3 (a0j k.K sp (a:Nat) s i) sp=j3 k.K sp:=by unfold j3 a0l;rw [h2]
 rw [he2,he,List.getD_eq_getElem?_getD,hy];rfl
theorem b2Y {F:Nat->Prop} {w0 w:World} {Γ:List Asr} {g0:Nat} {k:KV} {sp:Nat} {vh:Value} {held:List Nat} {gc a:Nat} {s:List UInt8} (hS0:St F w0 w ((.blk gc [.string ⟨s.toArray⟩]::wkS g0 k sp vh held)++Γ)) (hR0:KRo (fps (.blk gc [.string ⟨s.toArray⟩]::wkS g0 k sp vh held)) w k) (hr:Right k.K) {x:Sp} (hx:k.sp[sp]?=some x) (ha:a<=4096) (hn:s.length<=8) (hp:∀ i:Nat,i < s.length->Pres k.K sp true (((a:Nat) + (i:Nat):Int) / 16)):Fn Tryz.prog 74 [.pointer (some ⟨g0,0,none⟩),.int .i64 (a:Nat),.int .i64 (s.length:Nat),.func (.func 75) #[] #[.pointer (some ⟨gc,0,none⟩)]] w (fun v w'=>v=.tuple #[]/\St (fps (.blk gc [.string ⟨s.toArray⟩]::wkS g0 k sp vh held)) w w' (.blk gc [.string ⟨s.toArray⟩]::wkS g0 (kvS k sp a s s.length) sp vh held)):=by
 have hS:=St.startM hS0;have hR:=hR0;generalize fps _=G at hS hR |-;clear hR0 hS0;obtain ⟨bf,of_,cf,hvfr⟩:=(WkV.of (Γ:=[_]) (hS.perm (xm9 (l₁:=[_]))) hR).ker.fr.form1 (xe1 (show 0 < k.fr.length by have:=hr.cnt.1;have h9:k.K.frames.length=k.fr.length:=rfl;omega));obtain ⟨sh,fr,sl,sps,hand,vsh,vfr,vsl,vsp⟩:=k;dsimp only at hvfr hx;subst hvfr;have hxm:=xd0 hx;obtain ⟨hsc,hel⟩:=y8 hr x.s (xd0 (a1J hx));have hV:∀ i w1 A,St G w w1 (A::frA (kvS (⟨sh,fr,sl,sps,hand,vsh,.slice (some ⟨bf,of_,none⟩) fr.length cf,vsl,vsp⟩:KV) sp a s i)::wkR g0 (⟨sh,fr,sl,sps,hand,vsh,.slice (some ⟨bf,of_,none⟩) fr.length cf,vsl,vsp⟩:KV) sp vh held)->WkV w1 g0 (kvS (⟨sh,fr,sl,sps,hand,vsh,.slice (some ⟨bf,of_,none⟩) fr.length cf,vsl,vsp⟩:KV) sp a s i) sp vh held:=fun i w1 A h=>WkV.of (Γ:=[A]) ((h.perm ((wk_perm (k:=kvS (⟨sh,fr,sl,sps,hand,vsh,.slice (some ⟨bf,of_,none⟩) fr.length cf,vsl,vsp⟩:KV) sp a s i)).symm.cons _)).perm (xm9 (l₁:=[A]))) ⟨hR.sh,hR.ar⟩;have hent:=fun i w1 A (h:St G w w1 (A::frA (kvS (⟨sh,fr,sl,sps,hand,vsh,.slice (some ⟨bf,of_,none⟩) fr.length cf,vsl,vsp⟩:KV) sp a s i)::wkR g0 (⟨sh,fr,sl,sps,hand,vsh,.slice (some ⟨bf,of_,none⟩) fr.length cf,vsl,vsp⟩:KV) sp vh held)) (page:Int) (hpb:-1000000<=page/\page<=1000000)=>a33 (hV i w1 A h) hx page hsc.rises (a52 hsc hpb);replace hS:=hS.perm (wk_perm.cons _);refine yEn Tryz.func74 Tryz.ntmps74 (by kernel_rfl) (by kernel_rfl) rfl rfl ?_
 repeat' (first|(with_reducible apply a8 a7);rfl;rfl;rfl|refine yDn (by with_reducible constructor) ?_)
 refine l5 (F:=G) (w0:=w) (X:=Nat) (fun i=>[(12,.int .i64 (i:Nat))]) [0,1,3,11] rfl (fun i=>[.blk gc [.string ⟨s.toArray⟩],frA (kvS (⟨sh,fr,sl,sps,hand,vsh,.slice (some ⟨bf,of_,none⟩) fr.length cf,vsl,vsp⟩:KV) sp a s i)]) (fun i=>i<=s.length) (fun i=>s.length - i) 0 (by exact Fr.sub_of rfl) (xg5 _) hS ?_;clear hS;intro i w1 hi hS;dsimp only [List.cons_append,List.nil_append] at hS |-;by_cases hlt:i < s.length
 ·have hd:decide ((i:Int) < (s.length:Int))=true:=xj7 (by omega);obtain ⟨f,hf0,-⟩:=hp i hlt;have hf:=hf0;have hok:=a5d hr (s:=s) (addr:=(a:Nat)) (by omega) hp i hi;obtain ⟨pt,is,hEV,hcase⟩:=a8z (page:=((a:Nat) + (i:Nat):Int) / 16) hsc.rises ((hV _ _ _ hS).ker.spv x hxm).en;have hee:j3 (⟨sh,fr,sl,sps,hand,vsh,.slice (some ⟨bf,of_,none⟩) fr.length cf,vsl,vsp⟩:KV).K sp=x.s.entries:=by unfold j3;rw [a00 (a1J hx)]
  rw [hee] at hf;rcases hcase with ⟨-,-,he⟩|⟨rfl,e,b,off,c',j,he,hve,hei,rfl⟩
  ·rw [he] at hf;cases hf
  rw [he] at hf
  cases hf
  have hen:=hent _ _ _ hS (((a:Nat) + (i:Nat):Int) / 16) (by omega);rw [hEV] at hen
  repeat' (first|(with_reducible apply a8 a7);rfl;rfl;rfl|(with_reducible apply j4);rfl;rfl;omega;omega;rfl|refine yDn (by with_reducible constructor) ?_|(with_reducible apply f6);rfl;assumption|(with_reducible apply a8P);rfl;rfl;omega;omega;omega;rfl|(with_reducible apply d6 hS);rfl;rfl;rfl;refine ⟨_,hen,?_⟩;clear hS;intro w' hS)
  have he3:j3 (a0j (⟨sh,fr,sl,sps,hand,vsh,.slice (some ⟨bf,of_,none⟩) fr.length cf,vsl,vsp⟩:KV).K sp (a:Nat) s i) sp=j3 (⟨sh,fr,sl,sps,hand,vsh,.slice (some ⟨bf,of_,none⟩) fr.length cf,vsl,vsp⟩:KV).K sp:=by unfold j3 a0l;rw [hok.spaces]
  obtain ⟨hfl,-,hdl⟩:=a1E hok.right (by rw [he3];exact hf0);replace hdl:(j7 (kvS (⟨sh,fr,sl,sps,hand,vsh,.slice (some ⟨bf,of_,none⟩) fr.length cf,vsl,vsp⟩:KV) sp a s i).fr f).data.length=16:=hdl;have hfl0:=hfl;rw [hok.nfr] at hfl0;replace hfl0:f < fr.length:=hfl0;replace hfl:f < (kvS (⟨sh,fr,sl,sps,hand,vsh,.slice (some ⟨bf,of_,none⟩) fr.length cf,vsl,vsp⟩:KV) sp a s i).fr.length:=hfl;have hEn:∀ wd A,St G w wd (A::frA (kvS (⟨sh,fr,sl,sps,hand,vsh,.slice (some ⟨bf,of_,none⟩) fr.length cf,vsl,vsp⟩:KV) sp a s i)::wkR g0 (⟨sh,fr,sl,sps,hand,vsh,.slice (some ⟨bf,of_,none⟩) fr.length cf,vsl,vsp⟩:KV) sp vh held)->Sl nF wd 3 (.slice (some ⟨b,off,none⟩) x.s.entries.length c') (x.s.entries.map enC):=fun wd A h=>by
   rw [<- hve];exact ((hV _ _ _ h).ker.spv x hxm).en
  have hFr:∀ wd A,St G w wd (A::frA (kvS (⟨sh,fr,sl,sps,hand,vsh,.slice (some ⟨bf,of_,none⟩) fr.length cf,vsl,vsp⟩:KV) sp a s i)::wkR g0 (⟨sh,fr,sl,sps,hand,vsh,.slice (some ⟨bf,of_,none⟩) fr.length cf,vsl,vsp⟩:KV) sp vh held)->wd.cell? ⟨g0,1,none⟩=some (.slice (some ⟨bf,of_,none⟩) fr.length cf):=fun wd A h=>by
   exact (St.start wd).bs (hV _ _ _ h).c1
  have hrowE:=d5 (f:=enC) hei;unfold enC at hrowE;obtain ⟨y,hy⟩:=j5 (l:=s) (i:=i) (by omega);have hcall:=fun w1 Γ1 (h:St G w w1 ([.blk gc [.string ⟨s.toArray⟩],frA (kvS (⟨sh,fr,sl,sps,hand,vsh,.slice (some ⟨bf,of_,none⟩) fr.length cf,vsl,vsp⟩:KV) sp a s i)]++Γ1))=>b1A (off:=(a + i) % 16) h hfl (by omega) (by omega) hy (by omega);rw [a81 hf0 hy] at hcall;unfold a14 at hcall;have hvv:(kvS (⟨sh,fr,sl,sps,hand,vsh,.slice (some ⟨bf,of_,none⟩) fr.length cf,vsl,vsp⟩:KV) sp a s i).vfr=.slice (some ⟨bf,of_,none⟩) fr.length cf:=rfl;rw [hvv] at hcall;dsimp only at hcall
  (focus ((with_reducible apply a0c _ _ _ 16 (by kernel_rfl) (by kernel_rfl) hS);(simp only [xl7,xl8,xm1,xm2]);(repeat' (first|(first|(with_reducible apply a8O);rfl;rfl;omega;omega;rfl|(with_reducible apply i9 a7);rfl;rfl|(with_reducible apply i7);rfl;(intro wd hd;replace hd:St _ _ wd _:=hd;(apply Ld.sl a7;rfl;exact hd.blkC 2 rfl rfl));rfl|(with_reducible apply x6 a7);rfl;rfl;rfl;rfl;omega;rfl)|(with_reducible apply i7);rfl;(intro wd hd;replace hd:St _ _ wd _:=hd;(apply Ld.sc a7;rfl;exact (hEn _ _ hd).cel hrowE rfl));rfl|(with_reducible apply b5Y);rfl;rfl;omega;omega;rfl));all_goals ((with_reducible apply j9);intro w' hS';clear hS;have hS:=hS';clear hS')))
  refine a5q (first:=[]) (caps:=[.pointer (some ⟨gc,0,none⟩)]) rfl rfl (hcall _ _ hS) rfl ?_;rintro _ w3 ⟨rfl,h3⟩;replace hS:=St.transM (Δ:=[_,_]) hS h3
  repeat' (first|(with_reducible apply a8 a7);rfl;rfl;rfl|(with_reducible apply j4);rfl;rfl;omega;omega;rfl|refine yDn (by with_reducible constructor) ?_)
  exact e9 (i + 1) (by exact Fr.sub_of rfl) (by omega) hS (by omega)
 ·have hd:decide ((i:Int) < (s.length:Int))=false:=xj5 (by omega);obtain rfl:i=s.length:=by omega
  repeat' (first|(with_reducible apply a8 a7);rfl;rfl;rfl|refine yDn (by with_reducible constructor) ?_|(with_reducible apply f8);rfl;assumption)
  (refine a5Z rfl ?_)
  exact ⟨rfl,hS.perm ((wk_perm (k:=kvS (⟨sh,fr,sl,sps,hand,vsh,.slice (some ⟨bf,of_,none⟩) fr.length cf,vsl,vsp⟩:KV) sp a s s.length)).symm.cons _)⟩
theorem perm5 {α:Type} {a b c d e:α} {W R:List α}:(a::b::c::d::e::(W++R)).Perm ((d::W)++(R++[a,b,c,e])):=by
 refine (xn1 (l₁:=[a,b,c])).trans (List.Perm.cons _ ?_);refine (xm9 (l₁:=[a,b,c,e])).trans ?_;exact List.Perm.of_eq (xg1 W R _)
def a2J (K:Ker) (space addr:Int) (s:List UInt8):Ker:=if okR K space addr s.length 1 then a0j (a0F K space.toNat addr s.length true) space.toNat addr s s.length else b5c
theorem b3y {w:World} {k:KV} (hK:KerV w k) {space addr:Int} {s:List UInt8} (hb0:-9223372036854775808<=addr) (hb1:addr<=9223372036854775807):Fn Tryz.prog 25 [.agg (kvC k).toArray,.int .i64 space,.int .i64 addr,.string ⟨s.toArray⟩] w (fun v w'=>∃ k',v=.tuple #[.agg (kvC k').toArray,a26 (a27 k.K space addr s.length 1),.int .i64 (a0x k.K space s.length 1)]/\k'.K=a2J k.K space addr s/\Came w w' k'):=by
 have hre:=fun w1 (h:KerV w1 k)=>b3f h (space:=space) (size:=(s.length:Nat)) (way:=1) hb0 hb1;have hK0:=hK;obtain ⟨sh,fr,sl,sps,hand,vsh,vfr,vsl,vsp⟩:=k;obtain ⟨k1,k2,k3,k4,k5⟩:=hK;dsimp only at k1 k2 k3 k4 k5;obtain ⟨p1,c1,rfl⟩:=k1.sl.len;obtain ⟨p2,c2,rfl⟩:=k2.len;obtain ⟨p3,c3,rfl⟩:=k3.len;obtain ⟨p4,c4,rfl⟩:=k4.len;generalize hKK:KV.K ⟨sh,fr,sl,sps,hand,.slice p1 sh.length c1,.slice p2 fr.length c2,.slice p3 sl.length c3,.slice p4 sps.length c4⟩=K at hre |-;have hpre:∀ w1 Γ1,St nF w w1 Γ1->KerV w1 ⟨sh,fr,sl,sps,hand,.slice p1 sh.length c1,.slice p2 fr.length c2,.slice p3 sl.length c3,.slice p4 sps.length c4⟩:=fun w1 Γ1 h=>hK0.now h;unfold a26 at hre |-;unfold kvC at hre;dsimp only at hre;unfold kvC;dsimp only;refine yEn Tryz.func25 Tryz.ntmps25 (by kernel_rfl) (by kernel_rfl) rfl rfl ?_;have hS:=St.start w
 repeat' (first|(with_reducible apply a8 a7);rfl;rfl;rfl|(with_reducible apply a9);rfl;(first|apply Ld.sc a7;rfl;exact hS.blkC 2 rfl rfl|apply Ld.st a7;rfl;exact hS.blkR 3 rfl;rfl);rfl|refine yDn (by with_reducible constructor) ?_|(with_reducible apply l9 hS);rfl;rfl;rfl;clear hS;intro g w' hS|(with_reducible apply d7 hS a7);rfl;rfl;rfl;clear hS;intro g w' hS)
 refine a5q rfl rfl (hre _ (hpre _ _ hS)) rfl ?_;rintro v w2 (⟨he,rfl,hS'⟩|⟨he,hf,rfl,hS'⟩|⟨gw,sp,k',vh,held,he,hf,hsp,rfl,hk',hS'⟩)
 ·replace hS:=hS.transA hS';simp only [t4] at hS
  repeat' (first|(with_reducible apply a8 a7);rfl;rfl;rfl|refine yDn (by with_reducible constructor) ?_|(with_reducible apply f6);rfl;rfl|(with_reducible apply d7 hS a7);rfl;rfl;rfl;clear hS;intro g w' hS|(with_reducible apply b8 hS a7 (i:=0));(iterate 8 rfl);exact (rfl:_=[_,_]);clear hS;intro w' hS;simp only [List.set] at hS|(with_reducible apply a76 (by kernel_rfl));rfl;rfl;rfl)
  rename Nat=>g14
  refine a6g (fun w'=>St nF w w' [.blk g14 [.int .i64 0,.int .i64 0]]) 6 rfl hS (by kernel_rfl) ?_;intro w1 hS';clear hS;have hS:=hS';clear hS';have hH:St nF w w1 [.blk g14 [.int .i64 0,.int .i64 0]]:=hS.sub (.cons_cons _ (xj6 _))
  ((with_reducible apply a1D (nn 0) a7);rfl;kernel_rfl;kernel_rfl;kernel_rfl;exact (fun _ _ _ _ h=>h);exact hH;rfl;rfl;exact (rfl:_=some [_,_,_,_,_]);rfl)
  ((with_reducible apply a0o (nn 1));rfl;kernel_rfl;exact (fun _ _ _ h=>h);exact hH;rfl;(intro wd hd;replace hd:St _ _ wd _:=hd;(apply Ld.st a7;rfl;exact hd.blkR 0 rfl;rfl));rfl)
  ((with_reducible apply q7 (nn 2) a7);rfl;kernel_rfl;exact (fun _ _ _ h=>h);exact hH;rfl;rfl)
  refine t5 (i:=3) (by kernel_rfl) ?_;refine y5 (Φ:=fun _ w'=>St _ _ w' _) rfl (n8 hS a7 (i:=2) rfl rfl rfl rfl rfl (xg2 rfl) (xc7.1 rfl)) ?_;intro _ w' hS';simp only [List.set] at hS';clear hS;have hS:=hS';clear hS';refine ⟨(hS.sub (.cons_cons _ (xj6 _))),?_⟩;refine t5 (i:=4) (by kernel_rfl) ?_;refine y5 (Φ:=fun _ w'=>St _ _ w' _) rfl (n8 hS a7 (i:=1) rfl rfl rfl rfl rfl (xg2 rfl) (xc7.1 rfl)) ?_;intro _ w' hS';simp only [List.set] at hS';clear hS;have hS:=hS';clear hS';refine ⟨(hS.sub (.cons_cons _ (xj6 _))),?_⟩;have hH:St nF w w' [.blk g14 [.int .i64 0,.int .i64 0]]:=hS.sub (.cons_cons _ (xj6 _))
  ((with_reducible apply q7 (nn 5) a7);rfl;kernel_rfl;exact (fun _ _ _ h=>h);exact hH;rfl;rfl)
  refine a0G (by kernel_rfl) ?_
  repeat' ((refine yDn (by with_reducible constructor) ?_))
  (apply a3M;repeat (first|exact ResL.nil|apply ResL.tmp;rfl|apply ResL.cell;rfl;(apply Ld.st a7;rfl;(first|exact hS.blkR 1 rfl|exact hS.blkR 2 rfl);rfl)))
  refine ⟨kv0,?_,?_,xd6 ⟨rfl,hS.sub (xj6 _)⟩⟩
  ·unfold a27;rw [xf1 he];rfl
  ·unfold a2J;rw [xf1 (fun h=>he h.1)];rfl
 ·replace hS:=hS.transA hS';simp only [t4] at hS
  repeat' (first|(with_reducible apply a8 a7);rfl;rfl;rfl|refine yDn (by with_reducible constructor) ?_|(with_reducible apply f6);rfl;rfl|(with_reducible apply d7 hS a7);rfl;rfl;rfl;clear hS;intro g w' hS|(with_reducible apply b8 hS a7 (i:=0));(iterate 8 rfl);exact (rfl:_=[_,_]);clear hS;intro w' hS;simp only [List.set] at hS|(with_reducible apply a76 (by kernel_rfl));rfl;rfl;rfl)
  rename Nat=>g14
  refine a6g (fun w'=>St nF w w' [.blk g14 [.int .i64 (w8 (m6 K space.toNat) addr s.length 1).1,.int .i64 (w8 (m6 K space.toNat) addr s.length 1).2]]) 6 rfl hS (by kernel_rfl) ?_;intro w1 hS';clear hS;have hS:=hS';clear hS';have hH:St nF w w1 [.blk g14 [.int .i64 (w8 (m6 K space.toNat) addr s.length 1).1,.int .i64 (w8 (m6 K space.toNat) addr s.length 1).2]]:=hS.sub (.cons_cons _ (xj6 _))
  ((with_reducible apply a1D (nn 0) a7);rfl;kernel_rfl;kernel_rfl;kernel_rfl;exact (fun _ _ _ _ h=>h);exact hH;rfl;rfl;exact (rfl:_=some [_,_,_,_,_]);rfl)
  ((with_reducible apply a0o (nn 1));rfl;kernel_rfl;exact (fun _ _ _ h=>h);exact hH;rfl;(intro wd hd;replace hd:St _ _ wd _:=hd;(apply Ld.st a7;rfl;exact hd.blkR 0 rfl;rfl));rfl)
  ((with_reducible apply q7 (nn 2) a7);rfl;kernel_rfl;exact (fun _ _ _ h=>h);exact hH;rfl;rfl)
  refine t5 (i:=3) (by kernel_rfl) ?_;refine y5 (Φ:=fun _ w'=>St _ _ w' _) rfl (n8 hS a7 (i:=2) rfl rfl rfl rfl rfl (xg2 rfl) (xc7.1 rfl)) ?_;intro _ w' hS';simp only [List.set] at hS';clear hS;have hS:=hS';clear hS';refine ⟨(hS.sub (.cons_cons _ (xj6 _))),?_⟩;refine t5 (i:=4) (by kernel_rfl) ?_;refine y5 (Φ:=fun _ w'=>St _ _ w' _) rfl (n8 hS a7 (i:=1) rfl rfl rfl rfl rfl (xg2 rfl) (xc7.1 rfl)) ?_;intro _ w' hS';simp only [List.set] at hS';clear hS;have hS:=hS';clear hS';refine ⟨(hS.sub (.cons_cons _ (xj6 _))),?_⟩;have hH:St nF w w' [.blk g14 [.int .i64 (w8 (m6 K space.toNat) addr s.length 1).1,.int .i64 (w8 (m6 K space.toNat) addr s.length 1).2]]:=hS.sub (.cons_cons _ (xj6 _))
  ((with_reducible apply q7 (nn 5) a7);rfl;kernel_rfl;exact (fun _ _ _ h=>h);exact hH;rfl;rfl)
  refine a0G (by kernel_rfl) ?_
  repeat' ((refine yDn (by with_reducible constructor) ?_))
  (apply a3M;repeat (first|exact ResL.nil|apply ResL.tmp;rfl|apply ResL.cell;rfl;(apply Ld.st a7;rfl;(first|exact hS.blkR 1 rfl|exact hS.blkR 2 rfl);rfl)))
  refine ⟨kv0,?_,?_,xd6 ⟨rfl,hS.sub (xj6 _)⟩⟩
  ·unfold a27;rw [xf0 he,he];rfl
  ·unfold a2J;rw [xf1 (fun h=>hf h.2)];rfl
 have hkv:KerV w2 k':=(WkV.own (Γ:=[]) (by rw [List.append_nil];exact hS')).ker;obtain ⟨hr0,hs1,hs8,-,ha1,ha2,hat⟩:=a6j he hsp (by rw [hsp] at hf;exact hf);obtain ⟨hrt,-,hpres⟩:=a3R hr0 (sp:=sp) (by omega) hs1 hs8 hat (decide ((1:Int)=1));rw [<- hk'] at hrt hpres;obtain ⟨a,rfl⟩:∃ a:Nat,addr=(a:Nat):=⟨addr.toNat,by omega⟩;replace hS:=hS.trans hS';clear hS' hre;replace hS:=hS.perm xm9;dsimp only [List.cons_append,List.nil_append] at hS
 repeat' (first|(with_reducible apply a8 a7);rfl;rfl;rfl|(with_reducible apply a9);rfl;(apply Ld.sc a7;rfl;exact hS.blkC 3 rfl rfl);rfl|refine yDn (by with_reducible constructor) ?_|(with_reducible apply f8);rfl;rfl|(with_reducible apply d7 hS a7);rfl;rfl;rfl;clear hS;intro g w' hS|(with_reducible apply b8 hS a7 (i:=0));(iterate 8 rfl);exact (rfl:_=[_,_]);clear hS;intro w' hS;simp only [List.set] at hS|(with_reducible apply a76 (by kernel_rfl));rfl;rfl;rfl)
 obtain ⟨x,hx,-⟩:=a4h (k:=k') (sp:=sp) (page:=((a:Nat) + (0:Int)) / 16) (by
  have h:=hat 0 (by omega) (by omega);have hsm:=(a3R hr0 (sp:=sp) (by omega) hs1 hs8 hat (decide ((1:Int)=1))).2.1;rw [hk'];exact h.same hsm.ar hsm.live)
 replace hS:=hS.perm perm5;have hea:=b2Y (a:=a) (s:=s) hS (KRo.ownG hS) hrt hx (by omega) (by omega) (fun i hi=>hpres (i:Nat) (by omega) (by omega));refine a5q (first:=[]) (caps:=[]) rfl rfl hea rfl ?_;clear hea;rintro _ w3 ⟨rfl,h3⟩;replace hS:=(St.transM (Δ:=.blk _ _::wkS gw (kvS k' sp a s s.length) sp vh held) hS h3).perm perm5.symm;clear h3;obtain ⟨sh',fr',sl',sps',hand',vsh',vfr',vsl',vsp'⟩:=k';obtain ⟨m1,m2,m3,m4,-⟩:=hkv;dsimp only at m1 m2 m3 m4;obtain ⟨q1,d1,rfl⟩:=m1.sl.len;obtain ⟨q2,d2,rfl⟩:=m2.len;obtain ⟨q3,d3,rfl⟩:=m3.len;obtain ⟨q4,d4,rfl⟩:=m4.len
 repeat' ((refine yDn (by with_reducible constructor) ?_))
 unfold wkS at hS;dsimp only [List.cons_append] at hS;refine a6g (fun w'=>St nF w w' [.blk g [.int .i64 0,.int .i64 0],.blk gw [.slice q1 sh'.length d1,.slice q2 fr'.length d2,.slice q3 sl'.length d3,.slice q4 sps'.length d4,.int .i64 hand',.int .i64 (sp:Nat),vh]]) 9 rfl hS (by kernel_rfl) ?_;intro w1 hS';clear hS;have hS:=hS';clear hS';have hH:St nF w w1 [.blk g [.int .i64 0,.int .i64 0],.blk gw [.slice q1 sh'.length d1,.slice q2 fr'.length d2,.slice q3 sl'.length d3,.slice q4 sps'.length d4,.int .i64 hand',.int .i64 (sp:Nat),vh]]:=hS.sub (.cons_cons _ (.cons _ (.cons _ (.cons _ (.cons _ (.cons_cons _ (xj6 _)))))))
 ((with_reducible apply q7 (nn 0) a7);rfl;kernel_rfl;exact (fun _ _ _ h=>h);exact hH;rfl;rfl)
 ((with_reducible apply q7 (nn 1) a7);rfl;kernel_rfl;exact (fun _ _ _ h=>h);exact hH;rfl;rfl)
 ((with_reducible apply q7 (nn 2) a7);rfl;kernel_rfl;exact (fun _ _ _ h=>h);exact hH;rfl;rfl)
 ((with_reducible apply a8b (nn 3));rfl;kernel_rfl;kernel_rfl;kernel_rfl;exact (fun _ _ _ h=>h);exact hH;rfl;(intro wd hd;replace hd:St _ _ wd _:=hd;(apply Ld.st a7;rfl;exact (hd.blkRk 1 0 5 rfl);rfl));rfl)
 ((with_reducible apply a0o (nn 4));rfl;kernel_rfl;exact (fun _ _ _ h=>h);exact hH;rfl;(intro wd hd;replace hd:St _ _ wd _:=hd;(apply Ld.st a7;rfl;exact hd.blkR 0 rfl;rfl));rfl)
 ((with_reducible apply q7 (nn 5) a7);rfl;kernel_rfl;exact (fun _ _ _ h=>h);exact hH;rfl;rfl)
 refine t5 (i:=6) (by kernel_rfl) ?_;simp only [xl7,xl8,xm2];refine y5 (Φ:=fun _ w'=>St _ _ w' _) rfl (n8 hS a7 (i:=2) rfl rfl rfl rfl rfl (xg2 rfl) (xc7.1 rfl)) ?_;intro _ w' hS';simp only [List.set] at hS';clear hS;have hS:=hS';clear hS';refine ⟨(hS.sub (.cons_cons _ (.cons _ (.cons _ (.cons _ (.cons _ (.cons_cons _ (xj6 _)))))))),?_⟩;refine t5 (i:=7) (by kernel_rfl) ?_;refine y5 (Φ:=fun _ w'=>St _ _ w' _) rfl (n8 hS a7 (i:=1) rfl rfl rfl rfl rfl (xg2 rfl) (xc7.1 rfl)) ?_;intro _ w' hS';simp only [List.set] at hS';clear hS;have hS:=hS';clear hS';refine ⟨(hS.sub (.cons_cons _ (.cons _ (.cons _ (.cons _ (.cons _ (.cons_cons _ (xj6 _)))))))),?_⟩;have hH:St nF w w' [.blk g [.int .i64 0,.int .i64 0],.blk gw [.slice q1 sh'.length d1,.slice q2 fr'.length d2,.slice q3 sl'.length d3,.slice q4 sps'.length d4,.int .i64 hand',.int .i64 (sp:Nat),vh]]:=hS.sub (.cons_cons _ (.cons _ (.cons _ (.cons _ (.cons _ (.cons_cons _ (xj6 _)))))))
 ((with_reducible apply q7 (nn 8) a7);rfl;kernel_rfl;exact (fun _ _ _ h=>h);exact hH;rfl;rfl)
 refine a0G (by kernel_rfl) ?_
 repeat' ((refine yDn (by with_reducible constructor) ?_))
 (apply a3M;repeat (first|exact ResL.nil|apply ResL.tmp;rfl|apply ResL.cell;rfl;(apply Ld.st a7;rfl;(first|exact hS.blkR 1 rfl|exact hS.blkR 2 rfl);rfl)))
 have hok:okR K space (a:Nat) s.length 1:=⟨he,hf⟩;refine ⟨kvS ⟨sh',fr',sl',sps',hand',.slice q1 sh'.length d1,.slice q2 fr'.length d2,.slice q3 sl'.length d3,.slice q4 sps'.length d4⟩ sp a s s.length,?_,?_,?_⟩
 ·rw [b14 hok,he];rfl
 ·rw [b5N,hk'];unfold a2J;rw [xf0 hok,hsp];rfl
 ·refine b5k (Γ:=[]) (g:=gw) (sp:=sp) (vh:=vh) (held:=held) ?_;rw [List.append_nil];exact hS.sub (.cons _ (.cons _ (.cons _ (.cons _ (.cons _ (.refl _))))))
section
variable {P:Program} {n:Nat} {ds:List Deferred} {E:Fr} {w:World} {Q:Exit->Act->World->Prop} {ops:Array Oper} {S:World->Prop} {fuel:Nat} {li:Array Bool} {d:Nat} {op:Op} {ty:TypeId} {pos:String} {after:Array Edge} {F:Nat->Prop} {w0:World} {Γ:List Asr} {T:Tab}
end
def okL (K:Ker) (space addr size way:Int):Prop:=okR K space addr size way/\way≠1
instance (K:Ker) (space addr size way:Int):Decidable (okL K space addr size way):=by unfold okL;infer_instance
theorem a7b {K:Ker} {space:Int} (h:a0S K space=0):Right K/\∃ sp:Nat,space=(sp:Nat)/\sp < K.spaces.length/\(a0l K sp).live=true:=by
 unfold a0S at h;by_cases h3:a07 K=0
 ·rw [xf0 h3] at h;by_cases h4:0<=space/\space < (K.spaces.length:Int)/\(a0l K space.toNat).live=true
  ·exact ⟨a35.1 h3,space.toNat,by omega,by omega,h4.2.2⟩
  ·rw [xf1 h4] at h;cases h
 ·rw [xf1 h3] at h;exact absurd h h3
end Go.Proofs.YtejnpppejalhfabGreat
