/- Texts that the proof stands on, one behind the other: LawFlS, Op1, OpA, OpK, OpF. -/
import Derived.Deep.Slices
import Derived.OpenShut
import Derived.WideShapes
import Derived.ProofKit
import Derived.Test.YtejnpppejalhfacGreatPFlatStarts10
set_option linter.unusedVariables false
set_option linter.unusedSimpArgs false
namespace Go.Proofs.YtejnpppejalhfacGreat
set_option maxRecDepth 100000
set_option maxHeartbeats 8000000
open Go.RowKit Go.Sort
theorem a3t {w:World} {A:List Ar} {Lp:List (Sh×Value)} {va vs:Value} {en:Int} (hA:Sl nF w 4 va (A.map arC)) (hL:ShsV w Lp vs) (hen:-9223372036854775808<=en) (hen2:en<=9223372036854775807) (slots:Int) {k:FlV} (hK:FlOk w k):Fn Tryz.prog 9 [lkA va vs en,.int .i64 slots,.agg (flC k).toArray] w (RBf (.bool true) w):=by
 have hnew:=fun w1 Γ1 (h:St nF w w1 Γ1)=>a50 (hA.now h) (hL.now h) hen hen2 (slots:=slots);have hne:=fun w1 Γ1 (h:St nF w w1 Γ1)=>a37 (hA.now h) (hL.now h) hen hen2 slots;have hnk:=fun w1 Γ1 (h:St nF w w1 Γ1) (h0:l8 A (shs Lp) en=0)=>a6o (hA.now h) (hL.now h) h0 (slots:=slots);have hck:=fun w1 (h:FlOk w1 k)=>a39 h;have hcr:=fun w1 (h:FlOk w1 k)=>a36 h;generalize p9 k=c at hck hcr;have hbg:=a3o;obtain ⟨pa,ca,rfl⟩:=hA.len;obtain ⟨ph,ch,rfl⟩:=hL.sl.len;unfold lkA at hnew hne hnk |-;have hz:a1Q A (shs Lp) en slots=0->l8 A (shs Lp) en=0:=fun h0=>by
  unfold a1Q at h0;by_cases h1:l8 A (shs Lp) en=0
  ·exact h1
  ·rw [xd9 h1] at h0;exact absurd h0 h1
 generalize a1Q A (shs Lp) en slots=e at hnew hne hz;have hd2:decide (c=c)=true:=xh7 rfl;have hd3:decide (e=e)=true:=xh7 rfl;obtain ⟨fs,fsp,fpr,fo,vsp,vpr,vo⟩:=k;have hK0:=hK;obtain ⟨k1,-,-,k4,k5⟩:=hK;dsimp only at k1 k4 k5;obtain ⟨p1,c1,rfl⟩:=k1.len;obtain ⟨p2,c2,rfl⟩:=k4.len;obtain ⟨p3,c3,rfl⟩:=k5.len;clear k1 k4 k5;unfold flC at hck hcr |-;dsimp only at hck hcr |-;refine yEn Tryz.func9 Tryz.ntmps9 (by kernel_rfl) (by kernel_rfl) rfl rfl ?_;have hS:=St.start w
 (repeat ((refine yDn (by with_reducible constructor) ?_)))
 (((with_reducible apply d8 hS);rfl;rfl;rfl);clear hS;intro g4 w' hS)
 (((with_reducible apply d8 hS);rfl;rfl;rfl);clear hS;intro g7 w' hS)
 repeat' (first|(with_reducible apply a5 a4);rfl;rfl;rfl|(with_reducible apply a6);rfl;(apply Ld.st a4;rfl;exact hS.blkR 1 rfl;rfl);rfl|refine yDn (by with_reducible constructor) ?_|(with_reducible apply a4q);rfl;rfl;rfl;refine ⟨_,hnew _ _ hS,?_⟩;rintro _ w2 ⟨f1,rfl,hf1,h1⟩)
 obtain ⟨f1s,f1sp,f1pr,f1o,f1a,f1b,f1c⟩:=f1;have hF:=h1;unfold fA at hF;dsimp only at hF;obtain ⟨f1x1,f1y1,rfl⟩:=hF.rowSlice 0 rfl;obtain ⟨f1x2,f1y2,rfl⟩:=hF.rowSlice 1 rfl;obtain ⟨f1x3,f1y3,rfl⟩:=hF.rowSlice 2 rfl;clear hF;obtain ⟨Δf1,hDf1,hV1⟩:=a6Q h1;replace hS:=(hS.trans hDf1).perm List.perm_append_comm;simp only [List.cons_append,List.nil_append,xe7] at hS;clear hDf1 h1;by_cases h0:e=0
 ·have hd:decide (e=0)=true:=xh7 h0;rw [xd8 h0] at hf1;have hnk:=fun w1 Γ1 h=>hnk w1 Γ1 h (hz h0)
  repeat' (first|(with_reducible apply a5 a4);rfl;rfl;rfl|(with_reducible apply a6);rfl;(apply Ld.st a4;rfl;(first|exact hS.blkR 2 rfl|exact hS.blkR 3 rfl);rfl);rfl|refine yDn (by with_reducible constructor) ?_|(with_reducible apply b8 hS a4);rfl;rfl;rfl;clear hS;intro g w' hS|(with_reducible apply b7 hS a4 (i:=0));(iterate 8 rfl);exact (rfl:_=[_,_,_,_]);clear hS;intro w' hS;simp only [List.set] at hS|(with_reducible apply b5 hS);rfl;rfl;rfl;refine ⟨_,hne _ _ hS,?_⟩;clear hS;intro w' hS|first|(with_reducible apply a9);rfl;assumption|(with_reducible apply a4q);rfl;rfl;rfl;refine ⟨_,hnk _ _ hS,?_⟩;rintro _ w2 ⟨f2,rfl,hf2,h2⟩)
  obtain ⟨f2s,f2sp,f2pr,f2o,f2a,f2b,f2c⟩:=f2;have hF:=h2;unfold fA at hF;dsimp only at hF;obtain ⟨f2x1,f2y1,rfl⟩:=hF.rowSlice 0 rfl;obtain ⟨f2x2,f2y2,rfl⟩:=hF.rowSlice 1 rfl;obtain ⟨f2x3,f2y3,rfl⟩:=hF.rowSlice 2 rfl;clear hF;obtain ⟨Δf2,hDf2,hV2⟩:=a6Q h2;replace hS:=(hS.trans hDf2).perm List.perm_append_comm;simp only [List.cons_append,List.nil_append,xe7] at hS;clear hDf2 h2;have hsm:=fun w1 h1 h2=>a13 (w:=w1) h1 h2 (hf1.trans hf2.symm);unfold flC at hsm |-;dsimp only at hsm |-
  repeat' (first|refine yDn (by with_reducible constructor) ?_|(with_reducible apply b7 hS a4 (i:=0));(iterate 8 rfl);exact (rfl:_=[_,_,_,_]);clear hS;intro w' hS;simp only [List.set] at hS)
  (focus ((with_reducible apply a8 _ _ _ (by kernel_rfl) (by kernel_rfl) hS);(repeat' (first|(first|(with_reducible apply i4 a4);rfl;rfl|(with_reducible apply i6);rfl;(intro wd hd;replace hd:St _ _ wd _:=hd;(apply Ld.st a4;rfl;(first|exact hd.blkR 0 rfl|exact hd.blkR 1 rfl|exact hd.blkR 2 rfl);rfl));rfl|(first|((with_reducible apply p7);(iterate 4 rfl);first|rfl|assumption)|(with_reducible apply l6);rfl;(first|rfl|assumption);rfl;rfl))|(with_reducible apply b9);rfl;rfl;rfl;refine ⟨_,fun wd hd=>hbg _,?_⟩|(with_reducible apply b9);rfl;rfl;rfl;refine ⟨_,fun wd hd=>hsm _ (hV1 hd (fun _ h=>by simp only [xb4,xd2,h,or_true,true_or])) (hV2 hd (fun _ h=>by simp only [xb4,xd2,h,or_true,true_or])),?_⟩|(with_reducible apply b9);rfl;rfl;rfl;refine ⟨_,fun wd hd=>hck _ (hK0.now hd),?_⟩|(with_reducible apply b9);rfl;rfl;rfl;refine ⟨_,fun wd hd=>hcr _ (hK0.now hd),?_⟩));all_goals ((with_reducible apply l3);intro w' hS';clear hS;have hS:=hS';clear hS')))
  repeat' ((refine yDn (by with_reducible constructor) ?_))
  (refine d4 rfl ?_)
  exact ⟨by rw [hd2],hS.sub (xh8 _)⟩
 ·have hd:decide (e=0)=false:=xh9 h0;rw [xd9 h0] at hf1;have hsm:=fun w1 h1=>a13 (w:=w1) h1 (b2f w1) hf1;unfold flC fl0 at hsm;dsimp only at hsm
  repeat' (first|(with_reducible apply a5 a4);rfl;rfl;rfl|(with_reducible apply a6);rfl;(apply Ld.st a4;rfl;exact hS.blkR 2 rfl;rfl);rfl|refine yDn (by with_reducible constructor) ?_|(with_reducible apply b8 hS a4);rfl;rfl;rfl;clear hS;intro g w' hS|(with_reducible apply b7 hS a4 (i:=0));(iterate 8 rfl);exact (rfl:_=[_,_,_,_]);clear hS;intro w' hS;simp only [List.set] at hS|(with_reducible apply b5 hS);rfl;rfl;rfl;refine ⟨_,hne _ _ hS,?_⟩;clear hS;intro w' hS|(with_reducible apply f8);rfl;assumption)
  (focus ((with_reducible apply a8 _ _ _ (by kernel_rfl) (by kernel_rfl) hS);(repeat' (first|(first|(with_reducible apply i4 a4);rfl;rfl|(with_reducible apply i6);rfl;(intro wd hd;replace hd:St _ _ wd _:=hd;(apply Ld.st a4;rfl;(first|exact hd.blkR 0 rfl|exact hd.blkR 1 rfl|exact hd.blkR 2 rfl);rfl));rfl|(first|((with_reducible apply p7);(iterate 4 rfl);first|rfl|assumption)|(with_reducible apply l6);rfl;(first|rfl|assumption);rfl;rfl))|(with_reducible apply b9);rfl;rfl;rfl;refine ⟨_,fun wd hd=>hbg _,?_⟩|(with_reducible apply b9);rfl;rfl;rfl;refine ⟨_,fun wd hd=>hsm _ (hV1 hd (fun _ h=>by simp only [xb4,xd2,h,or_true,true_or])),?_⟩|(with_reducible apply b9);rfl;rfl;rfl;refine ⟨_,fun wd hd=>hck _ (hK0.now hd),?_⟩|(with_reducible apply b9);rfl;rfl;rfl;refine ⟨_,fun wd hd=>hcr _ (hK0.now hd),?_⟩));all_goals ((with_reducible apply l3);intro w' hS';clear hS;have hS:=hS';clear hS')))
  repeat' ((refine yDn (by with_reducible constructor) ?_))
  (refine d4 rfl ?_)
  exact ⟨by rw [hd2],hS.sub (xh8 _)⟩
end Go.Proofs.YtejnpppejalhfacGreat
namespace Go.Proofs.YtejnpppejalhfacGreat
set_option maxRecDepth 100000
set_option maxHeartbeats 8000000
open Go.ChangeShapes Go.WideShapes Go.ChangeAt Go.RowKit Go.Deep
def a6W {α:Type} (R:α->List Value->Prop) (xs:List α) (rows:List (List Value)):Prop:=rows.length=xs.length/\∀ (i:Nat) (x:α) (r:List Value),xs[i]?=some x->rows[i]?=some r->R x r
section
variable {H:Type} {enc:TypeId×Value->H} {P:Program} {w:World} {base:Nat} {spare:Nat->Bool} {held:Bool}
theorem a9J {α:Type} [Inhabited α] {t e:TypeId} {fuel sz:Nat} {cs:List Value} {y:DataW H×List MemPlace} (ht:P.underlying t=some (.slice e)) (hsz:P.cellsOf e=sz) (hpos:0 < sz) (R:α->List Value->Prop) (hR1:∀ x r,R x r->r.all (·.oneCell')=true)
  (hR:∀ (n:Nat) (cs':List Value) (z:DataW H×List MemPlace),cs'.length=sz->DataW.trod enc P w base spare held n e cs'=some z->∃ x:α,R x cs') (h:DataW.trod enc P w base spare held fuel t cs=some y) :
  ∃ v xs rows,cs=[v]/\Sl nF w sz v rows/\a6W R xs rows/\v.oneCell'=true:=by
 rcases open_slice ht h with ⟨rfl,_⟩|⟨a,len,cap,m,n,D,Pl,rfl,hb,hl,hm,hmm,_,hx⟩
 ·exact ⟨_,[],[],rfl,xc7 ⟨_,_,rfl,rfl⟩,⟨rfl,fun i x r h=>by simp at h⟩,rfl⟩
 ·have hlm:len<=m:=by rw [hmm];split <;> omega
  rw [hsz] at hx;have key:∀ i,∃ r x,i < len->w.cells? base (a.add (i * sz)) sz=some r/\R x r/\r.length=sz:=fun i=>by
   by_cases hi:i < len
   ·obtain ⟨cs',h1,h2⟩:=hx i (by omega);have hl:=(World.cells?_some h1).2.1;obtain ⟨x,hr⟩:=hR n cs' _ hl h2;exact ⟨cs',x,fun _=>⟨h1,hr,hl⟩⟩
   ·exact ⟨[],default,fun h=>(hi h).elim⟩
  obtain ⟨r,hr⟩:=Classical.axiomOfChoice key;obtain ⟨x,hr⟩:=Classical.axiomOfChoice hr;refine ⟨_,(List.range len).map x,(List.range len).map r,rfl,?_,⟨by simp,fun i y r' h1 h2=>?_⟩,rfl⟩
  ·by_cases h0:len=0
   ·subst h0;exact xc7 ⟨_,_,rfl,rfl⟩
   ·obtain ⟨b,off,spot⟩:=a;have hcell:∀ i,i < len->∀ j,j < sz->w.cell? (((⟨b,off,spot⟩:Addr).add (i * sz)).add j)=(r i)[j]?:=fun i hi j hj=>(World.cells?_some (hr i hi).1).2.2 j hj;have h00:=hcell 0 (by omega) 0 hpos;obtain ⟨u0,hu0⟩:∃ u,(r 0)[0]?=some u:=⟨(r 0)[0]'(by rw [(hr 0 (by omega)).2.2];exact hpos),by simp⟩;rw [hu0] at h00;simp only [Nat.zero_mul,Addr.add,if_true] at h00;have hspot:spot=none:=by
     cases spot with
     |none=>rfl
     |some s=>simp [World.cell?] at h00;split at h00 <;> simp at h00
    subst hspot;have hbl:=World.block_lt_of_cell? w _ h00;refine xc4 ⟨b,off,cap,by simp,by simpa using hl,hm,⟨hbl,id,fun r' hr'=>?_,fun r' hr'=>?_,fun k r' hk j u hj=>?_⟩⟩
    ·obtain ⟨i,hi,rfl⟩:=xi0.1 hr';exact (hr i (by simpa using hi)).2.2
    ·obtain ⟨i,hi,rfl⟩:=xi0.1 hr';exact hR1 _ _ (hr i (by simpa using hi)).2.1
    ·have hk':k < len:=by have:=j8 hk;simpa using this
     simp [hk'] at hk;subst hk;have hjl:j < sz:=by have:=j8 hj;rwa [(hr k hk').2.2] at this
     have:=hcell k hk' j hjl;rw [hj] at this
     rwa [Addr.add_mid,Addr.add_mid] at this
  ·have hi:i < len:=by have:=j8 h1;simpa using this
   simp [hi] at h1 h2;subst h1 h2;exact (hr i hi).2.1
end
end Go.Proofs.YtejnpppejalhfacGreat
namespace Go.Proofs.YtejnpppejalhfacGreat
set_option maxRecDepth 100000
set_option maxHeartbeats 8000000
open Go.ChangeShapes Go.WideShapes Go.ChangeAt Go.RowKit
section
variable {H:Type} {enc:TypeId×Value->H} {W:World} {base b0:Nat} {sp:Nat->Bool} {held:Bool}
theorem cI {n:Nat} {t:TypeId} {c:Value} {o:Option (DataW H×List MemPlace)} (ht:(Tryz.prog).underlying t=some (.int .i64)) (h:DataW.trod enc Tryz.prog W base sp held n t [c]=o) (ho:o.isSome=true):∃ k:Int,c=.int .i64 k/\(Lit.int .i64 k).wf=true:=by
 obtain ⟨x,hx⟩:=xi1.1 ho;obtain ⟨k,hk,_,hw⟩:=DataW.trod_int ht (h.trans hx);simp only [List.cons.injEq,and_true] at hk;exact ⟨k,hk,hw⟩
theorem cB {n:Nat} {t:TypeId} {c:Value} {o:Option (DataW H×List MemPlace)} (ht:(Tryz.prog).underlying t=some .bool) (h:DataW.trod enc Tryz.prog W base sp held n t [c]=o) (ho:o.isSome=true):∃ b:Bool,c=.bool b:=by
 obtain ⟨x,hx⟩:=xi1.1 ho;obtain ⟨b,hb,_⟩:=DataW.trod_bool ht (h.trans hx);simp only [List.cons.injEq,and_true] at hb;exact ⟨b,hb⟩
theorem cS {n:Nat} {t:TypeId} {c:Value} {o:Option (DataW H×List MemPlace)} (ht:(Tryz.prog).underlying t=some .string) (h:DataW.trod enc Tryz.prog W base sp held n t [c]=o) (ho:o.isSome=true):∃ l:List UInt8,c=.string ⟨l.toArray⟩/\l.length<=maxLen:=by
 obtain ⟨x,hx⟩:=xi1.1 ho;obtain ⟨s,hs,_,hl⟩:=DataW.trod_string ht (h.trans hx);simp only [List.cons.injEq,and_true] at hs;obtain ⟨⟨l⟩⟩:=s;exact ⟨l,hs,by simpa [ByteArray.size] using hl⟩
theorem gS {α:Type} {l:List α} {i:Nat} (h:i < l.length):(l[i]?).isSome=true:=by simp [h]
theorem a0I:(Tryz.prog).cellsOf 3=1:=by kernel_rfl
theorem a6N:(Tryz.prog).cellsOf 4=1:=by kernel_rfl
theorem a2a:(Tryz.prog).cellsOf 9=1:=by kernel_rfl
theorem a61:(Tryz.prog).cellsOf 136=4:=by kernel_rfl
instance:Inhabited Ar:=⟨⟨0,0,0,false⟩⟩
theorem a3u {n:Nat} {cs:List Value} {z:DataW H×List MemPlace} (hl:cs.length=4) (h:DataW.trod enc Tryz.prog W base sp held n 136 cs=some z):∃ a:Ar,cs=arC a:=by
 match cs,hl with
 |[c0,c1,c2,c3],_=>
  obtain ⟨xs,n,_,_,_,hl,hf⟩:=DataW.trod_struct Tryz.underlying136 h;have f0:=hf 0 _ rfl;have f1:=hf 1 _ rfl;have f2:=hf 2 _ rfl;have f3:=hf 3 _ rfl;simp only [xi2,xi3,xi4,a0I,a6N,xi5,xi6,xi7,xi8] at f0 f1 f2 f3;have hl:xs.length=4:=hl;obtain ⟨k0,rfl,_⟩:=cI Tryz.underlying3 f0 (gS (by omega));obtain ⟨k1,rfl,_⟩:=cI Tryz.underlying3 f1 (gS (by omega));obtain ⟨k2,rfl,_⟩:=cI Tryz.underlying3 f2 (gS (by omega));obtain ⟨k3,rfl⟩:=cB Tryz.underlying4 f3 (gS (by omega));exact ⟨⟨k0,k1,k2,k3⟩,rfl⟩
end
section
variable {H:Type} {enc:TypeId×Value->H} {W:World} {base b0:Nat} {sp:Nat->Bool} {held:Bool}
instance:Inhabited Fx:=⟨⟨0,[]⟩⟩
instance:Inhabited Sh:=⟨⟨0,[],[]⟩⟩
theorem b10:(Tryz.prog).cellsOf 156=2:=by kernel_rfl
theorem a8j:(Tryz.prog).cellsOf 142=3:=by kernel_rfl
theorem a8s:(Tryz.prog).cellsOf 140=1:=by kernel_rfl
theorem a4D:(Tryz.prog).cellsOf 39=1:=by kernel_rfl
theorem a7M:(Tryz.prog).cellsOf 22=1:=by kernel_rfl
theorem a68:(Tryz.prog).cellsOf 41=3:=by kernel_rfl
theorem a4E {α:Type} {f:α->List Value} {G:α->Prop} {xs:List α} {rows:List (List Value)} (h:a6W (fun a r=>r=f a/\G a) xs rows):rows=xs.map f/\∀ x ∈ xs,G x:=by
 obtain ⟨h1,h2⟩:=h;refine ⟨?_,fun x hx=>?_⟩
 ·apply xf6;intro i;rw [xg0];by_cases hi:i < xs.length
  ·rw [xd1 hi,xd1 (by omega)];simp only [xg1,Option.some.injEq];exact (h2 i _ _ (xd1 hi) (xd1 (by omega))).1
  ·rw [xg2 (by omega),xg2 (by omega)];rfl
 ·obtain ⟨i,hi⟩:=xc9.1 hx;have hl:=j8 hi;exact (h2 i x _ hi (xd1 (by rw [h1];exact hl))).2
theorem cc1 {c v:Value} (h:[c]=[v]):c=v:=by simpa using h
theorem a8b {n:Nat} {cs:List Value} {z:DataW H×List MemPlace} (hl:cs.length=2) (h:DataW.trod enc Tryz.prog W base sp held n 156 cs=some z):∃ f:Fx,cs=fxC f:=by
 match cs,hl with
 |[c0,c1],_=>
  obtain ⟨xs,n,_,_,_,hl,hf⟩:=DataW.trod_struct Tryz.underlying156 h;have f0:=hf 0 _ rfl;have f1:=hf 1 _ rfl;simp only [xi2,xi3,xi4,a0I,a2a,xi5,xi6,xi7,xi8] at f0 f1;have hl:xs.length=2:=hl;obtain ⟨k0,rfl,_⟩:=cI Tryz.underlying3 f0 (gS (by omega));obtain ⟨l1,rfl,_⟩:=cS Tryz.underlying9 f1 (gS (by omega));exact ⟨⟨k0,l1⟩,rfl⟩
theorem z8 {α:Type} [Inhabited α] {n:Nat} {t e sz:Nat} {c:Value} {o:Option (DataW H×List MemPlace)} (ht:(Tryz.prog).underlying t=some (.slice e)) (hsz:(Tryz.prog).cellsOf e=sz) (hpos:0 < sz) (f:α->List Value) (G:α->Prop) (h1:∀ x,(f x).all (·.oneCell')=true\/¬ G x)
  (hR:∀ (n:Nat) (cs':List Value) (z:DataW H×List MemPlace),cs'.length=sz->DataW.trod enc Tryz.prog W base sp held n e cs'=some z->∃ x:α,cs'=f x/\G x) (h:DataW.trod enc Tryz.prog W base sp held n t [c]=o) (ho:o.isSome=true):∃ xs:List α,Sl nF W sz c (xs.map f)/\(∀ x ∈ xs,G x)/\c.oneCell'=true:=by
 obtain ⟨x,hx⟩:=xi1.1 ho;obtain ⟨v,xs,rows,hv,hsl,hra,hone⟩:=a9J ht hsz hpos (fun (a:α) r=>r=f a/\G a) (fun x r h=>by
  obtain ⟨rfl,hg⟩:=h;rcases h1 x with h|h
  ·exact h
  ·exact absurd hg h) (fun n cs' z hl hz=>hR n cs' z hl hz) (h.trans hx)
 obtain rfl:=cc1 hv;obtain ⟨rfl,hg⟩:=a4E hra;exact ⟨xs,hsl,hg,hone⟩
theorem a4U {n:Nat} {cs:List Value} {z:DataW H×List MemPlace} (hl:cs.length=3) (h:DataW.trod enc Tryz.prog W base sp held n 142 cs=some z):∃ x:Sh×Value,cs=shC x.1 x.2/\ShV W x.1 x.2/\x.2.oneCell'=true:=by
 match cs,hl with
 |[c0,c1,c2],_=>
  obtain ⟨xs,n,_,_,_,hl,hf⟩:=DataW.trod_struct Tryz.underlying142 h;have f0:=hf 0 _ rfl;have f1:=hf 1 _ rfl;have f2:=hf 2 _ rfl;simp only [xi2,xi3,xi4,a0I,a2a,a8s,xi5,xi6,xi7,xi8] at f0 f1 f2;have hl:xs.length=3:=hl;obtain ⟨k0,rfl,_⟩:=cI Tryz.underlying3 f0 (gS (by omega));obtain ⟨l1,rfl,_⟩:=cS Tryz.underlying9 f1 (gS (by omega));obtain ⟨fs,h2,_,h3⟩:=z8 Tryz.underlying140 b10 (by decide) fxC (fun _=>True) (fun x=>xc7 rfl) (fun _ _ _ hl hz=>by obtain ⟨f,hf⟩:=a8b hl hz;exact ⟨f,hf,trivial⟩) f2 (gS (by omega));exact ⟨(⟨k0,l1,fs⟩,c2),rfl,h2,h3⟩
theorem a4b {n:Nat} {cs:List Value} {z:DataW H×List MemPlace} (hl:cs.length=3) (h:DataW.trod enc Tryz.prog W base sp held n 41 cs=some z):∃ (A:List Ar) (Lp:List (Sh×Value)) (va vs:Value) (en:Int),.agg cs.toArray=lkA va vs en/\Sl nF W 4 va (A.map arC)/\ShsV W Lp vs/\(-9223372036854775808<=en/\en<=9223372036854775807):=by
 match cs,hl with
 |[c0,c1,c2],_=>
  obtain ⟨xs,n,_,_,_,hl,hf⟩:=DataW.trod_struct Tryz.underlying41 h;have f0:=hf 0 _ rfl;have f1:=hf 1 _ rfl;have f2:=hf 2 _ rfl;simp only [xi2,xi3,xi4,a0I,a4D,a7M,xi5,xi6,xi7,xi8] at f0 f1 f2;have hl:xs.length=3:=hl;obtain ⟨A,h1,_,_⟩:=z8 Tryz.underlying39 a61 (by decide) arC (fun _=>True) (fun x=>xc7 rfl) (fun _ _ _ hl hz=>by obtain ⟨f,hf⟩:=a3u hl hz;exact ⟨f,hf,trivial⟩) f0 (gS (by omega));obtain ⟨Lp,h3,h4,_⟩:=z8 (α:=Sh×Value) Tryz.underlying22 a8j (by decide) (fun x=>shC x.1 x.2) (fun x=>ShV W x.1 x.2/\x.2.oneCell'=true) (fun x=>by
   by_cases hx:x.2.oneCell'=true
   ·left;unfold shC;simp only [xi9,xj0,xj1,hx];rfl
   ·exact xc4 fun h=>hx h.2) (fun _ _ _ hl hz=>by obtain ⟨x,hx,h2,h3⟩:=a4U hl hz;exact ⟨x,hx,h2,h3⟩) f1 (gS (by omega))
  obtain ⟨k2,rfl,hw⟩:=cI Tryz.underlying3 f2 (gS (by omega));exact ⟨A,Lp,c0,c1,k2,rfl,h1,⟨h3,fun p hp=>(h4 p hp).1⟩,by simpa [Lit.wf,IntKind.min,IntKind.max,IntKind.signed,IntKind.bits] using hw⟩
theorem a4W {v:Value} {d:DataW H} {ps:List MemPlace} (hval:Value.okWide Tryz.prog W .any b0 41 v) (h:DataW.Trod enc Tryz.prog W base sp held 41 v d ps):∃ (A:List Ar) (Lp:List (Sh×Value)) (va vs:Value) (en:Int),v=lkA va vs en/\Sl nF W 4 va (A.map arC)/\ShsV W Lp vs/\(-9223372036854775808<=en/\en<=9223372036854775807):=by
 obtain ⟨cs,rfl,hsz⟩:=okWide_struct Tryz.underlying41 hval;obtain ⟨fuel,hf⟩:=h;have hc:(Value.agg cs).cells=cs:=rfl;rw [hc] at hf;have hlen:cs.toList.length=3:=by rw [xf5,hsz,a68]
 obtain ⟨A,Lp,va,vs,en,h1,h2⟩:=a4b hlen hf;rw [xc3] at h1;exact ⟨A,Lp,va,vs,en,h1,h2⟩
end
section
variable {H:Type} {enc:TypeId×Value->H} {W:World} {base b0:Nat} {sp:Nat->Bool} {held:Bool}
instance:Inhabited Wd:=⟨⟨0,0⟩⟩
instance:Inhabited Fp:=⟨⟨0,[]⟩⟩
instance:Inhabited Pc:=⟨⟨0,0,0,0,0,0,0,0,0,0,0,0,0⟩⟩
instance:Inhabited Fs:=⟨⟨false,[],[]⟩⟩
theorem a9D:(Tryz.prog).cellsOf 120=2:=by kernel_rfl
theorem b0O:(Tryz.prog).cellsOf 123=13:=by kernel_rfl
theorem a9A:(Tryz.prog).cellsOf 121=8:=by kernel_rfl
theorem a8K:(Tryz.prog).cellsOf 99=2:=by kernel_rfl
theorem a9v:(Tryz.prog).cellsOf 145=2:=by kernel_rfl
theorem a7c:(Tryz.prog).cellsOf 139=3:=by kernel_rfl
theorem a97:(Tryz.prog).cellsOf 63=4:=by kernel_rfl
theorem a8t:(Tryz.prog).cellsOf 43=1:=by kernel_rfl
theorem a8E:(Tryz.prog).cellsOf 42=1:=by kernel_rfl
theorem a7o:(Tryz.prog).cellsOf 137=1:=by kernel_rfl
theorem a6a:(Tryz.prog).cellsOf 61=1:=by kernel_rfl
def a0T (k:Int):Prop:=-9223372036854775808<=k/\k<=9223372036854775807
theorem t7 {k:Int} (h:(Lit.int .i64 k).wf=true):a0T k:=by simpa [a0T,Lit.wf,IntKind.min,IntKind.max,IntKind.signed,IntKind.bits] using h
def pcB (p:Pc):Prop:=((a0T p.r0/\a0T p.r1/\a0T p.r2/\a0T p.r3)/\(a0T p.r4/\a0T p.r5/\a0T p.r6/\a0T p.r7))/\a0T p.pc/\a0T p.state/\a0T p.code/\a0T p.fk/\a0T p.fa
theorem a5G {n:Nat} {cs:List Value} {z:DataW H×List MemPlace} (hl:cs.length=2) (h:DataW.trod enc Tryz.prog W base sp held n 120 cs=some z):∃ x:Wd,cs=wdC x:=by
 match cs,hl with
 |[c0,c1],_=>
  obtain ⟨xs,n,_,_,_,hl,hf⟩:=DataW.trod_struct Tryz.underlying120 h;have f0:=hf 0 _ rfl;have f1:=hf 1 _ rfl;simp only [xi2,xi3,xi4,a0I,xi5,xi6,xi7,xi8] at f0 f1;have hl:xs.length=2:=hl;obtain ⟨k0,rfl,_⟩:=cI Tryz.underlying3 f0 (gS (by omega));obtain ⟨k1,rfl,_⟩:=cI Tryz.underlying3 f1 (gS (by omega));exact ⟨⟨k0,k1⟩,rfl⟩
theorem a4P {n:Nat} {cs:List Value} {z:DataW H×List MemPlace} (hl:cs.length=2) (h:DataW.trod enc Tryz.prog W base sp held n 145 cs=some z):∃ x:Fp,cs=fpC x/\a0T x.page:=by
 match cs,hl with
 |[c0,c1],_=>
  obtain ⟨xs,n,_,_,_,hl,hf⟩:=DataW.trod_struct Tryz.underlying145 h;have f0:=hf 0 _ rfl;have f1:=hf 1 _ rfl;simp only [xi2,xi3,xi4,a0I,a2a,xi5,xi6,xi7,xi8] at f0 f1;have hl:xs.length=2:=hl;obtain ⟨k0,rfl,w0⟩:=cI Tryz.underlying3 f0 (gS (by omega));obtain ⟨l1,rfl,_⟩:=cS Tryz.underlying9 f1 (gS (by omega));exact ⟨⟨k0,l1⟩,rfl,t7 w0⟩
theorem a5z {n:Nat} {cs:List Value} {z:DataW H×List MemPlace} (hl:cs.length=13) (h:DataW.trod enc Tryz.prog W base sp held n 123 cs=some z):∃ p:Pc,cs=prC p/\pcB p:=by
 match cs,hl with
 |[c0,c1,c2,c3,c4,c5,c6,c7,c8,c9,c10,c11,c12],_=>
  obtain ⟨xs,n,_,_,_,hl,hf⟩:=DataW.trod_struct Tryz.underlying123 h;have f0:=hf 0 _ rfl;have f1:=hf 1 _ rfl;have f2:=hf 2 _ rfl;have f3:=hf 3 _ rfl;have f4:=hf 4 _ rfl;simp only [xi2,xi3,xi4,a0I,a9A,a8K,xi5,xi6,xi7,xi8] at f0 f1 f2 f3 f4;have hl:xs.length=5:=hl;obtain ⟨k8,rfl,w8⟩:=cI Tryz.underlying3 f1 (gS (by omega));obtain ⟨k9,rfl,w9⟩:=cI Tryz.underlying3 f2 (gS (by omega));obtain ⟨k10,rfl,w10⟩:=cI Tryz.underlying3 f3 (gS (by omega));obtain ⟨y0,hy0⟩:=xi1.1 (gS (l:=xs) (i:=0) (by omega));obtain ⟨y4,hy4⟩:=xi1.1 (gS (l:=xs) (i:=4) (by omega));obtain ⟨zs,m,_,_,_,hm,hg⟩:=DataW.trod_array Tryz.underlying121 (f0.trans hy0);obtain ⟨us,q,_,_,_,hu,hh⟩:=DataW.trod_struct Tryz.underlying99 (f4.trans hy4);have g0:=hg 0 (by omega);have g1:=hg 1 (by omega);have g2:=hg 2 (by omega);have g3:=hg 3 (by omega);have g4:=hg 4 (by omega);have g5:=hg 5 (by omega);have g6:=hg 6 (by omega);have g7:=hg 7 (by omega);have h0:=hh 0 _ rfl;have h1:=hh 1 _ rfl;simp only [xi2,xi3,xi4,a0I,Nat.zero_mul,Nat.mul_one,xi5,xi6,xi7,xi8] at g0 g1 g2 g3 g4 g5 g6 g7 h0 h1;have hu:us.length=2:=hu;obtain ⟨r0,rfl,v0⟩:=cI Tryz.underlying3 g0 (gS (by omega));obtain ⟨r1,rfl,v1⟩:=cI Tryz.underlying3 g1 (gS (by omega));obtain ⟨r2,rfl,v2⟩:=cI Tryz.underlying3 g2 (gS (by omega));obtain ⟨r3,rfl,v3⟩:=cI Tryz.underlying3 g3 (gS (by omega));obtain ⟨r4,rfl,v4⟩:=cI Tryz.underlying3 g4 (gS (by omega));obtain ⟨r5,rfl,v5⟩:=cI Tryz.underlying3 g5 (gS (by omega));obtain ⟨r6,rfl,v6⟩:=cI Tryz.underlying3 g6 (gS (by omega));obtain ⟨r7,rfl,v7⟩:=cI Tryz.underlying3 g7 (gS (by omega));obtain ⟨k11,rfl,w11⟩:=cI Tryz.underlying3 h0 (gS (by omega));obtain ⟨k12,rfl,w12⟩:=cI Tryz.underlying3 h1 (gS (by omega));exact ⟨⟨r0,r1,r2,r3,r4,r5,r6,r7,k8,k9,k10,k11,k12⟩,rfl,⟨⟨t7 v0,t7 v1,t7 v2,t7 v3⟩,t7 v4,t7 v5,t7 v6,t7 v7⟩,t7 w8,t7 w9,t7 w10,t7 w11,t7 w12⟩
theorem a4e {n:Nat} {cs:List Value} {z:DataW H×List MemPlace} (hl:cs.length=3) (h:DataW.trod enc Tryz.prog W base sp held n 139 cs=some z):∃ x:Fs×Value×Value,cs=fsC x/\Sl nF W 4 x.2.1 (x.1.areas.map arC)/\Sl nF W 2 x.2.2 (x.1.pages.map fpC)/\x.2.1.oneCell'=true/\x.2.2.oneCell'=true:=by
 match cs,hl with
 |[c0,c1,c2],_=>
  obtain ⟨xs,n,_,_,_,hl,hf⟩:=DataW.trod_struct Tryz.underlying139 h;have f0:=hf 0 _ rfl;have f1:=hf 1 _ rfl;have f2:=hf 2 _ rfl;simp only [xi2,xi3,xi4,a6N,a4D,a7o,xi5,xi6,xi7,xi8] at f0 f1 f2;have hl:xs.length=3:=hl;obtain ⟨b0,rfl⟩:=cB Tryz.underlying4 f0 (gS (by omega));obtain ⟨A,h1,_,o1⟩:=z8 Tryz.underlying39 a61 (by decide) arC (fun _=>True) (fun x=>xc7 rfl) (fun _ _ _ hl hz=>by obtain ⟨f,hf⟩:=a3u hl hz;exact ⟨f,hf,trivial⟩) f1 (gS (by omega));obtain ⟨E,h2,_,o2⟩:=z8 Tryz.underlying137 a9v (by decide) fpC (fun _=>True) (fun x=>xc7 rfl) (fun _ _ _ hl hz=>by obtain ⟨f,hf,_⟩:=a4P hl hz;exact ⟨f,hf,trivial⟩) f2 (gS (by omega));exact ⟨(⟨b0,A,E⟩,c1,c2),rfl,h1,h2,o1,o2⟩
theorem a5D {n:Nat} {cs:List Value} {z:DataW H×List MemPlace} (hl:cs.length=4) (h:DataW.trod enc Tryz.prog W base sp held n 63 cs=some z):∃ f:FlV,cs=flC f/\FlOk W f/\a0T f.slots/\∀ p ∈ f.pr,pcB p:=by
 match cs,hl with
 |[c0,c1,c2,c3],_=>
  obtain ⟨xs,n,_,_,_,hl,hf⟩:=DataW.trod_struct Tryz.underlying63 h;have f0:=hf 0 _ rfl;have f1:=hf 1 _ rfl;have f2:=hf 2 _ rfl;have f3:=hf 3 _ rfl;simp only [xi2,xi3,xi4,a0I,a6a,a8E,a8t,xi5,xi6,xi7,xi8] at f0 f1 f2 f3;have hl:xs.length=4:=hl;obtain ⟨k0,rfl,w0⟩:=cI Tryz.underlying3 f0 (gS (by omega));obtain ⟨X,h7,h8,_⟩:=z8 (α:=Fs×Value×Value) Tryz.underlying61 a7c (by decide) fsC (fun x=>Sl nF W 4 x.2.1 (x.1.areas.map arC)/\Sl nF W 2 x.2.2 (x.1.pages.map fpC)/\x.2.1.oneCell'=true/\x.2.2.oneCell'=true) (fun x=>by
   by_cases hx:x.2.1.oneCell'=true/\x.2.2.oneCell'=true
   ·left;unfold fsC;simp only [xi9,xj0,xj1,hx.1,hx.2];rfl
   ·exact xc4 fun h=>hx h.2.2) (fun _ _ _ hl hz=>by obtain ⟨x,hx,h2,h3⟩:=a4e hl hz;exact ⟨x,hx,h2,h3⟩) f1 (gS (by omega))
  obtain ⟨F,h5,g5,_⟩:=z8 Tryz.underlying42 b0O (by decide) prC pcB (fun x=>xc7 rfl) (fun _ _ _ hl hz=>by obtain ⟨f,hf,hg⟩:=a5z hl hz;exact ⟨f,hf,hg⟩) f2 (gS (by omega));obtain ⟨S,h6,_,_⟩:=z8 Tryz.underlying43 a9D (by decide) wdC (fun _=>True) (fun x=>xc7 rfl) (fun _ _ _ hl hz=>by obtain ⟨f,hf⟩:=a5G hl hz;exact ⟨f,hf,trivial⟩) f3 (gS (by omega));exact ⟨⟨k0,X,F,S,c1,c2,c3⟩,rfl,⟨h7,fun p hp=>(h8 p hp).1,fun p hp=>(h8 p hp).2.1,h5,h6⟩,t7 w0,g5⟩
theorem a7r {v:Value} {d:DataW H} {ps:List MemPlace} (hval:Value.okWide Tryz.prog W .any b0 63 v) (h:DataW.Trod enc Tryz.prog W base sp held 63 v d ps):∃ f:FlV,v=.agg (flC f).toArray/\FlOk W f/\a0T f.slots/\∀ p ∈ f.pr,pcB p:=by
 obtain ⟨cs,rfl,hsz⟩:=okWide_struct Tryz.underlying63 hval;obtain ⟨fuel,hf⟩:=h;have hc:(Value.agg cs).cells=cs:=rfl;rw [hc] at hf;have hlen:cs.toList.length=4:=by rw [xf5,hsz,a97]
 obtain ⟨k,h1,h2⟩:=a5D hlen hf;exact ⟨k,by rw [<- h1,xc3],h2⟩
end
end Go.Proofs.YtejnpppejalhfacGreat
