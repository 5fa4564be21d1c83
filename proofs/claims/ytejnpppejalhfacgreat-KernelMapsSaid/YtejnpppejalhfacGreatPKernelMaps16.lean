/- Texts that the proof stands on, one behind the other: LawMaps, Op1, OpA, OpK, OpR. -/
import Derived.Deep.Slices
import Derived.OpenShut
import Derived.WideShapes
import Derived.ProofKit
import Derived.Test.YtejnpppejalhfacGreatPKernelMaps15
set_option linter.unusedVariables false
set_option linter.unusedSimpArgs false
namespace Go.Proofs.YtejnpppejalhfacGreat
set_option maxRecDepth 100000
set_option maxHeartbeats 8000000
open Go.RowKit Go.Sort
theorem a6m {w:World} {k:KV} (hK:KerV w k) (space page pages prot:Int):Fn Tryz.prog 4 [.agg (kvC k).toArray,.int .i64 space,.int .i64 page,.int .i64 pages,.int .i64 prot] w (RBf (.bool true) w):=by
 have ha:=fun w1 (h:KerV w1 k)=>b5i h space page pages prot;have hb:=fun w1 (h:KerV w1 k)=>b1i h space page pages;have hc:=fun w1 (h:KerV w1 k)=>a8o h space page pages prot;have hx:=fun w1 (h:KerV w1 k)=>b2K h space page pages prot;have hy:=fun w1 (h:KerV w1 k)=>a9m h space page pages;have hz:=fun w1 (h:KerV w1 k)=>a7E h space page pages prot;generalize arE k.K space (fun A=>a0s A page pages prot)=e1 at ha hx;generalize arE k.K space (fun A=>r5 A page pages)=e2 at hb hy;generalize arE k.K space (fun A=>t7 A page pages prot)=e3 at hc hz;generalize arR k.K space (fun A=>a0s A page pages prot)=K1 at ha hx;generalize unR k.K space page pages=K2 at hb hy;generalize arR k.K space (fun A=>t7 A page pages prot)=K3 at hc hz;have hbg:=a5b;have hd1:decide (e1=e1)=true:=xi8 rfl;have hd2:decide (e2=e2)=true:=xi8 rfl;have hd3:decide (e3=e3)=true:=xi8 rfl;obtain ⟨sh,fr,sl,sps,hand,vsh,vfr,vsl,vsp⟩:=k;have hK0:=hK;obtain ⟨k1,k2,k3,k4,k5⟩:=hK;dsimp only at k1 k2 k3 k4 k5;obtain ⟨p1,c1,rfl⟩:=k1.sl.len;obtain ⟨p2,c2,rfl⟩:=k2.len;obtain ⟨p3,c3,rfl⟩:=k3.len;obtain ⟨p4,c4,rfl⟩:=k4.len;unfold kvC at ha hb hc hx hy hz |-;dsimp only at ha hb hc hx hy hz |-;refine yEn Tryz.func4 Tryz.ntmps4 (by kernel_rfl) (by kernel_rfl) rfl rfl ?_;have hS:=St.start w
 repeat' (first|(with_reducible apply d5 c9);rfl;rfl;rfl|(with_reducible apply d6);rfl;(apply Ld.st c9;rfl;exact hS.blkR 0 rfl;rfl);rfl|refine yDn (by with_reducible constructor) ?_|(with_reducible apply j6 hS);rfl;rfl;rfl;clear hS;intro g w' hS|(with_reducible apply l9);rfl;rfl;rfl;refine ⟨_,ha _ (hK0.now hS),?_⟩;rintro _ w2 ⟨k1,rfl,hk1,hc1⟩)
 have hV:=hc1.V;obtain ⟨Δ1,hD1,hV1⟩:=(hc1).keep;replace hS:=(hS.trans hD1).perm xl8;simp only [List.cons_append,List.nil_append,xf4] at hS;clear hD1;obtain ⟨k1sh,k1fr,k1sl,k1sp,k1hand,k1vsh,k1vfr,k1vsl,k1vsp⟩:=k1;obtain ⟨k1m1,k1m2,k1m3,k1m4,-⟩:=hV;dsimp only at k1m1 k1m2 k1m3 k1m4;obtain ⟨k1x1,k1y1,rfl⟩:=k1m1.sl.len;obtain ⟨k1x2,k1y2,rfl⟩:=k1m2.len;obtain ⟨k1x3,k1y3,rfl⟩:=k1m3.len;obtain ⟨k1x4,k1y4,rfl⟩:=k1m4.len;clear k1m1 k1m2 k1m3 k1m4
 repeat' (first|(with_reducible apply d5 c9);rfl;rfl;rfl|(with_reducible apply d6);rfl;(apply Ld.st c9;rfl;exact hS.blkR 1 rfl;rfl);rfl|refine yDn (by with_reducible constructor) ?_|(with_reducible apply f5 hS c9);rfl;rfl;rfl;clear hS;intro g w' hS|(with_reducible apply d7 hS c9 (i:=0));(iterate 8 rfl);exact (rfl:_=[_,_,_,_,_]);clear hS;intro w' hS;simp only [List.set] at hS|(with_reducible apply l9);rfl;rfl;rfl;refine ⟨_,hb _ (hK0.now hS),?_⟩;rintro _ w2 ⟨k2,rfl,hk2,hc2⟩)
 have hV:=hc2.V;obtain ⟨Δ2,hD2,hV2⟩:=(hc2).keep;replace hS:=(hS.trans hD2).perm xl8;simp only [List.cons_append,List.nil_append,xf4] at hS;clear hD2;obtain ⟨k2sh,k2fr,k2sl,k2sp,k2hand,k2vsh,k2vfr,k2vsl,k2vsp⟩:=k2;obtain ⟨k2m1,k2m2,k2m3,k2m4,-⟩:=hV;dsimp only at k2m1 k2m2 k2m3 k2m4;obtain ⟨k2x1,k2y1,rfl⟩:=k2m1.sl.len;obtain ⟨k2x2,k2y2,rfl⟩:=k2m2.len;obtain ⟨k2x3,k2y3,rfl⟩:=k2m3.len;obtain ⟨k2x4,k2y4,rfl⟩:=k2m4.len;clear k2m1 k2m2 k2m3 k2m4
 repeat' (first|(with_reducible apply d5 c9);rfl;rfl;rfl|(with_reducible apply d6);rfl;(apply Ld.st c9;rfl;exact hS.blkR 2 rfl;rfl);rfl|refine yDn (by with_reducible constructor) ?_|(with_reducible apply f5 hS c9);rfl;rfl;rfl;clear hS;intro g w' hS|(with_reducible apply d7 hS c9 (i:=0));(iterate 8 rfl);exact (rfl:_=[_,_,_,_,_]);clear hS;intro w' hS;simp only [List.set] at hS|(with_reducible apply l9);rfl;rfl;rfl;refine ⟨_,hc _ (hK0.now hS),?_⟩;rintro _ w2 ⟨k3,rfl,hk3,hc3⟩)
 have hV:=hc3.V;obtain ⟨Δ3,hD3,hV3⟩:=(hc3).keep;replace hS:=(hS.trans hD3).perm xl8;simp only [List.cons_append,List.nil_append,xf4] at hS;clear hD3;obtain ⟨k3sh,k3fr,k3sl,k3sp,k3hand,k3vsh,k3vfr,k3vsl,k3vsp⟩:=k3;obtain ⟨k3m1,k3m2,k3m3,k3m4,-⟩:=hV;dsimp only at k3m1 k3m2 k3m3 k3m4;obtain ⟨k3x1,k3y1,rfl⟩:=k3m1.sl.len;obtain ⟨k3x2,k3y2,rfl⟩:=k3m2.len;obtain ⟨k3x3,k3y3,rfl⟩:=k3m3.len;obtain ⟨k3x4,k3y4,rfl⟩:=k3m4.len;clear k3m1 k3m2 k3m3 k3m4
 repeat' (first|(with_reducible apply d5 c9);rfl;rfl;rfl|(with_reducible apply d6);rfl;(apply Ld.st c9;rfl;exact hS.blkR 3 rfl;rfl);rfl|refine yDn (by with_reducible constructor) ?_|(with_reducible apply f5 hS c9);rfl;rfl;rfl;clear hS;intro g w' hS|(with_reducible apply d7 hS c9 (i:=0));(iterate 8 rfl);exact (rfl:_=[_,_,_,_,_]);clear hS;intro w' hS;simp only [List.set] at hS|(with_reducible apply l9);rfl;rfl;rfl;refine ⟨_,hx _ (hK0.now hS),?_⟩;rintro _ w2 ⟨k4,rfl,hk4,hc4⟩)
 have hV:=hc4.V;obtain ⟨Δ4,hD4,hV4⟩:=(hc4).keep;replace hS:=(hS.trans hD4).perm xl8;simp only [List.cons_append,List.nil_append,xf4] at hS;clear hD4;obtain ⟨k4sh,k4fr,k4sl,k4sp,k4hand,k4vsh,k4vfr,k4vsl,k4vsp⟩:=k4;obtain ⟨k4m1,k4m2,k4m3,k4m4,-⟩:=hV;dsimp only at k4m1 k4m2 k4m3 k4m4;obtain ⟨k4x1,k4y1,rfl⟩:=k4m1.sl.len;obtain ⟨k4x2,k4y2,rfl⟩:=k4m2.len;obtain ⟨k4x3,k4y3,rfl⟩:=k4m3.len;obtain ⟨k4x4,k4y4,rfl⟩:=k4m4.len;clear k4m1 k4m2 k4m3 k4m4
 repeat' (first|(with_reducible apply d5 c9);rfl;rfl;rfl|(with_reducible apply d6);rfl;(apply Ld.st c9;rfl;exact hS.blkR 4 rfl;rfl);rfl|refine yDn (by with_reducible constructor) ?_|(with_reducible apply f5 hS c9);rfl;rfl;rfl;clear hS;intro g w' hS|(with_reducible apply d7 hS c9 (i:=0));(iterate 8 rfl);exact (rfl:_=[_,_,_,_,_]);clear hS;intro w' hS;simp only [List.set] at hS|(with_reducible apply l9);rfl;rfl;rfl;refine ⟨_,hy _ (hK0.now hS),?_⟩;rintro _ w2 ⟨k5,rfl,hk5,hc5⟩)
 have hV:=hc5.V;obtain ⟨Δ5,hD5,hV5⟩:=(hc5).keep;replace hS:=(hS.trans hD5).perm xl8;simp only [List.cons_append,List.nil_append,xf4] at hS;clear hD5;obtain ⟨k5sh,k5fr,k5sl,k5sp,k5hand,k5vsh,k5vfr,k5vsl,k5vsp⟩:=k5;obtain ⟨k5m1,k5m2,k5m3,k5m4,-⟩:=hV;dsimp only at k5m1 k5m2 k5m3 k5m4;obtain ⟨k5x1,k5y1,rfl⟩:=k5m1.sl.len;obtain ⟨k5x2,k5y2,rfl⟩:=k5m2.len;obtain ⟨k5x3,k5y3,rfl⟩:=k5m3.len;obtain ⟨k5x4,k5y4,rfl⟩:=k5m4.len;clear k5m1 k5m2 k5m3 k5m4
 repeat' (first|(with_reducible apply d5 c9);rfl;rfl;rfl|(with_reducible apply d6);rfl;(apply Ld.st c9;rfl;exact hS.blkR 5 rfl;rfl);rfl|refine yDn (by with_reducible constructor) ?_|(with_reducible apply f5 hS c9);rfl;rfl;rfl;clear hS;intro g w' hS|(with_reducible apply d7 hS c9 (i:=0));(iterate 8 rfl);exact (rfl:_=[_,_,_,_,_]);clear hS;intro w' hS;simp only [List.set] at hS|(with_reducible apply l9);rfl;rfl;rfl;refine ⟨_,hz _ (hK0.now hS),?_⟩;rintro _ w2 ⟨k6,rfl,hk6,hc6⟩)
 have hV:=hc6.V;obtain ⟨Δ6,hD6,hV6⟩:=(hc6).keep;replace hS:=(hS.trans hD6).perm xl8;simp only [List.cons_append,List.nil_append,xf4] at hS;clear hD6;obtain ⟨k6sh,k6fr,k6sl,k6sp,k6hand,k6vsh,k6vfr,k6vsl,k6vsp⟩:=k6;obtain ⟨k6m1,k6m2,k6m3,k6m4,-⟩:=hV;dsimp only at k6m1 k6m2 k6m3 k6m4;obtain ⟨k6x1,k6y1,rfl⟩:=k6m1.sl.len;obtain ⟨k6x2,k6y2,rfl⟩:=k6m2.len;obtain ⟨k6x3,k6y3,rfl⟩:=k6m3.len;obtain ⟨k6x4,k6y4,rfl⟩:=k6m4.len;clear k6m1 k6m2 k6m3 k6m4;have hs1:=fun w1 h1 h2=>a14 (w:=w1) h1 h2 (hk1.trans hk4.symm);have hs2:=fun w1 h1 h2=>a14 (w:=w1) h1 h2 (hk2.trans hk5.symm);have hs3:=fun w1 h1 h2=>a14 (w:=w1) h1 h2 (hk3.trans hk6.symm);unfold kvC at hs1 hs2 hs3;dsimp only at hs1 hs2 hs3
 repeat' (first|(with_reducible apply d5 c9);rfl;rfl;rfl|(with_reducible apply d6);rfl;(apply Ld.st c9;rfl;(first|exact hS.blkR 0 rfl|exact hS.blkR 1 rfl|exact hS.blkR 2 rfl|exact hS.blkR 3 rfl|exact hS.blkR 4 rfl|exact hS.blkR 5 rfl);rfl);rfl|refine yDn (by with_reducible constructor) ?_|((with_reducible apply l8);(iterate 4 rfl);first|rfl|assumption)|(with_reducible apply j9);rfl;(first|rfl|assumption);rfl;rfl|(with_reducible apply f5 hS c9);rfl;rfl;rfl;clear hS;intro g w' hS|(with_reducible apply d7 hS c9 (i:=0));(iterate 8 rfl);exact (rfl:_=[_,_,_,_,_]);clear hS;intro w' hS;simp only [List.set] at hS|(with_reducible apply f9 hS);rfl;rfl;rfl;refine ⟨_,hbg _,?_⟩;clear hS;intro w' hS|(with_reducible apply f9 hS);rfl;rfl;rfl;refine ⟨_,hs1 _ (hV1 hS (fun _ h=>by simp only [xc3,xd9,h,or_true,true_or])) (hV4 hS (fun _ h=>by simp only [xc3,xd9,h,or_true,true_or])),?_⟩;clear hS;intro w' hS|(with_reducible apply f9 hS);rfl;rfl;rfl;refine ⟨_,hs2 _ (hV2 hS (fun _ h=>by simp only [xc3,xd9,h,or_true,true_or])) (hV5 hS (fun _ h=>by simp only [xc3,xd9,h,or_true,true_or])),?_⟩;clear hS;intro w' hS|(with_reducible apply f9 hS);rfl;rfl;rfl;refine ⟨_,hs3 _ (hV3 hS (fun _ h=>by simp only [xc3,xd9,h,or_true,true_or])) (hV6 hS (fun _ h=>by simp only [xc3,xd9,h,or_true,true_or])),?_⟩;clear hS;intro w' hS)
 (refine l4 rfl ?_)
 exact ⟨rfl,hS.sub (xi4 _)⟩
end Go.Proofs.YtejnpppejalhfacGreat
namespace Go.Proofs.YtejnpppejalhfacGreat
set_option maxRecDepth 100000
set_option maxHeartbeats 8000000
open Go.ChangeShapes Go.WideShapes Go.ChangeAt Go.RowKit Go.Deep
def b0B {α:Type} (R:α->List Value->Prop) (xs:List α) (rows:List (List Value)):Prop:=rows.length=xs.length/\∀ (i:Nat) (x:α) (r:List Value),xs[i]?=some x->rows[i]?=some r->R x r
section
variable {H:Type} {enc:TypeId×Value->H} {P:Program} {w:World} {base:Nat} {spare:Nat->Bool} {held:Bool}
theorem b4S {α:Type} [Inhabited α] {t e:TypeId} {fuel sz:Nat} {cs:List Value} {y:DataW H×List MemPlace} (ht:P.underlying t=some (.slice e)) (hsz:P.cellsOf e=sz) (hpos:0 < sz) (R:α->List Value->Prop) (hR1:∀ x r,R x r->r.all (·.oneCell')=true)
  (hR:∀ (n:Nat) (cs':List Value) (z:DataW H×List MemPlace),cs'.length=sz->DataW.trod enc P w base spare held n e cs'=some z->∃ x:α,R x cs') (h:DataW.trod enc P w base spare held fuel t cs=some y) :
  ∃ v xs rows,cs=[v]/\Sl nF w sz v rows/\b0B R xs rows/\v.oneCell'=true:=by
 rcases open_slice ht h with ⟨rfl,_⟩|⟨a,len,cap,m,n,D,Pl,rfl,hb,hl,hm,hmm,_,hx⟩
 ·exact ⟨_,[],[],rfl,xd4 ⟨_,_,rfl,rfl⟩,⟨rfl,fun i x r h=>by simp at h⟩,rfl⟩
 ·have hlm:len<=m:=by rw [hmm];split <;> omega
  rw [hsz] at hx;have key:∀ i,∃ r x,i < len->w.cells? base (a.add (i * sz)) sz=some r/\R x r/\r.length=sz:=fun i=>by
   by_cases hi:i < len
   ·obtain ⟨cs',h1,h2⟩:=hx i (by omega);have hl:=(World.cells?_some h1).2.1;obtain ⟨x,hr⟩:=hR n cs' _ hl h2;exact ⟨cs',x,fun _=>⟨h1,hr,hl⟩⟩
   ·exact ⟨[],default,fun h=>(hi h).elim⟩
  obtain ⟨r,hr⟩:=Classical.axiomOfChoice key;obtain ⟨x,hr⟩:=Classical.axiomOfChoice hr;refine ⟨_,(List.range len).map x,(List.range len).map r,rfl,?_,⟨by simp,fun i y r' h1 h2=>?_⟩,rfl⟩
  ·by_cases h0:len=0
   ·subst h0;exact xd4 ⟨_,_,rfl,rfl⟩
   ·obtain ⟨b,off,spot⟩:=a;have hcell:∀ i,i < len->∀ j,j < sz->w.cell? (((⟨b,off,spot⟩:Addr).add (i * sz)).add j)=(r i)[j]?:=fun i hi j hj=>(World.cells?_some (hr i hi).1).2.2 j hj;have h00:=hcell 0 (by omega) 0 hpos;obtain ⟨u0,hu0⟩:∃ u,(r 0)[0]?=some u:=⟨(r 0)[0]'(by rw [(hr 0 (by omega)).2.2];exact hpos),by simp⟩;rw [hu0] at h00;simp only [Nat.zero_mul,Addr.add,if_true] at h00;have hspot:spot=none:=by
     cases spot with
     |none=>rfl
     |some s=>simp [World.cell?] at h00;split at h00 <;> simp at h00
    subst hspot;have hbl:=World.block_lt_of_cell? w _ h00;refine xd1 ⟨b,off,cap,by simp,by simpa using hl,hm,⟨hbl,id,fun r' hr'=>?_,fun r' hr'=>?_,fun k r' hk j u hj=>?_⟩⟩
    ·obtain ⟨i,hi,rfl⟩:=xh6.1 hr';exact (hr i (by simpa using hi)).2.2
    ·obtain ⟨i,hi,rfl⟩:=xh6.1 hr';exact hR1 _ _ (hr i (by simpa using hi)).2.1
    ·have hk':k < len:=by have:=f7 hk;simpa using this
     simp [hk'] at hk;subst hk;have hjl:j < sz:=by have:=f7 hj;rwa [(hr k hk').2.2] at this
     have:=hcell k hk' j hjl;rw [hj] at this
     rwa [Addr.add_mid,Addr.add_mid] at this
  ·have hi:i < len:=by have:=f7 h1;simpa using this
   simp [hi] at h1 h2;subst h1 h2;exact (hr i hi).2.1
end
end Go.Proofs.YtejnpppejalhfacGreat
namespace Go.Proofs.YtejnpppejalhfacGreat
set_option maxRecDepth 100000
set_option maxHeartbeats 8000000
open Go.ChangeShapes Go.WideShapes Go.ChangeAt Go.RowKit
section
variable {H:Type} {enc:TypeId×Value->H} {W:World} {base b0:Nat} {sp:Nat->Bool} {held:Bool}
theorem cI {n:Nat} {t:TypeId} {c:Value} {o:Option (DataW H×List MemPlace)} (ht:(Tryz.prog).underlying t=some (.int .i64)) (h:DataW.trod enc Tryz.prog W base sp held n t [c]=o) (ho:o.isSome=true):∃ k:Int,c=.int .i64 k/\(Lit.int .i64 k).wf=true:=by
 obtain ⟨x,hx⟩:=xh7.1 ho;obtain ⟨k,hk,_,hw⟩:=DataW.trod_int ht (h.trans hx);simp only [List.cons.injEq,and_true] at hk;exact ⟨k,hk,hw⟩
theorem cB {n:Nat} {t:TypeId} {c:Value} {o:Option (DataW H×List MemPlace)} (ht:(Tryz.prog).underlying t=some .bool) (h:DataW.trod enc Tryz.prog W base sp held n t [c]=o) (ho:o.isSome=true):∃ b:Bool,c=.bool b:=by
 obtain ⟨x,hx⟩:=xh7.1 ho;obtain ⟨b,hb,_⟩:=DataW.trod_bool ht (h.trans hx);simp only [List.cons.injEq,and_true] at hb;exact ⟨b,hb⟩
theorem cS {n:Nat} {t:TypeId} {c:Value} {o:Option (DataW H×List MemPlace)} (ht:(Tryz.prog).underlying t=some .string) (h:DataW.trod enc Tryz.prog W base sp held n t [c]=o) (ho:o.isSome=true):∃ l:List UInt8,c=.string ⟨l.toArray⟩/\l.length<=maxLen:=by
 obtain ⟨x,hx⟩:=xh7.1 ho;obtain ⟨s,hs,_,hl⟩:=DataW.trod_string ht (h.trans hx);simp only [List.cons.injEq,and_true] at hs;obtain ⟨⟨l⟩⟩:=s;exact ⟨l,hs,by simpa [ByteArray.size] using hl⟩
theorem gS {α:Type} {l:List α} {i:Nat} (h:i < l.length):(l[i]?).isSome=true:=by simp [h]
theorem a3H:(Tryz.prog).cellsOf 3=1:=by kernel_rfl
theorem a7D:(Tryz.prog).cellsOf 4=1:=by kernel_rfl
theorem a3r:(Tryz.prog).cellsOf 9=1:=by kernel_rfl
theorem b5h:(Tryz.prog).cellsOf 136=4:=by kernel_rfl
instance:Inhabited Ar:=⟨⟨0,0,0,false⟩⟩
theorem b0P {n:Nat} {cs:List Value} {z:DataW H×List MemPlace} (hl:cs.length=4) (h:DataW.trod enc Tryz.prog W base sp held n 136 cs=some z):∃ a:Ar,cs=arC a:=by
 match cs,hl with
 |[c0,c1,c2,c3],_=>
  obtain ⟨xs,n,_,_,_,hl,hf⟩:=DataW.trod_struct Tryz.underlying136 h;have f0:=hf 0 _ rfl;have f1:=hf 1 _ rfl;have f2:=hf 2 _ rfl;have f3:=hf 3 _ rfl;simp only [xo1,xo2,xo3,a3H,a7D,xl1,xl2,xl5,xl6] at f0 f1 f2 f3;have hl:xs.length=4:=hl;obtain ⟨k0,rfl,_⟩:=cI Tryz.underlying3 f0 (gS (by omega));obtain ⟨k1,rfl,_⟩:=cI Tryz.underlying3 f1 (gS (by omega));obtain ⟨k2,rfl,_⟩:=cI Tryz.underlying3 f2 (gS (by omega));obtain ⟨k3,rfl⟩:=cB Tryz.underlying4 f3 (gS (by omega));exact ⟨⟨k0,k1,k2,k3⟩,rfl⟩
end
section
variable {H:Type} {enc:TypeId×Value->H} {W:World} {base b0:Nat} {sp:Nat->Bool} {held:Bool}
instance:Inhabited Fx:=⟨⟨0,[]⟩⟩
instance:Inhabited Sh:=⟨⟨0,[],[]⟩⟩
theorem b6D:(Tryz.prog).cellsOf 156=2:=by kernel_rfl
theorem b2W:(Tryz.prog).cellsOf 142=3:=by kernel_rfl
theorem b10:(Tryz.prog).cellsOf 140=1:=by kernel_rfl
theorem b2A:(Tryz.prog).cellsOf 39=1:=by kernel_rfl
theorem b1O:(Tryz.prog).cellsOf 22=1:=by kernel_rfl
theorem a8O {α:Type} {f:α->List Value} {G:α->Prop} {xs:List α} {rows:List (List Value)} (h:b0B (fun a r=>r=f a/\G a) xs rows):rows=xs.map f/\∀ x ∈ xs,G x:=by
 obtain ⟨h1,h2⟩:=h;refine ⟨?_,fun x hx=>?_⟩
 ·apply xg6;intro i;rw [xh0];by_cases hi:i < xs.length
  ·rw [xd8 hi,xd8 (by omega)];simp only [xh1,Option.some.injEq];exact (h2 i _ _ (xd8 hi) (xd8 (by omega))).1
  ·rw [xh2 (by omega),xh2 (by omega)];rfl
 ·obtain ⟨i,hi⟩:=xd6.1 hx;have hl:=f7 hi;exact (h2 i x _ hi (xd8 (by rw [h1];exact hl))).2
theorem cc1 {c v:Value} (h:[c]=[v]):c=v:=by simpa using h
theorem b2U {n:Nat} {cs:List Value} {z:DataW H×List MemPlace} (hl:cs.length=2) (h:DataW.trod enc Tryz.prog W base sp held n 156 cs=some z):∃ f:Fx,cs=fxC f:=by
 match cs,hl with
 |[c0,c1],_=>
  obtain ⟨xs,n,_,_,_,hl,hf⟩:=DataW.trod_struct Tryz.underlying156 h;have f0:=hf 0 _ rfl;have f1:=hf 1 _ rfl;simp only [xo1,xo2,xo3,a3H,a3r,xl1,xl2,xl5,xl6] at f0 f1;have hl:xs.length=2:=hl;obtain ⟨k0,rfl,_⟩:=cI Tryz.underlying3 f0 (gS (by omega));obtain ⟨l1,rfl,_⟩:=cS Tryz.underlying9 f1 (gS (by omega));exact ⟨⟨k0,l1⟩,rfl⟩
theorem a12 {α:Type} [Inhabited α] {n:Nat} {t e sz:Nat} {c:Value} {o:Option (DataW H×List MemPlace)} (ht:(Tryz.prog).underlying t=some (.slice e)) (hsz:(Tryz.prog).cellsOf e=sz) (hpos:0 < sz) (f:α->List Value) (G:α->Prop) (h1:∀ x,(f x).all (·.oneCell')=true\/¬ G x)
  (hR:∀ (n:Nat) (cs':List Value) (z:DataW H×List MemPlace),cs'.length=sz->DataW.trod enc Tryz.prog W base sp held n e cs'=some z->∃ x:α,cs'=f x/\G x) (h:DataW.trod enc Tryz.prog W base sp held n t [c]=o) (ho:o.isSome=true):∃ xs:List α,Sl nF W sz c (xs.map f)/\(∀ x ∈ xs,G x)/\c.oneCell'=true:=by
 obtain ⟨x,hx⟩:=xh7.1 ho;obtain ⟨v,xs,rows,hv,hsl,hra,hone⟩:=b4S ht hsz hpos (fun (a:α) r=>r=f a/\G a) (fun x r h=>by
  obtain ⟨rfl,hg⟩:=h;rcases h1 x with h|h
  ·exact h
  ·exact absurd hg h) (fun n cs' z hl hz=>hR n cs' z hl hz) (h.trans hx)
 obtain rfl:=cc1 hv;obtain ⟨rfl,hg⟩:=a8O hra;exact ⟨xs,hsl,hg,hone⟩
theorem a8s {n:Nat} {cs:List Value} {z:DataW H×List MemPlace} (hl:cs.length=3) (h:DataW.trod enc Tryz.prog W base sp held n 142 cs=some z):∃ x:Sh×Value,cs=shC x.1 x.2/\ShV W x.1 x.2/\x.2.oneCell'=true:=by
 match cs,hl with
 |[c0,c1,c2],_=>
  obtain ⟨xs,n,_,_,_,hl,hf⟩:=DataW.trod_struct Tryz.underlying142 h;have f0:=hf 0 _ rfl;have f1:=hf 1 _ rfl;have f2:=hf 2 _ rfl;simp only [xo1,xo2,xo3,a3H,a3r,b10,xl1,xl2,xl5,xl6] at f0 f1 f2;have hl:xs.length=3:=hl;obtain ⟨k0,rfl,_⟩:=cI Tryz.underlying3 f0 (gS (by omega));obtain ⟨l1,rfl,_⟩:=cS Tryz.underlying9 f1 (gS (by omega));obtain ⟨fs,h2,_,h3⟩:=a12 Tryz.underlying140 b6D (by decide) fxC (fun _=>True) (fun x=>xd4 rfl) (fun _ _ _ hl hz=>by obtain ⟨f,hf⟩:=b2U hl hz;exact ⟨f,hf,trivial⟩) f2 (gS (by omega));exact ⟨(⟨k0,l1,fs⟩,c2),rfl,h2,h3⟩
end
section
variable {H:Type} {enc:TypeId×Value->H} {W:World} {base b0:Nat} {sp:Nat->Bool} {held:Bool}
instance:Inhabited Fm:=⟨fm0⟩
instance:Inhabited Sw:=⟨sw0⟩
instance:Inhabited En:=⟨⟨0,0,0⟩⟩
instance:Inhabited Sp:=⟨⟨⟨false,[],[]⟩,.bool false,.bool false⟩⟩
theorem b2Y:(Tryz.prog).cellsOf 84=4:=by kernel_rfl
theorem b4A:(Tryz.prog).cellsOf 88=2:=by kernel_rfl
theorem b3z:(Tryz.prog).cellsOf 78=3:=by kernel_rfl
theorem b2a:(Tryz.prog).cellsOf 82=3:=by kernel_rfl
theorem b00:(Tryz.prog).cellsOf 27=5:=by kernel_rfl
theorem b1K:(Tryz.prog).cellsOf 23=1:=by kernel_rfl
theorem b2z:(Tryz.prog).cellsOf 24=1:=by kernel_rfl
theorem b1p:(Tryz.prog).cellsOf 25=1:=by kernel_rfl
theorem a9K:(Tryz.prog).cellsOf 76=1:=by kernel_rfl
theorem a9F {n:Nat} {cs:List Value} {z:DataW H×List MemPlace} (hl:cs.length=3) (h:DataW.trod enc Tryz.prog W base sp held n 82 cs=some z):∃ e:En,cs=enC e:=by
 match cs,hl with
 |[c0,c1,c2],_=>
  obtain ⟨xs,n,_,_,_,hl,hf⟩:=DataW.trod_struct Tryz.underlying82 h;have f0:=hf 0 _ rfl;have f1:=hf 1 _ rfl;have f2:=hf 2 _ rfl;simp only [xo1,xo2,xo3,a3H,xl1,xl2,xl5,xl6] at f0 f1 f2;have hl:xs.length=3:=hl;obtain ⟨k0,rfl,_⟩:=cI Tryz.underlying3 f0 (gS (by omega));obtain ⟨k1,rfl,_⟩:=cI Tryz.underlying3 f1 (gS (by omega));obtain ⟨k2,rfl,_⟩:=cI Tryz.underlying3 f2 (gS (by omega));exact ⟨⟨k0,k1,k2⟩,rfl⟩
theorem a9i {n:Nat} {cs:List Value} {z:DataW H×List MemPlace} (hl:cs.length=4) (h:DataW.trod enc Tryz.prog W base sp held n 84 cs=some z):∃ f:Fm,cs=fmC f:=by
 match cs,hl with
 |[c0,c1,c2,c3],_=>
  obtain ⟨xs,n,_,_,_,hl,hf⟩:=DataW.trod_struct Tryz.underlying84 h;have f0:=hf 0 _ rfl;have f1:=hf 1 _ rfl;have f2:=hf 2 _ rfl;have f3:=hf 3 _ rfl;simp only [xo1,xo2,xo3,a3H,a3r,a7D,xl1,xl2,xl5,xl6] at f0 f1 f2 f3;have hl:xs.length=4:=hl;obtain ⟨l0,rfl,_⟩:=cS Tryz.underlying9 f0 (gS (by omega));obtain ⟨k1,rfl,_⟩:=cI Tryz.underlying3 f1 (gS (by omega));obtain ⟨b2,rfl⟩:=cB Tryz.underlying4 f2 (gS (by omega));obtain ⟨b3,rfl⟩:=cB Tryz.underlying4 f3 (gS (by omega));exact ⟨⟨l0,k1,b2,b3⟩,rfl⟩
theorem b1H {n:Nat} {cs:List Value} {z:DataW H×List MemPlace} (hl:cs.length=2) (h:DataW.trod enc Tryz.prog W base sp held n 88 cs=some z):∃ s:Sw,cs=swC s:=by
 match cs,hl with
 |[c0,c1],_=>
  obtain ⟨xs,n,_,_,_,hl,hf⟩:=DataW.trod_struct Tryz.underlying88 h;have f0:=hf 0 _ rfl;have f1:=hf 1 _ rfl;simp only [xo1,xo2,xo3,a3H,a3r,xl1,xl2,xl5,xl6] at f0 f1;have hl:xs.length=2:=hl;obtain ⟨l0,rfl,_⟩:=cS Tryz.underlying9 f0 (gS (by omega));obtain ⟨k1,rfl,_⟩:=cI Tryz.underlying3 f1 (gS (by omega));exact ⟨⟨l0,k1⟩,rfl⟩
theorem a9X {n:Nat} {cs:List Value} {z:DataW H×List MemPlace} (hl:cs.length=3) (h:DataW.trod enc Tryz.prog W base sp held n 78 cs=some z):∃ x:Sp,cs=spC x/\SpV W x/\x.va.oneCell'=true/\x.ve.oneCell'=true:=by
 match cs,hl with
 |[c0,c1,c2],_=>
  obtain ⟨xs,n,_,_,_,hl,hf⟩:=DataW.trod_struct Tryz.underlying78 h;have f0:=hf 0 _ rfl;have f1:=hf 1 _ rfl;have f2:=hf 2 _ rfl;simp only [xo1,xo2,xo3,a7D,b2A,a9K,xl1,xl2,xl5,xl6] at f0 f1 f2;have hl:xs.length=3:=hl;obtain ⟨b0,rfl⟩:=cB Tryz.underlying4 f0 (gS (by omega));obtain ⟨A,h1,_,o1⟩:=a12 Tryz.underlying39 b5h (by decide) arC (fun _=>True) (fun x=>xd4 rfl) (fun _ _ _ hl hz=>by obtain ⟨f,hf⟩:=b0P hl hz;exact ⟨f,hf,trivial⟩) f1 (gS (by omega));obtain ⟨E,h2,_,o2⟩:=a12 Tryz.underlying76 b2a (by decide) enC (fun _=>True) (fun x=>xd4 rfl) (fun _ _ _ hl hz=>by obtain ⟨f,hf⟩:=a9F hl hz;exact ⟨f,hf,trivial⟩) f2 (gS (by omega));exact ⟨⟨⟨b0,A,E⟩,c1,c2⟩,rfl,⟨h1,h2⟩,o1,o2⟩
theorem a7F {n:Nat} {cs:List Value} {z:DataW H×List MemPlace} (hl:cs.length=5) (h:DataW.trod enc Tryz.prog W base sp held n 27 cs=some z):∃ k:KV,cs=kvC k/\KerV W k:=by
 match cs,hl with
 |[c0,c1,c2,c3,c4],_=>
  obtain ⟨xs,n,_,_,_,hl,hf⟩:=DataW.trod_struct Tryz.underlying27 h;have f0:=hf 0 _ rfl;have f1:=hf 1 _ rfl;have f2:=hf 2 _ rfl;have f3:=hf 3 _ rfl;have f4:=hf 4 _ rfl;simp only [xo1,xo2,xo3,a3H,b1O,b1K,b2z,b1p,xl1,xl2,xl5,xl6] at f0 f1 f2 f3 f4;have hl:xs.length=5:=hl;obtain ⟨Lp,h3,h4,_⟩:=a12 (α:=Sh×Value) Tryz.underlying22 b2W (by decide) (fun x=>shC x.1 x.2) (fun x=>ShV W x.1 x.2/\x.2.oneCell'=true) (fun x=>by
   by_cases hx:x.2.oneCell'=true
   ·left;unfold shC;simp only [xi9,List.all_nil,Bool.and_true,hx];rfl
   ·exact xd1 fun h=>hx h.2) (fun _ _ _ hl hz=>by obtain ⟨x,hx,h2,h3⟩:=a8s hl hz;exact ⟨x,hx,h2,h3⟩) f0 (gS (by omega))
  obtain ⟨F,h5,_,_⟩:=a12 Tryz.underlying23 b2Y (by decide) fmC (fun _=>True) (fun x=>xd4 rfl) (fun _ _ _ hl hz=>by obtain ⟨f,hf⟩:=a9i hl hz;exact ⟨f,hf,trivial⟩) f1 (gS (by omega));obtain ⟨S,h6,_,_⟩:=a12 Tryz.underlying24 b4A (by decide) swC (fun _=>True) (fun x=>xd4 rfl) (fun _ _ _ hl hz=>by obtain ⟨f,hf⟩:=b1H hl hz;exact ⟨f,hf,trivial⟩) f2 (gS (by omega));obtain ⟨X,h7,h8,_⟩:=a12 (α:=Sp) Tryz.underlying25 b3z (by decide) spC (fun x=>SpV W x/\x.va.oneCell'=true/\x.ve.oneCell'=true) (fun x=>by
   by_cases hx:x.va.oneCell'=true/\x.ve.oneCell'=true
   ·left;unfold spC;simp only [xi9,List.all_nil,Bool.and_true,hx.1,hx.2];rfl
   ·exact xd1 fun h=>hx h.2) (fun _ _ _ hl hz=>by obtain ⟨x,hx,h2,h3⟩:=a9X hl hz;exact ⟨x,hx,h2,h3⟩) f3 (gS (by omega))
  obtain ⟨k4,rfl,_⟩:=cI Tryz.underlying3 f4 (gS (by omega));exact ⟨⟨Lp,F,S,X,k4,c0,c1,c2,c3⟩,rfl,⟨⟨h3,fun p hp=>(h4 p hp).1⟩,h5,h6,h7,fun p hp=>(h8 p hp).1⟩⟩
theorem a8q {v:Value} {d:DataW H} {ps:List MemPlace} (hval:Value.okWide Tryz.prog W .any b0 27 v) (h:DataW.Trod enc Tryz.prog W base sp held 27 v d ps):∃ k:KV,v=.agg (kvC k).toArray/\KerV W k:=by
 obtain ⟨cs,rfl,hsz⟩:=okWide_struct Tryz.underlying27 hval;obtain ⟨fuel,hf⟩:=h;have hc:(Value.agg cs).cells=cs:=rfl;rw [hc] at hf;have hlen:cs.toList.length=5:=by rw [xg5,hsz,b00]
 obtain ⟨k,h1,h2⟩:=a7F hlen hf;exact ⟨k,by rw [<- h1,xd0],h2⟩
end
end Go.Proofs.YtejnpppejalhfacGreat
