/- Texts that the proof stands on, one behind the other: LawFlP, Op1, OpA, OpK, OpF. -/
import Derived.Deep.Slices
import Derived.OpenShut
import Derived.WideShapes
import Derived.ProofKit
import Derived.Test.YtejnpppejalhfadGreatPFlatPeeks8
set_option linter.unusedVariables false
set_option linter.unusedSimpArgs false
namespace Go.Proofs.YtejnpppejalhfadGreat
set_option maxRecDepth 100000
set_option maxHeartbeats 8000000
open Go.RowKit Go.Sort
theorem a3r {w:World} {f:FlV} (hK:FlOk w f) (space:Int) {page:Int} (h1:-9223372036854775808<=page) (h2:page<=9223372036854775807):Fn Tryz.prog 6 [.agg (flC f).toArray,.int .i64 space,.int .i64 page] w (RBf (.bool true) w):=by
 have hpk:=fun w1 (h:FlOk w1 f)=>a3y h space h1 h2;have hcr:=fun w1 (h:FlOk w1 f)=>a3b h;have hfp:=fun w1 (h:FlOk w1 f) x (hx:x ∈ f.sp)=>a3Q (h.ar x hx) (h.pg x hx) page;have hbg:=a2w;unfold a4O a4z at hpk;have hK0:=hK;generalize j6 f=c at hpk hcr;obtain ⟨slots,sp,pr,out,vsp,vpr,vout⟩:=f;obtain ⟨m1,m2,m3,m4,m5⟩:=hK;have b1:=m1.bound;dsimp only at m1 m2 m3 m4 m5 b1 hpk hfp |-;obtain ⟨p1,c1,rfl⟩:=m1.len;obtain ⟨p2,c2,rfl⟩:=m4.len;obtain ⟨p3,c3,rfl⟩:=m5.len;unfold flC at hpk hcr |-;dsimp only at hpk hcr |-;have hd6:decide ((6:Int)=6)=true:=rfl;by_cases h0:c=0;rotate_left
 ·have hd:decide (c=0)=false:=xh3 h0;have hdc:decide (c=c)=true:=xh4 rfl;simp only [xd7 h0] at hpk;refine yEn Tryz.func6 Tryz.ntmps6 (by kernel_rfl) (by kernel_rfl) rfl rfl ?_;have hS:=St.start w
  repeat' (first|(with_reducible apply a4 a0);rfl;rfl;rfl|(with_reducible apply a5);rfl;(apply Ld.st a0;rfl;exact hS.blkR 0 rfl;rfl);rfl|refine yDn (by with_reducible constructor) ?_|((with_reducible apply i6);(iterate 4 rfl);first|rfl|assumption)|(with_reducible apply d7);rfl;(first|rfl|assumption);rfl;rfl|(with_reducible apply j5);rfl;assumption|(with_reducible apply f5 hS);rfl;rfl;rfl;clear hS;intro g w' hS|(with_reducible apply d5 hS);rfl;rfl;rfl;refine ⟨_,hpk _ (hK0.now hS),?_⟩;clear hS;intro w' hS|(with_reducible apply d5 hS);rfl;rfl;rfl;refine ⟨_,hcr _ (hK0.now hS),?_⟩;clear hS;intro w' hS|(with_reducible apply d5 hS);rfl;rfl;rfl;refine ⟨_,hbg _,?_⟩;clear hS;intro w' hS)
  (refine i2 rfl ?_)
  exact ⟨by simp,hS.sub (xg6 _)⟩
 have hd:decide (c=0)=true:=xh4 h0;subst h0;simp only [↓reduceIte] at hpk;by_cases h3:space < 0\/(sp.length:Int)<=space
 ·simp only [xd6 h3] at hpk;refine yEn Tryz.func6 Tryz.ntmps6 (by kernel_rfl) (by kernel_rfl) rfl rfl ?_;have hS:=St.start w
  repeat' (first|(with_reducible apply a4 a0);rfl;rfl;rfl|(with_reducible apply a5);rfl;(first|apply Ld.sl a0;rfl;exact hS.blkC 0 rfl rfl|apply Ld.st a0;rfl;exact hS.blkR 0 rfl;rfl);rfl|refine yDn (by with_reducible constructor) ?_|((with_reducible apply i6);(iterate 4 rfl);first|rfl|assumption)|(with_reducible apply q8);(iterate 4 rfl);assumption;rfl|(with_reducible apply d7);rfl;(first|rfl|assumption);rfl;rfl|(with_reducible apply a9);rfl;assumption;rfl;rfl|(with_reducible apply b7);rfl;rfl|(with_reducible apply j5);rfl;rfl|(with_reducible apply f5 hS);rfl;rfl;rfl;clear hS;intro g w' hS|(with_reducible apply a0f);rfl;rfl;rfl;all_goals (intro hb hp;try (exfalso;omega))|(with_reducible apply i5);rfl;all_goals (intro hb hp;try (exfalso;omega))|(with_reducible apply d5 hS);rfl;rfl;rfl;refine ⟨_,hpk _ (hK0.now hS),?_⟩;clear hS;intro w' hS|(with_reducible apply d5 hS);rfl;rfl;rfl;refine ⟨_,hcr _ (hK0.now hS),?_⟩;clear hS;intro w' hS|(with_reducible apply d5 hS);rfl;rfl;rfl;refine ⟨_,hbg _,?_⟩;clear hS;intro w' hS)
  all_goals ((refine i2 rfl ?_))
  all_goals exact ⟨rfl,hS.sub (xg6 _)⟩
 simp only [xd7 h3] at hpk;obtain ⟨i,rfl⟩:∃ i:Nat,space=(i:Nat):=⟨space.toNat,by omega⟩;have hil:i < sp.length:=by omega
 obtain ⟨x,hx⟩:=n7 (l:=sp) (i:=i) (by omega);simp only [Int.toNat_natCast,hx] at hpk;have hfp:=fun w1 h=>hfp w1 h x (xc0 hx);have hrow:=j3 (f:=fsC) hx;obtain ⟨b,off,rfl,hro⟩:=m1.at_ (i:=i) hil;unfold fsC at hrow hfp
 cases hfa:a1k x.1.pages page with
 |none=>
  simp only [hfa] at hpk hfp;refine yEn Tryz.func6 Tryz.ntmps6 (by kernel_rfl) (by kernel_rfl) rfl rfl ?_;have hS:=St.start w
  repeat' (first|(with_reducible apply a4 a0);rfl;rfl;rfl|(with_reducible apply a5);rfl;(first|apply Ld.sl a0;rfl;exact hS.blkC 0 rfl rfl|apply Ld.st a0;rfl;(first|exact hS.blkR 0 rfl|exact hS.roR (by assumption) (by assumption));rfl);rfl|(with_reducible apply p9 a0);rfl;rfl;rfl;rfl;omega;rfl|refine yDn (by with_reducible constructor) ?_|(with_reducible apply i6);(iterate 4 rfl);rfl|(with_reducible apply d7);rfl;rfl;rfl;rfl|(with_reducible apply b7);rfl;rfl|(with_reducible apply f5 hS);rfl;rfl;rfl;clear hS;intro g w' hS|(with_reducible apply i5);rfl;all_goals (intro hb hp;try (exfalso;omega))|(with_reducible apply d5 hS);rfl;rfl;rfl;refine ⟨_,hpk _ (hK0.now hS),?_⟩;clear hS;intro w' hS|(with_reducible apply d5 hS);rfl;rfl;rfl;refine ⟨_,hcr _ (hK0.now hS),?_⟩;clear hS;intro w' hS|(with_reducible apply d5 hS);rfl;rfl;rfl;refine ⟨_,hbg _,?_⟩;clear hS;intro w' hS|(with_reducible apply d5 hS);rfl;rfl;rfl;refine ⟨_,hfp _ (hK0.now hS),?_⟩;clear hS;intro w' hS)
  (refine i2 rfl ?_)
  exact ⟨rfl,hS.sub (xg6 _)⟩
 |some y=>
  simp only [hfa] at hpk hfp;refine yEn Tryz.func6 Tryz.ntmps6 (by kernel_rfl) (by kernel_rfl) rfl rfl ?_;have hS:=St.start w
  repeat' (first|(with_reducible apply a4 a0);rfl;rfl;rfl|(with_reducible apply a5);rfl;(first|apply Ld.sl a0;rfl;exact hS.blkC 0 rfl rfl|apply Ld.st a0;rfl;(first|exact hS.blkR 0 rfl|exact hS.roR (by assumption) (by assumption));rfl);rfl|(with_reducible apply p9 a0);rfl;rfl;rfl;rfl;omega;rfl|refine yDn (by with_reducible constructor) ?_|(with_reducible apply i6);(iterate 4 rfl);rfl|(with_reducible apply d7);rfl;rfl;rfl;rfl|(with_reducible apply b7);rfl;rfl|(with_reducible apply j5);rfl;rfl|(with_reducible apply f5 hS);rfl;rfl;rfl;clear hS;intro g w' hS|(with_reducible apply i5);rfl;all_goals (intro hb hp;try (exfalso;omega))|(with_reducible apply d5 hS);rfl;rfl;rfl;refine ⟨_,hpk _ (hK0.now hS),?_⟩;clear hS;intro w' hS|(with_reducible apply d5 hS);rfl;rfl;rfl;refine ⟨_,hcr _ (hK0.now hS),?_⟩;clear hS;intro w' hS|(with_reducible apply d5 hS);rfl;rfl;rfl;refine ⟨_,hbg _,?_⟩;clear hS;intro w' hS|(with_reducible apply d5 hS);rfl;rfl;rfl;refine ⟨_,hfp _ (hK0.now hS),?_⟩;clear hS;intro w' hS)
  (refine i2 rfl ?_)
  exact ⟨by simp,hS.sub (xg6 _)⟩
end Go.Proofs.YtejnpppejalhfadGreat
namespace Go.Proofs.YtejnpppejalhfadGreat
set_option maxRecDepth 100000
set_option maxHeartbeats 8000000
open Go.ChangeShapes Go.WideShapes Go.ChangeAt Go.RowKit Go.Deep
def a5m {α:Type} (R:α->List Value->Prop) (xs:List α) (rows:List (List Value)):Prop:=rows.length=xs.length/\∀ (i:Nat) (x:α) (r:List Value),xs[i]?=some x->rows[i]?=some r->R x r
section
variable {H:Type} {enc:TypeId×Value->H} {P:Program} {w:World} {base:Nat} {spare:Nat->Bool} {held:Bool}
theorem a86 {α:Type} [Inhabited α] {t e:TypeId} {fuel sz:Nat} {cs:List Value} {y:DataW H×List MemPlace} (ht:P.underlying t=some (.slice e)) (hsz:P.cellsOf e=sz) (hpos:0 < sz) (R:α->List Value->Prop) (hR1:∀ x r,R x r->r.all (·.oneCell')=true)
  (hR:∀ (n:Nat) (cs':List Value) (z:DataW H×List MemPlace),cs'.length=sz->DataW.trod enc P w base spare held n e cs'=some z->∃ x:α,R x cs') (h:DataW.trod enc P w base spare held fuel t cs=some y) :
  ∃ v xs rows,cs=[v]/\Sl nF w sz v rows/\a5m R xs rows/\v.oneCell'=true:=by
 rcases open_slice ht h with ⟨rfl,_⟩|⟨a,len,cap,m,n,D,Pl,rfl,hb,hl,hm,hmm,_,hx⟩
 ·exact ⟨_,[],[],rfl,xc6 ⟨_,_,rfl,rfl⟩,⟨rfl,fun i x r h=>by simp at h⟩,rfl⟩
 ·have hlm:len<=m:=by rw [hmm];split <;> omega
  rw [hsz] at hx;have key:∀ i,∃ r x,i < len->w.cells? base (a.add (i * sz)) sz=some r/\R x r/\r.length=sz:=fun i=>by
   by_cases hi:i < len
   ·obtain ⟨cs',h1,h2⟩:=hx i (by omega);have hl:=(World.cells?_some h1).2.1;obtain ⟨x,hr⟩:=hR n cs' _ hl h2;exact ⟨cs',x,fun _=>⟨h1,hr,hl⟩⟩
   ·exact ⟨[],default,fun h=>(hi h).elim⟩
  obtain ⟨r,hr⟩:=Classical.axiomOfChoice key;obtain ⟨x,hr⟩:=Classical.axiomOfChoice hr;refine ⟨_,(List.range len).map x,(List.range len).map r,rfl,?_,⟨by simp,fun i y r' h1 h2=>?_⟩,rfl⟩
  ·by_cases h0:len=0
   ·subst h0;exact xc6 ⟨_,_,rfl,rfl⟩
   ·obtain ⟨b,off,spot⟩:=a;have hcell:∀ i,i < len->∀ j,j < sz->w.cell? (((⟨b,off,spot⟩:Addr).add (i * sz)).add j)=(r i)[j]?:=fun i hi j hj=>(World.cells?_some (hr i hi).1).2.2 j hj;have h00:=hcell 0 (by omega) 0 hpos;obtain ⟨u0,hu0⟩:∃ u,(r 0)[0]?=some u:=⟨(r 0)[0]'(by rw [(hr 0 (by omega)).2.2];exact hpos),by simp⟩;rw [hu0] at h00;simp only [Nat.zero_mul,Addr.add,if_true] at h00;have hspot:spot=none:=by
     cases spot with
     |none=>rfl
     |some s=>simp [World.cell?] at h00;split at h00 <;> simp at h00
    subst hspot;have hbl:=World.block_lt_of_cell? w _ h00;refine xc3 ⟨b,off,cap,by simp,by simpa using hl,hm,⟨hbl,id,fun r' hr'=>?_,fun r' hr'=>?_,fun k r' hk j u hj=>?_⟩⟩
    ·obtain ⟨i,hi,rfl⟩:=xi0.1 hr';exact (hr i (by simpa using hi)).2.2
    ·obtain ⟨i,hi,rfl⟩:=xi0.1 hr';exact hR1 _ _ (hr i (by simpa using hi)).2.1
    ·have hk':k < len:=by have:=a7 hk;simpa using this
     simp [hk'] at hk;subst hk;have hjl:j < sz:=by have:=a7 hj;rwa [(hr k hk').2.2] at this
     have:=hcell k hk' j hjl;rw [hj] at this
     rwa [Addr.add_mid,Addr.add_mid] at this
  ·have hi:i < len:=by have:=a7 h1;simpa using this
   simp [hi] at h1 h2;subst h1 h2;exact (hr i hi).2.1
end
end Go.Proofs.YtejnpppejalhfadGreat
namespace Go.Proofs.YtejnpppejalhfadGreat
set_option maxRecDepth 100000
set_option maxHeartbeats 8000000
open Go.ChangeShapes Go.WideShapes Go.ChangeAt Go.RowKit
section
variable {H:Type} {enc:TypeId×Value->H} {W:World} {base b0:Nat} {sp:Nat->Bool} {held:Bool}
theorem cI {n:Nat} {t:TypeId} {c:Value} {o:Option (DataW H×List MemPlace)} (ht:(Tryz.prog).underlying t=some (.int .i64)) (h:DataW.trod enc Tryz.prog W base sp held n t [c]=o) (ho:o.isSome=true):∃ k:Int,c=.int .i64 k/\(Lit.int .i64 k).wf=true:=by
 obtain ⟨x,hx⟩:=xg2.1 ho;obtain ⟨k,hk,_,hw⟩:=DataW.trod_int ht (h.trans hx);simp only [List.cons.injEq,and_true] at hk;exact ⟨k,hk,hw⟩
theorem cB {n:Nat} {t:TypeId} {c:Value} {o:Option (DataW H×List MemPlace)} (ht:(Tryz.prog).underlying t=some .bool) (h:DataW.trod enc Tryz.prog W base sp held n t [c]=o) (ho:o.isSome=true):∃ b:Bool,c=.bool b:=by
 obtain ⟨x,hx⟩:=xg2.1 ho;obtain ⟨b,hb,_⟩:=DataW.trod_bool ht (h.trans hx);simp only [List.cons.injEq,and_true] at hb;exact ⟨b,hb⟩
theorem cS {n:Nat} {t:TypeId} {c:Value} {o:Option (DataW H×List MemPlace)} (ht:(Tryz.prog).underlying t=some .string) (h:DataW.trod enc Tryz.prog W base sp held n t [c]=o) (ho:o.isSome=true):∃ l:List UInt8,c=.string ⟨l.toArray⟩/\l.length<=maxLen:=by
 obtain ⟨x,hx⟩:=xg2.1 ho;obtain ⟨s,hs,_,hl⟩:=DataW.trod_string ht (h.trans hx);simp only [List.cons.injEq,and_true] at hs;obtain ⟨⟨l⟩⟩:=s;exact ⟨l,hs,by simpa [ByteArray.size] using hl⟩
theorem gS {α:Type} {l:List α} {i:Nat} (h:i < l.length):(l[i]?).isSome=true:=by simp [h]
theorem a1q:(Tryz.prog).cellsOf 3=1:=by kernel_rfl
theorem a5v:(Tryz.prog).cellsOf 4=1:=by kernel_rfl
theorem a5C:(Tryz.prog).cellsOf 9=1:=by kernel_rfl
theorem a8T:(Tryz.prog).cellsOf 119=4:=by kernel_rfl
instance:Inhabited Ar:=⟨⟨0,0,0,false⟩⟩
theorem a6i {n:Nat} {cs:List Value} {z:DataW H×List MemPlace} (hl:cs.length=4) (h:DataW.trod enc Tryz.prog W base sp held n 119 cs=some z):∃ a:Ar,cs=arC a:=by
 match cs,hl with
 |[c0,c1,c2,c3],_=>
  obtain ⟨xs,n,_,_,_,hl,hf⟩:=DataW.trod_struct Tryz.underlying119 h;have f0:=hf 0 _ rfl;have f1:=hf 1 _ rfl;have f2:=hf 2 _ rfl;have f3:=hf 3 _ rfl;simp only [xk6,xj2,xk7,a1q,a5v,xk8,xk9,xg9,xl0] at f0 f1 f2 f3;have hl:xs.length=4:=hl;obtain ⟨k0,rfl,_⟩:=cI Tryz.underlying3 f0 (gS (by omega));obtain ⟨k1,rfl,_⟩:=cI Tryz.underlying3 f1 (gS (by omega));obtain ⟨k2,rfl,_⟩:=cI Tryz.underlying3 f2 (gS (by omega));obtain ⟨k3,rfl⟩:=cB Tryz.underlying4 f3 (gS (by omega));exact ⟨⟨k0,k1,k2,k3⟩,rfl⟩
end
section
variable {H:Type} {enc:TypeId×Value->H} {W:World} {base b0:Nat} {sp:Nat->Bool} {held:Bool}
instance:Inhabited Fx:=⟨⟨0,[]⟩⟩
instance:Inhabited Sh:=⟨⟨0,[],[]⟩⟩
theorem a74:(Tryz.prog).cellsOf 57=1:=by kernel_rfl
theorem a4b {α:Type} {f:α->List Value} {G:α->Prop} {xs:List α} {rows:List (List Value)} (h:a5m (fun a r=>r=f a/\G a) xs rows):rows=xs.map f/\∀ x ∈ xs,G x:=by
 obtain ⟨h1,h2⟩:=h;refine ⟨?_,fun x hx=>?_⟩
 ·apply xf3;intro i;rw [xf7];by_cases hi:i < xs.length
  ·rw [xd0 hi,xd0 (by omega)];simp only [xf8,Option.some.injEq];exact (h2 i _ _ (xd0 hi) (xd0 (by omega))).1
  ·rw [xf9 (by omega),xf9 (by omega)];rfl
 ·obtain ⟨i,hi⟩:=xc8.1 hx;have hl:=a7 hi;exact (h2 i x _ hi (xd0 (by rw [h1];exact hl))).2
theorem cc1 {c v:Value} (h:[c]=[v]):c=v:=by simpa using h
theorem a0z {α:Type} [Inhabited α] {n:Nat} {t e sz:Nat} {c:Value} {o:Option (DataW H×List MemPlace)} (ht:(Tryz.prog).underlying t=some (.slice e)) (hsz:(Tryz.prog).cellsOf e=sz) (hpos:0 < sz) (f:α->List Value) (G:α->Prop) (h1:∀ x,(f x).all (·.oneCell')=true\/¬ G x)
  (hR:∀ (n:Nat) (cs':List Value) (z:DataW H×List MemPlace),cs'.length=sz->DataW.trod enc Tryz.prog W base sp held n e cs'=some z->∃ x:α,cs'=f x/\G x) (h:DataW.trod enc Tryz.prog W base sp held n t [c]=o) (ho:o.isSome=true):∃ xs:List α,Sl nF W sz c (xs.map f)/\(∀ x ∈ xs,G x)/\c.oneCell'=true:=by
 obtain ⟨x,hx⟩:=xg2.1 ho;obtain ⟨v,xs,rows,hv,hsl,hra,hone⟩:=a86 ht hsz hpos (fun (a:α) r=>r=f a/\G a) (fun x r h=>by
  obtain ⟨rfl,hg⟩:=h;rcases h1 x with h|h
  ·exact h
  ·exact absurd hg h) (fun n cs' z hl hz=>hR n cs' z hl hz) (h.trans hx)
 obtain rfl:=cc1 hv;obtain ⟨rfl,hg⟩:=a4b hra;exact ⟨xs,hsl,hg,hone⟩
end
section
variable {H:Type} {enc:TypeId×Value->H} {W:World} {base b0:Nat} {sp:Nat->Bool} {held:Bool}
instance:Inhabited Wd:=⟨⟨0,0⟩⟩
instance:Inhabited Fp:=⟨⟨0,[]⟩⟩
instance:Inhabited Pc:=⟨⟨0,0,0,0,0,0,0,0,0,0,0,0,0⟩⟩
instance:Inhabited Fs:=⟨⟨false,[],[]⟩⟩
theorem a8p:(Tryz.prog).cellsOf 73=2:=by kernel_rfl
theorem a77:(Tryz.prog).cellsOf 78=13:=by kernel_rfl
theorem a9c:(Tryz.prog).cellsOf 74=8:=by kernel_rfl
theorem a6F:(Tryz.prog).cellsOf 76=2:=by kernel_rfl
theorem a7w:(Tryz.prog).cellsOf 83=2:=by kernel_rfl
theorem a5Z:(Tryz.prog).cellsOf 60=3:=by kernel_rfl
theorem a79:(Tryz.prog).cellsOf 26=4:=by kernel_rfl
theorem a6s:(Tryz.prog).cellsOf 24=1:=by kernel_rfl
theorem a6P:(Tryz.prog).cellsOf 23=1:=by kernel_rfl
theorem a6c:(Tryz.prog).cellsOf 58=1:=by kernel_rfl
theorem a4x:(Tryz.prog).cellsOf 22=1:=by kernel_rfl
def a0s (k:Int):Prop:=-9223372036854775808<=k/\k<=9223372036854775807
theorem o4 {k:Int} (h:(Lit.int .i64 k).wf=true):a0s k:=by simpa [a0s,Lit.wf,IntKind.min,IntKind.max,IntKind.signed,IntKind.bits] using h
def pcB (p:Pc):Prop:=((a0s p.r0/\a0s p.r1/\a0s p.r2/\a0s p.r3)/\(a0s p.r4/\a0s p.r5/\a0s p.r6/\a0s p.r7))/\a0s p.pc/\a0s p.state/\a0s p.code/\a0s p.fk/\a0s p.fa
theorem a4w {n:Nat} {cs:List Value} {z:DataW H×List MemPlace} (hl:cs.length=2) (h:DataW.trod enc Tryz.prog W base sp held n 73 cs=some z):∃ x:Wd,cs=wdC x:=by
 match cs,hl with
 |[c0,c1],_=>
  obtain ⟨xs,n,_,_,_,hl,hf⟩:=DataW.trod_struct Tryz.underlying73 h;have f0:=hf 0 _ rfl;have f1:=hf 1 _ rfl;simp only [xk6,xj2,xk7,a1q,xk8,xk9,xg9,xl0] at f0 f1;have hl:xs.length=2:=hl;obtain ⟨k0,rfl,_⟩:=cI Tryz.underlying3 f0 (gS (by omega));obtain ⟨k1,rfl,_⟩:=cI Tryz.underlying3 f1 (gS (by omega));exact ⟨⟨k0,k1⟩,rfl⟩
theorem a4e {n:Nat} {cs:List Value} {z:DataW H×List MemPlace} (hl:cs.length=2) (h:DataW.trod enc Tryz.prog W base sp held n 83 cs=some z):∃ x:Fp,cs=fpC x/\a0s x.page:=by
 match cs,hl with
 |[c0,c1],_=>
  obtain ⟨xs,n,_,_,_,hl,hf⟩:=DataW.trod_struct Tryz.underlying83 h;have f0:=hf 0 _ rfl;have f1:=hf 1 _ rfl;simp only [xk6,xj2,xk7,a1q,a5C,xk8,xk9,xg9,xl0] at f0 f1;have hl:xs.length=2:=hl;obtain ⟨k0,rfl,w0⟩:=cI Tryz.underlying3 f0 (gS (by omega));obtain ⟨l1,rfl,_⟩:=cS Tryz.underlying9 f1 (gS (by omega));exact ⟨⟨k0,l1⟩,rfl,o4 w0⟩
theorem a4t {n:Nat} {cs:List Value} {z:DataW H×List MemPlace} (hl:cs.length=13) (h:DataW.trod enc Tryz.prog W base sp held n 78 cs=some z):∃ p:Pc,cs=prC p/\pcB p:=by
 match cs,hl with
 |[c0,c1,c2,c3,c4,c5,c6,c7,c8,c9,c10,c11,c12],_=>
  obtain ⟨xs,n,_,_,_,hl,hf⟩:=DataW.trod_struct Tryz.underlying78 h;have f0:=hf 0 _ rfl;have f1:=hf 1 _ rfl;have f2:=hf 2 _ rfl;have f3:=hf 3 _ rfl;have f4:=hf 4 _ rfl;simp only [xk6,xj2,xk7,a1q,a9c,a6F,xk8,xk9,xg9,xl0] at f0 f1 f2 f3 f4;have hl:xs.length=5:=hl;obtain ⟨k8,rfl,w8⟩:=cI Tryz.underlying3 f1 (gS (by omega));obtain ⟨k9,rfl,w9⟩:=cI Tryz.underlying3 f2 (gS (by omega));obtain ⟨k10,rfl,w10⟩:=cI Tryz.underlying3 f3 (gS (by omega));obtain ⟨y0,hy0⟩:=xg2.1 (gS (l:=xs) (i:=0) (by omega));obtain ⟨y4,hy4⟩:=xg2.1 (gS (l:=xs) (i:=4) (by omega));obtain ⟨zs,m,_,_,_,hm,hg⟩:=DataW.trod_array Tryz.underlying74 (f0.trans hy0);obtain ⟨us,q,_,_,_,hu,hh⟩:=DataW.trod_struct Tryz.underlying76 (f4.trans hy4);have g0:=hg 0 (by omega);have g1:=hg 1 (by omega);have g2:=hg 2 (by omega);have g3:=hg 3 (by omega);have g4:=hg 4 (by omega);have g5:=hg 5 (by omega);have g6:=hg 6 (by omega);have g7:=hg 7 (by omega);have h0:=hh 0 _ rfl;have h1:=hh 1 _ rfl;simp only [xk6,xj2,xk7,a1q,Nat.zero_mul,Nat.mul_one,xk8,xk9,xg9,xl0] at g0 g1 g2 g3 g4 g5 g6 g7 h0 h1;have hu:us.length=2:=hu;obtain ⟨r0,rfl,v0⟩:=cI Tryz.underlying3 g0 (gS (by omega));obtain ⟨r1,rfl,v1⟩:=cI Tryz.underlying3 g1 (gS (by omega));obtain ⟨r2,rfl,v2⟩:=cI Tryz.underlying3 g2 (gS (by omega));obtain ⟨r3,rfl,v3⟩:=cI Tryz.underlying3 g3 (gS (by omega));obtain ⟨r4,rfl,v4⟩:=cI Tryz.underlying3 g4 (gS (by omega));obtain ⟨r5,rfl,v5⟩:=cI Tryz.underlying3 g5 (gS (by omega));obtain ⟨r6,rfl,v6⟩:=cI Tryz.underlying3 g6 (gS (by omega));obtain ⟨r7,rfl,v7⟩:=cI Tryz.underlying3 g7 (gS (by omega));obtain ⟨k11,rfl,w11⟩:=cI Tryz.underlying3 h0 (gS (by omega));obtain ⟨k12,rfl,w12⟩:=cI Tryz.underlying3 h1 (gS (by omega));exact ⟨⟨r0,r1,r2,r3,r4,r5,r6,r7,k8,k9,k10,k11,k12⟩,rfl,⟨⟨o4 v0,o4 v1,o4 v2,o4 v3⟩,o4 v4,o4 v5,o4 v6,o4 v7⟩,o4 w8,o4 w9,o4 w10,o4 w11,o4 w12⟩
theorem a3o {n:Nat} {cs:List Value} {z:DataW H×List MemPlace} (hl:cs.length=3) (h:DataW.trod enc Tryz.prog W base sp held n 60 cs=some z):∃ x:Fs×Value×Value,cs=fsC x/\Sl nF W 4 x.2.1 (x.1.areas.map arC)/\Sl nF W 2 x.2.2 (x.1.pages.map fpC)/\x.2.1.oneCell'=true/\x.2.2.oneCell'=true:=by
 match cs,hl with
 |[c0,c1,c2],_=>
  obtain ⟨xs,n,_,_,_,hl,hf⟩:=DataW.trod_struct Tryz.underlying60 h;have f0:=hf 0 _ rfl;have f1:=hf 1 _ rfl;have f2:=hf 2 _ rfl;simp only [xk6,xj2,xk7,a5v,a74,a6c,xk8,xk9,xg9,xl0] at f0 f1 f2;have hl:xs.length=3:=hl;obtain ⟨b0,rfl⟩:=cB Tryz.underlying4 f0 (gS (by omega));obtain ⟨A,h1,_,o1⟩:=a0z Tryz.underlying57 a8T (by decide) arC (fun _=>True) (fun x=>xc6 rfl) (fun _ _ _ hl hz=>by obtain ⟨f,hf⟩:=a6i hl hz;exact ⟨f,hf,trivial⟩) f1 (gS (by omega));obtain ⟨E,h2,_,o2⟩:=a0z Tryz.underlying58 a7w (by decide) fpC (fun _=>True) (fun x=>xc6 rfl) (fun _ _ _ hl hz=>by obtain ⟨f,hf,_⟩:=a4e hl hz;exact ⟨f,hf,trivial⟩) f2 (gS (by omega));exact ⟨(⟨b0,A,E⟩,c1,c2),rfl,h1,h2,o1,o2⟩
theorem a4P {n:Nat} {cs:List Value} {z:DataW H×List MemPlace} (hl:cs.length=4) (h:DataW.trod enc Tryz.prog W base sp held n 26 cs=some z):∃ f:FlV,cs=flC f/\FlOk W f/\a0s f.slots/\∀ p ∈ f.pr,pcB p:=by
 match cs,hl with
 |[c0,c1,c2,c3],_=>
  obtain ⟨xs,n,_,_,_,hl,hf⟩:=DataW.trod_struct Tryz.underlying26 h;have f0:=hf 0 _ rfl;have f1:=hf 1 _ rfl;have f2:=hf 2 _ rfl;have f3:=hf 3 _ rfl;simp only [xk6,xj2,xk7,a1q,a4x,a6P,a6s,xk8,xk9,xg9,xl0] at f0 f1 f2 f3;have hl:xs.length=4:=hl;obtain ⟨k0,rfl,w0⟩:=cI Tryz.underlying3 f0 (gS (by omega));obtain ⟨X,h7,h8,_⟩:=a0z (α:=Fs×Value×Value) Tryz.underlying22 a5Z (by decide) fsC (fun x=>Sl nF W 4 x.2.1 (x.1.areas.map arC)/\Sl nF W 2 x.2.2 (x.1.pages.map fpC)/\x.2.1.oneCell'=true/\x.2.2.oneCell'=true) (fun x=>by
   by_cases hx:x.2.1.oneCell'=true/\x.2.2.oneCell'=true
   ·left;unfold fsC;simp only [xg4,List.all_nil,xj5,hx.1,hx.2];rfl
   ·exact xc3 fun h=>hx h.2.2) (fun _ _ _ hl hz=>by obtain ⟨x,hx,h2,h3⟩:=a3o hl hz;exact ⟨x,hx,h2,h3⟩) f1 (gS (by omega))
  obtain ⟨F,h5,g5,_⟩:=a0z Tryz.underlying23 a77 (by decide) prC pcB (fun x=>xc6 rfl) (fun _ _ _ hl hz=>by obtain ⟨f,hf,hg⟩:=a4t hl hz;exact ⟨f,hf,hg⟩) f2 (gS (by omega));obtain ⟨S,h6,_,_⟩:=a0z Tryz.underlying24 a8p (by decide) wdC (fun _=>True) (fun x=>xc6 rfl) (fun _ _ _ hl hz=>by obtain ⟨f,hf⟩:=a4w hl hz;exact ⟨f,hf,trivial⟩) f3 (gS (by omega));exact ⟨⟨k0,X,F,S,c1,c2,c3⟩,rfl,⟨h7,fun p hp=>(h8 p hp).1,fun p hp=>(h8 p hp).2.1,h5,h6⟩,o4 w0,g5⟩
theorem a5J {v:Value} {d:DataW H} {ps:List MemPlace} (hval:Value.okWide Tryz.prog W .any b0 26 v) (h:DataW.Trod enc Tryz.prog W base sp held 26 v d ps):∃ f:FlV,v=.agg (flC f).toArray/\FlOk W f/\a0s f.slots/\∀ p ∈ f.pr,pcB p:=by
 obtain ⟨cs,rfl,hsz⟩:=okWide_struct Tryz.underlying26 hval;obtain ⟨fuel,hf⟩:=h;have hc:(Value.agg cs).cells=cs:=rfl;rw [hc] at hf;have hlen:cs.toList.length=4:=by rw [xf2,hsz,a79]
 obtain ⟨k,h1,h2⟩:=a4P hlen hf;exact ⟨k,by rw [<- h1,xc2],h2⟩
end
end Go.Proofs.YtejnpppejalhfadGreat
