/- Texts that the proof stands on, one behind the other: OpF. -/
import Derived.Test.YtejnpppejalhfacGreatPFlatStarts11
set_option linter.unusedVariables false
set_option linter.unusedSimpArgs false
namespace Go.Proofs.YtejnpppejalhfacGreat
set_option maxRecDepth 100000
set_option maxHeartbeats 8000000
open Go.ChangeShapes Go.WideShapes Go.ChangeAt Go.RowKit
section
variable {H:Type} {enc:TypeId×Value->H} {W:World} {base b0:Nat} {sp:Nat->Bool} {held:Bool}
instance:Inhabited Wd:=⟨⟨0,0⟩⟩
instance:Inhabited Fp:=⟨⟨0,[]⟩⟩
instance:Inhabited Pc:=⟨⟨0,0,0,0,0,0,0,0,0,0,0,0,0⟩⟩
instance:Inhabited Fs:=⟨⟨false,[],[]⟩⟩
theorem a9C:(Tryz.prog).cellsOf 120=2:=by kernel_rfl
theorem b0K:(Tryz.prog).cellsOf 123=13:=by kernel_rfl
theorem a96:(Tryz.prog).cellsOf 121=8:=by kernel_rfl
theorem a70:(Tryz.prog).cellsOf 99=2:=by kernel_rfl
theorem a7P:(Tryz.prog).cellsOf 145=2:=by kernel_rfl
theorem a7d:(Tryz.prog).cellsOf 139=3:=by kernel_rfl
theorem a9O:(Tryz.prog).cellsOf 63=4:=by kernel_rfl
theorem a8Q:(Tryz.prog).cellsOf 43=1:=by kernel_rfl
theorem a75:(Tryz.prog).cellsOf 42=1:=by kernel_rfl
theorem a66:(Tryz.prog).cellsOf 137=1:=by kernel_rfl
theorem a6c:(Tryz.prog).cellsOf 61=1:=by kernel_rfl
def a0T (k:Int):Prop:=-9223372036854775808<=k/\k<=9223372036854775807
theorem t8 {k:Int} (h:(Lit.int .i64 k).wf=true):a0T k:=by simpa [a0T,Lit.wf,IntKind.min,IntKind.max,IntKind.signed,IntKind.bits] using h
def pcB (p:Pc):Prop:=((a0T p.r0/\a0T p.r1/\a0T p.r2/\a0T p.r3)/\(a0T p.r4/\a0T p.r5/\a0T p.r6/\a0T p.r7))/\a0T p.pc/\a0T p.state/\a0T p.code/\a0T p.fk/\a0T p.fa
theorem a5P {n:Nat} {cs:List Value} {z:DataW H×List MemPlace} (hl:cs.length=2) (h:DataW.trod enc Tryz.prog W base sp held n 120 cs=some z):∃ x:Wd,cs=wdC x:=by
 match cs,hl with
 |[c0,c1],_=>
  obtain ⟨xs,n,_,_,_,hl,hf⟩:=DataW.trod_struct Tryz.underlying120 h;have f0:=hf 0 _ rfl;have f1:=hf 1 _ rfl;simp only [xi7,xi8,xi9,a0E,xj0,xj1,xi4,xi5] at f0 f1;have hl:xs.length=2:=hl;obtain ⟨k0,rfl,_⟩:=cI Tryz.underlying3 f0 (gS (by omega));obtain ⟨k1,rfl,_⟩:=cI Tryz.underlying3 f1 (gS (by omega));exact ⟨⟨k0,k1⟩,rfl⟩
theorem a42 {n:Nat} {cs:List Value} {z:DataW H×List MemPlace} (hl:cs.length=2) (h:DataW.trod enc Tryz.prog W base sp held n 145 cs=some z):∃ x:Fp,cs=fpC x/\a0T x.page:=by
 match cs,hl with
 |[c0,c1],_=>
  obtain ⟨xs,n,_,_,_,hl,hf⟩:=DataW.trod_struct Tryz.underlying145 h;have f0:=hf 0 _ rfl;have f1:=hf 1 _ rfl;simp only [xi7,xi8,xi9,a0E,a2a,xj0,xj1,xi4,xi5] at f0 f1;have hl:xs.length=2:=hl;obtain ⟨k0,rfl,w0⟩:=cI Tryz.underlying3 f0 (gS (by omega));obtain ⟨l1,rfl,_⟩:=cS Tryz.underlying9 f1 (gS (by omega));exact ⟨⟨k0,l1⟩,rfl,t8 w0⟩
theorem a5L {n:Nat} {cs:List Value} {z:DataW H×List MemPlace} (hl:cs.length=13) (h:DataW.trod enc Tryz.prog W base sp held n 123 cs=some z):∃ p:Pc,cs=prC p/\pcB p:=by
 match cs,hl with
 |[c0,c1,c2,c3,c4,c5,c6,c7,c8,c9,c10,c11,c12],_=>
  obtain ⟨xs,n,_,_,_,hl,hf⟩:=DataW.trod_struct Tryz.underlying123 h;have f0:=hf 0 _ rfl;have f1:=hf 1 _ rfl;have f2:=hf 2 _ rfl;have f3:=hf 3 _ rfl;have f4:=hf 4 _ rfl;simp only [xi7,xi8,xi9,a0E,a96,a70,xj0,xj1,xi4,xi5] at f0 f1 f2 f3 f4;have hl:xs.length=5:=hl;obtain ⟨k8,rfl,w8⟩:=cI Tryz.underlying3 f1 (gS (by omega));obtain ⟨k9,rfl,w9⟩:=cI Tryz.underlying3 f2 (gS (by omega));obtain ⟨k10,rfl,w10⟩:=cI Tryz.underlying3 f3 (gS (by omega));obtain ⟨y0,hy0⟩:=xh6.1 (gS (l:=xs) (i:=0) (by omega));obtain ⟨y4,hy4⟩:=xh6.1 (gS (l:=xs) (i:=4) (by omega));obtain ⟨zs,m,_,_,_,hm,hg⟩:=DataW.trod_array Tryz.underlying121 (f0.trans hy0);obtain ⟨us,q,_,_,_,hu,hh⟩:=DataW.trod_struct Tryz.underlying99 (f4.trans hy4);have g0:=hg 0 (by omega);have g1:=hg 1 (by omega);have g2:=hg 2 (by omega);have g3:=hg 3 (by omega);have g4:=hg 4 (by omega);have g5:=hg 5 (by omega);have g6:=hg 6 (by omega);have g7:=hg 7 (by omega);have h0:=hh 0 _ rfl;have h1:=hh 1 _ rfl;simp only [xi7,xi8,xi9,a0E,Nat.zero_mul,Nat.mul_one,xj0,xj1,xi4,xi5] at g0 g1 g2 g3 g4 g5 g6 g7 h0 h1;have hu:us.length=2:=hu;obtain ⟨r0,rfl,v0⟩:=cI Tryz.underlying3 g0 (gS (by omega));obtain ⟨r1,rfl,v1⟩:=cI Tryz.underlying3 g1 (gS (by omega));obtain ⟨r2,rfl,v2⟩:=cI Tryz.underlying3 g2 (gS (by omega));obtain ⟨r3,rfl,v3⟩:=cI Tryz.underlying3 g3 (gS (by omega));obtain ⟨r4,rfl,v4⟩:=cI Tryz.underlying3 g4 (gS (by omega));obtain ⟨r5,rfl,v5⟩:=cI Tryz.underlying3 g5 (gS (by omega));obtain ⟨r6,rfl,v6⟩:=cI Tryz.underlying3 g6 (gS (by omega));obtain ⟨r7,rfl,v7⟩:=cI Tryz.underlying3 g7 (gS (by omega));obtain ⟨k11,rfl,w11⟩:=cI Tryz.underlying3 h0 (gS (by omega));obtain ⟨k12,rfl,w12⟩:=cI Tryz.underlying3 h1 (gS (by omega));exact ⟨⟨r0,r1,r2,r3,r4,r5,r6,r7,k8,k9,k10,k11,k12⟩,rfl,⟨⟨t8 v0,t8 v1,t8 v2,t8 v3⟩,t8 v4,t8 v5,t8 v6,t8 v7⟩,t8 w8,t8 w9,t8 w10,t8 w11,t8 w12⟩
theorem a4m {n:Nat} {cs:List Value} {z:DataW H×List MemPlace} (hl:cs.length=3) (h:DataW.trod enc Tryz.prog W base sp held n 139 cs=some z):∃ x:Fs×Value×Value,cs=fsC x/\Sl nF W 4 x.2.1 (x.1.areas.map arC)/\Sl nF W 2 x.2.2 (x.1.pages.map fpC)/\x.2.1.oneCell'=true/\x.2.2.oneCell'=true:=by
 match cs,hl with
 |[c0,c1,c2],_=>
  obtain ⟨xs,n,_,_,_,hl,hf⟩:=DataW.trod_struct Tryz.underlying139 h;have f0:=hf 0 _ rfl;have f1:=hf 1 _ rfl;have f2:=hf 2 _ rfl;simp only [xi7,xi8,xi9,a6G,a4U,a66,xj0,xj1,xi4,xi5] at f0 f1 f2;have hl:xs.length=3:=hl;obtain ⟨b0,rfl⟩:=cB Tryz.underlying4 f0 (gS (by omega));obtain ⟨A,h1,_,o1⟩:=z8 Tryz.underlying39 a6u (by decide) arC (fun _=>True) (fun x=>xc7 rfl) (fun _ _ _ hl hz=>by obtain ⟨f,hf⟩:=a3R hl hz;exact ⟨f,hf,trivial⟩) f1 (gS (by omega));obtain ⟨E,h2,_,o2⟩:=z8 Tryz.underlying137 a7P (by decide) fpC (fun _=>True) (fun x=>xc7 rfl) (fun _ _ _ hl hz=>by obtain ⟨f,hf,_⟩:=a42 hl hz;exact ⟨f,hf,trivial⟩) f2 (gS (by omega));exact ⟨(⟨b0,A,E⟩,c1,c2),rfl,h1,h2,o1,o2⟩
theorem a5V {n:Nat} {cs:List Value} {z:DataW H×List MemPlace} (hl:cs.length=4) (h:DataW.trod enc Tryz.prog W base sp held n 63 cs=some z):∃ f:FlV,cs=flC f/\FlOk W f/\a0T f.slots/\∀ p ∈ f.pr,pcB p:=by
 match cs,hl with
 |[c0,c1,c2,c3],_=>
  obtain ⟨xs,n,_,_,_,hl,hf⟩:=DataW.trod_struct Tryz.underlying63 h;have f0:=hf 0 _ rfl;have f1:=hf 1 _ rfl;have f2:=hf 2 _ rfl;have f3:=hf 3 _ rfl;simp only [xi7,xi8,xi9,a0E,a6c,a75,a8Q,xj0,xj1,xi4,xi5] at f0 f1 f2 f3;have hl:xs.length=4:=hl;obtain ⟨k0,rfl,w0⟩:=cI Tryz.underlying3 f0 (gS (by omega));obtain ⟨X,h7,h8,_⟩:=z8 (α:=Fs×Value×Value) Tryz.underlying61 a7d (by decide) fsC (fun x=>Sl nF W 4 x.2.1 (x.1.areas.map arC)/\Sl nF W 2 x.2.2 (x.1.pages.map fpC)/\x.2.1.oneCell'=true/\x.2.2.oneCell'=true) (fun x=>by
   by_cases hx:x.2.1.oneCell'=true/\x.2.2.oneCell'=true
   ·left;unfold fsC;simp only [xg4,xg5,xg6,hx.1,hx.2];rfl
   ·exact xc4 fun h=>hx h.2.2) (fun _ _ _ hl hz=>by obtain ⟨x,hx,h2,h3⟩:=a4m hl hz;exact ⟨x,hx,h2,h3⟩) f1 (gS (by omega))
  obtain ⟨F,h5,g5,_⟩:=z8 Tryz.underlying42 b0K (by decide) prC pcB (fun x=>xc7 rfl) (fun _ _ _ hl hz=>by obtain ⟨f,hf,hg⟩:=a5L hl hz;exact ⟨f,hf,hg⟩) f2 (gS (by omega));obtain ⟨S,h6,_,_⟩:=z8 Tryz.underlying43 a9C (by decide) wdC (fun _=>True) (fun x=>xc7 rfl) (fun _ _ _ hl hz=>by obtain ⟨f,hf⟩:=a5P hl hz;exact ⟨f,hf,trivial⟩) f3 (gS (by omega));exact ⟨⟨k0,X,F,S,c1,c2,c3⟩,rfl,⟨h7,fun p hp=>(h8 p hp).1,fun p hp=>(h8 p hp).2.1,h5,h6⟩,t8 w0,g5⟩
theorem a7K {v:Value} {d:DataW H} {ps:List MemPlace} (hval:Value.okWide Tryz.prog W .any b0 63 v) (h:DataW.Trod enc Tryz.prog W base sp held 63 v d ps):∃ f:FlV,v=.agg (flC f).toArray/\FlOk W f/\a0T f.slots/\∀ p ∈ f.pr,pcB p:=by
 obtain ⟨cs,rfl,hsz⟩:=okWide_struct Tryz.underlying63 hval;obtain ⟨fuel,hf⟩:=h;have hc:(Value.agg cs).cells=cs:=rfl;rw [hc] at hf;have hlen:cs.toList.length=4:=by rw [xf5,hsz,a9O]
 obtain ⟨k,h1,h2⟩:=a5V hlen hf;exact ⟨k,by rw [<- h1,xc3],h2⟩
end
end Go.Proofs.YtejnpppejalhfacGreat
