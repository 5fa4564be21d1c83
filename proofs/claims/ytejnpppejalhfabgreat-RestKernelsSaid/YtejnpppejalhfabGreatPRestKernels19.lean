/- Texts that the proof stands on, one behind the other: OpR. -/
import Derived.Test.YtejnpppejalhfabGreatPRestKernels18
set_option linter.unusedVariables false
set_option linter.unusedSimpArgs false
namespace Go.Proofs.YtejnpppejalhfabGreat
set_option maxRecDepth 100000
set_option maxHeartbeats 8000000
open Go.ChangeShapes Go.WideShapes Go.ChangeAt Go.RowKit
section
variable {H:Type} {enc:TypeId×Value->H} {W:World} {base b0:Nat} {sp:Nat->Bool} {held:Bool}
instance:Inhabited Fm:=⟨fm0⟩
instance:Inhabited Sw:=⟨sw0⟩
instance:Inhabited En:=⟨⟨0,0,0⟩⟩
instance:Inhabited Sp:=⟨⟨⟨false,[],[]⟩,.bool false,.bool false⟩⟩
theorem b4E:(Tryz.prog).cellsOf 89=4:=by kernel_rfl
theorem b5d:(Tryz.prog).cellsOf 143=2:=by kernel_rfl
theorem b3Q:(Tryz.prog).cellsOf 75=3:=by kernel_rfl
theorem b23:(Tryz.prog).cellsOf 91=3:=by kernel_rfl
theorem b1M:(Tryz.prog).cellsOf 42=5:=by kernel_rfl
theorem b2P:(Tryz.prog).cellsOf 38=1:=by kernel_rfl
theorem b3d:(Tryz.prog).cellsOf 39=1:=by kernel_rfl
theorem b2s:(Tryz.prog).cellsOf 40=1:=by kernel_rfl
theorem b0C:(Tryz.prog).cellsOf 73=1:=by kernel_rfl
theorem b0q {n:Nat} {cs:List Value} {z:DataW H×List MemPlace} (hl:cs.length=3) (h:DataW.trod enc Tryz.prog W base sp held n 91 cs=some z):∃ e:En,cs=enC e:=by
 match cs,hl with
 |[c0,c1,c2],_=>
  obtain ⟨xs,n,_,_,_,hl,hf⟩:=DataW.trod_struct Tryz.underlying91 h;have f0:=hf 0 _ rfl;have f1:=hf 1 _ rfl;have f2:=hf 2 _ rfl;simp only [xp2,xp3,xp4,a3G,xl6,xl7,xl2,xl3] at f0 f1 f2;have hl:xs.length=3:=hl;obtain ⟨k0,rfl,_⟩:=cI Tryz.underlying3 f0 (gS (by omega));obtain ⟨k1,rfl,_⟩:=cI Tryz.underlying3 f1 (gS (by omega));obtain ⟨k2,rfl,_⟩:=cI Tryz.underlying3 f2 (gS (by omega));exact ⟨⟨k0,k1,k2⟩,rfl⟩
theorem b0W {n:Nat} {cs:List Value} {z:DataW H×List MemPlace} (hl:cs.length=4) (h:DataW.trod enc Tryz.prog W base sp held n 89 cs=some z):∃ f:Fm,cs=fmC f:=by
 match cs,hl with
 |[c0,c1,c2,c3],_=>
  obtain ⟨xs,n,_,_,_,hl,hf⟩:=DataW.trod_struct Tryz.underlying89 h;have f0:=hf 0 _ rfl;have f1:=hf 1 _ rfl;have f2:=hf 2 _ rfl;have f3:=hf 3 _ rfl;simp only [xp2,xp3,xp4,a3G,a31,a8u,xl6,xl7,xl2,xl3] at f0 f1 f2 f3;have hl:xs.length=4:=hl;obtain ⟨l0,rfl,_⟩:=cS Tryz.underlying9 f0 (gS (by omega));obtain ⟨k1,rfl,_⟩:=cI Tryz.underlying3 f1 (gS (by omega));obtain ⟨b2,rfl⟩:=cB Tryz.underlying4 f2 (gS (by omega));obtain ⟨b3,rfl⟩:=cB Tryz.underlying4 f3 (gS (by omega));exact ⟨⟨l0,k1,b2,b3⟩,rfl⟩
theorem b2T {n:Nat} {cs:List Value} {z:DataW H×List MemPlace} (hl:cs.length=2) (h:DataW.trod enc Tryz.prog W base sp held n 143 cs=some z):∃ s:Sw,cs=swC s:=by
 match cs,hl with
 |[c0,c1],_=>
  obtain ⟨xs,n,_,_,_,hl,hf⟩:=DataW.trod_struct Tryz.underlying143 h;have f0:=hf 0 _ rfl;have f1:=hf 1 _ rfl;simp only [xp2,xp3,xp4,a3G,a31,xl6,xl7,xl2,xl3] at f0 f1;have hl:xs.length=2:=hl;obtain ⟨l0,rfl,_⟩:=cS Tryz.underlying9 f0 (gS (by omega));obtain ⟨k1,rfl,_⟩:=cI Tryz.underlying3 f1 (gS (by omega));exact ⟨⟨l0,k1⟩,rfl⟩
theorem b0p {n:Nat} {cs:List Value} {z:DataW H×List MemPlace} (hl:cs.length=3) (h:DataW.trod enc Tryz.prog W base sp held n 75 cs=some z):∃ x:Sp,cs=spC x/\SpV W x/\x.va.oneCell'=true/\x.ve.oneCell'=true:=by
 match cs,hl with
 |[c0,c1,c2],_=>
  obtain ⟨xs,n,_,_,_,hl,hf⟩:=DataW.trod_struct Tryz.underlying75 h;have f0:=hf 0 _ rfl;have f1:=hf 1 _ rfl;have f2:=hf 2 _ rfl;simp only [xp2,xp3,xp4,a8u,a91,b0C,xl6,xl7,xl2,xl3] at f0 f1 f2;have hl:xs.length=3:=hl;obtain ⟨b0,rfl⟩:=cB Tryz.underlying4 f0 (gS (by omega));obtain ⟨A,h1,_,o1⟩:=a1M Tryz.underlying30 b1l (by decide) arC (fun _=>True) (fun x=>xd6 rfl) (fun _ _ _ hl hz=>by obtain ⟨f,hf⟩:=a7H hl hz;exact ⟨f,hf,trivial⟩) f1 (gS (by omega));obtain ⟨E,h2,_,o2⟩:=a1M Tryz.underlying73 b23 (by decide) enC (fun _=>True) (fun x=>xd6 rfl) (fun _ _ _ hl hz=>by obtain ⟨f,hf⟩:=b0q hl hz;exact ⟨f,hf,trivial⟩) f2 (gS (by omega));exact ⟨⟨⟨b0,A,E⟩,c1,c2⟩,rfl,⟨h1,h2⟩,o1,o2⟩
theorem a8s {n:Nat} {cs:List Value} {z:DataW H×List MemPlace} (hl:cs.length=5) (h:DataW.trod enc Tryz.prog W base sp held n 42 cs=some z):∃ k:KV,cs=kvC k/\KerV W k:=by
 match cs,hl with
 |[c0,c1,c2,c3,c4],_=>
  obtain ⟨xs,n,_,_,_,hl,hf⟩:=DataW.trod_struct Tryz.underlying42 h;have f0:=hf 0 _ rfl;have f1:=hf 1 _ rfl;have f2:=hf 2 _ rfl;have f3:=hf 3 _ rfl;have f4:=hf 4 _ rfl;simp only [xp2,xp3,xp4,a3G,a8b,b2P,b3d,b2s,xl6,xl7,xl2,xl3] at f0 f1 f2 f3 f4;have hl:xs.length=5:=hl;obtain ⟨Lp,h3,h4,_⟩:=a1M (α:=Sh×Value) Tryz.underlying31 a9j (by decide) (fun x=>shC x.1 x.2) (fun x=>ShV W x.1 x.2/\x.2.oneCell'=true) (fun x=>by
   by_cases hx:x.2.oneCell'=true
   ·left;unfold shC;simp only [xo6,List.all_nil,xp5,hx];rfl
   ·exact xd3 fun h=>hx h.2) (fun _ _ _ hl hz=>by obtain ⟨x,hx,h2,h3⟩:=a5y hl hz;exact ⟨x,hx,h2,h3⟩) f0 (gS (by omega))
  obtain ⟨F,h5,_,_⟩:=a1M Tryz.underlying38 b4E (by decide) fmC (fun _=>True) (fun x=>xd6 rfl) (fun _ _ _ hl hz=>by obtain ⟨f,hf⟩:=b0W hl hz;exact ⟨f,hf,trivial⟩) f1 (gS (by omega));obtain ⟨S,h6,_,_⟩:=a1M Tryz.underlying39 b5d (by decide) swC (fun _=>True) (fun x=>xd6 rfl) (fun _ _ _ hl hz=>by obtain ⟨f,hf⟩:=b2T hl hz;exact ⟨f,hf,trivial⟩) f2 (gS (by omega));obtain ⟨X,h7,h8,_⟩:=a1M (α:=Sp) Tryz.underlying40 b3Q (by decide) spC (fun x=>SpV W x/\x.va.oneCell'=true/\x.ve.oneCell'=true) (fun x=>by
   by_cases hx:x.va.oneCell'=true/\x.ve.oneCell'=true
   ·left;unfold spC;simp only [xo6,List.all_nil,xp5,hx.1,hx.2];rfl
   ·exact xd3 fun h=>hx h.2) (fun _ _ _ hl hz=>by obtain ⟨x,hx,h2,h3⟩:=b0p hl hz;exact ⟨x,hx,h2,h3⟩) f3 (gS (by omega))
  obtain ⟨k4,rfl,_⟩:=cI Tryz.underlying3 f4 (gS (by omega));exact ⟨⟨Lp,F,S,X,k4,c0,c1,c2,c3⟩,rfl,⟨⟨h3,fun p hp=>(h4 p hp).1⟩,h5,h6,h7,fun p hp=>(h8 p hp).1⟩⟩
theorem a9V {v:Value} {d:DataW H} {ps:List MemPlace} (hval:Value.okWide Tryz.prog W .any b0 42 v) (h:DataW.Trod enc Tryz.prog W base sp held 42 v d ps):∃ k:KV,v=.agg (kvC k).toArray/\KerV W k:=by
 obtain ⟨cs,rfl,hsz⟩:=okWide_struct Tryz.underlying42 hval;obtain ⟨fuel,hf⟩:=h;have hc:(Value.agg cs).cells=cs:=rfl;rw [hc] at hf;have hlen:cs.toList.length=5:=by rw [xh0,hsz,b1M]
 obtain ⟨k,h1,h2⟩:=a8s hlen hf;exact ⟨k,by rw [<- h1,xd2],h2⟩
end
end Go.Proofs.YtejnpppejalhfabGreat
