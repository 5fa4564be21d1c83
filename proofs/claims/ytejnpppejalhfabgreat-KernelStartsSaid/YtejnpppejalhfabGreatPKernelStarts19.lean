/- Texts that the proof stands on, one behind the other: OpR. -/
import Derived.Test.YtejnpppejalhfabGreatPKernelStarts18
namespace Go.Proofs.YtejnpppejalhfabGreat
set_option maxRecDepth 100000
set_option maxHeartbeats 8000000
open Go.ChangeShapes Go.WideShapes Go.ChangeAt Go.RowKit
section
variable {H:Type} {enc:TypeId×Value->H} {W:World} {base b0:Nat} {sp:Nat->Bool} {held:Bool}
instance:Inhabited Fm:=⟨fm0⟩
instance:Inhabited Sw:=⟨sw0⟩
instance:Inhabited En:=⟨⟨0,0,0⟩⟩
instance:Inhabited Sp:=⟨⟨⟨false,[],[]⟩,.bool false,.bool false⟩⟩
theorem b4I:(Tryz.prog).cellsOf 89=4:=by kernel_rfl
theorem b6h:(Tryz.prog).cellsOf 143=2:=by kernel_rfl
theorem b4F:(Tryz.prog).cellsOf 75=3:=by kernel_rfl
theorem b4K:(Tryz.prog).cellsOf 91=3:=by kernel_rfl
theorem b3C:(Tryz.prog).cellsOf 42=5:=by kernel_rfl
theorem b2H:(Tryz.prog).cellsOf 38=1:=by kernel_rfl
theorem b30:(Tryz.prog).cellsOf 39=1:=by kernel_rfl
theorem b3u:(Tryz.prog).cellsOf 40=1:=by kernel_rfl
theorem b1c:(Tryz.prog).cellsOf 73=1:=by kernel_rfl
theorem b1t {n:Nat} {cs:List Value} {z:DataW H×List MemPlace} (hl:cs.length=3) (h:DataW.trod enc Tryz.prog W base sp held n 91 cs=some z):∃ e:En,cs=enC e:=by
 match cs,hl with
 |[c0,c1,c2],_=>
  obtain ⟨xs,n,_,_,_,hl,hf⟩:=DataW.trod_struct Tryz.underlying91 h;have f0:=hf 0 _ rfl;have f1:=hf 1 _ rfl;have f2:=hf 2 _ rfl;simp only [xp8,xp9,xq0,a3S,xk3,xk4,xh3,xh4] at f0 f1 f2;have hl:xs.length=3:=hl;obtain ⟨k0,rfl,_⟩:=cI Tryz.underlying3 f0 (gS (by omega));obtain ⟨k1,rfl,_⟩:=cI Tryz.underlying3 f1 (gS (by omega));obtain ⟨k2,rfl,_⟩:=cI Tryz.underlying3 f2 (gS (by omega));exact ⟨⟨k0,k1,k2⟩,rfl⟩
theorem b1i {n:Nat} {cs:List Value} {z:DataW H×List MemPlace} (hl:cs.length=4) (h:DataW.trod enc Tryz.prog W base sp held n 89 cs=some z):∃ f:Fm,cs=fmC f:=by
 match cs,hl with
 |[c0,c1,c2,c3],_=>
  obtain ⟨xs,n,_,_,_,hl,hf⟩:=DataW.trod_struct Tryz.underlying89 h;have f0:=hf 0 _ rfl;have f1:=hf 1 _ rfl;have f2:=hf 2 _ rfl;have f3:=hf 3 _ rfl;simp only [xp8,xp9,xq0,a3S,a37,a8N,xk3,xk4,xh3,xh4] at f0 f1 f2 f3;have hl:xs.length=4:=hl;obtain ⟨l0,rfl,_⟩:=cS Tryz.underlying9 f0 (gS (by omega));obtain ⟨k1,rfl,_⟩:=cI Tryz.underlying3 f1 (gS (by omega));obtain ⟨b2,rfl⟩:=cB Tryz.underlying4 f2 (gS (by omega));obtain ⟨b3,rfl⟩:=cB Tryz.underlying4 f3 (gS (by omega));exact ⟨⟨l0,k1,b2,b3⟩,rfl⟩
theorem b2E {n:Nat} {cs:List Value} {z:DataW H×List MemPlace} (hl:cs.length=2) (h:DataW.trod enc Tryz.prog W base sp held n 143 cs=some z):∃ s:Sw,cs=swC s:=by
 match cs,hl with
 |[c0,c1],_=>
  obtain ⟨xs,n,_,_,_,hl,hf⟩:=DataW.trod_struct Tryz.underlying143 h;have f0:=hf 0 _ rfl;have f1:=hf 1 _ rfl;simp only [xp8,xp9,xq0,a3S,a37,xk3,xk4,xh3,xh4] at f0 f1;have hl:xs.length=2:=hl;obtain ⟨l0,rfl,_⟩:=cS Tryz.underlying9 f0 (gS (by omega));obtain ⟨k1,rfl,_⟩:=cI Tryz.underlying3 f1 (gS (by omega));exact ⟨⟨l0,k1⟩,rfl⟩
theorem b0R {n:Nat} {cs:List Value} {z:DataW H×List MemPlace} (hl:cs.length=3) (h:DataW.trod enc Tryz.prog W base sp held n 75 cs=some z):∃ x:Sp,cs=spC x/\SpV W x/\x.va.oneCell'=true/\x.ve.oneCell'=true:=by
 match cs,hl with
 |[c0,c1,c2],_=>
  obtain ⟨xs,n,_,_,_,hl,hf⟩:=DataW.trod_struct Tryz.underlying75 h;have f0:=hf 0 _ rfl;have f1:=hf 1 _ rfl;have f2:=hf 2 _ rfl;simp only [xp8,xp9,xq0,a8N,b0r,b1c,xk3,xk4,xh3,xh4] at f0 f1 f2;have hl:xs.length=3:=hl;obtain ⟨b0,rfl⟩:=cB Tryz.underlying4 f0 (gS (by omega));obtain ⟨A,h1,_,o1⟩:=a1x Tryz.underlying30 b14 (by decide) arC (fun _=>True) (fun x=>xd6 rfl) (fun _ _ _ hl hz=>by obtain ⟨f,hf⟩:=a8g hl hz;exact ⟨f,hf,trivial⟩) f1 (gS (by omega));obtain ⟨E,h2,_,o2⟩:=a1x Tryz.underlying73 b4K (by decide) enC (fun _=>True) (fun x=>xd6 rfl) (fun _ _ _ hl hz=>by obtain ⟨f,hf⟩:=b1t hl hz;exact ⟨f,hf,trivial⟩) f2 (gS (by omega));exact ⟨⟨⟨b0,A,E⟩,c1,c2⟩,rfl,⟨h1,h2⟩,o1,o2⟩
theorem a8t {n:Nat} {cs:List Value} {z:DataW H×List MemPlace} (hl:cs.length=5) (h:DataW.trod enc Tryz.prog W base sp held n 42 cs=some z):∃ k:KV,cs=kvC k/\KerV W k:=by
 match cs,hl with
 |[c0,c1,c2,c3,c4],_=>
  obtain ⟨xs,n,_,_,_,hl,hf⟩:=DataW.trod_struct Tryz.underlying42 h;have f0:=hf 0 _ rfl;have f1:=hf 1 _ rfl;have f2:=hf 2 _ rfl;have f3:=hf 3 _ rfl;have f4:=hf 4 _ rfl;simp only [xp8,xp9,xq0,a3S,a70,b2H,b30,b3u,xk3,xk4,xh3,xh4] at f0 f1 f2 f3 f4;have hl:xs.length=5:=hl;obtain ⟨Lp,h3,h4,_⟩:=a1x (α:=Sh×Value) Tryz.underlying31 b0q (by decide) (fun x=>shC x.1 x.2) (fun x=>ShV W x.1 x.2/\x.2.oneCell'=true) (fun x=>by
   by_cases hx:x.2.oneCell'=true
   ·left;unfold shC;simp only [xl3,List.all_nil,xl0,hx];rfl
   ·exact xd3 fun h=>hx h.2) (fun _ _ _ hl hz=>by obtain ⟨x,hx,h2,h3⟩:=a5L hl hz;exact ⟨x,hx,h2,h3⟩) f0 (gS (by omega))
  obtain ⟨F,h5,_,_⟩:=a1x Tryz.underlying38 b4I (by decide) fmC (fun _=>True) (fun x=>xd6 rfl) (fun _ _ _ hl hz=>by obtain ⟨f,hf⟩:=b1i hl hz;exact ⟨f,hf,trivial⟩) f1 (gS (by omega));obtain ⟨S,h6,_,_⟩:=a1x Tryz.underlying39 b6h (by decide) swC (fun _=>True) (fun x=>xd6 rfl) (fun _ _ _ hl hz=>by obtain ⟨f,hf⟩:=b2E hl hz;exact ⟨f,hf,trivial⟩) f2 (gS (by omega));obtain ⟨X,h7,h8,_⟩:=a1x (α:=Sp) Tryz.underlying40 b4F (by decide) spC (fun x=>SpV W x/\x.va.oneCell'=true/\x.ve.oneCell'=true) (fun x=>by
   by_cases hx:x.va.oneCell'=true/\x.ve.oneCell'=true
   ·left;unfold spC;simp only [xl3,List.all_nil,xl0,hx.1,hx.2];rfl
   ·exact xd3 fun h=>hx h.2) (fun _ _ _ hl hz=>by obtain ⟨x,hx,h2,h3⟩:=b0R hl hz;exact ⟨x,hx,h2,h3⟩) f3 (gS (by omega))
  obtain ⟨k4,rfl,_⟩:=cI Tryz.underlying3 f4 (gS (by omega));exact ⟨⟨Lp,F,S,X,k4,c0,c1,c2,c3⟩,rfl,⟨⟨h3,fun p hp=>(h4 p hp).1⟩,h5,h6,h7,fun p hp=>(h8 p hp).1⟩⟩
theorem a9s {v:Value} {d:DataW H} {ps:List MemPlace} (hval:Value.okWide Tryz.prog W .any b0 42 v) (h:DataW.Trod enc Tryz.prog W base sp held 42 v d ps):∃ k:KV,v=.agg (kvC k).toArray/\KerV W k:=by
 obtain ⟨cs,rfl,hsz⟩:=okWide_struct Tryz.underlying42 hval;obtain ⟨fuel,hf⟩:=h;have hc:(Value.agg cs).cells=cs:=rfl;rw [hc] at hf;have hlen:cs.toList.length=5:=by rw [xn9,hsz,b3C]
 obtain ⟨k,h1,h2⟩:=a8t hlen hf;exact ⟨k,by rw [<- h1,xd2],h2⟩
end
end Go.Proofs.YtejnpppejalhfabGreat
