/- Texts that the proof stands on, one behind the other: OpA, OpK, OpR. -/
import Derived.Test.YtejnpppejalhfacPKernelApart12
/- A slice of areas that came in. -/
namespace Go.Proofs.Ytejnpppejalhfac
open Go.ChangeShapes Go.WideShapes Go.ChangeAt Go.RowKit
section
variable {H:Type} {enc:TypeId×Value→H} {W:World} {base b0:Nat} {sp:Nat→Bool} {held:Bool}
theorem cI {n:Nat} {t:TypeId} {c:Value} {o:Option (DataW H×List MemPlace)} (ht:(Try.prog).underlying t=some (.int .i64)) (h:DataW.trod enc Try.prog W base sp held n t [c]=o) (ho:o.isSome=true):∃ k:Int,c=.int .i64 k∧(Lit.int .i64 k).wf=true:=by
 obtain ⟨x,hx⟩:=Option.isSome_iff_exists.1 ho
 obtain ⟨k,hk,_,hw⟩:=DataW.trod_int ht (h.trans hx)
 simp only [List.cons.injEq,and_true] at hk
 exact ⟨k,hk,hw⟩
theorem cB {n:Nat} {t:TypeId} {c:Value} {o:Option (DataW H×List MemPlace)} (ht:(Try.prog).underlying t=some .bool) (h:DataW.trod enc Try.prog W base sp held n t [c]=o) (ho:o.isSome=true):∃ b:Bool,c=.bool b:=by
 obtain ⟨x,hx⟩:=Option.isSome_iff_exists.1 ho
 obtain ⟨b,hb,_⟩:=DataW.trod_bool ht (h.trans hx)
 simp only [List.cons.injEq,and_true] at hb
 exact ⟨b,hb⟩
theorem cS {n:Nat} {t:TypeId} {c:Value} {o:Option (DataW H×List MemPlace)} (ht:(Try.prog).underlying t=some .string) (h:DataW.trod enc Try.prog W base sp held n t [c]=o) (ho:o.isSome=true):∃ l:List UInt8,c=.string ⟨l.toArray⟩∧l.length≤maxLen:=by
 obtain ⟨x,hx⟩:=Option.isSome_iff_exists.1 ho
 obtain ⟨s,hs,_,hl⟩:=DataW.trod_string ht (h.trans hx)
 simp only [List.cons.injEq,and_true] at hs
 obtain ⟨⟨l⟩⟩:=s
 exact ⟨l,hs,by simpa [ByteArray.size] using hl⟩
theorem gS {α:Type} {l:List α} {i:Nat} (h:i < l.length):(l[i]?).isSome=true:=by simp [h]
theorem cc_int:(Try.prog).cellsOf 3=1:=by kernel_rfl
theorem cc_bool:(Try.prog).cellsOf 4=1:=by kernel_rfl
theorem cc_string:(Try.prog).cellsOf 9=1:=by kernel_rfl
theorem cc_area:(Try.prog).cellsOf 71=4:=by kernel_rfl
instance:Inhabited Ar:=⟨⟨0,0,0,false⟩⟩
set_option maxRecDepth 100000 in
theorem open_area {n:Nat} {cs:List Value} {z:DataW H×List MemPlace} (hl:cs.length=4) (h:DataW.trod enc Try.prog W base sp held n 71 cs=some z):∃ a:Ar,cs=arC a:=by
 match cs,hl with
 |[c0,c1,c2,c3],_=>
  obtain ⟨xs,n,_,_,_,hl,hf⟩:=DataW.trod_struct Try.underlying71 h
  have f0:=hf 0 _ rfl
  have f1:=hf 1 _ rfl
  have f2:=hf 2 _ rfl
  have f3:=hf 3 _ rfl
  simp only [List.getElem_toArray,List.getElem_cons_zero,List.getElem_cons_succ,cc_int,cc_bool,List.drop_succ_cons,List.drop_zero,List.take_succ_cons,List.take_zero] at f0 f1 f2 f3
  have hl:xs.length=4:=hl
  obtain ⟨k0,rfl,_⟩:=cI Try.underlying3 f0 (gS (by omega))
  obtain ⟨k1,rfl,_⟩:=cI Try.underlying3 f1 (gS (by omega))
  obtain ⟨k2,rfl,_⟩:=cI Try.underlying3 f2 (gS (by omega))
  obtain ⟨k3,rfl⟩:=cB Try.underlying4 f3 (gS (by omega))
  exact ⟨⟨k0,k1,k2,k3⟩,rfl⟩
end
end Go.Proofs.Ytejnpppejalhfac
/- What was linked, and a sheet, that came in. -/
namespace Go.Proofs.Ytejnpppejalhfac
open Go.ChangeShapes Go.WideShapes Go.ChangeAt Go.RowKit
section
variable {H:Type} {enc:TypeId×Value→H} {W:World} {base b0:Nat} {sp:Nat→Bool} {held:Bool}
instance:Inhabited Fx:=⟨⟨0,[]⟩⟩
instance:Inhabited Sh:=⟨⟨0,[],[]⟩⟩
theorem cc_fix:(Try.prog).cellsOf 100=2:=by kernel_rfl
theorem cc_sheet:(Try.prog).cellsOf 97=3:=by kernel_rfl
theorem cc_fixes:(Try.prog).cellsOf 95=1:=by kernel_rfl
theorem cc_areas:(Try.prog).cellsOf 38=1:=by kernel_rfl
theorem cc_sheets:(Try.prog).cellsOf 22=1:=by kernel_rfl
theorem rowsAre_map {α:Type} {f:α→List Value} {G:α→Prop} {xs:List α} {rows:List (List Value)} (h:RowsAre (fun a r=>r=f a∧G a) xs rows):rows=xs.map f∧∀ x ∈ xs,G x:=by
 obtain ⟨h1,h2⟩:=h
 refine ⟨?_,fun x hx=>?_⟩
 ·apply List.ext_getElem?
  intro i
  rw [List.getElem?_map]
  by_cases hi:i < xs.length
  ·rw [List.getElem?_eq_getElem hi,List.getElem?_eq_getElem (by omega)]
   simp only [Option.map_some,Option.some.injEq]
   exact (h2 i _ _ (List.getElem?_eq_getElem hi) (List.getElem?_eq_getElem (by omega))).1
  ·rw [List.getElem?_eq_none (by omega),List.getElem?_eq_none (by omega)];rfl
 ·obtain ⟨i,hi⟩:=List.mem_iff_getElem?.1 hx
  have hl:=lt_of_getE hi
  exact (h2 i x _ hi (List.getElem?_eq_getElem (by rw [h1];exact hl))).2
theorem cc1 {c v:Value} (h:[c]=[v]):c=v:=by simpa using h
set_option maxRecDepth 100000 in
theorem open_fix {n:Nat} {cs:List Value} {z:DataW H×List MemPlace} (hl:cs.length=2) (h:DataW.trod enc Try.prog W base sp held n 100 cs=some z):∃ f:Fx,cs=fxC f:=by
 match cs,hl with
 |[c0,c1],_=>
  obtain ⟨xs,n,_,_,_,hl,hf⟩:=DataW.trod_struct Try.underlying100 h
  have f0:=hf 0 _ rfl
  have f1:=hf 1 _ rfl
  simp only [List.getElem_toArray,List.getElem_cons_zero,List.getElem_cons_succ,cc_int,cc_string,List.drop_succ_cons,List.drop_zero,List.take_succ_cons,List.take_zero] at f0 f1
  have hl:xs.length=2:=hl
  obtain ⟨k0,rfl,_⟩:=cI Try.underlying3 f0 (gS (by omega))
  obtain ⟨l1,rfl,_⟩:=cS Try.underlying9 f1 (gS (by omega))
  exact ⟨⟨k0,l1⟩,rfl⟩
theorem open_slC {α:Type} [Inhabited α] {n:Nat} {t e sz:Nat} {c:Value} {o:Option (DataW H×List MemPlace)} (ht:(Try.prog).underlying t=some (.slice e)) (hsz:(Try.prog).cellsOf e=sz) (hpos:0 < sz) (f:α→List Value) (G:α→Prop) (h1:∀ x,(f x).all (·.oneCell')=true∨¬ G x)
  (hR:∀ (n:Nat) (cs':List Value) (z:DataW H×List MemPlace),cs'.length=sz→DataW.trod enc Try.prog W base sp held n e cs'=some z→∃ x:α,cs'=f x∧G x) (h:DataW.trod enc Try.prog W base sp held n t [c]=o) (ho:o.isSome=true):∃ xs:List α,Sl nF W sz c (xs.map f)∧(∀ x ∈ xs,G x)∧c.oneCell'=true:=by
 obtain ⟨x,hx⟩:=Option.isSome_iff_exists.1 ho
 obtain ⟨v,xs,rows,hv,hsl,hra,hone⟩:=open_sl ht hsz hpos (fun (a:α) r=>r=f a∧G a) (fun x r h=>by
  obtain ⟨rfl,hg⟩:=h
  rcases h1 x with h|h
  ·exact h
  ·exact absurd hg h) (fun n cs' z hl hz=>hR n cs' z hl hz) (h.trans hx)
 obtain rfl:=cc1 hv
 obtain ⟨rfl,hg⟩:=rowsAre_map hra
 exact ⟨xs,hsl,hg,hone⟩
set_option maxRecDepth 100000 in
theorem open_sheetC {n:Nat} {cs:List Value} {z:DataW H×List MemPlace} (hl:cs.length=3) (h:DataW.trod enc Try.prog W base sp held n 97 cs=some z):∃ x:Sh×Value,cs=shC x.1 x.2∧ShV W x.1 x.2∧x.2.oneCell'=true:=by
 match cs,hl with
 |[c0,c1,c2],_=>
  obtain ⟨xs,n,_,_,_,hl,hf⟩:=DataW.trod_struct Try.underlying97 h
  have f0:=hf 0 _ rfl
  have f1:=hf 1 _ rfl
  have f2:=hf 2 _ rfl
  simp only [List.getElem_toArray,List.getElem_cons_zero,List.getElem_cons_succ,cc_int,cc_string,cc_fixes,List.drop_succ_cons,List.drop_zero,List.take_succ_cons,List.take_zero] at f0 f1 f2
  have hl:xs.length=3:=hl
  obtain ⟨k0,rfl,_⟩:=cI Try.underlying3 f0 (gS (by omega))
  obtain ⟨l1,rfl,_⟩:=cS Try.underlying9 f1 (gS (by omega))
  obtain ⟨fs,h2,_,h3⟩:=open_slC Try.underlying95 cc_fix (by decide) fxC (fun _=>True) (fun x=>Or.inl rfl) (fun _ _ _ hl hz=>by obtain ⟨f,hf⟩:=open_fix hl hz;exact ⟨f,hf,trivial⟩) f2 (gS (by omega))
  exact ⟨(⟨k0,l1,fs⟩,c2),rfl,h2,h3⟩
end
end Go.Proofs.Ytejnpppejalhfac
/- A kernel that came in. -/
namespace Go.Proofs.Ytejnpppejalhfac
open Go.ChangeShapes Go.WideShapes Go.ChangeAt Go.RowKit
section
variable {H:Type} {enc:TypeId×Value→H} {W:World} {base b0:Nat} {sp:Nat→Bool} {held:Bool}
instance:Inhabited Fm:=⟨fm0⟩
instance:Inhabited Sw:=⟨sw0⟩
instance:Inhabited En:=⟨⟨0,0,0⟩⟩
instance:Inhabited Sp:=⟨⟨⟨false,[],[]⟩,.bool false,.bool false⟩⟩
theorem cc_frame:(Try.prog).cellsOf 43=4:=by kernel_rfl
theorem cc_slot:(Try.prog).cellsOf 45=2:=by kernel_rfl
theorem cc_space:(Try.prog).cellsOf 41=3:=by kernel_rfl
theorem cc_entry:(Try.prog).cellsOf 55=3:=by kernel_rfl
theorem cc_kernel:(Try.prog).cellsOf 27=5:=by kernel_rfl
theorem cc_frames:(Try.prog).cellsOf 23=1:=by kernel_rfl
theorem cc_slots:(Try.prog).cellsOf 24=1:=by kernel_rfl
theorem cc_spaces:(Try.prog).cellsOf 25=1:=by kernel_rfl
theorem cc_entries:(Try.prog).cellsOf 39=1:=by kernel_rfl
set_option maxRecDepth 100000 in
theorem open_entry {n:Nat} {cs:List Value} {z:DataW H×List MemPlace} (hl:cs.length=3) (h:DataW.trod enc Try.prog W base sp held n 55 cs=some z):∃ e:En,cs=enC e:=by
 match cs,hl with
 |[c0,c1,c2],_=>
  obtain ⟨xs,n,_,_,_,hl,hf⟩:=DataW.trod_struct Try.underlying55 h
  have f0:=hf 0 _ rfl
  have f1:=hf 1 _ rfl
  have f2:=hf 2 _ rfl
  simp only [List.getElem_toArray,List.getElem_cons_zero,List.getElem_cons_succ,cc_int,List.drop_succ_cons,List.drop_zero,List.take_succ_cons,List.take_zero] at f0 f1 f2
  have hl:xs.length=3:=hl
  obtain ⟨k0,rfl,_⟩:=cI Try.underlying3 f0 (gS (by omega))
  obtain ⟨k1,rfl,_⟩:=cI Try.underlying3 f1 (gS (by omega))
  obtain ⟨k2,rfl,_⟩:=cI Try.underlying3 f2 (gS (by omega))
  exact ⟨⟨k0,k1,k2⟩,rfl⟩
set_option maxRecDepth 100000 in
theorem open_frame {n:Nat} {cs:List Value} {z:DataW H×List MemPlace} (hl:cs.length=4) (h:DataW.trod enc Try.prog W base sp held n 43 cs=some z):∃ f:Fm,cs=fmC f:=by
 match cs,hl with
 |[c0,c1,c2,c3],_=>
  obtain ⟨xs,n,_,_,_,hl,hf⟩:=DataW.trod_struct Try.underlying43 h
  have f0:=hf 0 _ rfl
  have f1:=hf 1 _ rfl
  have f2:=hf 2 _ rfl
  have f3:=hf 3 _ rfl
  simp only [List.getElem_toArray,List.getElem_cons_zero,List.getElem_cons_succ,cc_int,cc_string,cc_bool,List.drop_succ_cons,List.drop_zero,List.take_succ_cons,List.take_zero] at f0 f1 f2 f3
  have hl:xs.length=4:=hl
  obtain ⟨l0,rfl,_⟩:=cS Try.underlying9 f0 (gS (by omega))
  obtain ⟨k1,rfl,_⟩:=cI Try.underlying3 f1 (gS (by omega))
  obtain ⟨b2,rfl⟩:=cB Try.underlying4 f2 (gS (by omega))
  obtain ⟨b3,rfl⟩:=cB Try.underlying4 f3 (gS (by omega))
  exact ⟨⟨l0,k1,b2,b3⟩,rfl⟩
set_option maxRecDepth 100000 in
theorem open_slot {n:Nat} {cs:List Value} {z:DataW H×List MemPlace} (hl:cs.length=2) (h:DataW.trod enc Try.prog W base sp held n 45 cs=some z):∃ s:Sw,cs=swC s:=by
 match cs,hl with
 |[c0,c1],_=>
  obtain ⟨xs,n,_,_,_,hl,hf⟩:=DataW.trod_struct Try.underlying45 h
  have f0:=hf 0 _ rfl
  have f1:=hf 1 _ rfl
  simp only [List.getElem_toArray,List.getElem_cons_zero,List.getElem_cons_succ,cc_int,cc_string,List.drop_succ_cons,List.drop_zero,List.take_succ_cons,List.take_zero] at f0 f1
  have hl:xs.length=2:=hl
  obtain ⟨l0,rfl,_⟩:=cS Try.underlying9 f0 (gS (by omega))
  obtain ⟨k1,rfl,_⟩:=cI Try.underlying3 f1 (gS (by omega))
  exact ⟨⟨l0,k1⟩,rfl⟩
set_option maxRecDepth 100000 in
theorem open_space {n:Nat} {cs:List Value} {z:DataW H×List MemPlace} (hl:cs.length=3) (h:DataW.trod enc Try.prog W base sp held n 41 cs=some z):∃ x:Sp,cs=spC x∧SpV W x∧x.va.oneCell'=true∧x.ve.oneCell'=true:=by
 match cs,hl with
 |[c0,c1,c2],_=>
  obtain ⟨xs,n,_,_,_,hl,hf⟩:=DataW.trod_struct Try.underlying41 h
  have f0:=hf 0 _ rfl
  have f1:=hf 1 _ rfl
  have f2:=hf 2 _ rfl
  simp only [List.getElem_toArray,List.getElem_cons_zero,List.getElem_cons_succ,cc_bool,cc_areas,cc_entries,List.drop_succ_cons,List.drop_zero,List.take_succ_cons,List.take_zero] at f0 f1 f2
  have hl:xs.length=3:=hl
  obtain ⟨b0,rfl⟩:=cB Try.underlying4 f0 (gS (by omega))
  obtain ⟨A,h1,_,o1⟩:=open_slC Try.underlying38 cc_area (by decide) arC (fun _=>True) (fun x=>Or.inl rfl) (fun _ _ _ hl hz=>by obtain ⟨f,hf⟩:=open_area hl hz;exact ⟨f,hf,trivial⟩) f1 (gS (by omega))
  obtain ⟨E,h2,_,o2⟩:=open_slC Try.underlying39 cc_entry (by decide) enC (fun _=>True) (fun x=>Or.inl rfl) (fun _ _ _ hl hz=>by obtain ⟨f,hf⟩:=open_entry hl hz;exact ⟨f,hf,trivial⟩) f2 (gS (by omega))
  exact ⟨⟨⟨b0,A,E⟩,c1,c2⟩,rfl,⟨h1,h2⟩,o1,o2⟩
set_option maxRecDepth 100000 in
theorem open_kernelC {n:Nat} {cs:List Value} {z:DataW H×List MemPlace} (hl:cs.length=5) (h:DataW.trod enc Try.prog W base sp held n 27 cs=some z):∃ k:KV,cs=kvC k∧KerV W k:=by
 match cs,hl with
 |[c0,c1,c2,c3,c4],_=>
  obtain ⟨xs,n,_,_,_,hl,hf⟩:=DataW.trod_struct Try.underlying27 h
  have f0:=hf 0 _ rfl
  have f1:=hf 1 _ rfl
  have f2:=hf 2 _ rfl
  have f3:=hf 3 _ rfl
  have f4:=hf 4 _ rfl
  simp only [List.getElem_toArray,List.getElem_cons_zero,List.getElem_cons_succ,cc_int,cc_sheets,cc_frames,cc_slots,cc_spaces,List.drop_succ_cons,List.drop_zero,List.take_succ_cons,List.take_zero] at f0 f1 f2 f3 f4
  have hl:xs.length=5:=hl
  obtain ⟨Lp,h3,h4,_⟩:=open_slC (α:=Sh×Value) Try.underlying22 cc_sheet (by decide) (fun x=>shC x.1 x.2) (fun x=>ShV W x.1 x.2∧x.2.oneCell'=true) (fun x=>by
   by_cases hx:x.2.oneCell'=true
   ·left
    unfold shC
    simp only [List.all_cons,List.all_nil,Bool.and_true,hx]
    rfl
   ·exact Or.inr fun h=>hx h.2) (fun _ _ _ hl hz=>by obtain ⟨x,hx,h2,h3⟩:=open_sheetC hl hz;exact ⟨x,hx,h2,h3⟩) f0 (gS (by omega))
  obtain ⟨F,h5,_,_⟩:=open_slC Try.underlying23 cc_frame (by decide) fmC (fun _=>True) (fun x=>Or.inl rfl) (fun _ _ _ hl hz=>by obtain ⟨f,hf⟩:=open_frame hl hz;exact ⟨f,hf,trivial⟩) f1 (gS (by omega))
  obtain ⟨S,h6,_,_⟩:=open_slC Try.underlying24 cc_slot (by decide) swC (fun _=>True) (fun x=>Or.inl rfl) (fun _ _ _ hl hz=>by obtain ⟨f,hf⟩:=open_slot hl hz;exact ⟨f,hf,trivial⟩) f2 (gS (by omega))
  obtain ⟨X,h7,h8,_⟩:=open_slC (α:=Sp) Try.underlying25 cc_space (by decide) spC (fun x=>SpV W x∧x.va.oneCell'=true∧x.ve.oneCell'=true) (fun x=>by
   by_cases hx:x.va.oneCell'=true∧x.ve.oneCell'=true
   ·left
    unfold spC
    simp only [List.all_cons,List.all_nil,Bool.and_true,hx.1,hx.2]
    rfl
   ·exact Or.inr fun h=>hx h.2) (fun _ _ _ hl hz=>by obtain ⟨x,hx,h2,h3⟩:=open_space hl hz;exact ⟨x,hx,h2,h3⟩) f3 (gS (by omega))
  obtain ⟨k4,rfl,_⟩:=cI Try.underlying3 f4 (gS (by omega))
  exact ⟨⟨Lp,F,S,X,k4,c0,c1,c2,c3⟩,rfl,⟨⟨h3,fun p hp=>(h4 p hp).1⟩,h5,h6,h7,fun p hp=>(h8 p hp).1⟩⟩
set_option maxRecDepth 100000 in
theorem open_kernel {v:Value} {d:DataW H} {ps:List MemPlace} (hval:Value.okWide Try.prog W .any b0 27 v) (h:DataW.Trod enc Try.prog W base sp held 27 v d ps):∃ k:KV,v=.agg (kvC k).toArray∧KerV W k:=by
 obtain ⟨cs,rfl,hsz⟩:=okWide_struct Try.underlying27 hval
 obtain ⟨fuel,hf⟩:=h
 have hc:(Value.agg cs).cells=cs:=rfl
 rw [hc] at hf
 have hlen:cs.toList.length=5:=by rw [Array.length_toList,hsz,cc_kernel]
 obtain ⟨k,h1,h2⟩:=open_kernelC hlen hf
 exact ⟨k,by rw [← h1,Array.toArray_toList],h2⟩
end
end Go.Proofs.Ytejnpppejalhfac
