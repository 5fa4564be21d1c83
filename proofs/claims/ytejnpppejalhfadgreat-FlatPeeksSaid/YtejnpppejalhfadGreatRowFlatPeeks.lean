/- PROVED HERE: whatever the flat machine, the space and the page are, foliantlaw.FlatPeeks returns true, and its arguments read as they did. Conditions: none. -/
import Derived.Test.YtejnpppejalhfadGreatRows
import Derived.WalkKit
import Derived.ProofKit
import Derived.OpenShut
import Derived.ShutString
import Derived.ChangeOld
import Derived.Below
import Derived.JoinedOf
import Derived.Test.YtejnpppejalhfadGreatPFlatPeeks10
namespace Go.Proofs.YtejnpppejalhfadGreat.lawFlatPeeks
open Go.ChangeShapes Go.WideShapes Go.ChangeAt Go.RowKit
open Go.ChangeMaps (open_string shut_string)
set_option linter.unusedVariables false
theorem wf_bounds {n:Int} (h:(Lit.int .i64 n).wf=true):-9223372036854775808≤n∧n≤9223372036854775807:=by
 simpa [Lit.wf,IntKind.min,IntKind.max,IntKind.signed,IntKind.bits] using h
theorem own:ownKnob Tryz.prog.godebug=none:=by kernel_rfl
theorem laidOut:laidOutB Tryz.prog=true:=by kernel_rfl
set_option maxRecDepth 100000 in
theorem lifted (os:Os) (started:os.Started) (H:Type) (enc:TypeId×Value→H) :
  ReturnsInHanded {} Tryz.checked os 6 .any (Rows.flatPeeksSpec.pre6 enc Tryz.prog Tryz.f6 Rows.flatPeeksRow.domain false) (Rows.flatPeeksSpec.post enc Tryz.prog Tryz.f6 false true false false):=by
 refine returnsInHanded_of_change (C:=Tryz.checked) own started (by kernel_rfl) Tryz.func6
  (ChangeSpec.witness6 (enc:=enc) (C:=Tryz.checked) false ⟨#[],#[.agg #[.int .i64 0,.slice none 0 0,.slice none 0 0,.slice none 0 0],.int .i64 0,.int .i64 0],[]⟩ 8 (by kernel_rfl) (by kernel_rfl) (by kernel_rfl) (by kernel_rfl)) ?_
 intro W base args ds gs before hval0 hW hcnd _
 have hval:∀ (j:Nat) t v,Tryz.f6.params[j]?=some t→args[j]?=some v→Value.okWide Tryz.prog W .any base t v:=hval0
 have hW':=hW
 obtain ⟨p,q,hA0,hV,rfl,hfz,hnd⟩:=hW
 have hA:DataW.TrodAll enc Tryz.prog W 0 (fun _=>true) true Tryz.f6.params.toList args.toList ds p:=hA0
 rw [Tryz.params6] at hA hval
 obtain ⟨v0,vs0,d0,ds0,p0,q0,hargs,rfl,rfl,h0,r0⟩:=trodAll_cons hA
 have k0:=h0
 have lt0:∀ x ∈ p0,x.block < W.heap.size:=by obtain ⟨m,hm⟩:=k0;exact DataW.trod_lt m _ _ _ hm
 obtain ⟨v1,vs1,d1,ds1,p1,q1,rfl,rfl,rfl,h1,r1⟩:=trodAll_cons r0
 have k1:=h1
 have lt1:∀ x ∈ p1,x.block < W.heap.size:=by obtain ⟨m,hm⟩:=k1;exact DataW.trod_lt m _ _ _ hm
 obtain ⟨v2,vs2,d2,ds2,p2,q2,rfl,rfl,rfl,h2,r2⟩:=trodAll_cons r1
 have k2:=h2
 have lt2:∀ x ∈ p2,x.block < W.heap.size:=by obtain ⟨m,hm⟩:=k2;exact DataW.trod_lt m _ _ _ hm
 obtain ⟨rfl,rfl,rfl⟩:=trodAll_nil r2
 obtain rfl:args=#[v0,v1,v2]:=by cases args;simp_all
 obtain ⟨rfl,rfl⟩:=trodVars_none hV
 clear hA0 hval0
 obtain ⟨k,rfl,hK,-,-⟩:=a6e (hval 0 26 v0 rfl rfl) h0
 obtain ⟨space,rfl,rfl,rfl,w1⟩:=open_int Tryz.underlying3 (hval 1 3 v1 rfl rfl) h1
 obtain ⟨page,rfl,rfl,rfl,w2⟩:=open_int Tryz.underlying3 (hval 2 3 v2 rfl rfl) h2
 refine (a3c hK space (o6 w2).1 (o6 w2).2).rb.mono fun e W' ⟨he,bel⟩=>?_
 subst he
 exact ⟨_,rfl,_,_,_,[],_,[],hW',trodAll_mk1 (shut_bool Tryz.underlying4 _),(trodAll_cons_mk (Below.trod laidOut (by kernel_rfl) (of_decide_eq_true (by kernel_rfl)) k0 bel lt0) (trodAll_cons_mk (Below.trod laidOut (by kernel_rfl) (of_decide_eq_true (by kernel_rfl)) k1 bel lt1) (trodAll_cons_mk (Below.trod laidOut (by kernel_rfl) (of_decide_eq_true (by kernel_rfl)) k2 bel lt2) trodAll_mk0))),rfl,bel.frame _,fun h=>by cases h⟩
theorem jA:(Rows.flatPeeksRow.inPlace == Tryz.prog.inPlace 6)=true:=by kernel_rfl
theorem jB:(Rows.flatPeeksRow.unfollowed == Tryz.prog.unfollowed 6)=true:=by kernel_rfl
theorem jC:(Rows.flatPeeksRow.recurses == Tryz.prog.recurses 6)=true:=by kernel_rfl
theorem jD:(Rows.flatPeeksRow.named == Tryz.prog.varsNamed 6)=true:=by kernel_rfl
theorem jE:(Rows.flatPeeksRow.plainKeys == Tryz.prog.plainKeys)=true:=by kernel_rfl
theorem jF:Tryz.prog.stopsHeard=true:=by kernel_rfl
theorem jG:Tryz.prog.mayEnter=true:=by kernel_rfl
theorem jH:(Rows.flatPeeksRow.lifted == Tryz.prog.liftsFinal)=true:=by kernel_rfl
theorem jI:(Tryz.prog.make == some Rows.flatPeeksRow.make)=true:=by kernel_rfl
theorem jJ:mapsRowed Tryz.prog=true:=by kernel_rfl
set_option maxRecDepth 100000 in
theorem jAll:joinedFacts Tryz.prog 6 Tryz.f6 Rows.flatPeeksSpec Rows.flatPeeksRow=true:=by
 unfold joinedFacts
 rw [laidOut,jA,jB,jC,jD,jE,jF,jG,jH,jI,jJ]
 kernel_rfl
theorem over:Rows.flatPeeksRow.holds Tryz.pinned (OpenSpec.ofChange Rows.flatPeeksSpec) :=
 OpenClaim.holds_of_wide 6 Tryz.f6 rfl rfl rfl rfl rfl rfl rfl ⟨rfl,rfl,rfl,rfl,rfl⟩ rfl rfl rfl rfl rfl (by kernel_rfl) Tryz.func6 jAll
  (of_decide_eq_true (by kernel_rfl)) (by unfold Func.isWrapper;first|(rw [if_pos (by decide +kernel)];kernel_rfl)|(rw [if_neg (by decide +kernel)];exact ⟨rfl,rfl⟩))
  (fun os started H enc _=>lifted os started H enc)
theorem proved:Rows.FlatPeeksSaid:=over
#print axioms proved
end Go.Proofs.YtejnpppejalhfadGreat.lawFlatPeeks
