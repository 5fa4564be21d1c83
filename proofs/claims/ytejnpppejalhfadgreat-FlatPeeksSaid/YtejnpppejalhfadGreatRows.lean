/-
  No cell of these rows narrows 'for every input' (looked for: loops, veiled, ifaces, maps, wideKeys, modest, calm, conditions, laid).
  DERIVED. THE GIVEN ROWS OF THIS SEAT. 4 by the template 'for every input the law returns true; each argument reads behind the call as it read before'; 0 by the template 'total and deterministic' (their statements: YtejnpppejalhfadGreatTotals.lean).
  GIVEN WITH THE SEED: the statements are not yours to turn. If you find one false, say at which input.
  Laid BY PROGRAM, IN A SANDBOX (cutbox-rows.mjs): the forced cells as the released guide's own fill.sh prints them over the translation 485ec16d4c1edd22… (all of the seat's roots in one cut). By AI agents, Wed Nov 11 2026. No macro, syntax, notation, axiom, sorry.
-/
import Derived.Test.YtejnpppejalhfadGreatChecked
import GoSem.Claim
import GoSem.ClaimJoined
import GoSem.ClaimMapViews
import Derived.JoinedTies
import Derived.KernelRfl
namespace Go.Proofs.YtejnpppejalhfadGreat
/- THE CELL 'sum', in the pinned program and in every row, IS THE sha256 OF THE DUMP (.gsa) THAT YtejnpppejalhfadGreatProg.lean LOADS. Nothing in Lean hashes anything: it is a label: what it is worth is what the hold of that sum in a sandbox is worth. -/
noncomputable def Tryz.pinned : Pinned := { name := "ytejnpppejalhfadgreat", sum := "485ec16d4c1edd227b7ec548f5e00b4a6f51c1b1970de021fb3397941ca8a45b", checked := Tryz.checked }
namespace Rows
def none {H : Type} : Left H := { results := [], args := [] }

/-- 'foliantlaw.FlatRuns': WHATEVER THE INPUT: true; the input reads as it did. -/
def flatRunsSpec : ChangeSpec := { name := "flatRuns", fn := fun _ => fun
  | [d1, d2] => { results := [.lit (.bool true)], args := [d1, d2] }
  | _ => none }
def flatRunsRow : OpenClaim := { program := "ytejnpppejalhfadgreat", sum := "485ec16d4c1edd227b7ec548f5e00b4a6f51c1b1970de021fb3397941ca8a45b", func := "foliant/foliantlaw.FlatRuns", spec := "flatRuns", unfollowed := true, recurses := true, apart := false }
def FlatRunsSaid : Prop := flatRunsRow.holds Tryz.pinned (OpenSpec.ofChange flatRunsSpec)

/-- ITS FALSE NEIGHBOUR: 'it returns false'. Refute it at one input. -/
def flatRunsWrong : ChangeSpec := { name := "flatRuns", fn := fun _ => fun
  | [d1, d2] => { results := [.lit (.bool false)], args := [d1, d2] }
  | _ => none }
def FlatRunsWrongFalsely : Prop := flatRunsRow.holds Tryz.pinned (OpenSpec.ofChange flatRunsWrong)

/-- 'foliantlaw.MachineSteps': WHATEVER THE INPUT: true; the input reads as it did. -/
def machineStepsSpec : ChangeSpec := { name := "machineSteps", fn := fun _ => fun
  | [d1, d2] => { results := [.lit (.bool true)], args := [d1, d2] }
  | _ => none }
def machineStepsRow : OpenClaim := { program := "ytejnpppejalhfadgreat", sum := "485ec16d4c1edd227b7ec548f5e00b4a6f51c1b1970de021fb3397941ca8a45b", func := "foliant/foliantlaw.MachineSteps", spec := "machineSteps", unfollowed := true, recurses := true, apart := false }
def MachineStepsSaid : Prop := machineStepsRow.holds Tryz.pinned (OpenSpec.ofChange machineStepsSpec)

/-- ITS FALSE NEIGHBOUR: 'it returns false'. Refute it at one input. -/
def machineStepsWrong : ChangeSpec := { name := "machineSteps", fn := fun _ => fun
  | [d1, d2] => { results := [.lit (.bool false)], args := [d1, d2] }
  | _ => none }
def MachineStepsWrongFalsely : Prop := machineStepsRow.holds Tryz.pinned (OpenSpec.ofChange machineStepsWrong)

/-- 'foliantlaw.FlatSteps': WHATEVER THE INPUT: true; the input reads as it did. -/
def flatStepsSpec : ChangeSpec := { name := "flatSteps", fn := fun _ => fun
  | [d1, d2] => { results := [.lit (.bool true)], args := [d1, d2] }
  | _ => none }
def flatStepsRow : OpenClaim := { program := "ytejnpppejalhfadgreat", sum := "485ec16d4c1edd227b7ec548f5e00b4a6f51c1b1970de021fb3397941ca8a45b", func := "foliant/foliantlaw.FlatSteps", spec := "flatSteps", unfollowed := true, recurses := true, apart := false }
def FlatStepsSaid : Prop := flatStepsRow.holds Tryz.pinned (OpenSpec.ofChange flatStepsSpec)

/-- ITS FALSE NEIGHBOUR: 'it returns false'. Refute it at one input. -/
def flatStepsWrong : ChangeSpec := { name := "flatSteps", fn := fun _ => fun
  | [d1, d2] => { results := [.lit (.bool false)], args := [d1, d2] }
  | _ => none }
def FlatStepsWrongFalsely : Prop := flatStepsRow.holds Tryz.pinned (OpenSpec.ofChange flatStepsWrong)

/-- 'foliantlaw.FlatPeeks': WHATEVER THE INPUT: true; the input reads as it did. -/
def flatPeeksSpec : ChangeSpec := { name := "flatPeeks", fn := fun _ => fun
  | [d1, d2, d3] => { results := [.lit (.bool true)], args := [d1, d2, d3] }
  | _ => none }
def flatPeeksRow : OpenClaim := { program := "ytejnpppejalhfadgreat", sum := "485ec16d4c1edd227b7ec548f5e00b4a6f51c1b1970de021fb3397941ca8a45b", func := "foliant/foliantlaw.FlatPeeks", spec := "flatPeeks", unfollowed := true, recurses := true, apart := false }
def FlatPeeksSaid : Prop := flatPeeksRow.holds Tryz.pinned (OpenSpec.ofChange flatPeeksSpec)

/-- ITS FALSE NEIGHBOUR: 'it returns false'. Refute it at one input. -/
def flatPeeksWrong : ChangeSpec := { name := "flatPeeks", fn := fun _ => fun
  | [d1, d2, d3] => { results := [.lit (.bool false)], args := [d1, d2, d3] }
  | _ => none }
def FlatPeeksWrongFalsely : Prop := flatPeeksRow.holds Tryz.pinned (OpenSpec.ofChange flatPeeksWrong)

/- THE SECOND FORM. 'bulk': how many values and letters a reading holds, each counted each time it is reached (what is shared counts as often as it is met; a slice's spare places count too). A statement '..UptoSaid' is the law's where the arguments, and the package variables that the reading takes, are together of bulk at most 1048576: NARROWER than '..Said'. Prove '..Said' where nothing that the law and all that it calls make is longer than what came in: it says more and counts as full. Else prove '..UptoSaid'. A law counts once. -/
mutual
def uptoBulk {H : Type} : DataW H → Nat
  | .lit (.string bytes) => bytes.length + 1
  | .lit _ => 1
  | .nil => 1
  | .ptr d => uptoBulk d + 1
  | .slice elems spare => uptoBulkAll elems + uptoBulkAll spare + 1
  | .agg parts => uptoBulkAll parts + 1
  | .iface _ d => uptoBulk d + 1
  | .map entries => uptoBulkEntries entries + 1
  | .held _ => 1
def uptoBulkAll {H : Type} : List (DataW H) → Nat
  | [] => 0
  | d :: r => uptoBulk d + uptoBulkAll r
def uptoBulkEntries {H : Type} : List (Lit × DataW H) → Nat
  | [] => 0
  | x :: r => uptoBulkEntry x + uptoBulkEntries r
def uptoBulkEntry {H : Type} : Lit × DataW H → Nat
  | (.string bytes, d) => bytes.length + uptoBulk d + 1
  | (_, d) => uptoBulk d + 1
 end
def uptoSmall : (H : Type) → List (DataW H) → Bool := fun _ ds => decide (uptoBulkAll ds ≤ 1048576)
def OpenSpec.upto (s : _root_.Go.ChangeSpec) : _root_.Go.OpenSpec := { _root_.Go.OpenSpec.ofChange s with cond := some uptoSmall }

/-- 'foliantlaw.FlatRuns', WHERE WHAT IT READS IS OF BULK AT MOST 1048576: true; the input reads as it did. -/
def flatRunsUptoRow : OpenClaim := { program := "ytejnpppejalhfadgreat", sum := "485ec16d4c1edd227b7ec548f5e00b4a6f51c1b1970de021fb3397941ca8a45b", func := "foliant/foliantlaw.FlatRuns", spec := "flatRuns", unfollowed := true, recurses := true, apart := false, narrowed := true }
def FlatRunsUptoSaid : Prop := flatRunsUptoRow.holds Tryz.pinned (OpenSpec.upto flatRunsSpec)

/-- 'foliantlaw.MachineSteps', WHERE WHAT IT READS IS OF BULK AT MOST 1048576: true; the input reads as it did. -/
def machineStepsUptoRow : OpenClaim := { program := "ytejnpppejalhfadgreat", sum := "485ec16d4c1edd227b7ec548f5e00b4a6f51c1b1970de021fb3397941ca8a45b", func := "foliant/foliantlaw.MachineSteps", spec := "machineSteps", unfollowed := true, recurses := true, apart := false, narrowed := true }
def MachineStepsUptoSaid : Prop := machineStepsUptoRow.holds Tryz.pinned (OpenSpec.upto machineStepsSpec)

/-- 'foliantlaw.FlatSteps', WHERE WHAT IT READS IS OF BULK AT MOST 1048576: true; the input reads as it did. -/
def flatStepsUptoRow : OpenClaim := { program := "ytejnpppejalhfadgreat", sum := "485ec16d4c1edd227b7ec548f5e00b4a6f51c1b1970de021fb3397941ca8a45b", func := "foliant/foliantlaw.FlatSteps", spec := "flatSteps", unfollowed := true, recurses := true, apart := false, narrowed := true }
def FlatStepsUptoSaid : Prop := flatStepsUptoRow.holds Tryz.pinned (OpenSpec.upto flatStepsSpec)

/-- 'foliantlaw.FlatPeeks', WHERE WHAT IT READS IS OF BULK AT MOST 1048576: true; the input reads as it did. -/
def flatPeeksUptoRow : OpenClaim := { program := "ytejnpppejalhfadgreat", sum := "485ec16d4c1edd227b7ec548f5e00b4a6f51c1b1970de021fb3397941ca8a45b", func := "foliant/foliantlaw.FlatPeeks", spec := "flatPeeks", unfollowed := true, recurses := true, apart := false, narrowed := true }
def FlatPeeksUptoSaid : Prop := flatPeeksUptoRow.holds Tryz.pinned (OpenSpec.upto flatPeeksSpec)

end Rows
end Go.Proofs.YtejnpppejalhfadGreat
