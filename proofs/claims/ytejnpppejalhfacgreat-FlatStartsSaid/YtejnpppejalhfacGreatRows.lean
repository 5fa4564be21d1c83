/-
  No cell of these rows narrows 'for every input' (looked for: loops, veiled, ifaces, maps, wideKeys, modest, calm, conditions, laid).
  DERIVED. THE GIVEN ROWS OF THIS SEAT. 7 by the template 'for every input the law returns true; each argument reads behind the call as it read before'; 0 by the template 'total and deterministic' (their statements: YtejnpppejalhfacGreatTotals.lean).
  GIVEN WITH THE SEED: the statements are not yours to turn. If you find one false, say at which input.
  Laid BY PROGRAM, IN A SANDBOX (cutbox-rows.mjs): the forced cells as the released guide's own fill.sh prints them over the translation e0936330ee7e0e8b… (all of the seat's roots in one cut). By AI agents, Wed Nov 11 2026. No macro, syntax, notation, axiom, sorry.
-/
import Derived.Test.YtejnpppejalhfacGreatChecked
import GoSem.Claim
import GoSem.ClaimJoined
import GoSem.ClaimMapViews
import Derived.JoinedTies
import Derived.KernelRfl
namespace Go.Proofs.YtejnpppejalhfacGreat
/- THE CELL 'sum', in the pinned program and in every row, IS THE sha256 OF THE DUMP (.gsa) THAT YtejnpppejalhfacGreatProg.lean LOADS. Nothing in Lean hashes anything: it is a label: what it is worth is what the hold of that sum in a sandbox is worth. -/
noncomputable def Tryz.pinned : Pinned := { name := "ytejnpppejalhfacgreat", sum := "e0936330ee7e0e8b0bc75b041b712bc80793c15e563781ffa29dd8d10892f19b", checked := Tryz.checked }
namespace Rows
def none {H : Type} : Left H := { results := [], args := [] }

/-- 'foliantlaw.KernelForks': WHATEVER THE INPUT: true; the input reads as it did. -/
def kernelForksSpec : ChangeSpec := { name := "kernelForks", fn := fun _ => fun
  | [d1, d2] => { results := [.lit (.bool true)], args := [d1, d2] }
  | _ => none }
def kernelForksRow : OpenClaim := { program := "ytejnpppejalhfacgreat", sum := "e0936330ee7e0e8b0bc75b041b712bc80793c15e563781ffa29dd8d10892f19b", func := "foliant/foliantlaw.KernelForks", spec := "kernelForks", inPlace := ["slices.overlaps[foliant/api.Entry]"], unfollowed := true, recurses := true, apart := false }
def KernelForksSaid : Prop := kernelForksRow.holds Tryz.pinned (OpenSpec.ofChange kernelForksSpec)

/-- ITS FALSE NEIGHBOUR: 'it returns false'. Refute it at one input. -/
def kernelForksWrong : ChangeSpec := { name := "kernelForks", fn := fun _ => fun
  | [d1, d2] => { results := [.lit (.bool false)], args := [d1, d2] }
  | _ => none }
def KernelForksWrongFalsely : Prop := kernelForksRow.holds Tryz.pinned (OpenSpec.ofChange kernelForksWrong)

/-- 'foliantlaw.KernelMaps': WHATEVER THE INPUT: true; the input reads as it did. -/
def kernelMapsSpec : ChangeSpec := { name := "kernelMaps", fn := fun _ => fun
  | [d1, d2, d3, d4, d5] => { results := [.lit (.bool true)], args := [d1, d2, d3, d4, d5] }
  | _ => none }
def kernelMapsRow : OpenClaim := { program := "ytejnpppejalhfacgreat", sum := "e0936330ee7e0e8b0bc75b041b712bc80793c15e563781ffa29dd8d10892f19b", func := "foliant/foliantlaw.KernelMaps", spec := "kernelMaps", inPlace := ["slices.overlaps[foliant/api.Entry]"], unfollowed := true, recurses := true, apart := false }
def KernelMapsSaid : Prop := kernelMapsRow.holds Tryz.pinned (OpenSpec.ofChange kernelMapsSpec)

/-- ITS FALSE NEIGHBOUR: 'it returns false'. Refute it at one input. -/
def kernelMapsWrong : ChangeSpec := { name := "kernelMaps", fn := fun _ => fun
  | [d1, d2, d3, d4, d5] => { results := [.lit (.bool false)], args := [d1, d2, d3, d4, d5] }
  | _ => none }
def KernelMapsWrongFalsely : Prop := kernelMapsRow.holds Tryz.pinned (OpenSpec.ofChange kernelMapsWrong)

/-- 'foliantlaw.MachineStarts': WHATEVER THE INPUT: true; the input reads as it did. -/
def machineStartsSpec : ChangeSpec := { name := "machineStarts", fn := fun _ => fun
  | [d1, d2, d3, d4] => { results := [.lit (.bool true)], args := [d1, d2, d3, d4] }
  | _ => none }
def machineStartsRow : OpenClaim := { program := "ytejnpppejalhfacgreat", sum := "e0936330ee7e0e8b0bc75b041b712bc80793c15e563781ffa29dd8d10892f19b", func := "foliant/foliantlaw.MachineStarts", spec := "machineStarts", unfollowed := true, recurses := true, apart := false }
def MachineStartsSaid : Prop := machineStartsRow.holds Tryz.pinned (OpenSpec.ofChange machineStartsSpec)

/-- ITS FALSE NEIGHBOUR: 'it returns false'. Refute it at one input. -/
def machineStartsWrong : ChangeSpec := { name := "machineStarts", fn := fun _ => fun
  | [d1, d2, d3, d4] => { results := [.lit (.bool false)], args := [d1, d2, d3, d4] }
  | _ => none }
def MachineStartsWrongFalsely : Prop := machineStartsRow.holds Tryz.pinned (OpenSpec.ofChange machineStartsWrong)

/-- 'foliantlaw.MachineRuns': WHATEVER THE INPUT: true; the input reads as it did. -/
def machineRunsSpec : ChangeSpec := { name := "machineRuns", fn := fun _ => fun
  | [d1, d2] => { results := [.lit (.bool true)], args := [d1, d2] }
  | _ => none }
def machineRunsRow : OpenClaim := { program := "ytejnpppejalhfacgreat", sum := "e0936330ee7e0e8b0bc75b041b712bc80793c15e563781ffa29dd8d10892f19b", func := "foliant/foliantlaw.MachineRuns", spec := "machineRuns", unfollowed := true, recurses := true, apart := false }
def MachineRunsSaid : Prop := machineRunsRow.holds Tryz.pinned (OpenSpec.ofChange machineRunsSpec)

/-- ITS FALSE NEIGHBOUR: 'it returns false'. Refute it at one input. -/
def machineRunsWrong : ChangeSpec := { name := "machineRuns", fn := fun _ => fun
  | [d1, d2] => { results := [.lit (.bool false)], args := [d1, d2] }
  | _ => none }
def MachineRunsWrongFalsely : Prop := machineRunsRow.holds Tryz.pinned (OpenSpec.ofChange machineRunsWrong)

/-- 'foliantlaw.MachineFrames': WHATEVER THE INPUT: true; the input reads as it did. -/
def machineFramesSpec : ChangeSpec := { name := "machineFrames", fn := fun _ => fun
  | [d1, d2, d3, d4, d5] => { results := [.lit (.bool true)], args := [d1, d2, d3, d4, d5] }
  | _ => none }
def machineFramesRow : OpenClaim := { program := "ytejnpppejalhfacgreat", sum := "e0936330ee7e0e8b0bc75b041b712bc80793c15e563781ffa29dd8d10892f19b", func := "foliant/foliantlaw.MachineFrames", spec := "machineFrames", unfollowed := true, recurses := true, apart := false }
def MachineFramesSaid : Prop := machineFramesRow.holds Tryz.pinned (OpenSpec.ofChange machineFramesSpec)

/-- ITS FALSE NEIGHBOUR: 'it returns false'. Refute it at one input. -/
def machineFramesWrong : ChangeSpec := { name := "machineFrames", fn := fun _ => fun
  | [d1, d2, d3, d4, d5] => { results := [.lit (.bool false)], args := [d1, d2, d3, d4, d5] }
  | _ => none }
def MachineFramesWrongFalsely : Prop := machineFramesRow.holds Tryz.pinned (OpenSpec.ofChange machineFramesWrong)

/-- 'foliantlaw.MachineRight': WHATEVER THE INPUT: true; the input reads as it did. -/
def machineRightSpec : ChangeSpec := { name := "machineRight", fn := fun _ => fun
  | [d1, d2, d3, d4, d5] => { results := [.lit (.bool true)], args := [d1, d2, d3, d4, d5] }
  | _ => none }
def machineRightRow : OpenClaim := { program := "ytejnpppejalhfacgreat", sum := "e0936330ee7e0e8b0bc75b041b712bc80793c15e563781ffa29dd8d10892f19b", func := "foliant/foliantlaw.MachineRight", spec := "machineRight", unfollowed := true, recurses := true, apart := false }
def MachineRightSaid : Prop := machineRightRow.holds Tryz.pinned (OpenSpec.ofChange machineRightSpec)

/-- ITS FALSE NEIGHBOUR: 'it returns false'. Refute it at one input. -/
def machineRightWrong : ChangeSpec := { name := "machineRight", fn := fun _ => fun
  | [d1, d2, d3, d4, d5] => { results := [.lit (.bool false)], args := [d1, d2, d3, d4, d5] }
  | _ => none }
def MachineRightWrongFalsely : Prop := machineRightRow.holds Tryz.pinned (OpenSpec.ofChange machineRightWrong)

/-- 'foliantlaw.FlatStarts': WHATEVER THE INPUT: true; the input reads as it did. -/
def flatStartsSpec : ChangeSpec := { name := "flatStarts", fn := fun _ => fun
  | [d1, d2, d3] => { results := [.lit (.bool true)], args := [d1, d2, d3] }
  | _ => none }
def flatStartsRow : OpenClaim := { program := "ytejnpppejalhfacgreat", sum := "e0936330ee7e0e8b0bc75b041b712bc80793c15e563781ffa29dd8d10892f19b", func := "foliant/foliantlaw.FlatStarts", spec := "flatStarts", unfollowed := true, recurses := true, apart := false }
def FlatStartsSaid : Prop := flatStartsRow.holds Tryz.pinned (OpenSpec.ofChange flatStartsSpec)

/-- ITS FALSE NEIGHBOUR: 'it returns false'. Refute it at one input. -/
def flatStartsWrong : ChangeSpec := { name := "flatStarts", fn := fun _ => fun
  | [d1, d2, d3] => { results := [.lit (.bool false)], args := [d1, d2, d3] }
  | _ => none }
def FlatStartsWrongFalsely : Prop := flatStartsRow.holds Tryz.pinned (OpenSpec.ofChange flatStartsWrong)

/- THE SECOND FORM. 'bulk': how many values and letters a reading holds, each counted each time it is reached (what is shared counts as often as it is met; a slice's spare places count too). A statement '..UptoSaid' is the law's where the arguments, and the package variables that the reading takes, are together of bulk at most 1048576: NARROWER than '..Said'. Prove '..Said' where nothing that the law and all that it calls make is longer than what came in: it says more and counts as full. Else prove '..UptoSaid'. A law counts once. -/
mutual
def uptoBulk {H : Type} : DataW H → Nat
  | .lit (.string bytes) => bytes.length + 1
  | .lit _ => 1
  | .nil => 1
  | .ptr d => uptoBulk d + 1
  | .slice elems spare => uptoBulkAll elems + uptoBulkAll spare + 1
  | .agg parts => uptoBulkAll parts + 1
  | .iface _ d => uptoBulk d + 1
  | .map entries => uptoBulkEntries entries + 1
  | .held _ => 1
def uptoBulkAll {H : Type} : List (DataW H) → Nat
  | [] => 0
  | d :: r => uptoBulk d + uptoBulkAll r
def uptoBulkEntries {H : Type} : List (Lit × DataW H) → Nat
  | [] => 0
  | x :: r => uptoBulkEntry x + uptoBulkEntries r
def uptoBulkEntry {H : Type} : Lit × DataW H → Nat
  | (.string bytes, d) => bytes.length + uptoBulk d + 1
  | (_, d) => uptoBulk d + 1
 end
def uptoSmall : (H : Type) → List (DataW H) → Bool := fun _ ds => decide (uptoBulkAll ds ≤ 1048576)
def OpenSpec.upto (s : _root_.Go.ChangeSpec) : _root_.Go.OpenSpec := { _root_.Go.OpenSpec.ofChange s with cond := some uptoSmall }

/-- 'foliantlaw.KernelForks', WHERE WHAT IT READS IS OF BULK AT MOST 1048576: true; the input reads as it did. -/
def kernelForksUptoRow : OpenClaim := { program := "ytejnpppejalhfacgreat", sum := "e0936330ee7e0e8b0bc75b041b712bc80793c15e563781ffa29dd8d10892f19b", func := "foliant/foliantlaw.KernelForks", spec := "kernelForks", inPlace := ["slices.overlaps[foliant/api.Entry]"], unfollowed := true, recurses := true, apart := false, narrowed := true }
def KernelForksUptoSaid : Prop := kernelForksUptoRow.holds Tryz.pinned (OpenSpec.upto kernelForksSpec)

/-- 'foliantlaw.KernelMaps', WHERE WHAT IT READS IS OF BULK AT MOST 1048576: true; the input reads as it did. -/
def kernelMapsUptoRow : OpenClaim := { program := "ytejnpppejalhfacgreat", sum := "e0936330ee7e0e8b0bc75b041b712bc80793c15e563781ffa29dd8d10892f19b", func := "foliant/foliantlaw.KernelMaps", spec := "kernelMaps", inPlace := ["slices.overlaps[foliant/api.Entry]"], unfollowed := true, recurses := true, apart := false, narrowed := true }
def KernelMapsUptoSaid : Prop := kernelMapsUptoRow.holds Tryz.pinned (OpenSpec.upto kernelMapsSpec)

/-- 'foliantlaw.MachineStarts', WHERE WHAT IT READS IS OF BULK AT MOST 1048576: true; the input reads as it did. -/
def machineStartsUptoRow : OpenClaim := { program := "ytejnpppejalhfacgreat", sum := "e0936330ee7e0e8b0bc75b041b712bc80793c15e563781ffa29dd8d10892f19b", func := "foliant/foliantlaw.MachineStarts", spec := "machineStarts", unfollowed := true, recurses := true, apart := false, narrowed := true }
def MachineStartsUptoSaid : Prop := machineStartsUptoRow.holds Tryz.pinned (OpenSpec.upto machineStartsSpec)

/-- 'foliantlaw.MachineRuns', WHERE WHAT IT READS IS OF BULK AT MOST 1048576: true; the input reads as it did. -/
def machineRunsUptoRow : OpenClaim := { program := "ytejnpppejalhfacgreat", sum := "e0936330ee7e0e8b0bc75b041b712bc80793c15e563781ffa29dd8d10892f19b", func := "foliant/foliantlaw.MachineRuns", spec := "machineRuns", unfollowed := true, recurses := true, apart := false, narrowed := true }
def MachineRunsUptoSaid : Prop := machineRunsUptoRow.holds Tryz.pinned (OpenSpec.upto machineRunsSpec)

/-- 'foliantlaw.MachineFrames', WHERE WHAT IT READS IS OF BULK AT MOST 1048576: true; the input reads as it did. -/
def machineFramesUptoRow : OpenClaim := { program := "ytejnpppejalhfacgreat", sum := "e0936330ee7e0e8b0bc75b041b712bc80793c15e563781ffa29dd8d10892f19b", func := "foliant/foliantlaw.MachineFrames", spec := "machineFrames", unfollowed := true, recurses := true, apart := false, narrowed := true }
def MachineFramesUptoSaid : Prop := machineFramesUptoRow.holds Tryz.pinned (OpenSpec.upto machineFramesSpec)

/-- 'foliantlaw.MachineRight', WHERE WHAT IT READS IS OF BULK AT MOST 1048576: true; the input reads as it did. -/
def machineRightUptoRow : OpenClaim := { program := "ytejnpppejalhfacgreat", sum := "e0936330ee7e0e8b0bc75b041b712bc80793c15e563781ffa29dd8d10892f19b", func := "foliant/foliantlaw.MachineRight", spec := "machineRight", unfollowed := true, recurses := true, apart := false, narrowed := true }
def MachineRightUptoSaid : Prop := machineRightUptoRow.holds Tryz.pinned (OpenSpec.upto machineRightSpec)

/-- 'foliantlaw.FlatStarts', WHERE WHAT IT READS IS OF BULK AT MOST 1048576: true; the input reads as it did. -/
def flatStartsUptoRow : OpenClaim := { program := "ytejnpppejalhfacgreat", sum := "e0936330ee7e0e8b0bc75b041b712bc80793c15e563781ffa29dd8d10892f19b", func := "foliant/foliantlaw.FlatStarts", spec := "flatStarts", unfollowed := true, recurses := true, apart := false, narrowed := true }
def FlatStartsUptoSaid : Prop := flatStartsUptoRow.holds Tryz.pinned (OpenSpec.upto flatStartsSpec)

end Rows
end Go.Proofs.YtejnpppejalhfacGreat
