/-
  No cell of these rows narrows 'for every input' (looked for: loops, veiled, ifaces, maps, wideKeys, modest, calm, conditions, laid).
  DERIVED. THE GIVEN ROWS OF THIS SEAT. 6 by the template 'for every input the law returns true; each argument reads behind the call as it read before'; 0 by the template 'total and deterministic' (their statements: YtejnpppejalhfabGreatTotals.lean).
  GIVEN WITH THE SEED: the statements are not yours to turn. If you find one false, say at which input.
  Laid BY PROGRAM, IN A SANDBOX (cutbox-rows.mjs): the forced cells as the released guide's own fill.sh prints them over the translation 2861db4ca5039bd7… (all of the seat's roots in one cut). By AI agents, Wed Nov 11 2026. No macro, syntax, notation, axiom, sorry.
-/
import Derived.Test.YtejnpppejalhfabGreatChecked
import GoSem.Claim
import GoSem.ClaimJoined
import GoSem.ClaimMapViews
import Derived.JoinedTies
import Derived.KernelRfl
namespace Go.Proofs.YtejnpppejalhfabGreat
/- THE CELL 'sum', in the pinned program and in every row, IS THE sha256 OF THE DUMP (.gsa) THAT YtejnpppejalhfabGreatProg.lean LOADS. Nothing in Lean hashes anything: it is a label: what it is worth is what the hold of that sum in a sandbox is worth. -/
noncomputable def Tryz.pinned : Pinned := { name := "ytejnpppejalhfabgreat", sum := "2861db4ca5039bd74f4eb7d0cb25cbb79f0ce63595e9037947845d9f22aab7a1", checked := Tryz.checked }
namespace Rows
def none {H : Type} : Left H := { results := [], args := [] }

/-- 'foliantlaw.MachineFlat': WHATEVER THE INPUT: true; the input reads as it did. -/
def machineFlatSpec : ChangeSpec := { name := "machineFlat", fn := fun _ => fun
  | [d1, d2, d3, d4, d5] => { results := [.lit (.bool true)], args := [d1, d2, d3, d4, d5] }
  | _ => none }
def machineFlatRow : OpenClaim := { program := "ytejnpppejalhfabgreat", sum := "2861db4ca5039bd74f4eb7d0cb25cbb79f0ce63595e9037947845d9f22aab7a1", func := "foliant/foliantlaw.MachineFlat", spec := "machineFlat", unfollowed := true, recurses := true, apart := false }
def MachineFlatSaid : Prop := machineFlatRow.holds Tryz.pinned (OpenSpec.ofChange machineFlatSpec)

/-- ITS FALSE NEIGHBOUR: 'it returns false'. Refute it at one input. -/
def machineFlatWrong : ChangeSpec := { name := "machineFlat", fn := fun _ => fun
  | [d1, d2, d3, d4, d5] => { results := [.lit (.bool false)], args := [d1, d2, d3, d4, d5] }
  | _ => none }
def MachineFlatWrongFalsely : Prop := machineFlatRow.holds Tryz.pinned (OpenSpec.ofChange machineFlatWrong)

/-- 'foliantlaw.KernelStarts': WHATEVER THE INPUT: true; the input reads as it did. -/
def kernelStartsSpec : ChangeSpec := { name := "kernelStarts", fn := fun _ => fun
  | [d1, d2, d3, d4] => { results := [.lit (.bool true)], args := [d1, d2, d3, d4] }
  | _ => none }
def kernelStartsRow : OpenClaim := { program := "ytejnpppejalhfabgreat", sum := "2861db4ca5039bd74f4eb7d0cb25cbb79f0ce63595e9037947845d9f22aab7a1", func := "foliant/foliantlaw.KernelStarts", spec := "kernelStarts", inPlace := ["slices.overlaps[foliant/api.Entry]"], unfollowed := true, recurses := true, apart := false }
def KernelStartsSaid : Prop := kernelStartsRow.holds Tryz.pinned (OpenSpec.ofChange kernelStartsSpec)

/-- ITS FALSE NEIGHBOUR: 'it returns false'. Refute it at one input. -/
def kernelStartsWrong : ChangeSpec := { name := "kernelStarts", fn := fun _ => fun
  | [d1, d2, d3, d4] => { results := [.lit (.bool false)], args := [d1, d2, d3, d4] }
  | _ => none }
def KernelStartsWrongFalsely : Prop := kernelStartsRow.holds Tryz.pinned (OpenSpec.ofChange kernelStartsWrong)

/-- 'foliantlaw.KernelStores': WHATEVER THE INPUT: true; the input reads as it did. -/
def kernelStoresSpec : ChangeSpec := { name := "kernelStores", fn := fun _ => fun
  | [d1, d2, d3, d4] => { results := [.lit (.bool true)], args := [d1, d2, d3, d4] }
  | _ => none }
def kernelStoresRow : OpenClaim := { program := "ytejnpppejalhfabgreat", sum := "2861db4ca5039bd74f4eb7d0cb25cbb79f0ce63595e9037947845d9f22aab7a1", func := "foliant/foliantlaw.KernelStores", spec := "kernelStores", inPlace := ["slices.overlaps[foliant/api.Entry]"], unfollowed := true, recurses := true, apart := false }
def KernelStoresSaid : Prop := kernelStoresRow.holds Tryz.pinned (OpenSpec.ofChange kernelStoresSpec)

/-- ITS FALSE NEIGHBOUR: 'it returns false'. Refute it at one input. -/
def kernelStoresWrong : ChangeSpec := { name := "kernelStores", fn := fun _ => fun
  | [d1, d2, d3, d4] => { results := [.lit (.bool false)], args := [d1, d2, d3, d4] }
  | _ => none }
def KernelStoresWrongFalsely : Prop := kernelStoresRow.holds Tryz.pinned (OpenSpec.ofChange kernelStoresWrong)

/-- 'foliantlaw.KernelPeeks': WHATEVER THE INPUT: true; the input reads as it did. -/
def kernelPeeksSpec : ChangeSpec := { name := "kernelPeeks", fn := fun _ => fun
  | [d1, d2, d3] => { results := [.lit (.bool true)], args := [d1, d2, d3] }
  | _ => none }
def kernelPeeksRow : OpenClaim := { program := "ytejnpppejalhfabgreat", sum := "2861db4ca5039bd74f4eb7d0cb25cbb79f0ce63595e9037947845d9f22aab7a1", func := "foliant/foliantlaw.KernelPeeks", spec := "kernelPeeks", inPlace := ["slices.overlaps[foliant/api.Entry]"], unfollowed := true, recurses := true, apart := false }
def KernelPeeksSaid : Prop := kernelPeeksRow.holds Tryz.pinned (OpenSpec.ofChange kernelPeeksSpec)

/-- ITS FALSE NEIGHBOUR: 'it returns false'. Refute it at one input. -/
def kernelPeeksWrong : ChangeSpec := { name := "kernelPeeks", fn := fun _ => fun
  | [d1, d2, d3] => { results := [.lit (.bool false)], args := [d1, d2, d3] }
  | _ => none }
def KernelPeeksWrongFalsely : Prop := kernelPeeksRow.holds Tryz.pinned (OpenSpec.ofChange kernelPeeksWrong)

/-- 'foliantlaw.RestKernels': WHATEVER THE INPUT: true; the input reads as it did. -/
def restKernelsSpec : ChangeSpec := { name := "restKernels", fn := fun _ => fun
  | [d1, d2, d3, d4, d5, d6] => { results := [.lit (.bool true)], args := [d1, d2, d3, d4, d5, d6] }
  | _ => none }
def restKernelsRow : OpenClaim := { program := "ytejnpppejalhfabgreat", sum := "2861db4ca5039bd74f4eb7d0cb25cbb79f0ce63595e9037947845d9f22aab7a1", func := "foliant/foliantlaw.RestKernels", spec := "restKernels", inPlace := ["slices.overlaps[foliant/api.Entry]"], unfollowed := true, recurses := true, apart := false }
def RestKernelsSaid : Prop := restKernelsRow.holds Tryz.pinned (OpenSpec.ofChange restKernelsSpec)

/-- ITS FALSE NEIGHBOUR: 'it returns false'. Refute it at one input. -/
def restKernelsWrong : ChangeSpec := { name := "restKernels", fn := fun _ => fun
  | [d1, d2, d3, d4, d5, d6] => { results := [.lit (.bool false)], args := [d1, d2, d3, d4, d5, d6] }
  | _ => none }
def RestKernelsWrongFalsely : Prop := restKernelsRow.holds Tryz.pinned (OpenSpec.ofChange restKernelsWrong)

/-- 'foliantlaw.KernelReaches': WHATEVER THE INPUT: true; the input reads as it did. -/
def kernelReachesSpec : ChangeSpec := { name := "kernelReaches", fn := fun _ => fun
  | [d1, d2, d3, d4, d5] => { results := [.lit (.bool true)], args := [d1, d2, d3, d4, d5] }
  | _ => none }
def kernelReachesRow : OpenClaim := { program := "ytejnpppejalhfabgreat", sum := "2861db4ca5039bd74f4eb7d0cb25cbb79f0ce63595e9037947845d9f22aab7a1", func := "foliant/foliantlaw.KernelReaches", spec := "kernelReaches", inPlace := ["slices.overlaps[foliant/api.Entry]"], unfollowed := true, recurses := true, apart := false }
def KernelReachesSaid : Prop := kernelReachesRow.holds Tryz.pinned (OpenSpec.ofChange kernelReachesSpec)

/-- ITS FALSE NEIGHBOUR: 'it returns false'. Refute it at one input. -/
def kernelReachesWrong : ChangeSpec := { name := "kernelReaches", fn := fun _ => fun
  | [d1, d2, d3, d4, d5] => { results := [.lit (.bool false)], args := [d1, d2, d3, d4, d5] }
  | _ => none }
def KernelReachesWrongFalsely : Prop := kernelReachesRow.holds Tryz.pinned (OpenSpec.ofChange kernelReachesWrong)

/- THE SECOND FORM. 'bulk': how many values and letters a reading holds, each counted each time it is reached (what is shared counts as often as it is met; a slice's spare places count too). A statement '..UptoSaid' is the law's where the arguments, and the package variables that the reading takes, are together of bulk at most 1048576: NARROWER than '..Said'. Prove '..Said' where nothing that the law and all that it calls make is longer than what came in: it says more and counts as full. Else prove '..UptoSaid'. A law counts once. -/
mutual
def uptoBulk {H : Type} : DataW H → Nat
  | .lit (.string bytes) => bytes.length + 1
  | .lit _ => 1
  | .nil => 1
  | .ptr d => uptoBulk d + 1
  | .slice elems spare => uptoBulkAll elems + uptoBulkAll spare + 1
  | .agg parts => uptoBulkAll parts + 1
  | .iface _ d => uptoBulk d + 1
  | .map entries => uptoBulkEntries entries + 1
  | .held _ => 1
def uptoBulkAll {H : Type} : List (DataW H) → Nat
  | [] => 0
  | d :: r => uptoBulk d + uptoBulkAll r
def uptoBulkEntries {H : Type} : List (Lit × DataW H) → Nat
  | [] => 0
  | x :: r => uptoBulkEntry x + uptoBulkEntries r
def uptoBulkEntry {H : Type} : Lit × DataW H → Nat
  | (.string bytes, d) => bytes.length + uptoBulk d + 1
  | (_, d) => uptoBulk d + 1
 end
def uptoSmall : (H : Type) → List (DataW H) → Bool := fun _ ds => decide (uptoBulkAll ds ≤ 1048576)
def OpenSpec.upto (s : _root_.Go.ChangeSpec) : _root_.Go.OpenSpec := { _root_.Go.OpenSpec.ofChange s with cond := some uptoSmall }

/-- 'foliantlaw.MachineFlat', WHERE WHAT IT READS IS OF BULK AT MOST 1048576: true; the input reads as it did. -/
def machineFlatUptoRow : OpenClaim := { program := "ytejnpppejalhfabgreat", sum := "2861db4ca5039bd74f4eb7d0cb25cbb79f0ce63595e9037947845d9f22aab7a1", func := "foliant/foliantlaw.MachineFlat", spec := "machineFlat", unfollowed := true, recurses := true, apart := false, narrowed := true }
def MachineFlatUptoSaid : Prop := machineFlatUptoRow.holds Tryz.pinned (OpenSpec.upto machineFlatSpec)

/-- 'foliantlaw.KernelStarts', WHERE WHAT IT READS IS OF BULK AT MOST 1048576: true; the input reads as it did. -/
def kernelStartsUptoRow : OpenClaim := { program := "ytejnpppejalhfabgreat", sum := "2861db4ca5039bd74f4eb7d0cb25cbb79f0ce63595e9037947845d9f22aab7a1", func := "foliant/foliantlaw.KernelStarts", spec := "kernelStarts", inPlace := ["slices.overlaps[foliant/api.Entry]"], unfollowed := true, recurses := true, apart := false, narrowed := true }
def KernelStartsUptoSaid : Prop := kernelStartsUptoRow.holds Tryz.pinned (OpenSpec.upto kernelStartsSpec)

/-- 'foliantlaw.KernelStores', WHERE WHAT IT READS IS OF BULK AT MOST 1048576: true; the input reads as it did. -/
def kernelStoresUptoRow : OpenClaim := { program := "ytejnpppejalhfabgreat", sum := "2861db4ca5039bd74f4eb7d0cb25cbb79f0ce63595e9037947845d9f22aab7a1", func := "foliant/foliantlaw.KernelStores", spec := "kernelStores", inPlace := ["slices.overlaps[foliant/api.Entry]"], unfollowed := true, recurses := true, apart := false, narrowed := true }
def KernelStoresUptoSaid : Prop := kernelStoresUptoRow.holds Tryz.pinned (OpenSpec.upto kernelStoresSpec)

/-- 'foliantlaw.KernelPeeks', WHERE WHAT IT READS IS OF BULK AT MOST 1048576: true; the input reads as it did. -/
def kernelPeeksUptoRow : OpenClaim := { program := "ytejnpppejalhfabgreat", sum := "2861db4ca5039bd74f4eb7d0cb25cbb79f0ce63595e9037947845d9f22aab7a1", func := "foliant/foliantlaw.KernelPeeks", spec := "kernelPeeks", inPlace := ["slices.overlaps[foliant/api.Entry]"], unfollowed := true, recurses := true, apart := false, narrowed := true }
def KernelPeeksUptoSaid : Prop := kernelPeeksUptoRow.holds Tryz.pinned (OpenSpec.upto kernelPeeksSpec)

/-- 'foliantlaw.RestKernels', WHERE WHAT IT READS IS OF BULK AT MOST 1048576: true; the input reads as it did. -/
def restKernelsUptoRow : OpenClaim := { program := "ytejnpppejalhfabgreat", sum := "2861db4ca5039bd74f4eb7d0cb25cbb79f0ce63595e9037947845d9f22aab7a1", func := "foliant/foliantlaw.RestKernels", spec := "restKernels", inPlace := ["slices.overlaps[foliant/api.Entry]"], unfollowed := true, recurses := true, apart := false, narrowed := true }
def RestKernelsUptoSaid : Prop := restKernelsUptoRow.holds Tryz.pinned (OpenSpec.upto restKernelsSpec)

/-- 'foliantlaw.KernelReaches', WHERE WHAT IT READS IS OF BULK AT MOST 1048576: true; the input reads as it did. -/
def kernelReachesUptoRow : OpenClaim := { program := "ytejnpppejalhfabgreat", sum := "2861db4ca5039bd74f4eb7d0cb25cbb79f0ce63595e9037947845d9f22aab7a1", func := "foliant/foliantlaw.KernelReaches", spec := "kernelReaches", inPlace := ["slices.overlaps[foliant/api.Entry]"], unfollowed := true, recurses := true, apart := false, narrowed := true }
def KernelReachesUptoSaid : Prop := kernelReachesUptoRow.holds Tryz.pinned (OpenSpec.upto kernelReachesSpec)

end Rows
end Go.Proofs.YtejnpppejalhfabGreat
