/-
  No cell of these rows narrows 'for every input' (looked for: loops, veiled, ifaces, maps, wideKeys, modest, calm, conditions, laid).
  DERIVED. THE GIVEN ROWS OF THIS SEAT. 6 by the template 'for every input the law returns true; each argument reads behind the call as it read before'; 0 by the template 'total and deterministic' (their statements: YtejnpppejalhfabTotals.lean).
  GIVEN WITH THE SEED: the statements are not yours to turn. If you find one false, say at which input.
  Laid BY PROGRAM, IN A SANDBOX (cutbox-rows.mjs): the forced cells as the released guide's own fill.sh prints them over the translation 576c1c3f9a0046ef… (all of the seat's roots in one cut). By AI agents, Wed Nov 11 2026. No macro, syntax, notation, axiom, sorry.
-/
import Derived.Test.YtejnpppejalhfabChecked
import GoSem.Claim
import GoSem.ClaimJoined
import GoSem.ClaimMapViews
import Derived.JoinedTies
import Derived.KernelRfl
namespace Go.Proofs.Ytejnpppejalhfab
/- THE CELL 'sum', in the pinned program and in every row, IS THE sha256 OF THE DUMP (.gsa) THAT YtejnpppejalhfabProg.lean LOADS. Nothing in Lean hashes anything: it is a label: what it is worth is what the hold of that sum in a sandbox is worth. -/
noncomputable def Try.pinned : Pinned := { name := "ytejnpppejalhfab", sum := "576c1c3f9a0046ef57fdc97eb4d7d3b747be6b91e7bd1fdf5ab0b807d9a63077", checked := Try.checked }
namespace Rows
def none {H : Type} : Left H := { results := [], args := [] }

/-- 'foliantlaw.ImageBack': WHATEVER THE INPUT: true; the input reads as it did. -/
def imageBackSpec : ChangeSpec := { name := "imageBack", fn := fun _ => fun
  | [d1, d2] => { results := [.lit (.bool true)], args := [d1, d2] }
  | _ => none }
def imageBackRow : OpenClaim := { program := "ytejnpppejalhfab", sum := "576c1c3f9a0046ef57fdc97eb4d7d3b747be6b91e7bd1fdf5ab0b807d9a63077", func := "foliant/foliantlaw.ImageBack", spec := "imageBack", unfollowed := true, recurses := true, apart := false }
def ImageBackSaid : Prop := imageBackRow.holds Try.pinned (OpenSpec.ofChange imageBackSpec)

/-- ITS FALSE NEIGHBOUR: 'it returns false'. Refute it at one input. -/
def imageBackWrong : ChangeSpec := { name := "imageBack", fn := fun _ => fun
  | [d1, d2] => { results := [.lit (.bool false)], args := [d1, d2] }
  | _ => none }
def ImageBackWrongFalsely : Prop := imageBackRow.holds Try.pinned (OpenSpec.ofChange imageBackWrong)

/-- 'foliantlaw.LinkLinks': WHATEVER THE INPUT: true; the input reads as it did. -/
def linkLinksSpec : ChangeSpec := { name := "linkLinks", fn := fun _ => fun
  | [d1, d2] => { results := [.lit (.bool true)], args := [d1, d2] }
  | _ => none }
def linkLinksRow : OpenClaim := { program := "ytejnpppejalhfab", sum := "576c1c3f9a0046ef57fdc97eb4d7d3b747be6b91e7bd1fdf5ab0b807d9a63077", func := "foliant/foliantlaw.LinkLinks", spec := "linkLinks", unfollowed := true, recurses := true, apart := false }
def LinkLinksSaid : Prop := linkLinksRow.holds Try.pinned (OpenSpec.ofChange linkLinksSpec)

/-- ITS FALSE NEIGHBOUR: 'it returns false'. Refute it at one input. -/
def linkLinksWrong : ChangeSpec := { name := "linkLinks", fn := fun _ => fun
  | [d1, d2] => { results := [.lit (.bool false)], args := [d1, d2] }
  | _ => none }
def LinkLinksWrongFalsely : Prop := linkLinksRow.holds Try.pinned (OpenSpec.ofChange linkLinksWrong)

/-- 'foliantlaw.LinkFills': WHATEVER THE INPUT: true; the input reads as it did. -/
def linkFillsSpec : ChangeSpec := { name := "linkFills", fn := fun _ => fun
  | [d1, d2] => { results := [.lit (.bool true)], args := [d1, d2] }
  | _ => none }
def linkFillsRow : OpenClaim := { program := "ytejnpppejalhfab", sum := "576c1c3f9a0046ef57fdc97eb4d7d3b747be6b91e7bd1fdf5ab0b807d9a63077", func := "foliant/foliantlaw.LinkFills", spec := "linkFills", unfollowed := true, recurses := true, apart := false }
def LinkFillsSaid : Prop := linkFillsRow.holds Try.pinned (OpenSpec.ofChange linkFillsSpec)

/-- ITS FALSE NEIGHBOUR: 'it returns false'. Refute it at one input. -/
def linkFillsWrong : ChangeSpec := { name := "linkFills", fn := fun _ => fun
  | [d1, d2] => { results := [.lit (.bool false)], args := [d1, d2] }
  | _ => none }
def LinkFillsWrongFalsely : Prop := linkFillsRow.holds Try.pinned (OpenSpec.ofChange linkFillsWrong)

/-- 'foliantlaw.LinkLong': WHATEVER THE INPUT: true; the input reads as it did. -/
def linkLongSpec : ChangeSpec := { name := "linkLong", fn := fun _ => fun
  | [d1, d2] => { results := [.lit (.bool true)], args := [d1, d2] }
  | _ => none }
def linkLongRow : OpenClaim := { program := "ytejnpppejalhfab", sum := "576c1c3f9a0046ef57fdc97eb4d7d3b747be6b91e7bd1fdf5ab0b807d9a63077", func := "foliant/foliantlaw.LinkLong", spec := "linkLong", unfollowed := true, recurses := true, apart := false }
def LinkLongSaid : Prop := linkLongRow.holds Try.pinned (OpenSpec.ofChange linkLongSpec)

/-- ITS FALSE NEIGHBOUR: 'it returns false'. Refute it at one input. -/
def linkLongWrong : ChangeSpec := { name := "linkLong", fn := fun _ => fun
  | [d1, d2] => { results := [.lit (.bool false)], args := [d1, d2] }
  | _ => none }
def LinkLongWrongFalsely : Prop := linkLongRow.holds Try.pinned (OpenSpec.ofChange linkLongWrong)

/-- 'foliantlaw.KernelHolds': WHATEVER THE INPUT: true; the input reads as it did. -/
def kernelHoldsSpec : ChangeSpec := { name := "kernelHolds", fn := fun _ => fun
  | [d1, d2, d3, d4, d5, d6] => { results := [.lit (.bool true)], args := [d1, d2, d3, d4, d5, d6] }
  | _ => none }
def kernelHoldsRow : OpenClaim := { program := "ytejnpppejalhfab", sum := "576c1c3f9a0046ef57fdc97eb4d7d3b747be6b91e7bd1fdf5ab0b807d9a63077", func := "foliant/foliantlaw.KernelHolds", spec := "kernelHolds", inPlace := ["slices.overlaps[foliant/api.Entry]"], unfollowed := true, recurses := true, apart := false }
def KernelHoldsSaid : Prop := kernelHoldsRow.holds Try.pinned (OpenSpec.ofChange kernelHoldsSpec)

/-- ITS FALSE NEIGHBOUR: 'it returns false'. Refute it at one input. -/
def kernelHoldsWrong : ChangeSpec := { name := "kernelHolds", fn := fun _ => fun
  | [d1, d2, d3, d4, d5, d6] => { results := [.lit (.bool false)], args := [d1, d2, d3, d4, d5, d6] }
  | _ => none }
def KernelHoldsWrongFalsely : Prop := kernelHoldsRow.holds Try.pinned (OpenSpec.ofChange kernelHoldsWrong)

/-- 'foliantlaw.KernelKeeps': WHATEVER THE INPUT: true; the input reads as it did. -/
def kernelKeepsSpec : ChangeSpec := { name := "kernelKeeps", fn := fun _ => fun
  | [d1, d2, d3, d4, d5, d6, d7] => { results := [.lit (.bool true)], args := [d1, d2, d3, d4, d5, d6, d7] }
  | _ => none }
def kernelKeepsRow : OpenClaim := { program := "ytejnpppejalhfab", sum := "576c1c3f9a0046ef57fdc97eb4d7d3b747be6b91e7bd1fdf5ab0b807d9a63077", func := "foliant/foliantlaw.KernelKeeps", spec := "kernelKeeps", inPlace := ["slices.overlaps[foliant/api.Entry]"], unfollowed := true, recurses := true, apart := false }
def KernelKeepsSaid : Prop := kernelKeepsRow.holds Try.pinned (OpenSpec.ofChange kernelKeepsSpec)

/-- ITS FALSE NEIGHBOUR: 'it returns false'. Refute it at one input. -/
def kernelKeepsWrong : ChangeSpec := { name := "kernelKeeps", fn := fun _ => fun
  | [d1, d2, d3, d4, d5, d6, d7] => { results := [.lit (.bool false)], args := [d1, d2, d3, d4, d5, d6, d7] }
  | _ => none }
def KernelKeepsWrongFalsely : Prop := kernelKeepsRow.holds Try.pinned (OpenSpec.ofChange kernelKeepsWrong)

/- THE SECOND FORM. 'bulk': how many values and letters a reading holds, each counted each time it is reached (what is shared counts as often as it is met; a slice's spare places count too). A statement '..UptoSaid' is the law's where the arguments, and the package variables that the reading takes, are together of bulk at most 1048576: NARROWER than '..Said'. Prove '..Said' where nothing that the law and all that it calls make is longer than what came in: it says more and counts as full. Else prove '..UptoSaid'. A law counts once. -/
mutual
def uptoBulk {H : Type} : DataW H → Nat
  | .lit (.string bytes) => bytes.length + 1
  | .lit _ => 1
  | .nil => 1
  | .ptr d => uptoBulk d + 1
  | .slice elems spare => uptoBulkAll elems + uptoBulkAll spare + 1
  | .agg parts => uptoBulkAll parts + 1
  | .iface _ d => uptoBulk d + 1
  | .map entries => uptoBulkEntries entries + 1
  | .held _ => 1
def uptoBulkAll {H : Type} : List (DataW H) → Nat
  | [] => 0
  | d :: r => uptoBulk d + uptoBulkAll r
def uptoBulkEntries {H : Type} : List (Lit × DataW H) → Nat
  | [] => 0
  | x :: r => uptoBulkEntry x + uptoBulkEntries r
def uptoBulkEntry {H : Type} : Lit × DataW H → Nat
  | (.string bytes, d) => bytes.length + uptoBulk d + 1
  | (_, d) => uptoBulk d + 1
 end
def uptoSmall : (H : Type) → List (DataW H) → Bool := fun _ ds => decide (uptoBulkAll ds ≤ 1048576)
def OpenSpec.upto (s : _root_.Go.ChangeSpec) : _root_.Go.OpenSpec := { _root_.Go.OpenSpec.ofChange s with cond := some uptoSmall }

/-- 'foliantlaw.ImageBack', WHERE WHAT IT READS IS OF BULK AT MOST 1048576: true; the input reads as it did. -/
def imageBackUptoRow : OpenClaim := { program := "ytejnpppejalhfab", sum := "576c1c3f9a0046ef57fdc97eb4d7d3b747be6b91e7bd1fdf5ab0b807d9a63077", func := "foliant/foliantlaw.ImageBack", spec := "imageBack", unfollowed := true, recurses := true, apart := false, narrowed := true }
def ImageBackUptoSaid : Prop := imageBackUptoRow.holds Try.pinned (OpenSpec.upto imageBackSpec)

/-- 'foliantlaw.LinkLinks', WHERE WHAT IT READS IS OF BULK AT MOST 1048576: true; the input reads as it did. -/
def linkLinksUptoRow : OpenClaim := { program := "ytejnpppejalhfab", sum := "576c1c3f9a0046ef57fdc97eb4d7d3b747be6b91e7bd1fdf5ab0b807d9a63077", func := "foliant/foliantlaw.LinkLinks", spec := "linkLinks", unfollowed := true, recurses := true, apart := false, narrowed := true }
def LinkLinksUptoSaid : Prop := linkLinksUptoRow.holds Try.pinned (OpenSpec.upto linkLinksSpec)

/-- 'foliantlaw.LinkFills', WHERE WHAT IT READS IS OF BULK AT MOST 1048576: true; the input reads as it did. -/
def linkFillsUptoRow : OpenClaim := { program := "ytejnpppejalhfab", sum := "576c1c3f9a0046ef57fdc97eb4d7d3b747be6b91e7bd1fdf5ab0b807d9a63077", func := "foliant/foliantlaw.LinkFills", spec := "linkFills", unfollowed := true, recurses := true, apart := false, narrowed := true }
def LinkFillsUptoSaid : Prop := linkFillsUptoRow.holds Try.pinned (OpenSpec.upto linkFillsSpec)

/-- 'foliantlaw.LinkLong', WHERE WHAT IT READS IS OF BULK AT MOST 1048576: true; the input reads as it did. -/
def linkLongUptoRow : OpenClaim := { program := "ytejnpppejalhfab", sum := "576c1c3f9a0046ef57fdc97eb4d7d3b747be6b91e7bd1fdf5ab0b807d9a63077", func := "foliant/foliantlaw.LinkLong", spec := "linkLong", unfollowed := true, recurses := true, apart := false, narrowed := true }
def LinkLongUptoSaid : Prop := linkLongUptoRow.holds Try.pinned (OpenSpec.upto linkLongSpec)

/-- 'foliantlaw.KernelHolds', WHERE WHAT IT READS IS OF BULK AT MOST 1048576: true; the input reads as it did. -/
def kernelHoldsUptoRow : OpenClaim := { program := "ytejnpppejalhfab", sum := "576c1c3f9a0046ef57fdc97eb4d7d3b747be6b91e7bd1fdf5ab0b807d9a63077", func := "foliant/foliantlaw.KernelHolds", spec := "kernelHolds", inPlace := ["slices.overlaps[foliant/api.Entry]"], unfollowed := true, recurses := true, apart := false, narrowed := true }
def KernelHoldsUptoSaid : Prop := kernelHoldsUptoRow.holds Try.pinned (OpenSpec.upto kernelHoldsSpec)

/-- 'foliantlaw.KernelKeeps', WHERE WHAT IT READS IS OF BULK AT MOST 1048576: true; the input reads as it did. -/
def kernelKeepsUptoRow : OpenClaim := { program := "ytejnpppejalhfab", sum := "576c1c3f9a0046ef57fdc97eb4d7d3b747be6b91e7bd1fdf5ab0b807d9a63077", func := "foliant/foliantlaw.KernelKeeps", spec := "kernelKeeps", inPlace := ["slices.overlaps[foliant/api.Entry]"], unfollowed := true, recurses := true, apart := false, narrowed := true }
def KernelKeepsUptoSaid : Prop := kernelKeepsUptoRow.holds Try.pinned (OpenSpec.upto kernelKeepsSpec)

end Rows
end Go.Proofs.Ytejnpppejalhfab
