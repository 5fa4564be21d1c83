/-
  No cell of these rows narrows 'for every input' (looked for: loops, veiled, ifaces, maps, wideKeys, modest, calm, conditions, laid).
  DERIVED. THE GIVEN ROWS OF THIS SEAT. 11 by the template 'for every input the law returns true; each argument reads behind the call as it read before'; 0 by the template 'total and deterministic' (their statements: YtejnpppejalhfaaTotals.lean).
  GIVEN WITH THE SEED: the statements are not yours to turn. If you find one false, say at which input.
  Laid BY PROGRAM, IN A SANDBOX (cutbox-rows.mjs): the forced cells as the released guide's own fill.sh prints them over the translation dbc78d844c7778b5… (all of the seat's roots in one cut). By AI agents, Wed Nov 11 2026. No macro, syntax, notation, axiom, sorry.
-/
import Derived.Test.YtejnpppejalhfaaChecked
import GoSem.Claim
import GoSem.ClaimJoined
import GoSem.ClaimMapViews
import Derived.JoinedTies
import Derived.KernelRfl
namespace Go.Proofs.Ytejnpppejalhfaa
/- THE CELL 'sum', in the pinned program and in every row, IS THE sha256 OF THE DUMP (.gsa) THAT YtejnpppejalhfaaProg.lean LOADS. Nothing in Lean hashes anything: it is a label: what it is worth is what the hold of that sum in a sandbox is worth. -/
noncomputable def Try.pinned : Pinned := { name := "ytejnpppejalhfaa", sum := "dbc78d844c7778b54c0caf399b74cfd5b067dc0183f776b2c1895d67c856ef49", checked := Try.checked }
namespace Rows
def none {H : Type} : Left H := { results := [], args := [] }

/-- 'foliantlaw.BitsPuts': WHATEVER THE INPUT: true; the input reads as it did. -/
def bitsPutsSpec : ChangeSpec := { name := "bitsPuts", fn := fun _ => fun
  | [d1, d2, d3] => { results := [.lit (.bool true)], args := [d1, d2, d3] }
  | _ => none }
def bitsPutsRow : OpenClaim := { program := "ytejnpppejalhfaa", sum := "dbc78d844c7778b54c0caf399b74cfd5b067dc0183f776b2c1895d67c856ef49", func := "foliant/foliantlaw.BitsPuts", spec := "bitsPuts", apart := false }
def BitsPutsSaid : Prop := bitsPutsRow.holds Try.pinned (OpenSpec.ofChange bitsPutsSpec)

/-- ITS FALSE NEIGHBOUR: 'it returns false'. Refute it at one input. -/
def bitsPutsWrong : ChangeSpec := { name := "bitsPuts", fn := fun _ => fun
  | [d1, d2, d3] => { results := [.lit (.bool false)], args := [d1, d2, d3] }
  | _ => none }
def BitsPutsWrongFalsely : Prop := bitsPutsRow.holds Try.pinned (OpenSpec.ofChange bitsPutsWrong)

/-- 'foliantlaw.BitsParts': WHATEVER THE INPUT: true; the input reads as it did. -/
def bitsPartsSpec : ChangeSpec := { name := "bitsParts", fn := fun _ => fun
  | [d1, d2, d3, d4] => { results := [.lit (.bool true)], args := [d1, d2, d3, d4] }
  | _ => none }
def bitsPartsRow : OpenClaim := { program := "ytejnpppejalhfaa", sum := "dbc78d844c7778b54c0caf399b74cfd5b067dc0183f776b2c1895d67c856ef49", func := "foliant/foliantlaw.BitsParts", spec := "bitsParts", apart := false }
def BitsPartsSaid : Prop := bitsPartsRow.holds Try.pinned (OpenSpec.ofChange bitsPartsSpec)

/-- ITS FALSE NEIGHBOUR: 'it returns false'. Refute it at one input. -/
def bitsPartsWrong : ChangeSpec := { name := "bitsParts", fn := fun _ => fun
  | [d1, d2, d3, d4] => { results := [.lit (.bool false)], args := [d1, d2, d3, d4] }
  | _ => none }
def BitsPartsWrongFalsely : Prop := bitsPartsRow.holds Try.pinned (OpenSpec.ofChange bitsPartsWrong)

/-- 'foliantlaw.BitsBack': WHATEVER THE INPUT: true; the input reads as it did. -/
def bitsBackSpec : ChangeSpec := { name := "bitsBack", fn := fun _ => fun
  | [d1, d2, d3, d4, d5] => { results := [.lit (.bool true)], args := [d1, d2, d3, d4, d5] }
  | _ => none }
def bitsBackRow : OpenClaim := { program := "ytejnpppejalhfaa", sum := "dbc78d844c7778b54c0caf399b74cfd5b067dc0183f776b2c1895d67c856ef49", func := "foliant/foliantlaw.BitsBack", spec := "bitsBack", apart := false }
def BitsBackSaid : Prop := bitsBackRow.holds Try.pinned (OpenSpec.ofChange bitsBackSpec)

/-- ITS FALSE NEIGHBOUR: 'it returns false'. Refute it at one input. -/
def bitsBackWrong : ChangeSpec := { name := "bitsBack", fn := fun _ => fun
  | [d1, d2, d3, d4, d5] => { results := [.lit (.bool false)], args := [d1, d2, d3, d4, d5] }
  | _ => none }
def BitsBackWrongFalsely : Prop := bitsBackRow.holds Try.pinned (OpenSpec.ofChange bitsBackWrong)

/-- 'foliantlaw.CpuCodes': WHATEVER THE INPUT: true; the input reads as it did. -/
def cpuCodesSpec : ChangeSpec := { name := "cpuCodes", fn := fun _ => fun
  | [d1, d2] => { results := [.lit (.bool true)], args := [d1, d2] }
  | _ => none }
def cpuCodesRow : OpenClaim := { program := "ytejnpppejalhfaa", sum := "dbc78d844c7778b54c0caf399b74cfd5b067dc0183f776b2c1895d67c856ef49", func := "foliant/foliantlaw.CpuCodes", spec := "cpuCodes", apart := false }
def CpuCodesSaid : Prop := cpuCodesRow.holds Try.pinned (OpenSpec.ofChange cpuCodesSpec)

/-- ITS FALSE NEIGHBOUR: 'it returns false'. Refute it at one input. -/
def cpuCodesWrong : ChangeSpec := { name := "cpuCodes", fn := fun _ => fun
  | [d1, d2] => { results := [.lit (.bool false)], args := [d1, d2] }
  | _ => none }
def CpuCodesWrongFalsely : Prop := cpuCodesRow.holds Try.pinned (OpenSpec.ofChange cpuCodesWrong)

/-- 'foliantlaw.CpuDoes': WHATEVER THE INPUT: true; the input reads as it did. -/
def cpuDoesSpec : ChangeSpec := { name := "cpuDoes", fn := fun _ => fun
  | [d1, d2, d3] => { results := [.lit (.bool true)], args := [d1, d2, d3] }
  | _ => none }
def cpuDoesRow : OpenClaim := { program := "ytejnpppejalhfaa", sum := "dbc78d844c7778b54c0caf399b74cfd5b067dc0183f776b2c1895d67c856ef49", func := "foliant/foliantlaw.CpuDoes", spec := "cpuDoes", apart := false }
def CpuDoesSaid : Prop := cpuDoesRow.holds Try.pinned (OpenSpec.ofChange cpuDoesSpec)

/-- ITS FALSE NEIGHBOUR: 'it returns false'. Refute it at one input. -/
def cpuDoesWrong : ChangeSpec := { name := "cpuDoes", fn := fun _ => fun
  | [d1, d2, d3] => { results := [.lit (.bool false)], args := [d1, d2, d3] }
  | _ => none }
def CpuDoesWrongFalsely : Prop := cpuDoesRow.holds Try.pinned (OpenSpec.ofChange cpuDoesWrong)

/-- 'foliantlaw.CpuBack': WHATEVER THE INPUT: true; the input reads as it did. -/
def cpuBackSpec : ChangeSpec := { name := "cpuBack", fn := fun _ => fun
  | [d1, d2] => { results := [.lit (.bool true)], args := [d1, d2] }
  | _ => none }
def cpuBackRow : OpenClaim := { program := "ytejnpppejalhfaa", sum := "dbc78d844c7778b54c0caf399b74cfd5b067dc0183f776b2c1895d67c856ef49", func := "foliant/foliantlaw.CpuBack", spec := "cpuBack", apart := false }
def CpuBackSaid : Prop := cpuBackRow.holds Try.pinned (OpenSpec.ofChange cpuBackSpec)

/-- ITS FALSE NEIGHBOUR: 'it returns false'. Refute it at one input. -/
def cpuBackWrong : ChangeSpec := { name := "cpuBack", fn := fun _ => fun
  | [d1, d2] => { results := [.lit (.bool false)], args := [d1, d2] }
  | _ => none }
def CpuBackWrongFalsely : Prop := cpuBackRow.holds Try.pinned (OpenSpec.ofChange cpuBackWrong)

/-- 'foliantlaw.AreaChecks': WHATEVER THE INPUT: true; the input reads as it did. -/
def areaChecksSpec : ChangeSpec := { name := "areaChecks", fn := fun _ => fun
  | [d1, d2] => { results := [.lit (.bool true)], args := [d1, d2] }
  | _ => none }
def areaChecksRow : OpenClaim := { program := "ytejnpppejalhfaa", sum := "dbc78d844c7778b54c0caf399b74cfd5b067dc0183f776b2c1895d67c856ef49", func := "foliant/foliantlaw.AreaChecks", spec := "areaChecks", unfollowed := true, recurses := true, apart := false }
def AreaChecksSaid : Prop := areaChecksRow.holds Try.pinned (OpenSpec.ofChange areaChecksSpec)

/-- ITS FALSE NEIGHBOUR: 'it returns false'. Refute it at one input. -/
def areaChecksWrong : ChangeSpec := { name := "areaChecks", fn := fun _ => fun
  | [d1, d2] => { results := [.lit (.bool false)], args := [d1, d2] }
  | _ => none }
def AreaChecksWrongFalsely : Prop := areaChecksRow.holds Try.pinned (OpenSpec.ofChange areaChecksWrong)

/-- 'foliantlaw.AreaTurns': WHATEVER THE INPUT: true; the input reads as it did. -/
def areaTurnsSpec : ChangeSpec := { name := "areaTurns", fn := fun _ => fun
  | [d1, d2, d3, d4] => { results := [.lit (.bool true)], args := [d1, d2, d3, d4] }
  | _ => none }
def areaTurnsRow : OpenClaim := { program := "ytejnpppejalhfaa", sum := "dbc78d844c7778b54c0caf399b74cfd5b067dc0183f776b2c1895d67c856ef49", func := "foliant/foliantlaw.AreaTurns", spec := "areaTurns", unfollowed := true, recurses := true, apart := false }
def AreaTurnsSaid : Prop := areaTurnsRow.holds Try.pinned (OpenSpec.ofChange areaTurnsSpec)

/-- ITS FALSE NEIGHBOUR: 'it returns false'. Refute it at one input. -/
def areaTurnsWrong : ChangeSpec := { name := "areaTurns", fn := fun _ => fun
  | [d1, d2, d3, d4] => { results := [.lit (.bool false)], args := [d1, d2, d3, d4] }
  | _ => none }
def AreaTurnsWrongFalsely : Prop := areaTurnsRow.holds Try.pinned (OpenSpec.ofChange areaTurnsWrong)

/-- 'foliantlaw.AreaKeeps': WHATEVER THE INPUT: true; the input reads as it did. -/
def areaKeepsSpec : ChangeSpec := { name := "areaKeeps", fn := fun _ => fun
  | [d1, d2, d3, d4, d5] => { results := [.lit (.bool true)], args := [d1, d2, d3, d4, d5] }
  | _ => none }
def areaKeepsRow : OpenClaim := { program := "ytejnpppejalhfaa", sum := "dbc78d844c7778b54c0caf399b74cfd5b067dc0183f776b2c1895d67c856ef49", func := "foliant/foliantlaw.AreaKeeps", spec := "areaKeeps", unfollowed := true, recurses := true, apart := false }
def AreaKeepsSaid : Prop := areaKeepsRow.holds Try.pinned (OpenSpec.ofChange areaKeepsSpec)

/-- ITS FALSE NEIGHBOUR: 'it returns false'. Refute it at one input. -/
def areaKeepsWrong : ChangeSpec := { name := "areaKeeps", fn := fun _ => fun
  | [d1, d2, d3, d4, d5] => { results := [.lit (.bool false)], args := [d1, d2, d3, d4, d5] }
  | _ => none }
def AreaKeepsWrongFalsely : Prop := areaKeepsRow.holds Try.pinned (OpenSpec.ofChange areaKeepsWrong)

/-- 'foliantlaw.ImageWrites': WHATEVER THE INPUT: true; the input reads as it did. -/
def imageWritesSpec : ChangeSpec := { name := "imageWrites", fn := fun _ => fun
  | [d] => { results := [.lit (.bool true)], args := [d] }
  | _ => none }
def imageWritesRow : OpenClaim := { program := "ytejnpppejalhfaa", sum := "dbc78d844c7778b54c0caf399b74cfd5b067dc0183f776b2c1895d67c856ef49", func := "foliant/foliantlaw.ImageWrites", spec := "imageWrites", unfollowed := true, recurses := true, apart := false }
def ImageWritesSaid : Prop := imageWritesRow.holds Try.pinned (OpenSpec.ofChange imageWritesSpec)

/-- ITS FALSE NEIGHBOUR: 'it returns false'. Refute it at one input. -/
def imageWritesWrong : ChangeSpec := { name := "imageWrites", fn := fun _ => fun
  | [d] => { results := [.lit (.bool false)], args := [d] }
  | _ => none }
def ImageWritesWrongFalsely : Prop := imageWritesRow.holds Try.pinned (OpenSpec.ofChange imageWritesWrong)

/-- 'foliantlaw.ImageReads': WHATEVER THE INPUT: true; the input reads as it did. -/
def imageReadsSpec : ChangeSpec := { name := "imageReads", fn := fun _ => fun
  | [d] => { results := [.lit (.bool true)], args := [d] }
  | _ => none }
def imageReadsRow : OpenClaim := { program := "ytejnpppejalhfaa", sum := "dbc78d844c7778b54c0caf399b74cfd5b067dc0183f776b2c1895d67c856ef49", func := "foliant/foliantlaw.ImageReads", spec := "imageReads", unfollowed := true, recurses := true, apart := false }
def ImageReadsSaid : Prop := imageReadsRow.holds Try.pinned (OpenSpec.ofChange imageReadsSpec)

/-- ITS FALSE NEIGHBOUR: 'it returns false'. Refute it at one input. -/
def imageReadsWrong : ChangeSpec := { name := "imageReads", fn := fun _ => fun
  | [d] => { results := [.lit (.bool false)], args := [d] }
  | _ => none }
def ImageReadsWrongFalsely : Prop := imageReadsRow.holds Try.pinned (OpenSpec.ofChange imageReadsWrong)

/- THE SECOND FORM. 'bulk': how many values and letters a reading holds, each counted each time it is reached (what is shared counts as often as it is met; a slice's spare places count too). A statement '..UptoSaid' is the law's where the arguments, and the package variables that the reading takes, are together of bulk at most 1048576: NARROWER than '..Said'. Prove '..Said' where nothing that the law and all that it calls make is longer than what came in: it says more and counts as full. Else prove '..UptoSaid'. A law counts once. -/
mutual
def uptoBulk {H : Type} : DataW H → Nat
  | .lit (.string bytes) => bytes.length + 1
  | .lit _ => 1
  | .nil => 1
  | .ptr d => uptoBulk d + 1
  | .slice elems spare => uptoBulkAll elems + uptoBulkAll spare + 1
  | .agg parts => uptoBulkAll parts + 1
  | .iface _ d => uptoBulk d + 1
  | .map entries => uptoBulkEntries entries + 1
  | .held _ => 1
def uptoBulkAll {H : Type} : List (DataW H) → Nat
  | [] => 0
  | d :: r => uptoBulk d + uptoBulkAll r
def uptoBulkEntries {H : Type} : List (Lit × DataW H) → Nat
  | [] => 0
  | x :: r => uptoBulkEntry x + uptoBulkEntries r
def uptoBulkEntry {H : Type} : Lit × DataW H → Nat
  | (.string bytes, d) => bytes.length + uptoBulk d + 1
  | (_, d) => uptoBulk d + 1
 end
def uptoSmall : (H : Type) → List (DataW H) → Bool := fun _ ds => decide (uptoBulkAll ds ≤ 1048576)
def OpenSpec.upto (s : _root_.Go.ChangeSpec) : _root_.Go.OpenSpec := { _root_.Go.OpenSpec.ofChange s with cond := some uptoSmall }

/-- 'foliantlaw.BitsPuts', WHERE WHAT IT READS IS OF BULK AT MOST 1048576: true; the input reads as it did. -/
def bitsPutsUptoRow : OpenClaim := { program := "ytejnpppejalhfaa", sum := "dbc78d844c7778b54c0caf399b74cfd5b067dc0183f776b2c1895d67c856ef49", func := "foliant/foliantlaw.BitsPuts", spec := "bitsPuts", apart := false, narrowed := true }
def BitsPutsUptoSaid : Prop := bitsPutsUptoRow.holds Try.pinned (OpenSpec.upto bitsPutsSpec)

/-- 'foliantlaw.BitsParts', WHERE WHAT IT READS IS OF BULK AT MOST 1048576: true; the input reads as it did. -/
def bitsPartsUptoRow : OpenClaim := { program := "ytejnpppejalhfaa", sum := "dbc78d844c7778b54c0caf399b74cfd5b067dc0183f776b2c1895d67c856ef49", func := "foliant/foliantlaw.BitsParts", spec := "bitsParts", apart := false, narrowed := true }
def BitsPartsUptoSaid : Prop := bitsPartsUptoRow.holds Try.pinned (OpenSpec.upto bitsPartsSpec)

/-- 'foliantlaw.BitsBack', WHERE WHAT IT READS IS OF BULK AT MOST 1048576: true; the input reads as it did. -/
def bitsBackUptoRow : OpenClaim := { program := "ytejnpppejalhfaa", sum := "dbc78d844c7778b54c0caf399b74cfd5b067dc0183f776b2c1895d67c856ef49", func := "foliant/foliantlaw.BitsBack", spec := "bitsBack", apart := false, narrowed := true }
def BitsBackUptoSaid : Prop := bitsBackUptoRow.holds Try.pinned (OpenSpec.upto bitsBackSpec)

/-- 'foliantlaw.CpuCodes', WHERE WHAT IT READS IS OF BULK AT MOST 1048576: true; the input reads as it did. -/
def cpuCodesUptoRow : OpenClaim := { program := "ytejnpppejalhfaa", sum := "dbc78d844c7778b54c0caf399b74cfd5b067dc0183f776b2c1895d67c856ef49", func := "foliant/foliantlaw.CpuCodes", spec := "cpuCodes", apart := false, narrowed := true }
def CpuCodesUptoSaid : Prop := cpuCodesUptoRow.holds Try.pinned (OpenSpec.upto cpuCodesSpec)

/-- 'foliantlaw.CpuDoes', WHERE WHAT IT READS IS OF BULK AT MOST 1048576: true; the input reads as it did. -/
def cpuDoesUptoRow : OpenClaim := { program := "ytejnpppejalhfaa", sum := "dbc78d844c7778b54c0caf399b74cfd5b067dc0183f776b2c1895d67c856ef49", func := "foliant/foliantlaw.CpuDoes", spec := "cpuDoes", apart := false, narrowed := true }
def CpuDoesUptoSaid : Prop := cpuDoesUptoRow.holds Try.pinned (OpenSpec.upto cpuDoesSpec)

/-- 'foliantlaw.CpuBack', WHERE WHAT IT READS IS OF BULK AT MOST 1048576: true; the input reads as it did. -/
def cpuBackUptoRow : OpenClaim := { program := "ytejnpppejalhfaa", sum := "dbc78d844c7778b54c0caf399b74cfd5b067dc0183f776b2c1895d67c856ef49", func := "foliant/foliantlaw.CpuBack", spec := "cpuBack", apart := false, narrowed := true }
def CpuBackUptoSaid : Prop := cpuBackUptoRow.holds Try.pinned (OpenSpec.upto cpuBackSpec)

/-- 'foliantlaw.AreaChecks', WHERE WHAT IT READS IS OF BULK AT MOST 1048576: true; the input reads as it did. -/
def areaChecksUptoRow : OpenClaim := { program := "ytejnpppejalhfaa", sum := "dbc78d844c7778b54c0caf399b74cfd5b067dc0183f776b2c1895d67c856ef49", func := "foliant/foliantlaw.AreaChecks", spec := "areaChecks", unfollowed := true, recurses := true, apart := false, narrowed := true }
def AreaChecksUptoSaid : Prop := areaChecksUptoRow.holds Try.pinned (OpenSpec.upto areaChecksSpec)

/-- 'foliantlaw.AreaTurns', WHERE WHAT IT READS IS OF BULK AT MOST 1048576: true; the input reads as it did. -/
def areaTurnsUptoRow : OpenClaim := { program := "ytejnpppejalhfaa", sum := "dbc78d844c7778b54c0caf399b74cfd5b067dc0183f776b2c1895d67c856ef49", func := "foliant/foliantlaw.AreaTurns", spec := "areaTurns", unfollowed := true, recurses := true, apart := false, narrowed := true }
def AreaTurnsUptoSaid : Prop := areaTurnsUptoRow.holds Try.pinned (OpenSpec.upto areaTurnsSpec)

/-- 'foliantlaw.AreaKeeps', WHERE WHAT IT READS IS OF BULK AT MOST 1048576: true; the input reads as it did. -/
def areaKeepsUptoRow : OpenClaim := { program := "ytejnpppejalhfaa", sum := "dbc78d844c7778b54c0caf399b74cfd5b067dc0183f776b2c1895d67c856ef49", func := "foliant/foliantlaw.AreaKeeps", spec := "areaKeeps", unfollowed := true, recurses := true, apart := false, narrowed := true }
def AreaKeepsUptoSaid : Prop := areaKeepsUptoRow.holds Try.pinned (OpenSpec.upto areaKeepsSpec)

/-- 'foliantlaw.ImageWrites', WHERE WHAT IT READS IS OF BULK AT MOST 1048576: true; the input reads as it did. -/
def imageWritesUptoRow : OpenClaim := { program := "ytejnpppejalhfaa", sum := "dbc78d844c7778b54c0caf399b74cfd5b067dc0183f776b2c1895d67c856ef49", func := "foliant/foliantlaw.ImageWrites", spec := "imageWrites", unfollowed := true, recurses := true, apart := false, narrowed := true }
def ImageWritesUptoSaid : Prop := imageWritesUptoRow.holds Try.pinned (OpenSpec.upto imageWritesSpec)

/-- 'foliantlaw.ImageReads', WHERE WHAT IT READS IS OF BULK AT MOST 1048576: true; the input reads as it did. -/
def imageReadsUptoRow : OpenClaim := { program := "ytejnpppejalhfaa", sum := "dbc78d844c7778b54c0caf399b74cfd5b067dc0183f776b2c1895d67c856ef49", func := "foliant/foliantlaw.ImageReads", spec := "imageReads", unfollowed := true, recurses := true, apart := false, narrowed := true }
def ImageReadsUptoSaid : Prop := imageReadsUptoRow.holds Try.pinned (OpenSpec.upto imageReadsSpec)

end Rows
end Go.Proofs.Ytejnpppejalhfaa
