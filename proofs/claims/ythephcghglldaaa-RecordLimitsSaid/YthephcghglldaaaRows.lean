/-
  No cell of these rows narrows 'for every input' (looked for: loops, veiled, ifaces, maps, wideKeys, modest, calm, conditions, laid).
  DERIVED. THE GIVEN ROWS OF THIS SEAT. 12 by the template 'for every input the law returns true; each argument reads behind the call as it read before'; 0 by the template 'total and deterministic' (their statements: YthephcghglldaaaTotals.lean).
  GIVEN WITH THE SEED: the statements are not yours to turn. If you find one false, say at which input.
  Laid BY PROGRAM, IN A SANDBOX (cutbox-rows.mjs): the forced cells as the released guide's own fill.sh prints them over the translation 23aea635a6753a1f… (all of the seat's roots in one cut). By AI agents, Wed Nov 11 2026. No macro, syntax, notation, axiom, sorry.
-/
import Derived.Test.YthephcghglldaaaChecked
import GoSem.Claim
import GoSem.ClaimJoined
import GoSem.ClaimMapViews
import Derived.JoinedTies
import Derived.KernelRfl
namespace Go.Proofs.Ythephcghglldaaa
/- THE CELL 'sum', in the pinned program and in every row, IS THE sha256 OF THE DUMP (.gsa) THAT YthephcghglldaaaProg.lean LOADS. Nothing in Lean hashes anything: it is a label: what it is worth is what the hold of that sum in a sandbox is worth. -/
noncomputable def Try.pinned : Pinned := { name := "ythephcghglldaaa", sum := "23aea635a6753a1f01bc1c6df82b822552d2f283f49706de198d0f5ed764de9f", checked := Try.checked }
namespace Rows
def none {H : Type} : Left H := { results := [], args := [] }

/-- 'bulletinlaw23.RecordParts': WHATEVER THE INPUT: true; the input reads as it did. -/
def recordPartsSpec : ChangeSpec := { name := "recordParts", fn := fun _ => fun
  | [d] => { results := [.lit (.bool true)], args := [d] }
  | _ => none }
def recordPartsRow : OpenClaim := { program := "ythephcghglldaaa", sum := "23aea635a6753a1f01bc1c6df82b822552d2f283f49706de198d0f5ed764de9f", func := "bulletin/bulletinlaw23.RecordParts", spec := "recordParts", apart := false }
def RecordPartsSaid : Prop := recordPartsRow.holds Try.pinned (OpenSpec.ofChange recordPartsSpec)

/-- ITS FALSE NEIGHBOUR: 'it returns false'. Refute it at one input. -/
def recordPartsWrong : ChangeSpec := { name := "recordParts", fn := fun _ => fun
  | [d] => { results := [.lit (.bool false)], args := [d] }
  | _ => none }
def RecordPartsWrongFalsely : Prop := recordPartsRow.holds Try.pinned (OpenSpec.ofChange recordPartsWrong)

/-- 'bulletinlaw23.RecordDecodes': WHATEVER THE INPUT: true; the input reads as it did. -/
def recordDecodesSpec : ChangeSpec := { name := "recordDecodes", fn := fun _ => fun
  | [d1, d2] => { results := [.lit (.bool true)], args := [d1, d2] }
  | _ => none }
def recordDecodesRow : OpenClaim := { program := "ythephcghglldaaa", sum := "23aea635a6753a1f01bc1c6df82b822552d2f283f49706de198d0f5ed764de9f", func := "bulletin/bulletinlaw23.RecordDecodes", spec := "recordDecodes", apart := false }
def RecordDecodesSaid : Prop := recordDecodesRow.holds Try.pinned (OpenSpec.ofChange recordDecodesSpec)

/-- ITS FALSE NEIGHBOUR: 'it returns false'. Refute it at one input. -/
def recordDecodesWrong : ChangeSpec := { name := "recordDecodes", fn := fun _ => fun
  | [d1, d2] => { results := [.lit (.bool false)], args := [d1, d2] }
  | _ => none }
def RecordDecodesWrongFalsely : Prop := recordDecodesRow.holds Try.pinned (OpenSpec.ofChange recordDecodesWrong)

/-- 'bulletinlaw23.RecordTampering': WHATEVER THE INPUT: true; the input reads as it did. -/
def recordTamperingSpec : ChangeSpec := { name := "recordTampering", fn := fun _ => fun
  | [d1, d2, d3] => { results := [.lit (.bool true)], args := [d1, d2, d3] }
  | _ => none }
def recordTamperingRow : OpenClaim := { program := "ythephcghglldaaa", sum := "23aea635a6753a1f01bc1c6df82b822552d2f283f49706de198d0f5ed764de9f", func := "bulletin/bulletinlaw23.RecordTampering", spec := "recordTampering", apart := false }
def RecordTamperingSaid : Prop := recordTamperingRow.holds Try.pinned (OpenSpec.ofChange recordTamperingSpec)

/-- ITS FALSE NEIGHBOUR: 'it returns false'. Refute it at one input. -/
def recordTamperingWrong : ChangeSpec := { name := "recordTampering", fn := fun _ => fun
  | [d1, d2, d3] => { results := [.lit (.bool false)], args := [d1, d2, d3] }
  | _ => none }
def RecordTamperingWrongFalsely : Prop := recordTamperingRow.holds Try.pinned (OpenSpec.ofChange recordTamperingWrong)

/-- 'bulletinlaw23.RecordTorn': WHATEVER THE INPUT: true; the input reads as it did. -/
def recordTornSpec : ChangeSpec := { name := "recordTorn", fn := fun _ => fun
  | [d1, d2, d3] => { results := [.lit (.bool true)], args := [d1, d2, d3] }
  | _ => none }
def recordTornRow : OpenClaim := { program := "ythephcghglldaaa", sum := "23aea635a6753a1f01bc1c6df82b822552d2f283f49706de198d0f5ed764de9f", func := "bulletin/bulletinlaw23.RecordTorn", spec := "recordTorn", apart := false }
def RecordTornSaid : Prop := recordTornRow.holds Try.pinned (OpenSpec.ofChange recordTornSpec)

/-- ITS FALSE NEIGHBOUR: 'it returns false'. Refute it at one input. -/
def recordTornWrong : ChangeSpec := { name := "recordTorn", fn := fun _ => fun
  | [d1, d2, d3] => { results := [.lit (.bool false)], args := [d1, d2, d3] }
  | _ => none }
def RecordTornWrongFalsely : Prop := recordTornRow.holds Try.pinned (OpenSpec.ofChange recordTornWrong)

/-- 'bulletinlaw23.RecordSplits': WHATEVER THE INPUT: true; the input reads as it did. -/
def recordSplitsSpec : ChangeSpec := { name := "recordSplits", fn := fun _ => fun
  | [d1, d2] => { results := [.lit (.bool true)], args := [d1, d2] }
  | _ => none }
def recordSplitsRow : OpenClaim := { program := "ythephcghglldaaa", sum := "23aea635a6753a1f01bc1c6df82b822552d2f283f49706de198d0f5ed764de9f", func := "bulletin/bulletinlaw23.RecordSplits", spec := "recordSplits", apart := false }
def RecordSplitsSaid : Prop := recordSplitsRow.holds Try.pinned (OpenSpec.ofChange recordSplitsSpec)

/-- ITS FALSE NEIGHBOUR: 'it returns false'. Refute it at one input. -/
def recordSplitsWrong : ChangeSpec := { name := "recordSplits", fn := fun _ => fun
  | [d1, d2] => { results := [.lit (.bool false)], args := [d1, d2] }
  | _ => none }
def RecordSplitsWrongFalsely : Prop := recordSplitsRow.holds Try.pinned (OpenSpec.ofChange recordSplitsWrong)

/-- 'bulletinlaw23.RecordLimits': WHATEVER THE INPUT: true; the input reads as it did. -/
def recordLimitsSpec : ChangeSpec := { name := "recordLimits", fn := fun _ => fun
  | [d1, d2] => { results := [.lit (.bool true)], args := [d1, d2] }
  | _ => none }
def recordLimitsRow : OpenClaim := { program := "ythephcghglldaaa", sum := "23aea635a6753a1f01bc1c6df82b822552d2f283f49706de198d0f5ed764de9f", func := "bulletin/bulletinlaw23.RecordLimits", spec := "recordLimits", apart := false }
def RecordLimitsSaid : Prop := recordLimitsRow.holds Try.pinned (OpenSpec.ofChange recordLimitsSpec)

/-- ITS FALSE NEIGHBOUR: 'it returns false'. Refute it at one input. -/
def recordLimitsWrong : ChangeSpec := { name := "recordLimits", fn := fun _ => fun
  | [d1, d2] => { results := [.lit (.bool false)], args := [d1, d2] }
  | _ => none }
def RecordLimitsWrongFalsely : Prop := recordLimitsRow.holds Try.pinned (OpenSpec.ofChange recordLimitsWrong)

/-- 'bulletinlaw23.RecordJoins': WHATEVER THE INPUT: true; the input reads as it did. -/
def recordJoinsSpec : ChangeSpec := { name := "recordJoins", fn := fun _ => fun
  | [d] => { results := [.lit (.bool true)], args := [d] }
  | _ => none }
def recordJoinsRow : OpenClaim := { program := "ythephcghglldaaa", sum := "23aea635a6753a1f01bc1c6df82b822552d2f283f49706de198d0f5ed764de9f", func := "bulletin/bulletinlaw23.RecordJoins", spec := "recordJoins", apart := false }
def RecordJoinsSaid : Prop := recordJoinsRow.holds Try.pinned (OpenSpec.ofChange recordJoinsSpec)

/-- ITS FALSE NEIGHBOUR: 'it returns false'. Refute it at one input. -/
def recordJoinsWrong : ChangeSpec := { name := "recordJoins", fn := fun _ => fun
  | [d] => { results := [.lit (.bool false)], args := [d] }
  | _ => none }
def RecordJoinsWrongFalsely : Prop := recordJoinsRow.holds Try.pinned (OpenSpec.ofChange recordJoinsWrong)

/-- 'bulletinlaw23.RecordBack': WHATEVER THE INPUT: true; the input reads as it did. -/
def recordBackSpec : ChangeSpec := { name := "recordBack", fn := fun _ => fun
  | [d1, d2, d3] => { results := [.lit (.bool true)], args := [d1, d2, d3] }
  | _ => none }
def recordBackRow : OpenClaim := { program := "ythephcghglldaaa", sum := "23aea635a6753a1f01bc1c6df82b822552d2f283f49706de198d0f5ed764de9f", func := "bulletin/bulletinlaw23.RecordBack", spec := "recordBack", apart := false }
def RecordBackSaid : Prop := recordBackRow.holds Try.pinned (OpenSpec.ofChange recordBackSpec)

/-- ITS FALSE NEIGHBOUR: 'it returns false'. Refute it at one input. -/
def recordBackWrong : ChangeSpec := { name := "recordBack", fn := fun _ => fun
  | [d1, d2, d3] => { results := [.lit (.bool false)], args := [d1, d2, d3] }
  | _ => none }
def RecordBackWrongFalsely : Prop := recordBackRow.holds Try.pinned (OpenSpec.ofChange recordBackWrong)

/-- 'bulletinlaw23.RecordScans': WHATEVER THE INPUT: true; the input reads as it did. -/
def recordScansSpec : ChangeSpec := { name := "recordScans", fn := fun _ => fun
  | [d1, d2, d3] => { results := [.lit (.bool true)], args := [d1, d2, d3] }
  | _ => none }
def recordScansRow : OpenClaim := { program := "ythephcghglldaaa", sum := "23aea635a6753a1f01bc1c6df82b822552d2f283f49706de198d0f5ed764de9f", func := "bulletin/bulletinlaw23.RecordScans", spec := "recordScans", apart := false }
def RecordScansSaid : Prop := recordScansRow.holds Try.pinned (OpenSpec.ofChange recordScansSpec)

/-- ITS FALSE NEIGHBOUR: 'it returns false'. Refute it at one input. -/
def recordScansWrong : ChangeSpec := { name := "recordScans", fn := fun _ => fun
  | [d1, d2, d3] => { results := [.lit (.bool false)], args := [d1, d2, d3] }
  | _ => none }
def RecordScansWrongFalsely : Prop := recordScansRow.holds Try.pinned (OpenSpec.ofChange recordScansWrong)

/-- 'bulletinlaw23.RecordLosses': WHATEVER THE INPUT: true; the input reads as it did. -/
def recordLossesSpec : ChangeSpec := { name := "recordLosses", fn := fun _ => fun
  | [d1, d2, d3] => { results := [.lit (.bool true)], args := [d1, d2, d3] }
  | _ => none }
def recordLossesRow : OpenClaim := { program := "ythephcghglldaaa", sum := "23aea635a6753a1f01bc1c6df82b822552d2f283f49706de198d0f5ed764de9f", func := "bulletin/bulletinlaw23.RecordLosses", spec := "recordLosses", apart := false }
def RecordLossesSaid : Prop := recordLossesRow.holds Try.pinned (OpenSpec.ofChange recordLossesSpec)

/-- ITS FALSE NEIGHBOUR: 'it returns false'. Refute it at one input. -/
def recordLossesWrong : ChangeSpec := { name := "recordLosses", fn := fun _ => fun
  | [d1, d2, d3] => { results := [.lit (.bool false)], args := [d1, d2, d3] }
  | _ => none }
def RecordLossesWrongFalsely : Prop := recordLossesRow.holds Try.pinned (OpenSpec.ofChange recordLossesWrong)

/-- 'bulletinlaw23.RecordEquals': WHATEVER THE INPUT: true; the input reads as it did. -/
def recordEqualsSpec : ChangeSpec := { name := "recordEquals", fn := fun _ => fun
  | [d1, d2, d3] => { results := [.lit (.bool true)], args := [d1, d2, d3] }
  | _ => none }
def recordEqualsRow : OpenClaim := { program := "ythephcghglldaaa", sum := "23aea635a6753a1f01bc1c6df82b822552d2f283f49706de198d0f5ed764de9f", func := "bulletin/bulletinlaw23.RecordEquals", spec := "recordEquals", apart := false }
def RecordEqualsSaid : Prop := recordEqualsRow.holds Try.pinned (OpenSpec.ofChange recordEqualsSpec)

/-- ITS FALSE NEIGHBOUR: 'it returns false'. Refute it at one input. -/
def recordEqualsWrong : ChangeSpec := { name := "recordEquals", fn := fun _ => fun
  | [d1, d2, d3] => { results := [.lit (.bool false)], args := [d1, d2, d3] }
  | _ => none }
def RecordEqualsWrongFalsely : Prop := recordEqualsRow.holds Try.pinned (OpenSpec.ofChange recordEqualsWrong)

/-- 'bulletinlaw23.RecordSalvages': WHATEVER THE INPUT: true; the input reads as it did. -/
def recordSalvagesSpec : ChangeSpec := { name := "recordSalvages", fn := fun _ => fun
  | [d1, d2] => { results := [.lit (.bool true)], args := [d1, d2] }
  | _ => none }
def recordSalvagesRow : OpenClaim := { program := "ythephcghglldaaa", sum := "23aea635a6753a1f01bc1c6df82b822552d2f283f49706de198d0f5ed764de9f", func := "bulletin/bulletinlaw23.RecordSalvages", spec := "recordSalvages", apart := false }
def RecordSalvagesSaid : Prop := recordSalvagesRow.holds Try.pinned (OpenSpec.ofChange recordSalvagesSpec)

/-- ITS FALSE NEIGHBOUR: 'it returns false'. Refute it at one input. -/
def recordSalvagesWrong : ChangeSpec := { name := "recordSalvages", fn := fun _ => fun
  | [d1, d2] => { results := [.lit (.bool false)], args := [d1, d2] }
  | _ => none }
def RecordSalvagesWrongFalsely : Prop := recordSalvagesRow.holds Try.pinned (OpenSpec.ofChange recordSalvagesWrong)

/- THE SECOND FORM. 'bulk': how many values and letters a reading holds, each counted each time it is reached (what is shared counts as often as it is met; a slice's spare places count too). A statement '..UptoSaid' is the law's where the arguments, and the package variables that the reading takes, are together of bulk at most 1048576: NARROWER than '..Said'. Prove '..Said' where nothing that the law and all that it calls make is longer than what came in: it says more and counts as full. Else prove '..UptoSaid'. A law counts once. -/
mutual
def uptoBulk {H : Type} : DataW H → Nat
  | .lit (.string bytes) => bytes.length + 1
  | .lit _ => 1
  | .nil => 1
  | .ptr d => uptoBulk d + 1
  | .slice elems spare => uptoBulkAll elems + uptoBulkAll spare + 1
  | .agg parts => uptoBulkAll parts + 1
  | .iface _ d => uptoBulk d + 1
  | .map entries => uptoBulkEntries entries + 1
  | .held _ => 1
def uptoBulkAll {H : Type} : List (DataW H) → Nat
  | [] => 0
  | d :: r => uptoBulk d + uptoBulkAll r
def uptoBulkEntries {H : Type} : List (Lit × DataW H) → Nat
  | [] => 0
  | x :: r => uptoBulkEntry x + uptoBulkEntries r
def uptoBulkEntry {H : Type} : Lit × DataW H → Nat
  | (.string bytes, d) => bytes.length + uptoBulk d + 1
  | (_, d) => uptoBulk d + 1
 end
def uptoSmall : (H : Type) → List (DataW H) → Bool := fun _ ds => decide (uptoBulkAll ds ≤ 1048576)
def OpenSpec.upto (s : _root_.Go.ChangeSpec) : _root_.Go.OpenSpec := { _root_.Go.OpenSpec.ofChange s with cond := some uptoSmall }

/-- 'bulletinlaw23.RecordParts', WHERE WHAT IT READS IS OF BULK AT MOST 1048576: true; the input reads as it did. -/
def recordPartsUptoRow : OpenClaim := { program := "ythephcghglldaaa", sum := "23aea635a6753a1f01bc1c6df82b822552d2f283f49706de198d0f5ed764de9f", func := "bulletin/bulletinlaw23.RecordParts", spec := "recordParts", apart := false, narrowed := true }
def RecordPartsUptoSaid : Prop := recordPartsUptoRow.holds Try.pinned (OpenSpec.upto recordPartsSpec)

/-- 'bulletinlaw23.RecordDecodes', WHERE WHAT IT READS IS OF BULK AT MOST 1048576: true; the input reads as it did. -/
def recordDecodesUptoRow : OpenClaim := { program := "ythephcghglldaaa", sum := "23aea635a6753a1f01bc1c6df82b822552d2f283f49706de198d0f5ed764de9f", func := "bulletin/bulletinlaw23.RecordDecodes", spec := "recordDecodes", apart := false, narrowed := true }
def RecordDecodesUptoSaid : Prop := recordDecodesUptoRow.holds Try.pinned (OpenSpec.upto recordDecodesSpec)

/-- 'bulletinlaw23.RecordTampering', WHERE WHAT IT READS IS OF BULK AT MOST 1048576: true; the input reads as it did. -/
def recordTamperingUptoRow : OpenClaim := { program := "ythephcghglldaaa", sum := "23aea635a6753a1f01bc1c6df82b822552d2f283f49706de198d0f5ed764de9f", func := "bulletin/bulletinlaw23.RecordTampering", spec := "recordTampering", apart := false, narrowed := true }
def RecordTamperingUptoSaid : Prop := recordTamperingUptoRow.holds Try.pinned (OpenSpec.upto recordTamperingSpec)

/-- 'bulletinlaw23.RecordTorn', WHERE WHAT IT READS IS OF BULK AT MOST 1048576: true; the input reads as it did. -/
def recordTornUptoRow : OpenClaim := { program := "ythephcghglldaaa", sum := "23aea635a6753a1f01bc1c6df82b822552d2f283f49706de198d0f5ed764de9f", func := "bulletin/bulletinlaw23.RecordTorn", spec := "recordTorn", apart := false, narrowed := true }
def RecordTornUptoSaid : Prop := recordTornUptoRow.holds Try.pinned (OpenSpec.upto recordTornSpec)

/-- 'bulletinlaw23.RecordSplits', WHERE WHAT IT READS IS OF BULK AT MOST 1048576: true; the input reads as it did. -/
def recordSplitsUptoRow : OpenClaim := { program := "ythephcghglldaaa", sum := "23aea635a6753a1f01bc1c6df82b822552d2f283f49706de198d0f5ed764de9f", func := "bulletin/bulletinlaw23.RecordSplits", spec := "recordSplits", apart := false, narrowed := true }
def RecordSplitsUptoSaid : Prop := recordSplitsUptoRow.holds Try.pinned (OpenSpec.upto recordSplitsSpec)

/-- 'bulletinlaw23.RecordLimits', WHERE WHAT IT READS IS OF BULK AT MOST 1048576: true; the input reads as it did. -/
def recordLimitsUptoRow : OpenClaim := { program := "ythephcghglldaaa", sum := "23aea635a6753a1f01bc1c6df82b822552d2f283f49706de198d0f5ed764de9f", func := "bulletin/bulletinlaw23.RecordLimits", spec := "recordLimits", apart := false, narrowed := true }
def RecordLimitsUptoSaid : Prop := recordLimitsUptoRow.holds Try.pinned (OpenSpec.upto recordLimitsSpec)

/-- 'bulletinlaw23.RecordJoins', WHERE WHAT IT READS IS OF BULK AT MOST 1048576: true; the input reads as it did. -/
def recordJoinsUptoRow : OpenClaim := { program := "ythephcghglldaaa", sum := "23aea635a6753a1f01bc1c6df82b822552d2f283f49706de198d0f5ed764de9f", func := "bulletin/bulletinlaw23.RecordJoins", spec := "recordJoins", apart := false, narrowed := true }
def RecordJoinsUptoSaid : Prop := recordJoinsUptoRow.holds Try.pinned (OpenSpec.upto recordJoinsSpec)

/-- 'bulletinlaw23.RecordBack', WHERE WHAT IT READS IS OF BULK AT MOST 1048576: true; the input reads as it did. -/
def recordBackUptoRow : OpenClaim := { program := "ythephcghglldaaa", sum := "23aea635a6753a1f01bc1c6df82b822552d2f283f49706de198d0f5ed764de9f", func := "bulletin/bulletinlaw23.RecordBack", spec := "recordBack", apart := false, narrowed := true }
def RecordBackUptoSaid : Prop := recordBackUptoRow.holds Try.pinned (OpenSpec.upto recordBackSpec)

/-- 'bulletinlaw23.RecordScans', WHERE WHAT IT READS IS OF BULK AT MOST 1048576: true; the input reads as it did. -/
def recordScansUptoRow : OpenClaim := { program := "ythephcghglldaaa", sum := "23aea635a6753a1f01bc1c6df82b822552d2f283f49706de198d0f5ed764de9f", func := "bulletin/bulletinlaw23.RecordScans", spec := "recordScans", apart := false, narrowed := true }
def RecordScansUptoSaid : Prop := recordScansUptoRow.holds Try.pinned (OpenSpec.upto recordScansSpec)

/-- 'bulletinlaw23.RecordLosses', WHERE WHAT IT READS IS OF BULK AT MOST 1048576: true; the input reads as it did. -/
def recordLossesUptoRow : OpenClaim := { program := "ythephcghglldaaa", sum := "23aea635a6753a1f01bc1c6df82b822552d2f283f49706de198d0f5ed764de9f", func := "bulletin/bulletinlaw23.RecordLosses", spec := "recordLosses", apart := false, narrowed := true }
def RecordLossesUptoSaid : Prop := recordLossesUptoRow.holds Try.pinned (OpenSpec.upto recordLossesSpec)

/-- 'bulletinlaw23.RecordEquals', WHERE WHAT IT READS IS OF BULK AT MOST 1048576: true; the input reads as it did. -/
def recordEqualsUptoRow : OpenClaim := { program := "ythephcghglldaaa", sum := "23aea635a6753a1f01bc1c6df82b822552d2f283f49706de198d0f5ed764de9f", func := "bulletin/bulletinlaw23.RecordEquals", spec := "recordEquals", apart := false, narrowed := true }
def RecordEqualsUptoSaid : Prop := recordEqualsUptoRow.holds Try.pinned (OpenSpec.upto recordEqualsSpec)

/-- 'bulletinlaw23.RecordSalvages', WHERE WHAT IT READS IS OF BULK AT MOST 1048576: true; the input reads as it did. -/
def recordSalvagesUptoRow : OpenClaim := { program := "ythephcghglldaaa", sum := "23aea635a6753a1f01bc1c6df82b822552d2f283f49706de198d0f5ed764de9f", func := "bulletin/bulletinlaw23.RecordSalvages", spec := "recordSalvages", apart := false, narrowed := true }
def RecordSalvagesUptoSaid : Prop := recordSalvagesUptoRow.holds Try.pinned (OpenSpec.upto recordSalvagesSpec)

end Rows
end Go.Proofs.Ythephcghglldaaa
