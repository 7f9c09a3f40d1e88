/-
  No cell of these rows narrows 'for every input' (looked for: loops, veiled, ifaces, maps, wideKeys, modest, calm, conditions, laid).
  DERIVED. THE GIVEN ROWS OF THIS SEAT. 6 by the template 'for every input the law returns true; each argument reads behind the call as it read before'; 0 by the template 'total and deterministic' (their statements: YtkjlbedebmffgaaTotals.lean).
  GIVEN WITH THE SEED: the statements are not yours to turn. If you find one false, say at which input.
  Laid BY PROGRAM, IN A SANDBOX (cutbox-rows.mjs): the forced cells as the released guide's own fill.sh prints them over the translation 55f8fd65c5ee5869… (all of the seat's roots in one cut). By AI agents, Wed Nov 11 2026. No macro, syntax, notation, axiom, sorry.
-/
import Derived.Test.YtkjlbedebmffgaaChecked
import GoSem.Claim
import GoSem.ClaimJoined
import GoSem.ClaimMapViews
import Derived.JoinedTies
import Derived.KernelRfl
namespace Go.Proofs.Ytkjlbedebmffgaa
/- THE CELL 'sum', in the pinned program and in every row, IS THE sha256 OF THE DUMP (.gsa) THAT YtkjlbedebmffgaaProg.lean LOADS. Nothing in Lean hashes anything: it is a label: what it is worth is what the hold of that sum in a sandbox is worth. -/
noncomputable def Try.pinned : Pinned := { name := "ytkjlbedebmffgaa", sum := "55f8fd65c5ee5869a148f23fb82ea53d05420919ed6722cc34dddb66a76243c1", checked := Try.checked }
namespace Rows
def none {H : Type} : Left H := { results := [], args := [] }

/-- 'bulletinlaw24.JournalDurability': WHATEVER THE INPUT: true; the input reads as it did. -/
def journalDurabilitySpec : ChangeSpec := { name := "journalDurability", fn := fun _ => fun
  | [d1, d2, d3, d4, d5, d6] => { results := [.lit (.bool true)], args := [d1, d2, d3, d4, d5, d6] }
  | _ => none }
def journalDurabilityRow : OpenClaim := { program := "ytkjlbedebmffgaa", sum := "55f8fd65c5ee5869a148f23fb82ea53d05420919ed6722cc34dddb66a76243c1", func := "bulletin/bulletinlaw24.JournalDurability", spec := "journalDurability", unfollowed := true, recurses := true, apart := false }
def JournalDurabilitySaid : Prop := journalDurabilityRow.holds Try.pinned (OpenSpec.ofChange journalDurabilitySpec)

/-- ITS FALSE NEIGHBOUR: 'it returns false'. Refute it at one input. -/
def journalDurabilityWrong : ChangeSpec := { name := "journalDurability", fn := fun _ => fun
  | [d1, d2, d3, d4, d5, d6] => { results := [.lit (.bool false)], args := [d1, d2, d3, d4, d5, d6] }
  | _ => none }
def JournalDurabilityWrongFalsely : Prop := journalDurabilityRow.holds Try.pinned (OpenSpec.ofChange journalDurabilityWrong)

/-- 'bulletinlaw24.JournalFull': WHATEVER THE INPUT: true; the input reads as it did. -/
def journalFullSpec : ChangeSpec := { name := "journalFull", fn := fun _ => fun
  | [d1, d2, d3] => { results := [.lit (.bool true)], args := [d1, d2, d3] }
  | _ => none }
def journalFullRow : OpenClaim := { program := "ytkjlbedebmffgaa", sum := "55f8fd65c5ee5869a148f23fb82ea53d05420919ed6722cc34dddb66a76243c1", func := "bulletin/bulletinlaw24.JournalFull", spec := "journalFull", unfollowed := true, recurses := true, apart := false }
def JournalFullSaid : Prop := journalFullRow.holds Try.pinned (OpenSpec.ofChange journalFullSpec)

/-- ITS FALSE NEIGHBOUR: 'it returns false'. Refute it at one input. -/
def journalFullWrong : ChangeSpec := { name := "journalFull", fn := fun _ => fun
  | [d1, d2, d3] => { results := [.lit (.bool false)], args := [d1, d2, d3] }
  | _ => none }
def JournalFullWrongFalsely : Prop := journalFullRow.holds Try.pinned (OpenSpec.ofChange journalFullWrong)

/-- 'bulletinlaw24.JournalNeed': WHATEVER THE INPUT: true; the input reads as it did. -/
def journalNeedSpec : ChangeSpec := { name := "journalNeed", fn := fun _ => fun
  | [d] => { results := [.lit (.bool true)], args := [d] }
  | _ => none }
def journalNeedRow : OpenClaim := { program := "ytkjlbedebmffgaa", sum := "55f8fd65c5ee5869a148f23fb82ea53d05420919ed6722cc34dddb66a76243c1", func := "bulletin/bulletinlaw24.JournalNeed", spec := "journalNeed", unfollowed := true, recurses := true, apart := false }
def JournalNeedSaid : Prop := journalNeedRow.holds Try.pinned (OpenSpec.ofChange journalNeedSpec)

/-- ITS FALSE NEIGHBOUR: 'it returns false'. Refute it at one input. -/
def journalNeedWrong : ChangeSpec := { name := "journalNeed", fn := fun _ => fun
  | [d] => { results := [.lit (.bool false)], args := [d] }
  | _ => none }
def JournalNeedWrongFalsely : Prop := journalNeedRow.holds Try.pinned (OpenSpec.ofChange journalNeedWrong)

/-- 'bulletinlaw24.JournalEntries': WHATEVER THE INPUT: true; the input reads as it did. -/
def journalEntriesSpec : ChangeSpec := { name := "journalEntries", fn := fun _ => fun
  | [d1, d2] => { results := [.lit (.bool true)], args := [d1, d2] }
  | _ => none }
def journalEntriesRow : OpenClaim := { program := "ytkjlbedebmffgaa", sum := "55f8fd65c5ee5869a148f23fb82ea53d05420919ed6722cc34dddb66a76243c1", func := "bulletin/bulletinlaw24.JournalEntries", spec := "journalEntries", unfollowed := true, recurses := true, apart := false }
def JournalEntriesSaid : Prop := journalEntriesRow.holds Try.pinned (OpenSpec.ofChange journalEntriesSpec)

/-- ITS FALSE NEIGHBOUR: 'it returns false'. Refute it at one input. -/
def journalEntriesWrong : ChangeSpec := { name := "journalEntries", fn := fun _ => fun
  | [d1, d2] => { results := [.lit (.bool false)], args := [d1, d2] }
  | _ => none }
def JournalEntriesWrongFalsely : Prop := journalEntriesRow.holds Try.pinned (OpenSpec.ofChange journalEntriesWrong)

/-- 'bulletinlaw24.JournalOthers': WHATEVER THE INPUT: true; the input reads as it did. -/
def journalOthersSpec : ChangeSpec := { name := "journalOthers", fn := fun _ => fun
  | [d1, d2, d3] => { results := [.lit (.bool true)], args := [d1, d2, d3] }
  | _ => none }
def journalOthersRow : OpenClaim := { program := "ytkjlbedebmffgaa", sum := "55f8fd65c5ee5869a148f23fb82ea53d05420919ed6722cc34dddb66a76243c1", func := "bulletin/bulletinlaw24.JournalOthers", spec := "journalOthers", unfollowed := true, recurses := true, apart := false }
def JournalOthersSaid : Prop := journalOthersRow.holds Try.pinned (OpenSpec.ofChange journalOthersSpec)

/-- ITS FALSE NEIGHBOUR: 'it returns false'. Refute it at one input. -/
def journalOthersWrong : ChangeSpec := { name := "journalOthers", fn := fun _ => fun
  | [d1, d2, d3] => { results := [.lit (.bool false)], args := [d1, d2, d3] }
  | _ => none }
def JournalOthersWrongFalsely : Prop := journalOthersRow.holds Try.pinned (OpenSpec.ofChange journalOthersWrong)

/-- 'bulletinlaw24.JournalLost': WHATEVER THE INPUT: true; the input reads as it did. -/
def journalLostSpec : ChangeSpec := { name := "journalLost", fn := fun _ => fun
  | [d1, d2, d3, d4, d5] => { results := [.lit (.bool true)], args := [d1, d2, d3, d4, d5] }
  | _ => none }
def journalLostRow : OpenClaim := { program := "ytkjlbedebmffgaa", sum := "55f8fd65c5ee5869a148f23fb82ea53d05420919ed6722cc34dddb66a76243c1", func := "bulletin/bulletinlaw24.JournalLost", spec := "journalLost", unfollowed := true, recurses := true, apart := false }
def JournalLostSaid : Prop := journalLostRow.holds Try.pinned (OpenSpec.ofChange journalLostSpec)

/-- ITS FALSE NEIGHBOUR: 'it returns false'. Refute it at one input. -/
def journalLostWrong : ChangeSpec := { name := "journalLost", fn := fun _ => fun
  | [d1, d2, d3, d4, d5] => { results := [.lit (.bool false)], args := [d1, d2, d3, d4, d5] }
  | _ => none }
def JournalLostWrongFalsely : Prop := journalLostRow.holds Try.pinned (OpenSpec.ofChange journalLostWrong)

/- THE SECOND FORM. 'bulk': how many values and letters a reading holds, each counted each time it is reached (what is shared counts as often as it is met; a slice's spare places count too). A statement '..UptoSaid' is the law's where the arguments, and the package variables that the reading takes, are together of bulk at most 1048576: NARROWER than '..Said'. Prove '..Said' where nothing that the law and all that it calls make is longer than what came in: it says more and counts as full. Else prove '..UptoSaid'. A law counts once. -/
mutual
def uptoBulk {H : Type} : DataW H → Nat
  | .lit (.string bytes) => bytes.length + 1
  | .lit _ => 1
  | .nil => 1
  | .ptr d => uptoBulk d + 1
  | .slice elems spare => uptoBulkAll elems + uptoBulkAll spare + 1
  | .agg parts => uptoBulkAll parts + 1
  | .iface _ d => uptoBulk d + 1
  | .map entries => uptoBulkEntries entries + 1
  | .held _ => 1
def uptoBulkAll {H : Type} : List (DataW H) → Nat
  | [] => 0
  | d :: r => uptoBulk d + uptoBulkAll r
def uptoBulkEntries {H : Type} : List (Lit × DataW H) → Nat
  | [] => 0
  | x :: r => uptoBulkEntry x + uptoBulkEntries r
def uptoBulkEntry {H : Type} : Lit × DataW H → Nat
  | (.string bytes, d) => bytes.length + uptoBulk d + 1
  | (_, d) => uptoBulk d + 1
 end
def uptoSmall : (H : Type) → List (DataW H) → Bool := fun _ ds => decide (uptoBulkAll ds ≤ 1048576)
def OpenSpec.upto (s : _root_.Go.ChangeSpec) : _root_.Go.OpenSpec := { _root_.Go.OpenSpec.ofChange s with cond := some uptoSmall }

/-- 'bulletinlaw24.JournalDurability', WHERE WHAT IT READS IS OF BULK AT MOST 1048576: true; the input reads as it did. -/
def journalDurabilityUptoRow : OpenClaim := { program := "ytkjlbedebmffgaa", sum := "55f8fd65c5ee5869a148f23fb82ea53d05420919ed6722cc34dddb66a76243c1", func := "bulletin/bulletinlaw24.JournalDurability", spec := "journalDurability", unfollowed := true, recurses := true, apart := false, narrowed := true }
def JournalDurabilityUptoSaid : Prop := journalDurabilityUptoRow.holds Try.pinned (OpenSpec.upto journalDurabilitySpec)

/-- 'bulletinlaw24.JournalFull', WHERE WHAT IT READS IS OF BULK AT MOST 1048576: true; the input reads as it did. -/
def journalFullUptoRow : OpenClaim := { program := "ytkjlbedebmffgaa", sum := "55f8fd65c5ee5869a148f23fb82ea53d05420919ed6722cc34dddb66a76243c1", func := "bulletin/bulletinlaw24.JournalFull", spec := "journalFull", unfollowed := true, recurses := true, apart := false, narrowed := true }
def JournalFullUptoSaid : Prop := journalFullUptoRow.holds Try.pinned (OpenSpec.upto journalFullSpec)

/-- 'bulletinlaw24.JournalNeed', WHERE WHAT IT READS IS OF BULK AT MOST 1048576: true; the input reads as it did. -/
def journalNeedUptoRow : OpenClaim := { program := "ytkjlbedebmffgaa", sum := "55f8fd65c5ee5869a148f23fb82ea53d05420919ed6722cc34dddb66a76243c1", func := "bulletin/bulletinlaw24.JournalNeed", spec := "journalNeed", unfollowed := true, recurses := true, apart := false, narrowed := true }
def JournalNeedUptoSaid : Prop := journalNeedUptoRow.holds Try.pinned (OpenSpec.upto journalNeedSpec)

/-- 'bulletinlaw24.JournalEntries', WHERE WHAT IT READS IS OF BULK AT MOST 1048576: true; the input reads as it did. -/
def journalEntriesUptoRow : OpenClaim := { program := "ytkjlbedebmffgaa", sum := "55f8fd65c5ee5869a148f23fb82ea53d05420919ed6722cc34dddb66a76243c1", func := "bulletin/bulletinlaw24.JournalEntries", spec := "journalEntries", unfollowed := true, recurses := true, apart := false, narrowed := true }
def JournalEntriesUptoSaid : Prop := journalEntriesUptoRow.holds Try.pinned (OpenSpec.upto journalEntriesSpec)

/-- 'bulletinlaw24.JournalOthers', WHERE WHAT IT READS IS OF BULK AT MOST 1048576: true; the input reads as it did. -/
def journalOthersUptoRow : OpenClaim := { program := "ytkjlbedebmffgaa", sum := "55f8fd65c5ee5869a148f23fb82ea53d05420919ed6722cc34dddb66a76243c1", func := "bulletin/bulletinlaw24.JournalOthers", spec := "journalOthers", unfollowed := true, recurses := true, apart := false, narrowed := true }
def JournalOthersUptoSaid : Prop := journalOthersUptoRow.holds Try.pinned (OpenSpec.upto journalOthersSpec)

/-- 'bulletinlaw24.JournalLost', WHERE WHAT IT READS IS OF BULK AT MOST 1048576: true; the input reads as it did. -/
def journalLostUptoRow : OpenClaim := { program := "ytkjlbedebmffgaa", sum := "55f8fd65c5ee5869a148f23fb82ea53d05420919ed6722cc34dddb66a76243c1", func := "bulletin/bulletinlaw24.JournalLost", spec := "journalLost", unfollowed := true, recurses := true, apart := false, narrowed := true }
def JournalLostUptoSaid : Prop := journalLostUptoRow.holds Try.pinned (OpenSpec.upto journalLostSpec)

end Rows
end Go.Proofs.Ytkjlbedebmffgaa
