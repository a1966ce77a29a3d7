/-
  No cell of these rows narrows 'for every input' (looked for: loops, veiled, ifaces, maps, wideKeys, modest, calm, conditions, laid).
  DERIVED. THE GIVEN ROWS OF THIS SEAT. 11 by the template 'for every input the law returns true; each argument reads behind the call as it read before'; 0 by the template 'total and deterministic' (their statements: YtbbokpkpdnppjaaTotals.lean).
  GIVEN WITH THE SEED: the statements are not yours to turn. If you find one false, say at which input.
  Laid BY PROGRAM, IN A SANDBOX (cutbox-rows.mjs): the forced cells as the released guide's own fill.sh prints them over the translation ecd6de8eb7a47b0e… (all of the seat's roots in one cut). By AI agents, Wed Nov 11 2026. No macro, syntax, notation, axiom, sorry.
-/
import Derived.Test.YtbbokpkpdnppjaaChecked
import GoSem.Claim
import GoSem.ClaimJoined
import GoSem.ClaimMapViews
import Derived.JoinedTies
import Derived.KernelRfl
namespace Go.Proofs.Ytbbokpkpdnppjaa
/- THE CELL 'sum', in the pinned program and in every row, IS THE sha256 OF THE DUMP (.gsa) THAT YtbbokpkpdnppjaaProg.lean LOADS. Nothing in Lean hashes anything: it is a label: what it is worth is what the hold of that sum in a sandbox is worth. -/
noncomputable def Try.pinned : Pinned := { name := "ytbbokpkpdnppjaa", sum := "ecd6de8eb7a47b0ee683e5385eb8a740c67c25631c5caa0a27bb45292bc528d8", checked := Try.checked }
namespace Rows
def none {H : Type} : Left H := { results := [], args := [] }

/-- 'lineagelaw13.DiskSizes': WHATEVER THE INPUT: true; the input reads as it did. -/
def diskSizesSpec : ChangeSpec := { name := "diskSizes", fn := fun _ => fun
  | [d] => { results := [.lit (.bool true)], args := [d] }
  | _ => none }
def diskSizesRow : OpenClaim := { program := "ytbbokpkpdnppjaa", sum := "ecd6de8eb7a47b0ee683e5385eb8a740c67c25631c5caa0a27bb45292bc528d8", func := "lineage/lineagelaw13.DiskSizes", spec := "diskSizes", unfollowed := true, recurses := true, apart := false }
def DiskSizesSaid : Prop := diskSizesRow.holds Try.pinned (OpenSpec.ofChange diskSizesSpec)

/-- ITS FALSE NEIGHBOUR: 'it returns false'. Refute it at one input. -/
def diskSizesWrong : ChangeSpec := { name := "diskSizes", fn := fun _ => fun
  | [d] => { results := [.lit (.bool false)], args := [d] }
  | _ => none }
def DiskSizesWrongFalsely : Prop := diskSizesRow.holds Try.pinned (OpenSpec.ofChange diskSizesWrong)

/-- 'lineagelaw13.DiskTorn': WHATEVER THE INPUT: true; the input reads as it did. -/
def diskTornSpec : ChangeSpec := { name := "diskTorn", fn := fun _ => fun
  | [d1, d2, d3, d4] => { results := [.lit (.bool true)], args := [d1, d2, d3, d4] }
  | _ => none }
def diskTornRow : OpenClaim := { program := "ytbbokpkpdnppjaa", sum := "ecd6de8eb7a47b0ee683e5385eb8a740c67c25631c5caa0a27bb45292bc528d8", func := "lineage/lineagelaw13.DiskTorn", spec := "diskTorn", unfollowed := true, recurses := true, apart := false }
def DiskTornSaid : Prop := diskTornRow.holds Try.pinned (OpenSpec.ofChange diskTornSpec)

/-- ITS FALSE NEIGHBOUR: 'it returns false'. Refute it at one input. -/
def diskTornWrong : ChangeSpec := { name := "diskTorn", fn := fun _ => fun
  | [d1, d2, d3, d4] => { results := [.lit (.bool false)], args := [d1, d2, d3, d4] }
  | _ => none }
def DiskTornWrongFalsely : Prop := diskTornRow.holds Try.pinned (OpenSpec.ofChange diskTornWrong)

/-- 'lineagelaw13.DiskDurable': WHATEVER THE INPUT: true; the input reads as it did. -/
def diskDurableSpec : ChangeSpec := { name := "diskDurable", fn := fun _ => fun
  | [d1, d2, d3] => { results := [.lit (.bool true)], args := [d1, d2, d3] }
  | _ => none }
def diskDurableRow : OpenClaim := { program := "ytbbokpkpdnppjaa", sum := "ecd6de8eb7a47b0ee683e5385eb8a740c67c25631c5caa0a27bb45292bc528d8", func := "lineage/lineagelaw13.DiskDurable", spec := "diskDurable", unfollowed := true, recurses := true, apart := false }
def DiskDurableSaid : Prop := diskDurableRow.holds Try.pinned (OpenSpec.ofChange diskDurableSpec)

/-- ITS FALSE NEIGHBOUR: 'it returns false'. Refute it at one input. -/
def diskDurableWrong : ChangeSpec := { name := "diskDurable", fn := fun _ => fun
  | [d1, d2, d3] => { results := [.lit (.bool false)], args := [d1, d2, d3] }
  | _ => none }
def DiskDurableWrongFalsely : Prop := diskDurableRow.holds Try.pinned (OpenSpec.ofChange diskDurableWrong)

/-- 'lineagelaw13.DiskReads': WHATEVER THE INPUT: true; the input reads as it did. -/
def diskReadsSpec : ChangeSpec := { name := "diskReads", fn := fun _ => fun
  | [d1, d2, d3, d4] => { results := [.lit (.bool true)], args := [d1, d2, d3, d4] }
  | _ => none }
def diskReadsRow : OpenClaim := { program := "ytbbokpkpdnppjaa", sum := "ecd6de8eb7a47b0ee683e5385eb8a740c67c25631c5caa0a27bb45292bc528d8", func := "lineage/lineagelaw13.DiskReads", spec := "diskReads", unfollowed := true, recurses := true, apart := false }
def DiskReadsSaid : Prop := diskReadsRow.holds Try.pinned (OpenSpec.ofChange diskReadsSpec)

/-- ITS FALSE NEIGHBOUR: 'it returns false'. Refute it at one input. -/
def diskReadsWrong : ChangeSpec := { name := "diskReads", fn := fun _ => fun
  | [d1, d2, d3, d4] => { results := [.lit (.bool false)], args := [d1, d2, d3, d4] }
  | _ => none }
def DiskReadsWrongFalsely : Prop := diskReadsRow.holds Try.pinned (OpenSpec.ofChange diskReadsWrong)

/-- 'lineagelaw13.DiskFailures': WHATEVER THE INPUT: true; the input reads as it did. -/
def diskFailuresSpec : ChangeSpec := { name := "diskFailures", fn := fun _ => fun
  | [d1, d2] => { results := [.lit (.bool true)], args := [d1, d2] }
  | _ => none }
def diskFailuresRow : OpenClaim := { program := "ytbbokpkpdnppjaa", sum := "ecd6de8eb7a47b0ee683e5385eb8a740c67c25631c5caa0a27bb45292bc528d8", func := "lineage/lineagelaw13.DiskFailures", spec := "diskFailures", unfollowed := true, recurses := true, apart := false }
def DiskFailuresSaid : Prop := diskFailuresRow.holds Try.pinned (OpenSpec.ofChange diskFailuresSpec)

/-- ITS FALSE NEIGHBOUR: 'it returns false'. Refute it at one input. -/
def diskFailuresWrong : ChangeSpec := { name := "diskFailures", fn := fun _ => fun
  | [d1, d2] => { results := [.lit (.bool false)], args := [d1, d2] }
  | _ => none }
def DiskFailuresWrongFalsely : Prop := diskFailuresRow.holds Try.pinned (OpenSpec.ofChange diskFailuresWrong)

/-- 'lineagelaw13.DiskOperations': WHATEVER THE INPUT: true; the input reads as it did. -/
def diskOperationsSpec : ChangeSpec := { name := "diskOperations", fn := fun _ => fun
  | [d1, d2] => { results := [.lit (.bool true)], args := [d1, d2] }
  | _ => none }
def diskOperationsRow : OpenClaim := { program := "ytbbokpkpdnppjaa", sum := "ecd6de8eb7a47b0ee683e5385eb8a740c67c25631c5caa0a27bb45292bc528d8", func := "lineage/lineagelaw13.DiskOperations", spec := "diskOperations", unfollowed := true, recurses := true, apart := false }
def DiskOperationsSaid : Prop := diskOperationsRow.holds Try.pinned (OpenSpec.ofChange diskOperationsSpec)

/-- ITS FALSE NEIGHBOUR: 'it returns false'. Refute it at one input. -/
def diskOperationsWrong : ChangeSpec := { name := "diskOperations", fn := fun _ => fun
  | [d1, d2] => { results := [.lit (.bool false)], args := [d1, d2] }
  | _ => none }
def DiskOperationsWrongFalsely : Prop := diskOperationsRow.holds Try.pinned (OpenSpec.ofChange diskOperationsWrong)

/-- 'lineagelaw13.DiskClones': WHATEVER THE INPUT: true; the input reads as it did. -/
def diskClonesSpec : ChangeSpec := { name := "diskClones", fn := fun _ => fun
  | [d1, d2, d3] => { results := [.lit (.bool true)], args := [d1, d2, d3] }
  | _ => none }
def diskClonesRow : OpenClaim := { program := "ytbbokpkpdnppjaa", sum := "ecd6de8eb7a47b0ee683e5385eb8a740c67c25631c5caa0a27bb45292bc528d8", func := "lineage/lineagelaw13.DiskClones", spec := "diskClones", unfollowed := true, recurses := true, apart := false }
def DiskClonesSaid : Prop := diskClonesRow.holds Try.pinned (OpenSpec.ofChange diskClonesSpec)

/-- ITS FALSE NEIGHBOUR: 'it returns false'. Refute it at one input. -/
def diskClonesWrong : ChangeSpec := { name := "diskClones", fn := fun _ => fun
  | [d1, d2, d3] => { results := [.lit (.bool false)], args := [d1, d2, d3] }
  | _ => none }
def DiskClonesWrongFalsely : Prop := diskClonesRow.holds Try.pinned (OpenSpec.ofChange diskClonesWrong)

/-- 'lineagelaw15.WalFrame': WHATEVER THE INPUT: true; the input reads as it did. -/
def walFrameSpec : ChangeSpec := { name := "walFrame", fn := fun _ => fun
  | [d1, d2] => { results := [.lit (.bool true)], args := [d1, d2] }
  | _ => none }
def walFrameRow : OpenClaim := { program := "ytbbokpkpdnppjaa", sum := "ecd6de8eb7a47b0ee683e5385eb8a740c67c25631c5caa0a27bb45292bc528d8", func := "lineage/lineagelaw15.WalFrame", spec := "walFrame", unfollowed := true, recurses := true, apart := false }
def WalFrameSaid : Prop := walFrameRow.holds Try.pinned (OpenSpec.ofChange walFrameSpec)

/-- ITS FALSE NEIGHBOUR: 'it returns false'. Refute it at one input. -/
def walFrameWrong : ChangeSpec := { name := "walFrame", fn := fun _ => fun
  | [d1, d2] => { results := [.lit (.bool false)], args := [d1, d2] }
  | _ => none }
def WalFrameWrongFalsely : Prop := walFrameRow.holds Try.pinned (OpenSpec.ofChange walFrameWrong)

/-- 'lineagelaw15.WalOpen': WHATEVER THE INPUT: true; the input reads as it did. -/
def walOpenSpec : ChangeSpec := { name := "walOpen", fn := fun _ => fun
  | [d] => { results := [.lit (.bool true)], args := [d] }
  | _ => none }
def walOpenRow : OpenClaim := { program := "ytbbokpkpdnppjaa", sum := "ecd6de8eb7a47b0ee683e5385eb8a740c67c25631c5caa0a27bb45292bc528d8", func := "lineage/lineagelaw15.WalOpen", spec := "walOpen", unfollowed := true, recurses := true, apart := false }
def WalOpenSaid : Prop := walOpenRow.holds Try.pinned (OpenSpec.ofChange walOpenSpec)

/-- ITS FALSE NEIGHBOUR: 'it returns false'. Refute it at one input. -/
def walOpenWrong : ChangeSpec := { name := "walOpen", fn := fun _ => fun
  | [d] => { results := [.lit (.bool false)], args := [d] }
  | _ => none }
def WalOpenWrongFalsely : Prop := walOpenRow.holds Try.pinned (OpenSpec.ofChange walOpenWrong)

/-- 'lineagelaw15.WalMemory': WHATEVER THE INPUT: true; the input reads as it did. -/
def walMemorySpec : ChangeSpec := { name := "walMemory", fn := fun _ => fun
  | [d] => { results := [.lit (.bool true)], args := [d] }
  | _ => none }
def walMemoryRow : OpenClaim := { program := "ytbbokpkpdnppjaa", sum := "ecd6de8eb7a47b0ee683e5385eb8a740c67c25631c5caa0a27bb45292bc528d8", func := "lineage/lineagelaw15.WalMemory", spec := "walMemory", unfollowed := true, recurses := true, apart := false }
def WalMemorySaid : Prop := walMemoryRow.holds Try.pinned (OpenSpec.ofChange walMemorySpec)

/-- ITS FALSE NEIGHBOUR: 'it returns false'. Refute it at one input. -/
def walMemoryWrong : ChangeSpec := { name := "walMemory", fn := fun _ => fun
  | [d] => { results := [.lit (.bool false)], args := [d] }
  | _ => none }
def WalMemoryWrongFalsely : Prop := walMemoryRow.holds Try.pinned (OpenSpec.ofChange walMemoryWrong)

/-- 'lineagelaw15.WalOperations': WHATEVER THE INPUT: true; the input reads as it did. -/
def walOperationsSpec : ChangeSpec := { name := "walOperations", fn := fun _ => fun
  | [d1, d2] => { results := [.lit (.bool true)], args := [d1, d2] }
  | _ => none }
def walOperationsRow : OpenClaim := { program := "ytbbokpkpdnppjaa", sum := "ecd6de8eb7a47b0ee683e5385eb8a740c67c25631c5caa0a27bb45292bc528d8", func := "lineage/lineagelaw15.WalOperations", spec := "walOperations", unfollowed := true, recurses := true, apart := false }
def WalOperationsSaid : Prop := walOperationsRow.holds Try.pinned (OpenSpec.ofChange walOperationsSpec)

/-- ITS FALSE NEIGHBOUR: 'it returns false'. Refute it at one input. -/
def walOperationsWrong : ChangeSpec := { name := "walOperations", fn := fun _ => fun
  | [d1, d2] => { results := [.lit (.bool false)], args := [d1, d2] }
  | _ => none }
def WalOperationsWrongFalsely : Prop := walOperationsRow.holds Try.pinned (OpenSpec.ofChange walOperationsWrong)

/- THE SECOND FORM. 'bulk': how many values and letters a reading holds, each counted each time it is reached (what is shared counts as often as it is met; a slice's spare places count too). A statement '..UptoSaid' is the law's where the arguments, and the package variables that the reading takes, are together of bulk at most 1048576: NARROWER than '..Said'. Prove '..Said' where nothing that the law and all that it calls make is longer than what came in: it says more and counts as full. Else prove '..UptoSaid'. A law counts once. -/
mutual
def uptoBulk {H : Type} : DataW H → Nat
  | .lit (.string bytes) => bytes.length + 1
  | .lit _ => 1
  | .nil => 1
  | .ptr d => uptoBulk d + 1
  | .slice elems spare => uptoBulkAll elems + uptoBulkAll spare + 1
  | .agg parts => uptoBulkAll parts + 1
  | .iface _ d => uptoBulk d + 1
  | .map entries => uptoBulkEntries entries + 1
  | .held _ => 1
def uptoBulkAll {H : Type} : List (DataW H) → Nat
  | [] => 0
  | d :: r => uptoBulk d + uptoBulkAll r
def uptoBulkEntries {H : Type} : List (Lit × DataW H) → Nat
  | [] => 0
  | x :: r => uptoBulkEntry x + uptoBulkEntries r
def uptoBulkEntry {H : Type} : Lit × DataW H → Nat
  | (.string bytes, d) => bytes.length + uptoBulk d + 1
  | (_, d) => uptoBulk d + 1
 end
def uptoSmall : (H : Type) → List (DataW H) → Bool := fun _ ds => decide (uptoBulkAll ds ≤ 1048576)
def OpenSpec.upto (s : _root_.Go.ChangeSpec) : _root_.Go.OpenSpec := { _root_.Go.OpenSpec.ofChange s with cond := some uptoSmall }

/-- 'lineagelaw13.DiskSizes', WHERE WHAT IT READS IS OF BULK AT MOST 1048576: true; the input reads as it did. -/
def diskSizesUptoRow : OpenClaim := { program := "ytbbokpkpdnppjaa", sum := "ecd6de8eb7a47b0ee683e5385eb8a740c67c25631c5caa0a27bb45292bc528d8", func := "lineage/lineagelaw13.DiskSizes", spec := "diskSizes", unfollowed := true, recurses := true, apart := false, narrowed := true }
def DiskSizesUptoSaid : Prop := diskSizesUptoRow.holds Try.pinned (OpenSpec.upto diskSizesSpec)

/-- 'lineagelaw13.DiskTorn', WHERE WHAT IT READS IS OF BULK AT MOST 1048576: true; the input reads as it did. -/
def diskTornUptoRow : OpenClaim := { program := "ytbbokpkpdnppjaa", sum := "ecd6de8eb7a47b0ee683e5385eb8a740c67c25631c5caa0a27bb45292bc528d8", func := "lineage/lineagelaw13.DiskTorn", spec := "diskTorn", unfollowed := true, recurses := true, apart := false, narrowed := true }
def DiskTornUptoSaid : Prop := diskTornUptoRow.holds Try.pinned (OpenSpec.upto diskTornSpec)

/-- 'lineagelaw13.DiskDurable', WHERE WHAT IT READS IS OF BULK AT MOST 1048576: true; the input reads as it did. -/
def diskDurableUptoRow : OpenClaim := { program := "ytbbokpkpdnppjaa", sum := "ecd6de8eb7a47b0ee683e5385eb8a740c67c25631c5caa0a27bb45292bc528d8", func := "lineage/lineagelaw13.DiskDurable", spec := "diskDurable", unfollowed := true, recurses := true, apart := false, narrowed := true }
def DiskDurableUptoSaid : Prop := diskDurableUptoRow.holds Try.pinned (OpenSpec.upto diskDurableSpec)

/-- 'lineagelaw13.DiskReads', WHERE WHAT IT READS IS OF BULK AT MOST 1048576: true; the input reads as it did. -/
def diskReadsUptoRow : OpenClaim := { program := "ytbbokpkpdnppjaa", sum := "ecd6de8eb7a47b0ee683e5385eb8a740c67c25631c5caa0a27bb45292bc528d8", func := "lineage/lineagelaw13.DiskReads", spec := "diskReads", unfollowed := true, recurses := true, apart := false, narrowed := true }
def DiskReadsUptoSaid : Prop := diskReadsUptoRow.holds Try.pinned (OpenSpec.upto diskReadsSpec)

/-- 'lineagelaw13.DiskFailures', WHERE WHAT IT READS IS OF BULK AT MOST 1048576: true; the input reads as it did. -/
def diskFailuresUptoRow : OpenClaim := { program := "ytbbokpkpdnppjaa", sum := "ecd6de8eb7a47b0ee683e5385eb8a740c67c25631c5caa0a27bb45292bc528d8", func := "lineage/lineagelaw13.DiskFailures", spec := "diskFailures", unfollowed := true, recurses := true, apart := false, narrowed := true }
def DiskFailuresUptoSaid : Prop := diskFailuresUptoRow.holds Try.pinned (OpenSpec.upto diskFailuresSpec)

/-- 'lineagelaw13.DiskOperations', WHERE WHAT IT READS IS OF BULK AT MOST 1048576: true; the input reads as it did. -/
def diskOperationsUptoRow : OpenClaim := { program := "ytbbokpkpdnppjaa", sum := "ecd6de8eb7a47b0ee683e5385eb8a740c67c25631c5caa0a27bb45292bc528d8", func := "lineage/lineagelaw13.DiskOperations", spec := "diskOperations", unfollowed := true, recurses := true, apart := false, narrowed := true }
def DiskOperationsUptoSaid : Prop := diskOperationsUptoRow.holds Try.pinned (OpenSpec.upto diskOperationsSpec)

/-- 'lineagelaw13.DiskClones', WHERE WHAT IT READS IS OF BULK AT MOST 1048576: true; the input reads as it did. -/
def diskClonesUptoRow : OpenClaim := { program := "ytbbokpkpdnppjaa", sum := "ecd6de8eb7a47b0ee683e5385eb8a740c67c25631c5caa0a27bb45292bc528d8", func := "lineage/lineagelaw13.DiskClones", spec := "diskClones", unfollowed := true, recurses := true, apart := false, narrowed := true }
def DiskClonesUptoSaid : Prop := diskClonesUptoRow.holds Try.pinned (OpenSpec.upto diskClonesSpec)

/-- 'lineagelaw15.WalFrame', WHERE WHAT IT READS IS OF BULK AT MOST 1048576: true; the input reads as it did. -/
def walFrameUptoRow : OpenClaim := { program := "ytbbokpkpdnppjaa", sum := "ecd6de8eb7a47b0ee683e5385eb8a740c67c25631c5caa0a27bb45292bc528d8", func := "lineage/lineagelaw15.WalFrame", spec := "walFrame", unfollowed := true, recurses := true, apart := false, narrowed := true }
def WalFrameUptoSaid : Prop := walFrameUptoRow.holds Try.pinned (OpenSpec.upto walFrameSpec)

/-- 'lineagelaw15.WalOpen', WHERE WHAT IT READS IS OF BULK AT MOST 1048576: true; the input reads as it did. -/
def walOpenUptoRow : OpenClaim := { program := "ytbbokpkpdnppjaa", sum := "ecd6de8eb7a47b0ee683e5385eb8a740c67c25631c5caa0a27bb45292bc528d8", func := "lineage/lineagelaw15.WalOpen", spec := "walOpen", unfollowed := true, recurses := true, apart := false, narrowed := true }
def WalOpenUptoSaid : Prop := walOpenUptoRow.holds Try.pinned (OpenSpec.upto walOpenSpec)

/-- 'lineagelaw15.WalMemory', WHERE WHAT IT READS IS OF BULK AT MOST 1048576: true; the input reads as it did. -/
def walMemoryUptoRow : OpenClaim := { program := "ytbbokpkpdnppjaa", sum := "ecd6de8eb7a47b0ee683e5385eb8a740c67c25631c5caa0a27bb45292bc528d8", func := "lineage/lineagelaw15.WalMemory", spec := "walMemory", unfollowed := true, recurses := true, apart := false, narrowed := true }
def WalMemoryUptoSaid : Prop := walMemoryUptoRow.holds Try.pinned (OpenSpec.upto walMemorySpec)

/-- 'lineagelaw15.WalOperations', WHERE WHAT IT READS IS OF BULK AT MOST 1048576: true; the input reads as it did. -/
def walOperationsUptoRow : OpenClaim := { program := "ytbbokpkpdnppjaa", sum := "ecd6de8eb7a47b0ee683e5385eb8a740c67c25631c5caa0a27bb45292bc528d8", func := "lineage/lineagelaw15.WalOperations", spec := "walOperations", unfollowed := true, recurses := true, apart := false, narrowed := true }
def WalOperationsUptoSaid : Prop := walOperationsUptoRow.holds Try.pinned (OpenSpec.upto walOperationsSpec)

end Rows
end Go.Proofs.Ytbbokpkpdnppjaa
