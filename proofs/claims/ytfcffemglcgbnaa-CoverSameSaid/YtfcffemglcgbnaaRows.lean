/-
  No cell of these rows narrows 'for every input' (looked for: loops, veiled, ifaces, maps, wideKeys, modest, calm, conditions, laid).
  DERIVED. THE GIVEN ROWS OF THIS SEAT. 11 by the template 'for every input the law returns true; each argument reads behind the call as it read before'; 0 by the template 'total and deterministic' (their statements: YtfcffemglcgbnaaTotals.lean).
  GIVEN WITH THE SEED: the statements are not yours to turn. If you find one false, say at which input.
  Laid BY PROGRAM, IN A SANDBOX (cutbox-rows.mjs): the forced cells as the released guide's own fill.sh prints them over the translation b6471ad49134ab06… (all of the seat's roots in one cut). By AI agents, Wed Nov 11 2026. No macro, syntax, notation, axiom, sorry.
-/
import Derived.Test.YtfcffemglcgbnaaChecked
import GoSem.Claim
import GoSem.ClaimJoined
import GoSem.ClaimMapViews
import Derived.JoinedTies
import Derived.KernelRfl
namespace Go.Proofs.Ytfcffemglcgbnaa
/- THE CELL 'sum', in the pinned program and in every row, IS THE sha256 OF THE DUMP (.gsa) THAT YtfcffemglcgbnaaProg.lean LOADS. Nothing in Lean hashes anything: it is a label: what it is worth is what the hold of that sum in a sandbox is worth. -/
noncomputable def Try.pinned : Pinned := { name := "ytfcffemglcgbnaa", sum := "b6471ad49134ab0642a00ebbe1558d081f42855fb5533c4cf2e147f6446c68fb", checked := Try.checked }
namespace Rows
def none {H : Type} : Left H := { results := [], args := [] }

/-- 'kedgelaw07.LeafgenWidest': WHATEVER THE INPUT: true; the input reads as it did. -/
def leafgenWidestSpec : ChangeSpec := { name := "leafgenWidest", fn := fun _ => fun
  | [d1, d2, d3, d4] => { results := [.lit (.bool true)], args := [d1, d2, d3, d4] }
  | _ => none }
def leafgenWidestRow : OpenClaim := { program := "ytfcffemglcgbnaa", sum := "b6471ad49134ab0642a00ebbe1558d081f42855fb5533c4cf2e147f6446c68fb", func := "kedge/kedgelaw07.LeafgenWidest", spec := "leafgenWidest", unfollowed := true, recurses := true, apart := false }
def LeafgenWidestSaid : Prop := leafgenWidestRow.holds Try.pinned (OpenSpec.ofChange leafgenWidestSpec)

/-- ITS FALSE NEIGHBOUR: 'it returns false'. Refute it at one input. -/
def leafgenWidestWrong : ChangeSpec := { name := "leafgenWidest", fn := fun _ => fun
  | [d1, d2, d3, d4] => { results := [.lit (.bool false)], args := [d1, d2, d3, d4] }
  | _ => none }
def LeafgenWidestWrongFalsely : Prop := leafgenWidestRow.holds Try.pinned (OpenSpec.ofChange leafgenWidestWrong)

/-- 'kedgelaw08.CoverIs': WHATEVER THE INPUT: true; the input reads as it did. -/
def coverIsSpec : ChangeSpec := { name := "coverIs", fn := fun _ => fun
  | [d1, d2, d3] => { results := [.lit (.bool true)], args := [d1, d2, d3] }
  | _ => none }
def coverIsRow : OpenClaim := { program := "ytfcffemglcgbnaa", sum := "b6471ad49134ab0642a00ebbe1558d081f42855fb5533c4cf2e147f6446c68fb", func := "kedge/kedgelaw08.CoverIs", spec := "coverIs", unfollowed := true, recurses := true, apart := false }
def CoverIsSaid : Prop := coverIsRow.holds Try.pinned (OpenSpec.ofChange coverIsSpec)

/-- ITS FALSE NEIGHBOUR: 'it returns false'. Refute it at one input. -/
def coverIsWrong : ChangeSpec := { name := "coverIs", fn := fun _ => fun
  | [d1, d2, d3] => { results := [.lit (.bool false)], args := [d1, d2, d3] }
  | _ => none }
def CoverIsWrongFalsely : Prop := coverIsRow.holds Try.pinned (OpenSpec.ofChange coverIsWrong)

/-- 'kedgelaw08.CoverMost': WHATEVER THE INPUT: true; the input reads as it did. -/
def coverMostSpec : ChangeSpec := { name := "coverMost", fn := fun _ => fun
  | [d1, d2, d3] => { results := [.lit (.bool true)], args := [d1, d2, d3] }
  | _ => none }
def coverMostRow : OpenClaim := { program := "ytfcffemglcgbnaa", sum := "b6471ad49134ab0642a00ebbe1558d081f42855fb5533c4cf2e147f6446c68fb", func := "kedge/kedgelaw08.CoverMost", spec := "coverMost", unfollowed := true, recurses := true, apart := false }
def CoverMostSaid : Prop := coverMostRow.holds Try.pinned (OpenSpec.ofChange coverMostSpec)

/-- ITS FALSE NEIGHBOUR: 'it returns false'. Refute it at one input. -/
def coverMostWrong : ChangeSpec := { name := "coverMost", fn := fun _ => fun
  | [d1, d2, d3] => { results := [.lit (.bool false)], args := [d1, d2, d3] }
  | _ => none }
def CoverMostWrongFalsely : Prop := coverMostRow.holds Try.pinned (OpenSpec.ofChange coverMostWrong)

/-- 'kedgelaw08.CoverLeaves': WHATEVER THE INPUT: true; the input reads as it did. -/
def coverLeavesSpec : ChangeSpec := { name := "coverLeaves", fn := fun _ => fun
  | [d1, d2] => { results := [.lit (.bool true)], args := [d1, d2] }
  | _ => none }
def coverLeavesRow : OpenClaim := { program := "ytfcffemglcgbnaa", sum := "b6471ad49134ab0642a00ebbe1558d081f42855fb5533c4cf2e147f6446c68fb", func := "kedge/kedgelaw08.CoverLeaves", spec := "coverLeaves", unfollowed := true, recurses := true, apart := false }
def CoverLeavesSaid : Prop := coverLeavesRow.holds Try.pinned (OpenSpec.ofChange coverLeavesSpec)

/-- ITS FALSE NEIGHBOUR: 'it returns false'. Refute it at one input. -/
def coverLeavesWrong : ChangeSpec := { name := "coverLeaves", fn := fun _ => fun
  | [d1, d2] => { results := [.lit (.bool false)], args := [d1, d2] }
  | _ => none }
def CoverLeavesWrongFalsely : Prop := coverLeavesRow.holds Try.pinned (OpenSpec.ofChange coverLeavesWrong)

/-- 'kedgelaw08.CoverWhole': WHATEVER THE INPUT: true; the input reads as it did. -/
def coverWholeSpec : ChangeSpec := { name := "coverWhole", fn := fun _ => fun
  | [d1, d2] => { results := [.lit (.bool true)], args := [d1, d2] }
  | _ => none }
def coverWholeRow : OpenClaim := { program := "ytfcffemglcgbnaa", sum := "b6471ad49134ab0642a00ebbe1558d081f42855fb5533c4cf2e147f6446c68fb", func := "kedge/kedgelaw08.CoverWhole", spec := "coverWhole", inPlace := ["math/bits.Add64"], unfollowed := true, recurses := true, apart := false }
def CoverWholeSaid : Prop := coverWholeRow.holds Try.pinned (OpenSpec.ofChange coverWholeSpec)

/-- ITS FALSE NEIGHBOUR: 'it returns false'. Refute it at one input. -/
def coverWholeWrong : ChangeSpec := { name := "coverWhole", fn := fun _ => fun
  | [d1, d2] => { results := [.lit (.bool false)], args := [d1, d2] }
  | _ => none }
def CoverWholeWrongFalsely : Prop := coverWholeRow.holds Try.pinned (OpenSpec.ofChange coverWholeWrong)

/-- 'kedgelaw16.FillsAsked': WHATEVER THE INPUT: true; the input reads as it did. -/
def fillsAskedSpec : ChangeSpec := { name := "fillsAsked", fn := fun _ => fun
  | [d1, d2, d3] => { results := [.lit (.bool true)], args := [d1, d2, d3] }
  | _ => none }
def fillsAskedRow : OpenClaim := { program := "ytfcffemglcgbnaa", sum := "b6471ad49134ab0642a00ebbe1558d081f42855fb5533c4cf2e147f6446c68fb", func := "kedge/kedgelaw16.FillsAsked", spec := "fillsAsked", unfollowed := true, recurses := true, apart := false }
def FillsAskedSaid : Prop := fillsAskedRow.holds Try.pinned (OpenSpec.ofChange fillsAskedSpec)

/-- ITS FALSE NEIGHBOUR: 'it returns false'. Refute it at one input. -/
def fillsAskedWrong : ChangeSpec := { name := "fillsAsked", fn := fun _ => fun
  | [d1, d2, d3] => { results := [.lit (.bool false)], args := [d1, d2, d3] }
  | _ => none }
def FillsAskedWrongFalsely : Prop := fillsAskedRow.holds Try.pinned (OpenSpec.ofChange fillsAskedWrong)

/-- 'kedgelaw08.CoverSqueezes': WHATEVER THE INPUT: true; the input reads as it did. -/
def coverSqueezesSpec : ChangeSpec := { name := "coverSqueezes", fn := fun _ => fun
  | [d1, d2] => { results := [.lit (.bool true)], args := [d1, d2] }
  | _ => none }
def coverSqueezesRow : OpenClaim := { program := "ytfcffemglcgbnaa", sum := "b6471ad49134ab0642a00ebbe1558d081f42855fb5533c4cf2e147f6446c68fb", func := "kedge/kedgelaw08.CoverSqueezes", spec := "coverSqueezes", unfollowed := true, recurses := true, apart := false }
def CoverSqueezesSaid : Prop := coverSqueezesRow.holds Try.pinned (OpenSpec.ofChange coverSqueezesSpec)

/-- ITS FALSE NEIGHBOUR: 'it returns false'. Refute it at one input. -/
def coverSqueezesWrong : ChangeSpec := { name := "coverSqueezes", fn := fun _ => fun
  | [d1, d2] => { results := [.lit (.bool false)], args := [d1, d2] }
  | _ => none }
def CoverSqueezesWrongFalsely : Prop := coverSqueezesRow.holds Try.pinned (OpenSpec.ofChange coverSqueezesWrong)

/-- 'kedgelaw08.CoverSame': WHATEVER THE INPUT: true; the input reads as it did. -/
def coverSameSpec : ChangeSpec := { name := "coverSame", fn := fun _ => fun
  | [d1, d2, d3] => { results := [.lit (.bool true)], args := [d1, d2, d3] }
  | _ => none }
def coverSameRow : OpenClaim := { program := "ytfcffemglcgbnaa", sum := "b6471ad49134ab0642a00ebbe1558d081f42855fb5533c4cf2e147f6446c68fb", func := "kedge/kedgelaw08.CoverSame", spec := "coverSame", unfollowed := true, recurses := true, apart := false }
def CoverSameSaid : Prop := coverSameRow.holds Try.pinned (OpenSpec.ofChange coverSameSpec)

/-- ITS FALSE NEIGHBOUR: 'it returns false'. Refute it at one input. -/
def coverSameWrong : ChangeSpec := { name := "coverSame", fn := fun _ => fun
  | [d1, d2, d3] => { results := [.lit (.bool false)], args := [d1, d2, d3] }
  | _ => none }
def CoverSameWrongFalsely : Prop := coverSameRow.holds Try.pinned (OpenSpec.ofChange coverSameWrong)

/-- 'kedgelaw16.FillsRenew': WHATEVER THE INPUT: true; the input reads as it did. -/
def fillsRenewSpec : ChangeSpec := { name := "fillsRenew", fn := fun _ => fun
  | [d1, d2] => { results := [.lit (.bool true)], args := [d1, d2] }
  | _ => none }
def fillsRenewRow : OpenClaim := { program := "ytfcffemglcgbnaa", sum := "b6471ad49134ab0642a00ebbe1558d081f42855fb5533c4cf2e147f6446c68fb", func := "kedge/kedgelaw16.FillsRenew", spec := "fillsRenew", unfollowed := true, recurses := true, apart := false }
def FillsRenewSaid : Prop := fillsRenewRow.holds Try.pinned (OpenSpec.ofChange fillsRenewSpec)

/-- ITS FALSE NEIGHBOUR: 'it returns false'. Refute it at one input. -/
def fillsRenewWrong : ChangeSpec := { name := "fillsRenew", fn := fun _ => fun
  | [d1, d2] => { results := [.lit (.bool false)], args := [d1, d2] }
  | _ => none }
def FillsRenewWrongFalsely : Prop := fillsRenewRow.holds Try.pinned (OpenSpec.ofChange fillsRenewWrong)

/-- 'kedgelaw16.FillsDelay': WHATEVER THE INPUT: true; the input reads as it did. -/
def fillsDelaySpec : ChangeSpec := { name := "fillsDelay", fn := fun _ => fun
  | [d1, d2, d3, d4] => { results := [.lit (.bool true)], args := [d1, d2, d3, d4] }
  | _ => none }
def fillsDelayRow : OpenClaim := { program := "ytfcffemglcgbnaa", sum := "b6471ad49134ab0642a00ebbe1558d081f42855fb5533c4cf2e147f6446c68fb", func := "kedge/kedgelaw16.FillsDelay", spec := "fillsDelay", unfollowed := true, recurses := true, apart := false }
def FillsDelaySaid : Prop := fillsDelayRow.holds Try.pinned (OpenSpec.ofChange fillsDelaySpec)

/-- ITS FALSE NEIGHBOUR: 'it returns false'. Refute it at one input. -/
def fillsDelayWrong : ChangeSpec := { name := "fillsDelay", fn := fun _ => fun
  | [d1, d2, d3, d4] => { results := [.lit (.bool false)], args := [d1, d2, d3, d4] }
  | _ => none }
def FillsDelayWrongFalsely : Prop := fillsDelayRow.holds Try.pinned (OpenSpec.ofChange fillsDelayWrong)

/-- 'kedgelaw16.FillsStay': WHATEVER THE INPUT: true; the input reads as it did. -/
def fillsStaySpec : ChangeSpec := { name := "fillsStay", fn := fun _ => fun
  | [d1, d2] => { results := [.lit (.bool true)], args := [d1, d2] }
  | _ => none }
def fillsStayRow : OpenClaim := { program := "ytfcffemglcgbnaa", sum := "b6471ad49134ab0642a00ebbe1558d081f42855fb5533c4cf2e147f6446c68fb", func := "kedge/kedgelaw16.FillsStay", spec := "fillsStay", unfollowed := true, recurses := true, apart := false }
def FillsStaySaid : Prop := fillsStayRow.holds Try.pinned (OpenSpec.ofChange fillsStaySpec)

/-- ITS FALSE NEIGHBOUR: 'it returns false'. Refute it at one input. -/
def fillsStayWrong : ChangeSpec := { name := "fillsStay", fn := fun _ => fun
  | [d1, d2] => { results := [.lit (.bool false)], args := [d1, d2] }
  | _ => none }
def FillsStayWrongFalsely : Prop := fillsStayRow.holds Try.pinned (OpenSpec.ofChange fillsStayWrong)

/- THE SECOND FORM. 'bulk': how many values and letters a reading holds, each counted each time it is reached (what is shared counts as often as it is met; a slice's spare places count too). A statement '..UptoSaid' is the law's where the arguments, and the package variables that the reading takes, are together of bulk at most 1048576: NARROWER than '..Said'. Prove '..Said' where nothing that the law and all that it calls make is longer than what came in: it says more and counts as full. Else prove '..UptoSaid'. A law counts once. -/
mutual
def uptoBulk {H : Type} : DataW H → Nat
  | .lit (.string bytes) => bytes.length + 1
  | .lit _ => 1
  | .nil => 1
  | .ptr d => uptoBulk d + 1
  | .slice elems spare => uptoBulkAll elems + uptoBulkAll spare + 1
  | .agg parts => uptoBulkAll parts + 1
  | .iface _ d => uptoBulk d + 1
  | .map entries => uptoBulkEntries entries + 1
  | .held _ => 1
def uptoBulkAll {H : Type} : List (DataW H) → Nat
  | [] => 0
  | d :: r => uptoBulk d + uptoBulkAll r
def uptoBulkEntries {H : Type} : List (Lit × DataW H) → Nat
  | [] => 0
  | x :: r => uptoBulkEntry x + uptoBulkEntries r
def uptoBulkEntry {H : Type} : Lit × DataW H → Nat
  | (.string bytes, d) => bytes.length + uptoBulk d + 1
  | (_, d) => uptoBulk d + 1
 end
def uptoSmall : (H : Type) → List (DataW H) → Bool := fun _ ds => decide (uptoBulkAll ds ≤ 1048576)
def OpenSpec.upto (s : _root_.Go.ChangeSpec) : _root_.Go.OpenSpec := { _root_.Go.OpenSpec.ofChange s with cond := some uptoSmall }

/-- 'kedgelaw07.LeafgenWidest', WHERE WHAT IT READS IS OF BULK AT MOST 1048576: true; the input reads as it did. -/
def leafgenWidestUptoRow : OpenClaim := { program := "ytfcffemglcgbnaa", sum := "b6471ad49134ab0642a00ebbe1558d081f42855fb5533c4cf2e147f6446c68fb", func := "kedge/kedgelaw07.LeafgenWidest", spec := "leafgenWidest", unfollowed := true, recurses := true, apart := false, narrowed := true }
def LeafgenWidestUptoSaid : Prop := leafgenWidestUptoRow.holds Try.pinned (OpenSpec.upto leafgenWidestSpec)

/-- 'kedgelaw08.CoverIs', WHERE WHAT IT READS IS OF BULK AT MOST 1048576: true; the input reads as it did. -/
def coverIsUptoRow : OpenClaim := { program := "ytfcffemglcgbnaa", sum := "b6471ad49134ab0642a00ebbe1558d081f42855fb5533c4cf2e147f6446c68fb", func := "kedge/kedgelaw08.CoverIs", spec := "coverIs", unfollowed := true, recurses := true, apart := false, narrowed := true }
def CoverIsUptoSaid : Prop := coverIsUptoRow.holds Try.pinned (OpenSpec.upto coverIsSpec)

/-- 'kedgelaw08.CoverMost', WHERE WHAT IT READS IS OF BULK AT MOST 1048576: true; the input reads as it did. -/
def coverMostUptoRow : OpenClaim := { program := "ytfcffemglcgbnaa", sum := "b6471ad49134ab0642a00ebbe1558d081f42855fb5533c4cf2e147f6446c68fb", func := "kedge/kedgelaw08.CoverMost", spec := "coverMost", unfollowed := true, recurses := true, apart := false, narrowed := true }
def CoverMostUptoSaid : Prop := coverMostUptoRow.holds Try.pinned (OpenSpec.upto coverMostSpec)

/-- 'kedgelaw08.CoverLeaves', WHERE WHAT IT READS IS OF BULK AT MOST 1048576: true; the input reads as it did. -/
def coverLeavesUptoRow : OpenClaim := { program := "ytfcffemglcgbnaa", sum := "b6471ad49134ab0642a00ebbe1558d081f42855fb5533c4cf2e147f6446c68fb", func := "kedge/kedgelaw08.CoverLeaves", spec := "coverLeaves", unfollowed := true, recurses := true, apart := false, narrowed := true }
def CoverLeavesUptoSaid : Prop := coverLeavesUptoRow.holds Try.pinned (OpenSpec.upto coverLeavesSpec)

/-- 'kedgelaw08.CoverWhole', WHERE WHAT IT READS IS OF BULK AT MOST 1048576: true; the input reads as it did. -/
def coverWholeUptoRow : OpenClaim := { program := "ytfcffemglcgbnaa", sum := "b6471ad49134ab0642a00ebbe1558d081f42855fb5533c4cf2e147f6446c68fb", func := "kedge/kedgelaw08.CoverWhole", spec := "coverWhole", inPlace := ["math/bits.Add64"], unfollowed := true, recurses := true, apart := false, narrowed := true }
def CoverWholeUptoSaid : Prop := coverWholeUptoRow.holds Try.pinned (OpenSpec.upto coverWholeSpec)

/-- 'kedgelaw16.FillsAsked', WHERE WHAT IT READS IS OF BULK AT MOST 1048576: true; the input reads as it did. -/
def fillsAskedUptoRow : OpenClaim := { program := "ytfcffemglcgbnaa", sum := "b6471ad49134ab0642a00ebbe1558d081f42855fb5533c4cf2e147f6446c68fb", func := "kedge/kedgelaw16.FillsAsked", spec := "fillsAsked", unfollowed := true, recurses := true, apart := false, narrowed := true }
def FillsAskedUptoSaid : Prop := fillsAskedUptoRow.holds Try.pinned (OpenSpec.upto fillsAskedSpec)

/-- 'kedgelaw08.CoverSqueezes', WHERE WHAT IT READS IS OF BULK AT MOST 1048576: true; the input reads as it did. -/
def coverSqueezesUptoRow : OpenClaim := { program := "ytfcffemglcgbnaa", sum := "b6471ad49134ab0642a00ebbe1558d081f42855fb5533c4cf2e147f6446c68fb", func := "kedge/kedgelaw08.CoverSqueezes", spec := "coverSqueezes", unfollowed := true, recurses := true, apart := false, narrowed := true }
def CoverSqueezesUptoSaid : Prop := coverSqueezesUptoRow.holds Try.pinned (OpenSpec.upto coverSqueezesSpec)

/-- 'kedgelaw08.CoverSame', WHERE WHAT IT READS IS OF BULK AT MOST 1048576: true; the input reads as it did. -/
def coverSameUptoRow : OpenClaim := { program := "ytfcffemglcgbnaa", sum := "b6471ad49134ab0642a00ebbe1558d081f42855fb5533c4cf2e147f6446c68fb", func := "kedge/kedgelaw08.CoverSame", spec := "coverSame", unfollowed := true, recurses := true, apart := false, narrowed := true }
def CoverSameUptoSaid : Prop := coverSameUptoRow.holds Try.pinned (OpenSpec.upto coverSameSpec)

/-- 'kedgelaw16.FillsRenew', WHERE WHAT IT READS IS OF BULK AT MOST 1048576: true; the input reads as it did. -/
def fillsRenewUptoRow : OpenClaim := { program := "ytfcffemglcgbnaa", sum := "b6471ad49134ab0642a00ebbe1558d081f42855fb5533c4cf2e147f6446c68fb", func := "kedge/kedgelaw16.FillsRenew", spec := "fillsRenew", unfollowed := true, recurses := true, apart := false, narrowed := true }
def FillsRenewUptoSaid : Prop := fillsRenewUptoRow.holds Try.pinned (OpenSpec.upto fillsRenewSpec)

/-- 'kedgelaw16.FillsDelay', WHERE WHAT IT READS IS OF BULK AT MOST 1048576: true; the input reads as it did. -/
def fillsDelayUptoRow : OpenClaim := { program := "ytfcffemglcgbnaa", sum := "b6471ad49134ab0642a00ebbe1558d081f42855fb5533c4cf2e147f6446c68fb", func := "kedge/kedgelaw16.FillsDelay", spec := "fillsDelay", unfollowed := true, recurses := true, apart := false, narrowed := true }
def FillsDelayUptoSaid : Prop := fillsDelayUptoRow.holds Try.pinned (OpenSpec.upto fillsDelaySpec)

/-- 'kedgelaw16.FillsStay', WHERE WHAT IT READS IS OF BULK AT MOST 1048576: true; the input reads as it did. -/
def fillsStayUptoRow : OpenClaim := { program := "ytfcffemglcgbnaa", sum := "b6471ad49134ab0642a00ebbe1558d081f42855fb5533c4cf2e147f6446c68fb", func := "kedge/kedgelaw16.FillsStay", spec := "fillsStay", unfollowed := true, recurses := true, apart := false, narrowed := true }
def FillsStayUptoSaid : Prop := fillsStayUptoRow.holds Try.pinned (OpenSpec.upto fillsStaySpec)

end Rows
end Go.Proofs.Ytfcffemglcgbnaa
