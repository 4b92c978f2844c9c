/-
  No cell of these rows narrows 'for every input' (looked for: loops, veiled, ifaces, maps, wideKeys, modest, calm, conditions, laid).
  DERIVED. THE GIVEN ROWS OF THIS SEAT. 11 by the template 'for every input the law returns true; each argument reads behind the call as it read before'; 0 by the template 'total and deterministic' (their statements: YtpopikomcnkhnaaTotals.lean).
  GIVEN WITH THE SEED: the statements are not yours to turn. If you find one false, say at which input.
  Laid BY PROGRAM, IN A SANDBOX (cutbox-rows.mjs): the forced cells as the released guide's own fill.sh prints them over the translation 9edc9e0db974b9e3… (all of the seat's roots in one cut). By AI agents, Wed Nov 11 2026. No macro, syntax, notation, axiom, sorry.
-/
import Derived.Test.YtpopikomcnkhnaaChecked
import GoSem.Claim
import GoSem.ClaimJoined
import GoSem.ClaimMapViews
import Derived.JoinedTies
import Derived.KernelRfl
namespace Go.Proofs.Ytpopikomcnkhnaa
/- THE CELL 'sum', in the pinned program and in every row, IS THE sha256 OF THE DUMP (.gsa) THAT YtpopikomcnkhnaaProg.lean LOADS. Nothing in Lean hashes anything: it is a label: what it is worth is what the hold of that sum in a sandbox is worth. -/
noncomputable def Try.pinned : Pinned := { name := "ytpopikomcnkhnaa", sum := "9edc9e0db974b9e3be9c5cb049fe590a8c80ab817532ac056c805ac87fda95e1", checked := Try.checked }
namespace Rows
def none {H : Type} : Left H := { results := [], args := [] }

/-- 'kedgelaw06.RibNone': WHATEVER THE INPUT: true; the input reads as it did. -/
def ribNoneSpec : ChangeSpec := { name := "ribNone", fn := fun _ => fun
  | [d1, d2, d3] => { results := [.lit (.bool true)], args := [d1, d2, d3] }
  | _ => none }
def ribNoneRow : OpenClaim := { program := "ytpopikomcnkhnaa", sum := "9edc9e0db974b9e3be9c5cb049fe590a8c80ab817532ac056c805ac87fda95e1", func := "kedge/kedgelaw06.RibNone", spec := "ribNone", unfollowed := true, recurses := true, apart := false }
def RibNoneSaid : Prop := ribNoneRow.holds Try.pinned (OpenSpec.ofChange ribNoneSpec)

/-- ITS FALSE NEIGHBOUR: 'it returns false'. Refute it at one input. -/
def ribNoneWrong : ChangeSpec := { name := "ribNone", fn := fun _ => fun
  | [d1, d2, d3] => { results := [.lit (.bool false)], args := [d1, d2, d3] }
  | _ => none }
def RibNoneWrongFalsely : Prop := ribNoneRow.holds Try.pinned (OpenSpec.ofChange ribNoneWrong)

/-- 'kedgelaw06.RibDump': WHATEVER THE INPUT: true; the input reads as it did. -/
def ribDumpSpec : ChangeSpec := { name := "ribDump", fn := fun _ => fun
  | [d1, d2, d3] => { results := [.lit (.bool true)], args := [d1, d2, d3] }
  | _ => none }
def ribDumpRow : OpenClaim := { program := "ytpopikomcnkhnaa", sum := "9edc9e0db974b9e3be9c5cb049fe590a8c80ab817532ac056c805ac87fda95e1", func := "kedge/kedgelaw06.RibDump", spec := "ribDump", unfollowed := true, recurses := true, apart := false }
def RibDumpSaid : Prop := ribDumpRow.holds Try.pinned (OpenSpec.ofChange ribDumpSpec)

/-- ITS FALSE NEIGHBOUR: 'it returns false'. Refute it at one input. -/
def ribDumpWrong : ChangeSpec := { name := "ribDump", fn := fun _ => fun
  | [d1, d2, d3] => { results := [.lit (.bool false)], args := [d1, d2, d3] }
  | _ => none }
def RibDumpWrongFalsely : Prop := ribDumpRow.holds Try.pinned (OpenSpec.ofChange ribDumpWrong)

/-- 'kedgelaw07.LeafgenIs': WHATEVER THE INPUT: true; the input reads as it did. -/
def leafgenIsSpec : ChangeSpec := { name := "leafgenIs", fn := fun _ => fun
  | [d1, d2, d3, d4] => { results := [.lit (.bool true)], args := [d1, d2, d3, d4] }
  | _ => none }
def leafgenIsRow : OpenClaim := { program := "ytpopikomcnkhnaa", sum := "9edc9e0db974b9e3be9c5cb049fe590a8c80ab817532ac056c805ac87fda95e1", func := "kedge/kedgelaw07.LeafgenIs", spec := "leafgenIs", unfollowed := true, recurses := true, apart := false }
def LeafgenIsSaid : Prop := leafgenIsRow.holds Try.pinned (OpenSpec.ofChange leafgenIsSpec)

/-- ITS FALSE NEIGHBOUR: 'it returns false'. Refute it at one input. -/
def leafgenIsWrong : ChangeSpec := { name := "leafgenIs", fn := fun _ => fun
  | [d1, d2, d3, d4] => { results := [.lit (.bool false)], args := [d1, d2, d3, d4] }
  | _ => none }
def LeafgenIsWrongFalsely : Prop := leafgenIsRow.holds Try.pinned (OpenSpec.ofChange leafgenIsWrong)

/-- 'kedgelaw07.LeafgenGood': WHATEVER THE INPUT: true; the input reads as it did. -/
def leafgenGoodSpec : ChangeSpec := { name := "leafgenGood", fn := fun _ => fun
  | [d1, d2] => { results := [.lit (.bool true)], args := [d1, d2] }
  | _ => none }
def leafgenGoodRow : OpenClaim := { program := "ytpopikomcnkhnaa", sum := "9edc9e0db974b9e3be9c5cb049fe590a8c80ab817532ac056c805ac87fda95e1", func := "kedge/kedgelaw07.LeafgenGood", spec := "leafgenGood", unfollowed := true, recurses := true, apart := false }
def LeafgenGoodSaid : Prop := leafgenGoodRow.holds Try.pinned (OpenSpec.ofChange leafgenGoodSpec)

/-- ITS FALSE NEIGHBOUR: 'it returns false'. Refute it at one input. -/
def leafgenGoodWrong : ChangeSpec := { name := "leafgenGood", fn := fun _ => fun
  | [d1, d2] => { results := [.lit (.bool false)], args := [d1, d2] }
  | _ => none }
def LeafgenGoodWrongFalsely : Prop := leafgenGoodRow.holds Try.pinned (OpenSpec.ofChange leafgenGoodWrong)

/-- 'kedgelaw07.LeafgenWithin': WHATEVER THE INPUT: true; the input reads as it did. -/
def leafgenWithinSpec : ChangeSpec := { name := "leafgenWithin", fn := fun _ => fun
  | [d1, d2, d3] => { results := [.lit (.bool true)], args := [d1, d2, d3] }
  | _ => none }
def leafgenWithinRow : OpenClaim := { program := "ytpopikomcnkhnaa", sum := "9edc9e0db974b9e3be9c5cb049fe590a8c80ab817532ac056c805ac87fda95e1", func := "kedge/kedgelaw07.LeafgenWithin", spec := "leafgenWithin", unfollowed := true, recurses := true, apart := false }
def LeafgenWithinSaid : Prop := leafgenWithinRow.holds Try.pinned (OpenSpec.ofChange leafgenWithinSpec)

/-- ITS FALSE NEIGHBOUR: 'it returns false'. Refute it at one input. -/
def leafgenWithinWrong : ChangeSpec := { name := "leafgenWithin", fn := fun _ => fun
  | [d1, d2, d3] => { results := [.lit (.bool false)], args := [d1, d2, d3] }
  | _ => none }
def LeafgenWithinWrongFalsely : Prop := leafgenWithinRow.holds Try.pinned (OpenSpec.ofChange leafgenWithinWrong)

/-- 'kedgelaw07.LeafgenMore': WHATEVER THE INPUT: true; the input reads as it did. -/
def leafgenMoreSpec : ChangeSpec := { name := "leafgenMore", fn := fun _ => fun
  | [d1, d2, d3] => { results := [.lit (.bool true)], args := [d1, d2, d3] }
  | _ => none }
def leafgenMoreRow : OpenClaim := { program := "ytpopikomcnkhnaa", sum := "9edc9e0db974b9e3be9c5cb049fe590a8c80ab817532ac056c805ac87fda95e1", func := "kedge/kedgelaw07.LeafgenMore", spec := "leafgenMore", unfollowed := true, recurses := true, apart := false }
def LeafgenMoreSaid : Prop := leafgenMoreRow.holds Try.pinned (OpenSpec.ofChange leafgenMoreSpec)

/-- ITS FALSE NEIGHBOUR: 'it returns false'. Refute it at one input. -/
def leafgenMoreWrong : ChangeSpec := { name := "leafgenMore", fn := fun _ => fun
  | [d1, d2, d3] => { results := [.lit (.bool false)], args := [d1, d2, d3] }
  | _ => none }
def LeafgenMoreWrongFalsely : Prop := leafgenMoreRow.holds Try.pinned (OpenSpec.ofChange leafgenMoreWrong)

/-- 'kedgelaw07.LeafgenAlike': WHATEVER THE INPUT: true; the input reads as it did. -/
def leafgenAlikeSpec : ChangeSpec := { name := "leafgenAlike", fn := fun _ => fun
  | [d1, d2, d3] => { results := [.lit (.bool true)], args := [d1, d2, d3] }
  | _ => none }
def leafgenAlikeRow : OpenClaim := { program := "ytpopikomcnkhnaa", sum := "9edc9e0db974b9e3be9c5cb049fe590a8c80ab817532ac056c805ac87fda95e1", func := "kedge/kedgelaw07.LeafgenAlike", spec := "leafgenAlike", unfollowed := true, recurses := true, apart := false }
def LeafgenAlikeSaid : Prop := leafgenAlikeRow.holds Try.pinned (OpenSpec.ofChange leafgenAlikeSpec)

/-- ITS FALSE NEIGHBOUR: 'it returns false'. Refute it at one input. -/
def leafgenAlikeWrong : ChangeSpec := { name := "leafgenAlike", fn := fun _ => fun
  | [d1, d2, d3] => { results := [.lit (.bool false)], args := [d1, d2, d3] }
  | _ => none }
def LeafgenAlikeWrongFalsely : Prop := leafgenAlikeRow.holds Try.pinned (OpenSpec.ofChange leafgenAlikeWrong)

/-- 'kedgelaw06.RibRoom': WHATEVER THE INPUT: true; the input reads as it did. -/
def ribRoomSpec : ChangeSpec := { name := "ribRoom", fn := fun _ => fun
  | [d1, d2, d3, d4] => { results := [.lit (.bool true)], args := [d1, d2, d3, d4] }
  | _ => none }
def ribRoomRow : OpenClaim := { program := "ytpopikomcnkhnaa", sum := "9edc9e0db974b9e3be9c5cb049fe590a8c80ab817532ac056c805ac87fda95e1", func := "kedge/kedgelaw06.RibRoom", spec := "ribRoom", unfollowed := true, recurses := true, apart := false }
def RibRoomSaid : Prop := ribRoomRow.holds Try.pinned (OpenSpec.ofChange ribRoomSpec)

/-- ITS FALSE NEIGHBOUR: 'it returns false'. Refute it at one input. -/
def ribRoomWrong : ChangeSpec := { name := "ribRoom", fn := fun _ => fun
  | [d1, d2, d3, d4] => { results := [.lit (.bool false)], args := [d1, d2, d3, d4] }
  | _ => none }
def RibRoomWrongFalsely : Prop := ribRoomRow.holds Try.pinned (OpenSpec.ofChange ribRoomWrong)

/-- 'kedgelaw06.RibFull': WHATEVER THE INPUT: true; the input reads as it did. -/
def ribFullSpec : ChangeSpec := { name := "ribFull", fn := fun _ => fun
  | [d1, d2, d3, d4] => { results := [.lit (.bool true)], args := [d1, d2, d3, d4] }
  | _ => none }
def ribFullRow : OpenClaim := { program := "ytpopikomcnkhnaa", sum := "9edc9e0db974b9e3be9c5cb049fe590a8c80ab817532ac056c805ac87fda95e1", func := "kedge/kedgelaw06.RibFull", spec := "ribFull", unfollowed := true, recurses := true, apart := false }
def RibFullSaid : Prop := ribFullRow.holds Try.pinned (OpenSpec.ofChange ribFullSpec)

/-- ITS FALSE NEIGHBOUR: 'it returns false'. Refute it at one input. -/
def ribFullWrong : ChangeSpec := { name := "ribFull", fn := fun _ => fun
  | [d1, d2, d3, d4] => { results := [.lit (.bool false)], args := [d1, d2, d3, d4] }
  | _ => none }
def RibFullWrongFalsely : Prop := ribFullRow.holds Try.pinned (OpenSpec.ofChange ribFullWrong)

/-- 'kedgelaw06.RibLongest': WHATEVER THE INPUT: true; the input reads as it did. -/
def ribLongestSpec : ChangeSpec := { name := "ribLongest", fn := fun _ => fun
  | [d1, d2, d3] => { results := [.lit (.bool true)], args := [d1, d2, d3] }
  | _ => none }
def ribLongestRow : OpenClaim := { program := "ytpopikomcnkhnaa", sum := "9edc9e0db974b9e3be9c5cb049fe590a8c80ab817532ac056c805ac87fda95e1", func := "kedge/kedgelaw06.RibLongest", spec := "ribLongest", unfollowed := true, recurses := true, apart := false }
def RibLongestSaid : Prop := ribLongestRow.holds Try.pinned (OpenSpec.ofChange ribLongestSpec)

/-- ITS FALSE NEIGHBOUR: 'it returns false'. Refute it at one input. -/
def ribLongestWrong : ChangeSpec := { name := "ribLongest", fn := fun _ => fun
  | [d1, d2, d3] => { results := [.lit (.bool false)], args := [d1, d2, d3] }
  | _ => none }
def RibLongestWrongFalsely : Prop := ribLongestRow.holds Try.pinned (OpenSpec.ofChange ribLongestWrong)

/-- 'kedgelaw06.RibErrors': WHATEVER THE INPUT: true; the input reads as it did. -/
def ribErrorsSpec : ChangeSpec := { name := "ribErrors", fn := fun _ => fun
  | [d1, d2, d3, d4] => { results := [.lit (.bool true)], args := [d1, d2, d3, d4] }
  | _ => none }
def ribErrorsRow : OpenClaim := { program := "ytpopikomcnkhnaa", sum := "9edc9e0db974b9e3be9c5cb049fe590a8c80ab817532ac056c805ac87fda95e1", func := "kedge/kedgelaw06.RibErrors", spec := "ribErrors", unfollowed := true, recurses := true, apart := false }
def RibErrorsSaid : Prop := ribErrorsRow.holds Try.pinned (OpenSpec.ofChange ribErrorsSpec)

/-- ITS FALSE NEIGHBOUR: 'it returns false'. Refute it at one input. -/
def ribErrorsWrong : ChangeSpec := { name := "ribErrors", fn := fun _ => fun
  | [d1, d2, d3, d4] => { results := [.lit (.bool false)], args := [d1, d2, d3, d4] }
  | _ => none }
def RibErrorsWrongFalsely : Prop := ribErrorsRow.holds Try.pinned (OpenSpec.ofChange ribErrorsWrong)

/- THE SECOND FORM. 'bulk': how many values and letters a reading holds, each counted each time it is reached (what is shared counts as often as it is met; a slice's spare places count too). A statement '..UptoSaid' is the law's where the arguments, and the package variables that the reading takes, are together of bulk at most 1048576: NARROWER than '..Said'. Prove '..Said' where nothing that the law and all that it calls make is longer than what came in: it says more and counts as full. Else prove '..UptoSaid'. A law counts once. -/
mutual
def uptoBulk {H : Type} : DataW H → Nat
  | .lit (.string bytes) => bytes.length + 1
  | .lit _ => 1
  | .nil => 1
  | .ptr d => uptoBulk d + 1
  | .slice elems spare => uptoBulkAll elems + uptoBulkAll spare + 1
  | .agg parts => uptoBulkAll parts + 1
  | .iface _ d => uptoBulk d + 1
  | .map entries => uptoBulkEntries entries + 1
  | .held _ => 1
def uptoBulkAll {H : Type} : List (DataW H) → Nat
  | [] => 0
  | d :: r => uptoBulk d + uptoBulkAll r
def uptoBulkEntries {H : Type} : List (Lit × DataW H) → Nat
  | [] => 0
  | x :: r => uptoBulkEntry x + uptoBulkEntries r
def uptoBulkEntry {H : Type} : Lit × DataW H → Nat
  | (.string bytes, d) => bytes.length + uptoBulk d + 1
  | (_, d) => uptoBulk d + 1
 end
def uptoSmall : (H : Type) → List (DataW H) → Bool := fun _ ds => decide (uptoBulkAll ds ≤ 1048576)
def OpenSpec.upto (s : _root_.Go.ChangeSpec) : _root_.Go.OpenSpec := { _root_.Go.OpenSpec.ofChange s with cond := some uptoSmall }

/-- 'kedgelaw06.RibNone', WHERE WHAT IT READS IS OF BULK AT MOST 1048576: true; the input reads as it did. -/
def ribNoneUptoRow : OpenClaim := { program := "ytpopikomcnkhnaa", sum := "9edc9e0db974b9e3be9c5cb049fe590a8c80ab817532ac056c805ac87fda95e1", func := "kedge/kedgelaw06.RibNone", spec := "ribNone", unfollowed := true, recurses := true, apart := false, narrowed := true }
def RibNoneUptoSaid : Prop := ribNoneUptoRow.holds Try.pinned (OpenSpec.upto ribNoneSpec)

/-- 'kedgelaw06.RibDump', WHERE WHAT IT READS IS OF BULK AT MOST 1048576: true; the input reads as it did. -/
def ribDumpUptoRow : OpenClaim := { program := "ytpopikomcnkhnaa", sum := "9edc9e0db974b9e3be9c5cb049fe590a8c80ab817532ac056c805ac87fda95e1", func := "kedge/kedgelaw06.RibDump", spec := "ribDump", unfollowed := true, recurses := true, apart := false, narrowed := true }
def RibDumpUptoSaid : Prop := ribDumpUptoRow.holds Try.pinned (OpenSpec.upto ribDumpSpec)

/-- 'kedgelaw07.LeafgenIs', WHERE WHAT IT READS IS OF BULK AT MOST 1048576: true; the input reads as it did. -/
def leafgenIsUptoRow : OpenClaim := { program := "ytpopikomcnkhnaa", sum := "9edc9e0db974b9e3be9c5cb049fe590a8c80ab817532ac056c805ac87fda95e1", func := "kedge/kedgelaw07.LeafgenIs", spec := "leafgenIs", unfollowed := true, recurses := true, apart := false, narrowed := true }
def LeafgenIsUptoSaid : Prop := leafgenIsUptoRow.holds Try.pinned (OpenSpec.upto leafgenIsSpec)

/-- 'kedgelaw07.LeafgenGood', WHERE WHAT IT READS IS OF BULK AT MOST 1048576: true; the input reads as it did. -/
def leafgenGoodUptoRow : OpenClaim := { program := "ytpopikomcnkhnaa", sum := "9edc9e0db974b9e3be9c5cb049fe590a8c80ab817532ac056c805ac87fda95e1", func := "kedge/kedgelaw07.LeafgenGood", spec := "leafgenGood", unfollowed := true, recurses := true, apart := false, narrowed := true }
def LeafgenGoodUptoSaid : Prop := leafgenGoodUptoRow.holds Try.pinned (OpenSpec.upto leafgenGoodSpec)

/-- 'kedgelaw07.LeafgenWithin', WHERE WHAT IT READS IS OF BULK AT MOST 1048576: true; the input reads as it did. -/
def leafgenWithinUptoRow : OpenClaim := { program := "ytpopikomcnkhnaa", sum := "9edc9e0db974b9e3be9c5cb049fe590a8c80ab817532ac056c805ac87fda95e1", func := "kedge/kedgelaw07.LeafgenWithin", spec := "leafgenWithin", unfollowed := true, recurses := true, apart := false, narrowed := true }
def LeafgenWithinUptoSaid : Prop := leafgenWithinUptoRow.holds Try.pinned (OpenSpec.upto leafgenWithinSpec)

/-- 'kedgelaw07.LeafgenMore', WHERE WHAT IT READS IS OF BULK AT MOST 1048576: true; the input reads as it did. -/
def leafgenMoreUptoRow : OpenClaim := { program := "ytpopikomcnkhnaa", sum := "9edc9e0db974b9e3be9c5cb049fe590a8c80ab817532ac056c805ac87fda95e1", func := "kedge/kedgelaw07.LeafgenMore", spec := "leafgenMore", unfollowed := true, recurses := true, apart := false, narrowed := true }
def LeafgenMoreUptoSaid : Prop := leafgenMoreUptoRow.holds Try.pinned (OpenSpec.upto leafgenMoreSpec)

/-- 'kedgelaw07.LeafgenAlike', WHERE WHAT IT READS IS OF BULK AT MOST 1048576: true; the input reads as it did. -/
def leafgenAlikeUptoRow : OpenClaim := { program := "ytpopikomcnkhnaa", sum := "9edc9e0db974b9e3be9c5cb049fe590a8c80ab817532ac056c805ac87fda95e1", func := "kedge/kedgelaw07.LeafgenAlike", spec := "leafgenAlike", unfollowed := true, recurses := true, apart := false, narrowed := true }
def LeafgenAlikeUptoSaid : Prop := leafgenAlikeUptoRow.holds Try.pinned (OpenSpec.upto leafgenAlikeSpec)

/-- 'kedgelaw06.RibRoom', WHERE WHAT IT READS IS OF BULK AT MOST 1048576: true; the input reads as it did. -/
def ribRoomUptoRow : OpenClaim := { program := "ytpopikomcnkhnaa", sum := "9edc9e0db974b9e3be9c5cb049fe590a8c80ab817532ac056c805ac87fda95e1", func := "kedge/kedgelaw06.RibRoom", spec := "ribRoom", unfollowed := true, recurses := true, apart := false, narrowed := true }
def RibRoomUptoSaid : Prop := ribRoomUptoRow.holds Try.pinned (OpenSpec.upto ribRoomSpec)

/-- 'kedgelaw06.RibFull', WHERE WHAT IT READS IS OF BULK AT MOST 1048576: true; the input reads as it did. -/
def ribFullUptoRow : OpenClaim := { program := "ytpopikomcnkhnaa", sum := "9edc9e0db974b9e3be9c5cb049fe590a8c80ab817532ac056c805ac87fda95e1", func := "kedge/kedgelaw06.RibFull", spec := "ribFull", unfollowed := true, recurses := true, apart := false, narrowed := true }
def RibFullUptoSaid : Prop := ribFullUptoRow.holds Try.pinned (OpenSpec.upto ribFullSpec)

/-- 'kedgelaw06.RibLongest', WHERE WHAT IT READS IS OF BULK AT MOST 1048576: true; the input reads as it did. -/
def ribLongestUptoRow : OpenClaim := { program := "ytpopikomcnkhnaa", sum := "9edc9e0db974b9e3be9c5cb049fe590a8c80ab817532ac056c805ac87fda95e1", func := "kedge/kedgelaw06.RibLongest", spec := "ribLongest", unfollowed := true, recurses := true, apart := false, narrowed := true }
def RibLongestUptoSaid : Prop := ribLongestUptoRow.holds Try.pinned (OpenSpec.upto ribLongestSpec)

/-- 'kedgelaw06.RibErrors', WHERE WHAT IT READS IS OF BULK AT MOST 1048576: true; the input reads as it did. -/
def ribErrorsUptoRow : OpenClaim := { program := "ytpopikomcnkhnaa", sum := "9edc9e0db974b9e3be9c5cb049fe590a8c80ab817532ac056c805ac87fda95e1", func := "kedge/kedgelaw06.RibErrors", spec := "ribErrors", unfollowed := true, recurses := true, apart := false, narrowed := true }
def RibErrorsUptoSaid : Prop := ribErrorsUptoRow.holds Try.pinned (OpenSpec.upto ribErrorsSpec)

end Rows
end Go.Proofs.Ytpopikomcnkhnaa
