/-
  No cell of these rows narrows 'for every input' (looked for: loops, veiled, ifaces, maps, wideKeys, modest, calm, conditions, laid).
  DERIVED. THE GIVEN ROWS OF THIS SEAT. 12 by the template 'for every input the law returns true; each argument reads behind the call as it read before'; 0 by the template 'total and deterministic' (their statements: YtlmcfjadhahlpaaTotals.lean).
  GIVEN WITH THE SEED: the statements are not yours to turn. If you find one false, say at which input.
  Laid BY PROGRAM, IN A SANDBOX (cutbox-rows.mjs): the forced cells as the released guide's own fill.sh prints them over the translation acee2fab6816efb1… (all of the seat's roots in one cut). By AI agents, Wed Nov 11 2026. No macro, syntax, notation, axiom, sorry.
-/
import Derived.Test.YtlmcfjadhahlpaaChecked
import GoSem.Claim
import GoSem.ClaimJoined
import GoSem.ClaimMapViews
import Derived.JoinedTies
import Derived.KernelRfl
namespace Go.Proofs.Ytlmcfjadhahlpaa
/- THE CELL 'sum', in the pinned program and in every row, IS THE sha256 OF THE DUMP (.gsa) THAT YtlmcfjadhahlpaaProg.lean LOADS. Nothing in Lean hashes anything: it is a label: what it is worth is what the hold of that sum in a sandbox is worth. -/
noncomputable def Try.pinned : Pinned := { name := "ytlmcfjadhahlpaa", sum := "acee2fab6816efb113f00577c6468e57310c72aa8000d541854477df19a37d18", checked := Try.checked }
namespace Rows
def none {H : Type} : Left H := { results := [], args := [] }

/-- 'kedgelaw14.QueuePlays': WHATEVER THE INPUT: true; the input reads as it did. -/
def queuePlaysSpec : ChangeSpec := { name := "queuePlays", fn := fun _ => fun
  | [d1, d2] => { results := [.lit (.bool true)], args := [d1, d2] }
  | _ => none }
def queuePlaysRow : OpenClaim := { program := "ytlmcfjadhahlpaa", sum := "acee2fab6816efb113f00577c6468e57310c72aa8000d541854477df19a37d18", func := "kedge/kedgelaw14.QueuePlays", spec := "queuePlays", unfollowed := true, recurses := true, apart := false }
def QueuePlaysSaid : Prop := queuePlaysRow.holds Try.pinned (OpenSpec.ofChange queuePlaysSpec)

/-- ITS FALSE NEIGHBOUR: 'it returns false'. Refute it at one input. -/
def queuePlaysWrong : ChangeSpec := { name := "queuePlays", fn := fun _ => fun
  | [d1, d2] => { results := [.lit (.bool false)], args := [d1, d2] }
  | _ => none }
def QueuePlaysWrongFalsely : Prop := queuePlaysRow.holds Try.pinned (OpenSpec.ofChange queuePlaysWrong)

/-- 'kedgelaw14.QueuePicks': WHATEVER THE INPUT: true; the input reads as it did. -/
def queuePicksSpec : ChangeSpec := { name := "queuePicks", fn := fun _ => fun
  | [d1, d2, d3] => { results := [.lit (.bool true)], args := [d1, d2, d3] }
  | _ => none }
def queuePicksRow : OpenClaim := { program := "ytlmcfjadhahlpaa", sum := "acee2fab6816efb113f00577c6468e57310c72aa8000d541854477df19a37d18", func := "kedge/kedgelaw14.QueuePicks", spec := "queuePicks", unfollowed := true, recurses := true, apart := false }
def QueuePicksSaid : Prop := queuePicksRow.holds Try.pinned (OpenSpec.ofChange queuePicksSpec)

/-- ITS FALSE NEIGHBOUR: 'it returns false'. Refute it at one input. -/
def queuePicksWrong : ChangeSpec := { name := "queuePicks", fn := fun _ => fun
  | [d1, d2, d3] => { results := [.lit (.bool false)], args := [d1, d2, d3] }
  | _ => none }
def QueuePicksWrongFalsely : Prop := queuePicksRow.holds Try.pinned (OpenSpec.ofChange queuePicksWrong)

/-- 'kedgelaw14.QueueIs': WHATEVER THE INPUT: true; the input reads as it did. -/
def queueIsSpec : ChangeSpec := { name := "queueIs", fn := fun _ => fun
  | [d1, d2, d3, d4] => { results := [.lit (.bool true)], args := [d1, d2, d3, d4] }
  | _ => none }
def queueIsRow : OpenClaim := { program := "ytlmcfjadhahlpaa", sum := "acee2fab6816efb113f00577c6468e57310c72aa8000d541854477df19a37d18", func := "kedge/kedgelaw14.QueueIs", spec := "queueIs", unfollowed := true, recurses := true, apart := false }
def QueueIsSaid : Prop := queueIsRow.holds Try.pinned (OpenSpec.ofChange queueIsSpec)

/-- ITS FALSE NEIGHBOUR: 'it returns false'. Refute it at one input. -/
def queueIsWrong : ChangeSpec := { name := "queueIs", fn := fun _ => fun
  | [d1, d2, d3, d4] => { results := [.lit (.bool false)], args := [d1, d2, d3, d4] }
  | _ => none }
def QueueIsWrongFalsely : Prop := queueIsRow.holds Try.pinned (OpenSpec.ofChange queueIsWrong)

/-- 'kedgelaw14.QueueOnce': WHATEVER THE INPUT: true; the input reads as it did. -/
def queueOnceSpec : ChangeSpec := { name := "queueOnce", fn := fun _ => fun
  | [d1, d2, d3, d4] => { results := [.lit (.bool true)], args := [d1, d2, d3, d4] }
  | _ => none }
def queueOnceRow : OpenClaim := { program := "ytlmcfjadhahlpaa", sum := "acee2fab6816efb113f00577c6468e57310c72aa8000d541854477df19a37d18", func := "kedge/kedgelaw14.QueueOnce", spec := "queueOnce", unfollowed := true, recurses := true, apart := false }
def QueueOnceSaid : Prop := queueOnceRow.holds Try.pinned (OpenSpec.ofChange queueOnceSpec)

/-- ITS FALSE NEIGHBOUR: 'it returns false'. Refute it at one input. -/
def queueOnceWrong : ChangeSpec := { name := "queueOnce", fn := fun _ => fun
  | [d1, d2, d3, d4] => { results := [.lit (.bool false)], args := [d1, d2, d3, d4] }
  | _ => none }
def QueueOnceWrongFalsely : Prop := queueOnceRow.holds Try.pinned (OpenSpec.ofChange queueOnceWrong)

/-- 'kedgelaw14.QueueNarrows': WHATEVER THE INPUT: true; the input reads as it did. -/
def queueNarrowsSpec : ChangeSpec := { name := "queueNarrows", fn := fun _ => fun
  | [d1, d2] => { results := [.lit (.bool true)], args := [d1, d2] }
  | _ => none }
def queueNarrowsRow : OpenClaim := { program := "ytlmcfjadhahlpaa", sum := "acee2fab6816efb113f00577c6468e57310c72aa8000d541854477df19a37d18", func := "kedge/kedgelaw14.QueueNarrows", spec := "queueNarrows", unfollowed := true, recurses := true, apart := false }
def QueueNarrowsSaid : Prop := queueNarrowsRow.holds Try.pinned (OpenSpec.ofChange queueNarrowsSpec)

/-- ITS FALSE NEIGHBOUR: 'it returns false'. Refute it at one input. -/
def queueNarrowsWrong : ChangeSpec := { name := "queueNarrows", fn := fun _ => fun
  | [d1, d2] => { results := [.lit (.bool false)], args := [d1, d2] }
  | _ => none }
def QueueNarrowsWrongFalsely : Prop := queueNarrowsRow.holds Try.pinned (OpenSpec.ofChange queueNarrowsWrong)

/-- 'kedgelaw05.TriePut': WHATEVER THE INPUT: true; the input reads as it did. -/
def triePutSpec : ChangeSpec := { name := "triePut", fn := fun _ => fun
  | [d1, d2, d3, d4] => { results := [.lit (.bool true)], args := [d1, d2, d3, d4] }
  | _ => none }
def triePutRow : OpenClaim := { program := "ytlmcfjadhahlpaa", sum := "acee2fab6816efb113f00577c6468e57310c72aa8000d541854477df19a37d18", func := "kedge/kedgelaw05.TriePut", spec := "triePut", unfollowed := true, recurses := true, apart := false }
def TriePutSaid : Prop := triePutRow.holds Try.pinned (OpenSpec.ofChange triePutSpec)

/-- ITS FALSE NEIGHBOUR: 'it returns false'. Refute it at one input. -/
def triePutWrong : ChangeSpec := { name := "triePut", fn := fun _ => fun
  | [d1, d2, d3, d4] => { results := [.lit (.bool false)], args := [d1, d2, d3, d4] }
  | _ => none }
def TriePutWrongFalsely : Prop := triePutRow.holds Try.pinned (OpenSpec.ofChange triePutWrong)

/-- 'kedgelaw05.TrieGone': WHATEVER THE INPUT: true; the input reads as it did. -/
def trieGoneSpec : ChangeSpec := { name := "trieGone", fn := fun _ => fun
  | [d1, d2] => { results := [.lit (.bool true)], args := [d1, d2] }
  | _ => none }
def trieGoneRow : OpenClaim := { program := "ytlmcfjadhahlpaa", sum := "acee2fab6816efb113f00577c6468e57310c72aa8000d541854477df19a37d18", func := "kedge/kedgelaw05.TrieGone", spec := "trieGone", unfollowed := true, recurses := true, apart := false }
def TrieGoneSaid : Prop := trieGoneRow.holds Try.pinned (OpenSpec.ofChange trieGoneSpec)

/-- ITS FALSE NEIGHBOUR: 'it returns false'. Refute it at one input. -/
def trieGoneWrong : ChangeSpec := { name := "trieGone", fn := fun _ => fun
  | [d1, d2] => { results := [.lit (.bool false)], args := [d1, d2] }
  | _ => none }
def TrieGoneWrongFalsely : Prop := trieGoneRow.holds Try.pinned (OpenSpec.ofChange trieGoneWrong)

/-- 'kedgelaw05.TrieBound': WHATEVER THE INPUT: true; the input reads as it did. -/
def trieBoundSpec : ChangeSpec := { name := "trieBound", fn := fun _ => fun
  | [d] => { results := [.lit (.bool true)], args := [d] }
  | _ => none }
def trieBoundRow : OpenClaim := { program := "ytlmcfjadhahlpaa", sum := "acee2fab6816efb113f00577c6468e57310c72aa8000d541854477df19a37d18", func := "kedge/kedgelaw05.TrieBound", spec := "trieBound", unfollowed := true, recurses := true, apart := false }
def TrieBoundSaid : Prop := trieBoundRow.holds Try.pinned (OpenSpec.ofChange trieBoundSpec)

/-- ITS FALSE NEIGHBOUR: 'it returns false'. Refute it at one input. -/
def trieBoundWrong : ChangeSpec := { name := "trieBound", fn := fun _ => fun
  | [d] => { results := [.lit (.bool false)], args := [d] }
  | _ => none }
def TrieBoundWrongFalsely : Prop := trieBoundRow.holds Try.pinned (OpenSpec.ofChange trieBoundWrong)

/-- 'kedgelaw05.TrieUnder': WHATEVER THE INPUT: true; the input reads as it did. -/
def trieUnderSpec : ChangeSpec := { name := "trieUnder", fn := fun _ => fun
  | [d1, d2] => { results := [.lit (.bool true)], args := [d1, d2] }
  | _ => none }
def trieUnderRow : OpenClaim := { program := "ytlmcfjadhahlpaa", sum := "acee2fab6816efb113f00577c6468e57310c72aa8000d541854477df19a37d18", func := "kedge/kedgelaw05.TrieUnder", spec := "trieUnder", unfollowed := true, recurses := true, apart := false }
def TrieUnderSaid : Prop := trieUnderRow.holds Try.pinned (OpenSpec.ofChange trieUnderSpec)

/-- ITS FALSE NEIGHBOUR: 'it returns false'. Refute it at one input. -/
def trieUnderWrong : ChangeSpec := { name := "trieUnder", fn := fun _ => fun
  | [d1, d2] => { results := [.lit (.bool false)], args := [d1, d2] }
  | _ => none }
def TrieUnderWrongFalsely : Prop := trieUnderRow.holds Try.pinned (OpenSpec.ofChange trieUnderWrong)

/-- 'kedgelaw05.TriePlays': WHATEVER THE INPUT: true; the input reads as it did. -/
def triePlaysSpec : ChangeSpec := { name := "triePlays", fn := fun _ => fun
  | [d1, d2, d3] => { results := [.lit (.bool true)], args := [d1, d2, d3] }
  | _ => none }
def triePlaysRow : OpenClaim := { program := "ytlmcfjadhahlpaa", sum := "acee2fab6816efb113f00577c6468e57310c72aa8000d541854477df19a37d18", func := "kedge/kedgelaw05.TriePlays", spec := "triePlays", unfollowed := true, recurses := true, apart := false }
def TriePlaysSaid : Prop := triePlaysRow.holds Try.pinned (OpenSpec.ofChange triePlaysSpec)

/-- ITS FALSE NEIGHBOUR: 'it returns false'. Refute it at one input. -/
def triePlaysWrong : ChangeSpec := { name := "triePlays", fn := fun _ => fun
  | [d1, d2, d3] => { results := [.lit (.bool false)], args := [d1, d2, d3] }
  | _ => none }
def TriePlaysWrongFalsely : Prop := triePlaysRow.holds Try.pinned (OpenSpec.ofChange triePlaysWrong)

/-- 'kedgelaw05.TrieNone': WHATEVER THE INPUT: true; the input reads as it did. -/
def trieNoneSpec : ChangeSpec := { name := "trieNone", fn := fun _ => fun
  | [d1, d2, d3] => { results := [.lit (.bool true)], args := [d1, d2, d3] }
  | _ => none }
def trieNoneRow : OpenClaim := { program := "ytlmcfjadhahlpaa", sum := "acee2fab6816efb113f00577c6468e57310c72aa8000d541854477df19a37d18", func := "kedge/kedgelaw05.TrieNone", spec := "trieNone", unfollowed := true, recurses := true, apart := false }
def TrieNoneSaid : Prop := trieNoneRow.holds Try.pinned (OpenSpec.ofChange trieNoneSpec)

/-- ITS FALSE NEIGHBOUR: 'it returns false'. Refute it at one input. -/
def trieNoneWrong : ChangeSpec := { name := "trieNone", fn := fun _ => fun
  | [d1, d2, d3] => { results := [.lit (.bool false)], args := [d1, d2, d3] }
  | _ => none }
def TrieNoneWrongFalsely : Prop := trieNoneRow.holds Try.pinned (OpenSpec.ofChange trieNoneWrong)

/-- 'kedgelaw05.TrieLongest': WHATEVER THE INPUT: true; the input reads as it did. -/
def trieLongestSpec : ChangeSpec := { name := "trieLongest", fn := fun _ => fun
  | [d1, d2] => { results := [.lit (.bool true)], args := [d1, d2] }
  | _ => none }
def trieLongestRow : OpenClaim := { program := "ytlmcfjadhahlpaa", sum := "acee2fab6816efb113f00577c6468e57310c72aa8000d541854477df19a37d18", func := "kedge/kedgelaw05.TrieLongest", spec := "trieLongest", unfollowed := true, recurses := true, apart := false }
def TrieLongestSaid : Prop := trieLongestRow.holds Try.pinned (OpenSpec.ofChange trieLongestSpec)

/-- ITS FALSE NEIGHBOUR: 'it returns false'. Refute it at one input. -/
def trieLongestWrong : ChangeSpec := { name := "trieLongest", fn := fun _ => fun
  | [d1, d2] => { results := [.lit (.bool false)], args := [d1, d2] }
  | _ => none }
def TrieLongestWrongFalsely : Prop := trieLongestRow.holds Try.pinned (OpenSpec.ofChange trieLongestWrong)

/- THE SECOND FORM. 'bulk': how many values and letters a reading holds, each counted each time it is reached (what is shared counts as often as it is met; a slice's spare places count too). A statement '..UptoSaid' is the law's where the arguments, and the package variables that the reading takes, are together of bulk at most 1048576: NARROWER than '..Said'. Prove '..Said' where nothing that the law and all that it calls make is longer than what came in: it says more and counts as full. Else prove '..UptoSaid'. A law counts once. -/
mutual
def uptoBulk {H : Type} : DataW H → Nat
  | .lit (.string bytes) => bytes.length + 1
  | .lit _ => 1
  | .nil => 1
  | .ptr d => uptoBulk d + 1
  | .slice elems spare => uptoBulkAll elems + uptoBulkAll spare + 1
  | .agg parts => uptoBulkAll parts + 1
  | .iface _ d => uptoBulk d + 1
  | .map entries => uptoBulkEntries entries + 1
  | .held _ => 1
def uptoBulkAll {H : Type} : List (DataW H) → Nat
  | [] => 0
  | d :: r => uptoBulk d + uptoBulkAll r
def uptoBulkEntries {H : Type} : List (Lit × DataW H) → Nat
  | [] => 0
  | x :: r => uptoBulkEntry x + uptoBulkEntries r
def uptoBulkEntry {H : Type} : Lit × DataW H → Nat
  | (.string bytes, d) => bytes.length + uptoBulk d + 1
  | (_, d) => uptoBulk d + 1
 end
def uptoSmall : (H : Type) → List (DataW H) → Bool := fun _ ds => decide (uptoBulkAll ds ≤ 1048576)
def OpenSpec.upto (s : _root_.Go.ChangeSpec) : _root_.Go.OpenSpec := { _root_.Go.OpenSpec.ofChange s with cond := some uptoSmall }

/-- 'kedgelaw14.QueuePlays', WHERE WHAT IT READS IS OF BULK AT MOST 1048576: true; the input reads as it did. -/
def queuePlaysUptoRow : OpenClaim := { program := "ytlmcfjadhahlpaa", sum := "acee2fab6816efb113f00577c6468e57310c72aa8000d541854477df19a37d18", func := "kedge/kedgelaw14.QueuePlays", spec := "queuePlays", unfollowed := true, recurses := true, apart := false, narrowed := true }
def QueuePlaysUptoSaid : Prop := queuePlaysUptoRow.holds Try.pinned (OpenSpec.upto queuePlaysSpec)

/-- 'kedgelaw14.QueuePicks', WHERE WHAT IT READS IS OF BULK AT MOST 1048576: true; the input reads as it did. -/
def queuePicksUptoRow : OpenClaim := { program := "ytlmcfjadhahlpaa", sum := "acee2fab6816efb113f00577c6468e57310c72aa8000d541854477df19a37d18", func := "kedge/kedgelaw14.QueuePicks", spec := "queuePicks", unfollowed := true, recurses := true, apart := false, narrowed := true }
def QueuePicksUptoSaid : Prop := queuePicksUptoRow.holds Try.pinned (OpenSpec.upto queuePicksSpec)

/-- 'kedgelaw14.QueueIs', WHERE WHAT IT READS IS OF BULK AT MOST 1048576: true; the input reads as it did. -/
def queueIsUptoRow : OpenClaim := { program := "ytlmcfjadhahlpaa", sum := "acee2fab6816efb113f00577c6468e57310c72aa8000d541854477df19a37d18", func := "kedge/kedgelaw14.QueueIs", spec := "queueIs", unfollowed := true, recurses := true, apart := false, narrowed := true }
def QueueIsUptoSaid : Prop := queueIsUptoRow.holds Try.pinned (OpenSpec.upto queueIsSpec)

/-- 'kedgelaw14.QueueOnce', WHERE WHAT IT READS IS OF BULK AT MOST 1048576: true; the input reads as it did. -/
def queueOnceUptoRow : OpenClaim := { program := "ytlmcfjadhahlpaa", sum := "acee2fab6816efb113f00577c6468e57310c72aa8000d541854477df19a37d18", func := "kedge/kedgelaw14.QueueOnce", spec := "queueOnce", unfollowed := true, recurses := true, apart := false, narrowed := true }
def QueueOnceUptoSaid : Prop := queueOnceUptoRow.holds Try.pinned (OpenSpec.upto queueOnceSpec)

/-- 'kedgelaw14.QueueNarrows', WHERE WHAT IT READS IS OF BULK AT MOST 1048576: true; the input reads as it did. -/
def queueNarrowsUptoRow : OpenClaim := { program := "ytlmcfjadhahlpaa", sum := "acee2fab6816efb113f00577c6468e57310c72aa8000d541854477df19a37d18", func := "kedge/kedgelaw14.QueueNarrows", spec := "queueNarrows", unfollowed := true, recurses := true, apart := false, narrowed := true }
def QueueNarrowsUptoSaid : Prop := queueNarrowsUptoRow.holds Try.pinned (OpenSpec.upto queueNarrowsSpec)

/-- 'kedgelaw05.TriePut', WHERE WHAT IT READS IS OF BULK AT MOST 1048576: true; the input reads as it did. -/
def triePutUptoRow : OpenClaim := { program := "ytlmcfjadhahlpaa", sum := "acee2fab6816efb113f00577c6468e57310c72aa8000d541854477df19a37d18", func := "kedge/kedgelaw05.TriePut", spec := "triePut", unfollowed := true, recurses := true, apart := false, narrowed := true }
def TriePutUptoSaid : Prop := triePutUptoRow.holds Try.pinned (OpenSpec.upto triePutSpec)

/-- 'kedgelaw05.TrieGone', WHERE WHAT IT READS IS OF BULK AT MOST 1048576: true; the input reads as it did. -/
def trieGoneUptoRow : OpenClaim := { program := "ytlmcfjadhahlpaa", sum := "acee2fab6816efb113f00577c6468e57310c72aa8000d541854477df19a37d18", func := "kedge/kedgelaw05.TrieGone", spec := "trieGone", unfollowed := true, recurses := true, apart := false, narrowed := true }
def TrieGoneUptoSaid : Prop := trieGoneUptoRow.holds Try.pinned (OpenSpec.upto trieGoneSpec)

/-- 'kedgelaw05.TrieBound', WHERE WHAT IT READS IS OF BULK AT MOST 1048576: true; the input reads as it did. -/
def trieBoundUptoRow : OpenClaim := { program := "ytlmcfjadhahlpaa", sum := "acee2fab6816efb113f00577c6468e57310c72aa8000d541854477df19a37d18", func := "kedge/kedgelaw05.TrieBound", spec := "trieBound", unfollowed := true, recurses := true, apart := false, narrowed := true }
def TrieBoundUptoSaid : Prop := trieBoundUptoRow.holds Try.pinned (OpenSpec.upto trieBoundSpec)

/-- 'kedgelaw05.TrieUnder', WHERE WHAT IT READS IS OF BULK AT MOST 1048576: true; the input reads as it did. -/
def trieUnderUptoRow : OpenClaim := { program := "ytlmcfjadhahlpaa", sum := "acee2fab6816efb113f00577c6468e57310c72aa8000d541854477df19a37d18", func := "kedge/kedgelaw05.TrieUnder", spec := "trieUnder", unfollowed := true, recurses := true, apart := false, narrowed := true }
def TrieUnderUptoSaid : Prop := trieUnderUptoRow.holds Try.pinned (OpenSpec.upto trieUnderSpec)

/-- 'kedgelaw05.TriePlays', WHERE WHAT IT READS IS OF BULK AT MOST 1048576: true; the input reads as it did. -/
def triePlaysUptoRow : OpenClaim := { program := "ytlmcfjadhahlpaa", sum := "acee2fab6816efb113f00577c6468e57310c72aa8000d541854477df19a37d18", func := "kedge/kedgelaw05.TriePlays", spec := "triePlays", unfollowed := true, recurses := true, apart := false, narrowed := true }
def TriePlaysUptoSaid : Prop := triePlaysUptoRow.holds Try.pinned (OpenSpec.upto triePlaysSpec)

/-- 'kedgelaw05.TrieNone', WHERE WHAT IT READS IS OF BULK AT MOST 1048576: true; the input reads as it did. -/
def trieNoneUptoRow : OpenClaim := { program := "ytlmcfjadhahlpaa", sum := "acee2fab6816efb113f00577c6468e57310c72aa8000d541854477df19a37d18", func := "kedge/kedgelaw05.TrieNone", spec := "trieNone", unfollowed := true, recurses := true, apart := false, narrowed := true }
def TrieNoneUptoSaid : Prop := trieNoneUptoRow.holds Try.pinned (OpenSpec.upto trieNoneSpec)

/-- 'kedgelaw05.TrieLongest', WHERE WHAT IT READS IS OF BULK AT MOST 1048576: true; the input reads as it did. -/
def trieLongestUptoRow : OpenClaim := { program := "ytlmcfjadhahlpaa", sum := "acee2fab6816efb113f00577c6468e57310c72aa8000d541854477df19a37d18", func := "kedge/kedgelaw05.TrieLongest", spec := "trieLongest", unfollowed := true, recurses := true, apart := false, narrowed := true }
def TrieLongestUptoSaid : Prop := trieLongestUptoRow.holds Try.pinned (OpenSpec.upto trieLongestSpec)

end Rows
end Go.Proofs.Ytlmcfjadhahlpaa
