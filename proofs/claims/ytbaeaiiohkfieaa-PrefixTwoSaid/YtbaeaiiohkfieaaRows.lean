/-
  No cell of these rows narrows 'for every input' (looked for: loops, veiled, ifaces, maps, wideKeys, modest, calm, conditions, laid).
  DERIVED. THE GIVEN ROWS OF THIS SEAT. 11 by the template 'for every input the law returns true; each argument reads behind the call as it read before'; 0 by the template 'total and deterministic' (their statements: YtbaeaiiohkfieaaTotals.lean).
  GIVEN WITH THE SEED: the statements are not yours to turn. If you find one false, say at which input.
  Laid BY PROGRAM, IN A SANDBOX (cutbox-rows.mjs): the forced cells as the released guide's own fill.sh prints them over the translation a9950a965812898b… (all of the seat's roots in one cut). By AI agents, Wed Nov 11 2026. No macro, syntax, notation, axiom, sorry.
-/
import Derived.Test.YtbaeaiiohkfieaaChecked
import GoSem.Claim
import GoSem.ClaimJoined
import GoSem.ClaimMapViews
import Derived.JoinedTies
import Derived.KernelRfl
namespace Go.Proofs.Ytbaeaiiohkfieaa
/- THE CELL 'sum', in the pinned program and in every row, IS THE sha256 OF THE DUMP (.gsa) THAT YtbaeaiiohkfieaaProg.lean LOADS. Nothing in Lean hashes anything: it is a label: what it is worth is what the hold of that sum in a sandbox is worth. -/
noncomputable def Try.pinned : Pinned := { name := "ytbaeaiiohkfieaa", sum := "a9950a965812898b2d670140505a602934b57fdf503cb1e7d4e7742784294e7b", checked := Try.checked }
namespace Rows
def none {H : Type} : Left H := { results := [], args := [] }

/-- 'kedgelaw01.AddrDigits': WHATEVER THE INPUT: true; the input reads as it did. -/
def addrDigitsSpec : ChangeSpec := { name := "addrDigits", fn := fun _ => fun
  | [d] => { results := [.lit (.bool true)], args := [d] }
  | _ => none }
def addrDigitsRow : OpenClaim := { program := "ytbaeaiiohkfieaa", sum := "a9950a965812898b2d670140505a602934b57fdf503cb1e7d4e7742784294e7b", func := "kedge/kedgelaw01.AddrDigits", spec := "addrDigits", apart := false }
def AddrDigitsSaid : Prop := addrDigitsRow.holds Try.pinned (OpenSpec.ofChange addrDigitsSpec)

/-- ITS FALSE NEIGHBOUR: 'it returns false'. Refute it at one input. -/
def addrDigitsWrong : ChangeSpec := { name := "addrDigits", fn := fun _ => fun
  | [d] => { results := [.lit (.bool false)], args := [d] }
  | _ => none }
def AddrDigitsWrongFalsely : Prop := addrDigitsRow.holds Try.pinned (OpenSpec.ofChange addrDigitsWrong)

/-- 'kedgelaw01.AddrCommon': WHATEVER THE INPUT: true; the input reads as it did. -/
def addrCommonSpec : ChangeSpec := { name := "addrCommon", fn := fun _ => fun
  | [d1, d2, d3] => { results := [.lit (.bool true)], args := [d1, d2, d3] }
  | _ => none }
def addrCommonRow : OpenClaim := { program := "ytbaeaiiohkfieaa", sum := "a9950a965812898b2d670140505a602934b57fdf503cb1e7d4e7742784294e7b", func := "kedge/kedgelaw01.AddrCommon", spec := "addrCommon", apart := false }
def AddrCommonSaid : Prop := addrCommonRow.holds Try.pinned (OpenSpec.ofChange addrCommonSpec)

/-- ITS FALSE NEIGHBOUR: 'it returns false'. Refute it at one input. -/
def addrCommonWrong : ChangeSpec := { name := "addrCommon", fn := fun _ => fun
  | [d1, d2, d3] => { results := [.lit (.bool false)], args := [d1, d2, d3] }
  | _ => none }
def AddrCommonWrongFalsely : Prop := addrCommonRow.holds Try.pinned (OpenSpec.ofChange addrCommonWrong)

/-- 'kedgelaw02.PrefixChain': WHATEVER THE INPUT: true; the input reads as it did. -/
def prefixChainSpec : ChangeSpec := { name := "prefixChain", fn := fun _ => fun
  | [d] => { results := [.lit (.bool true)], args := [d] }
  | _ => none }
def prefixChainRow : OpenClaim := { program := "ytbaeaiiohkfieaa", sum := "a9950a965812898b2d670140505a602934b57fdf503cb1e7d4e7742784294e7b", func := "kedge/kedgelaw02.PrefixChain", spec := "prefixChain", apart := false }
def PrefixChainSaid : Prop := prefixChainRow.holds Try.pinned (OpenSpec.ofChange prefixChainSpec)

/-- ITS FALSE NEIGHBOUR: 'it returns false'. Refute it at one input. -/
def prefixChainWrong : ChangeSpec := { name := "prefixChain", fn := fun _ => fun
  | [d] => { results := [.lit (.bool false)], args := [d] }
  | _ => none }
def PrefixChainWrongFalsely : Prop := prefixChainRow.holds Try.pinned (OpenSpec.ofChange prefixChainWrong)

/-- 'kedgelaw01.AddrTwo': WHATEVER THE INPUT: true; the input reads as it did. -/
def addrTwoSpec : ChangeSpec := { name := "addrTwo", fn := fun _ => fun
  | [d1, d2, d3] => { results := [.lit (.bool true)], args := [d1, d2, d3] }
  | _ => none }
def addrTwoRow : OpenClaim := { program := "ytbaeaiiohkfieaa", sum := "a9950a965812898b2d670140505a602934b57fdf503cb1e7d4e7742784294e7b", func := "kedge/kedgelaw01.AddrTwo", spec := "addrTwo", apart := false }
def AddrTwoSaid : Prop := addrTwoRow.holds Try.pinned (OpenSpec.ofChange addrTwoSpec)

/-- ITS FALSE NEIGHBOUR: 'it returns false'. Refute it at one input. -/
def addrTwoWrong : ChangeSpec := { name := "addrTwo", fn := fun _ => fun
  | [d1, d2, d3] => { results := [.lit (.bool false)], args := [d1, d2, d3] }
  | _ => none }
def AddrTwoWrongFalsely : Prop := addrTwoRow.holds Try.pinned (OpenSpec.ofChange addrTwoWrong)

/-- 'kedgelaw02.PrefixThree': WHATEVER THE INPUT: true; the input reads as it did. -/
def prefixThreeSpec : ChangeSpec := { name := "prefixThree", fn := fun _ => fun
  | [d1, d2, d3] => { results := [.lit (.bool true)], args := [d1, d2, d3] }
  | _ => none }
def prefixThreeRow : OpenClaim := { program := "ytbaeaiiohkfieaa", sum := "a9950a965812898b2d670140505a602934b57fdf503cb1e7d4e7742784294e7b", func := "kedge/kedgelaw02.PrefixThree", spec := "prefixThree", apart := false }
def PrefixThreeSaid : Prop := prefixThreeRow.holds Try.pinned (OpenSpec.ofChange prefixThreeSpec)

/-- ITS FALSE NEIGHBOUR: 'it returns false'. Refute it at one input. -/
def prefixThreeWrong : ChangeSpec := { name := "prefixThree", fn := fun _ => fun
  | [d1, d2, d3] => { results := [.lit (.bool false)], args := [d1, d2, d3] }
  | _ => none }
def PrefixThreeWrongFalsely : Prop := prefixThreeRow.holds Try.pinned (OpenSpec.ofChange prefixThreeWrong)

/-- 'kedgelaw02.PrefixEnds': WHATEVER THE INPUT: true; the input reads as it did. -/
def prefixEndsSpec : ChangeSpec := { name := "prefixEnds", fn := fun _ => fun
  | [d1, d2, d3] => { results := [.lit (.bool true)], args := [d1, d2, d3] }
  | _ => none }
def prefixEndsRow : OpenClaim := { program := "ytbaeaiiohkfieaa", sum := "a9950a965812898b2d670140505a602934b57fdf503cb1e7d4e7742784294e7b", func := "kedge/kedgelaw02.PrefixEnds", spec := "prefixEnds", apart := false }
def PrefixEndsSaid : Prop := prefixEndsRow.holds Try.pinned (OpenSpec.ofChange prefixEndsSpec)

/-- ITS FALSE NEIGHBOUR: 'it returns false'. Refute it at one input. -/
def prefixEndsWrong : ChangeSpec := { name := "prefixEnds", fn := fun _ => fun
  | [d1, d2, d3] => { results := [.lit (.bool false)], args := [d1, d2, d3] }
  | _ => none }
def PrefixEndsWrongFalsely : Prop := prefixEndsRow.holds Try.pinned (OpenSpec.ofChange prefixEndsWrong)

/-- 'kedgelaw01.AddrOrder': WHATEVER THE INPUT: true; the input reads as it did. -/
def addrOrderSpec : ChangeSpec := { name := "addrOrder", fn := fun _ => fun
  | [d1, d2, d3, d4] => { results := [.lit (.bool true)], args := [d1, d2, d3, d4] }
  | _ => none }
def addrOrderRow : OpenClaim := { program := "ytbaeaiiohkfieaa", sum := "a9950a965812898b2d670140505a602934b57fdf503cb1e7d4e7742784294e7b", func := "kedge/kedgelaw01.AddrOrder", spec := "addrOrder", inPlace := ["math/bits.Add64"], apart := false }
def AddrOrderSaid : Prop := addrOrderRow.holds Try.pinned (OpenSpec.ofChange addrOrderSpec)

/-- ITS FALSE NEIGHBOUR: 'it returns false'. Refute it at one input. -/
def addrOrderWrong : ChangeSpec := { name := "addrOrder", fn := fun _ => fun
  | [d1, d2, d3, d4] => { results := [.lit (.bool false)], args := [d1, d2, d3, d4] }
  | _ => none }
def AddrOrderWrongFalsely : Prop := addrOrderRow.holds Try.pinned (OpenSpec.ofChange addrOrderWrong)

/-- 'kedgelaw01.AddrNext': WHATEVER THE INPUT: true; the input reads as it did. -/
def addrNextSpec : ChangeSpec := { name := "addrNext", fn := fun _ => fun
  | [d1, d2] => { results := [.lit (.bool true)], args := [d1, d2] }
  | _ => none }
def addrNextRow : OpenClaim := { program := "ytbaeaiiohkfieaa", sum := "a9950a965812898b2d670140505a602934b57fdf503cb1e7d4e7742784294e7b", func := "kedge/kedgelaw01.AddrNext", spec := "addrNext", inPlace := ["math/bits.Add64"], apart := false }
def AddrNextSaid : Prop := addrNextRow.holds Try.pinned (OpenSpec.ofChange addrNextSpec)

/-- ITS FALSE NEIGHBOUR: 'it returns false'. Refute it at one input. -/
def addrNextWrong : ChangeSpec := { name := "addrNext", fn := fun _ => fun
  | [d1, d2] => { results := [.lit (.bool false)], args := [d1, d2] }
  | _ => none }
def AddrNextWrongFalsely : Prop := addrNextRow.holds Try.pinned (OpenSpec.ofChange addrNextWrong)

/-- 'kedgelaw02.PrefixOrder': WHATEVER THE INPUT: true; the input reads as it did. -/
def prefixOrderSpec : ChangeSpec := { name := "prefixOrder", fn := fun _ => fun
  | [d1, d2, d3] => { results := [.lit (.bool true)], args := [d1, d2, d3] }
  | _ => none }
def prefixOrderRow : OpenClaim := { program := "ytbaeaiiohkfieaa", sum := "a9950a965812898b2d670140505a602934b57fdf503cb1e7d4e7742784294e7b", func := "kedge/kedgelaw02.PrefixOrder", spec := "prefixOrder", apart := false }
def PrefixOrderSaid : Prop := prefixOrderRow.holds Try.pinned (OpenSpec.ofChange prefixOrderSpec)

/-- ITS FALSE NEIGHBOUR: 'it returns false'. Refute it at one input. -/
def prefixOrderWrong : ChangeSpec := { name := "prefixOrder", fn := fun _ => fun
  | [d1, d2, d3] => { results := [.lit (.bool false)], args := [d1, d2, d3] }
  | _ => none }
def PrefixOrderWrongFalsely : Prop := prefixOrderRow.holds Try.pinned (OpenSpec.ofChange prefixOrderWrong)

/-- 'kedgelaw02.PrefixTwo': WHATEVER THE INPUT: true; the input reads as it did. -/
def prefixTwoSpec : ChangeSpec := { name := "prefixTwo", fn := fun _ => fun
  | [d1, d2] => { results := [.lit (.bool true)], args := [d1, d2] }
  | _ => none }
def prefixTwoRow : OpenClaim := { program := "ytbaeaiiohkfieaa", sum := "a9950a965812898b2d670140505a602934b57fdf503cb1e7d4e7742784294e7b", func := "kedge/kedgelaw02.PrefixTwo", spec := "prefixTwo", apart := false }
def PrefixTwoSaid : Prop := prefixTwoRow.holds Try.pinned (OpenSpec.ofChange prefixTwoSpec)

/-- ITS FALSE NEIGHBOUR: 'it returns false'. Refute it at one input. -/
def prefixTwoWrong : ChangeSpec := { name := "prefixTwo", fn := fun _ => fun
  | [d1, d2] => { results := [.lit (.bool false)], args := [d1, d2] }
  | _ => none }
def PrefixTwoWrongFalsely : Prop := prefixTwoRow.holds Try.pinned (OpenSpec.ofChange prefixTwoWrong)

/-- 'kedgelaw02.PrefixKin': WHATEVER THE INPUT: true; the input reads as it did. -/
def prefixKinSpec : ChangeSpec := { name := "prefixKin", fn := fun _ => fun
  | [d1, d2] => { results := [.lit (.bool true)], args := [d1, d2] }
  | _ => none }
def prefixKinRow : OpenClaim := { program := "ytbaeaiiohkfieaa", sum := "a9950a965812898b2d670140505a602934b57fdf503cb1e7d4e7742784294e7b", func := "kedge/kedgelaw02.PrefixKin", spec := "prefixKin", inPlace := ["math/bits.Add64"], apart := false }
def PrefixKinSaid : Prop := prefixKinRow.holds Try.pinned (OpenSpec.ofChange prefixKinSpec)

/-- ITS FALSE NEIGHBOUR: 'it returns false'. Refute it at one input. -/
def prefixKinWrong : ChangeSpec := { name := "prefixKin", fn := fun _ => fun
  | [d1, d2] => { results := [.lit (.bool false)], args := [d1, d2] }
  | _ => none }
def PrefixKinWrongFalsely : Prop := prefixKinRow.holds Try.pinned (OpenSpec.ofChange prefixKinWrong)

/- THE SECOND FORM. 'bulk': how many values and letters a reading holds, each counted each time it is reached (what is shared counts as often as it is met; a slice's spare places count too). A statement '..UptoSaid' is the law's where the arguments, and the package variables that the reading takes, are together of bulk at most 1048576: NARROWER than '..Said'. Prove '..Said' where nothing that the law and all that it calls make is longer than what came in: it says more and counts as full. Else prove '..UptoSaid'. A law counts once. -/
mutual
def uptoBulk {H : Type} : DataW H → Nat
  | .lit (.string bytes) => bytes.length + 1
  | .lit _ => 1
  | .nil => 1
  | .ptr d => uptoBulk d + 1
  | .slice elems spare => uptoBulkAll elems + uptoBulkAll spare + 1
  | .agg parts => uptoBulkAll parts + 1
  | .iface _ d => uptoBulk d + 1
  | .map entries => uptoBulkEntries entries + 1
  | .held _ => 1
def uptoBulkAll {H : Type} : List (DataW H) → Nat
  | [] => 0
  | d :: r => uptoBulk d + uptoBulkAll r
def uptoBulkEntries {H : Type} : List (Lit × DataW H) → Nat
  | [] => 0
  | x :: r => uptoBulkEntry x + uptoBulkEntries r
def uptoBulkEntry {H : Type} : Lit × DataW H → Nat
  | (.string bytes, d) => bytes.length + uptoBulk d + 1
  | (_, d) => uptoBulk d + 1
 end
def uptoSmall : (H : Type) → List (DataW H) → Bool := fun _ ds => decide (uptoBulkAll ds ≤ 1048576)
def OpenSpec.upto (s : _root_.Go.ChangeSpec) : _root_.Go.OpenSpec := { _root_.Go.OpenSpec.ofChange s with cond := some uptoSmall }

/-- 'kedgelaw01.AddrDigits', WHERE WHAT IT READS IS OF BULK AT MOST 1048576: true; the input reads as it did. -/
def addrDigitsUptoRow : OpenClaim := { program := "ytbaeaiiohkfieaa", sum := "a9950a965812898b2d670140505a602934b57fdf503cb1e7d4e7742784294e7b", func := "kedge/kedgelaw01.AddrDigits", spec := "addrDigits", apart := false, narrowed := true }
def AddrDigitsUptoSaid : Prop := addrDigitsUptoRow.holds Try.pinned (OpenSpec.upto addrDigitsSpec)

/-- 'kedgelaw01.AddrCommon', WHERE WHAT IT READS IS OF BULK AT MOST 1048576: true; the input reads as it did. -/
def addrCommonUptoRow : OpenClaim := { program := "ytbaeaiiohkfieaa", sum := "a9950a965812898b2d670140505a602934b57fdf503cb1e7d4e7742784294e7b", func := "kedge/kedgelaw01.AddrCommon", spec := "addrCommon", apart := false, narrowed := true }
def AddrCommonUptoSaid : Prop := addrCommonUptoRow.holds Try.pinned (OpenSpec.upto addrCommonSpec)

/-- 'kedgelaw02.PrefixChain', WHERE WHAT IT READS IS OF BULK AT MOST 1048576: true; the input reads as it did. -/
def prefixChainUptoRow : OpenClaim := { program := "ytbaeaiiohkfieaa", sum := "a9950a965812898b2d670140505a602934b57fdf503cb1e7d4e7742784294e7b", func := "kedge/kedgelaw02.PrefixChain", spec := "prefixChain", apart := false, narrowed := true }
def PrefixChainUptoSaid : Prop := prefixChainUptoRow.holds Try.pinned (OpenSpec.upto prefixChainSpec)

/-- 'kedgelaw01.AddrTwo', WHERE WHAT IT READS IS OF BULK AT MOST 1048576: true; the input reads as it did. -/
def addrTwoUptoRow : OpenClaim := { program := "ytbaeaiiohkfieaa", sum := "a9950a965812898b2d670140505a602934b57fdf503cb1e7d4e7742784294e7b", func := "kedge/kedgelaw01.AddrTwo", spec := "addrTwo", apart := false, narrowed := true }
def AddrTwoUptoSaid : Prop := addrTwoUptoRow.holds Try.pinned (OpenSpec.upto addrTwoSpec)

/-- 'kedgelaw02.PrefixThree', WHERE WHAT IT READS IS OF BULK AT MOST 1048576: true; the input reads as it did. -/
def prefixThreeUptoRow : OpenClaim := { program := "ytbaeaiiohkfieaa", sum := "a9950a965812898b2d670140505a602934b57fdf503cb1e7d4e7742784294e7b", func := "kedge/kedgelaw02.PrefixThree", spec := "prefixThree", apart := false, narrowed := true }
def PrefixThreeUptoSaid : Prop := prefixThreeUptoRow.holds Try.pinned (OpenSpec.upto prefixThreeSpec)

/-- 'kedgelaw02.PrefixEnds', WHERE WHAT IT READS IS OF BULK AT MOST 1048576: true; the input reads as it did. -/
def prefixEndsUptoRow : OpenClaim := { program := "ytbaeaiiohkfieaa", sum := "a9950a965812898b2d670140505a602934b57fdf503cb1e7d4e7742784294e7b", func := "kedge/kedgelaw02.PrefixEnds", spec := "prefixEnds", apart := false, narrowed := true }
def PrefixEndsUptoSaid : Prop := prefixEndsUptoRow.holds Try.pinned (OpenSpec.upto prefixEndsSpec)

/-- 'kedgelaw01.AddrOrder', WHERE WHAT IT READS IS OF BULK AT MOST 1048576: true; the input reads as it did. -/
def addrOrderUptoRow : OpenClaim := { program := "ytbaeaiiohkfieaa", sum := "a9950a965812898b2d670140505a602934b57fdf503cb1e7d4e7742784294e7b", func := "kedge/kedgelaw01.AddrOrder", spec := "addrOrder", inPlace := ["math/bits.Add64"], apart := false, narrowed := true }
def AddrOrderUptoSaid : Prop := addrOrderUptoRow.holds Try.pinned (OpenSpec.upto addrOrderSpec)

/-- 'kedgelaw01.AddrNext', WHERE WHAT IT READS IS OF BULK AT MOST 1048576: true; the input reads as it did. -/
def addrNextUptoRow : OpenClaim := { program := "ytbaeaiiohkfieaa", sum := "a9950a965812898b2d670140505a602934b57fdf503cb1e7d4e7742784294e7b", func := "kedge/kedgelaw01.AddrNext", spec := "addrNext", inPlace := ["math/bits.Add64"], apart := false, narrowed := true }
def AddrNextUptoSaid : Prop := addrNextUptoRow.holds Try.pinned (OpenSpec.upto addrNextSpec)

/-- 'kedgelaw02.PrefixOrder', WHERE WHAT IT READS IS OF BULK AT MOST 1048576: true; the input reads as it did. -/
def prefixOrderUptoRow : OpenClaim := { program := "ytbaeaiiohkfieaa", sum := "a9950a965812898b2d670140505a602934b57fdf503cb1e7d4e7742784294e7b", func := "kedge/kedgelaw02.PrefixOrder", spec := "prefixOrder", apart := false, narrowed := true }
def PrefixOrderUptoSaid : Prop := prefixOrderUptoRow.holds Try.pinned (OpenSpec.upto prefixOrderSpec)

/-- 'kedgelaw02.PrefixTwo', WHERE WHAT IT READS IS OF BULK AT MOST 1048576: true; the input reads as it did. -/
def prefixTwoUptoRow : OpenClaim := { program := "ytbaeaiiohkfieaa", sum := "a9950a965812898b2d670140505a602934b57fdf503cb1e7d4e7742784294e7b", func := "kedge/kedgelaw02.PrefixTwo", spec := "prefixTwo", apart := false, narrowed := true }
def PrefixTwoUptoSaid : Prop := prefixTwoUptoRow.holds Try.pinned (OpenSpec.upto prefixTwoSpec)

/-- 'kedgelaw02.PrefixKin', WHERE WHAT IT READS IS OF BULK AT MOST 1048576: true; the input reads as it did. -/
def prefixKinUptoRow : OpenClaim := { program := "ytbaeaiiohkfieaa", sum := "a9950a965812898b2d670140505a602934b57fdf503cb1e7d4e7742784294e7b", func := "kedge/kedgelaw02.PrefixKin", spec := "prefixKin", inPlace := ["math/bits.Add64"], apart := false, narrowed := true }
def PrefixKinUptoSaid : Prop := prefixKinUptoRow.holds Try.pinned (OpenSpec.upto prefixKinSpec)

end Rows
end Go.Proofs.Ytbaeaiiohkfieaa
