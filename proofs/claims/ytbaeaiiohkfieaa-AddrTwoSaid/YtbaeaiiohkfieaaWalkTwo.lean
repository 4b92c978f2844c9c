/-
  The plain law of AddrTwo: of any two addresses, and of any bytes.
-/
import Derived.Test.YtbaeaiiohkfieaaPEx3
import Derived.Test.YtbaeaiiohkfieaaRefA
namespace Go.Proofs.Ytbaeaiiohkfieaa.Hand
open Go.RowKit Go.Proofs.Ytbaeaiiohkfieaa.PE Go.Proofs.YtbaeaiiohkfieaaW.PrintWords Go.Proofs.YtbaeaiiohkfieaaW.PrintLast Go.Proofs.Ytbaeaiiohkfieaa.Bits Go.Proofs.Ytbaeaiiohkfieaa.Dig
set_option linter.unusedVariables false

theorem wf_u64 {n : Int} (h : (Lit.int .u64 n).wf = true) : u64 n := by
  simp [Lit.wf, IntKind.min, IntKind.max, IntKind.bits, IntKind.signed] at h
  constructor <;> omega
theorem wf_u8 {n : Int} (h : (Lit.int .u8 n).wf = true) : 0 ≤ n ∧ n < 256 := by
  simp [Lit.wf, IntKind.min, IntKind.max, IntKind.bits, IntKind.signed] at h
  constructor <;> omega
theorem from_some (l : List Int) (hb : ∀ i : Nat, i < l.length → 0 ≤ rd l i ∧ rd l i < 256) : ∃ x, addr_From.f l = some x := by
  unfold addr_From.f
  split
  · rw [gd_pos (fun i hi => hb i hi)]; exact ⟨_, rfl⟩
  · exact ⟨_, rfl⟩
theorem two_law (a0 a1 : Int) (a2 : Bool) (b0 b1 : Int) (b2 : Bool) (l : List Int) (ha : u64 a0 ∧ u64 a1) (hb : u64 b0 ∧ u64 b1) (hl : ∀ i : Nat, i < l.length → 0 ≤ rd l i ∧ rd l i < 256) : kedgelaw01_AddrTwo.f 1 a0 a1 a2 b0 b1 b2 l = some true := by
  obtain ⟨x, hx⟩ := from_some l hl
  unfold kedgelaw01_AddrTwo.f kedgeref01_From.f addr_Compare.f kedgeref01_Compare.f addr_Common.f kedgeref01_Common.f
  rw [show kedgelaw01_awake.f = some true from rfl, hx, gd_pos hl, gd_pos ⟨ha, hb⟩, gd_pos ⟨ha, hb⟩]
  simp [kedgelaw01_AddrTwo.j0]
theorem addrTwo_walk (a0 a1 : Int) (a2 : Bool) (b0 b1 : Int) (b2 : Bool) (A : Option Addr) (c : Nat) (l : List Int) (W : World) (h1 : (Lit.int .u64 a0).wf = true) (h2 : (Lit.int .u64 a1).wf = true) (h3 : (Lit.int .u64 b0).wf = true) (h4 : (Lit.int .u64 b1).wf = true)
    (hc : l.length ≤ c) (hC : Kd.C (Kd.int .u8) W A l.length l) (hl : ∀ x ∈ l, (Lit.int .u8 x).wf = true) (hs : l.length * 1 ≤ 140737488351232) :
    Calls Try.prog 6 #[.agg #[.int .u64 a0, .int .u64 a1, .bool a2], .agg #[.int .u64 b0, .int .u64 b1, .bool b2], .slice A l.length c] W fun e w' => e = .returned (.bool true) ∧ Below W.heap.size W w' :=
  kedgelaw01_AddrTwo.calls 1 a0 a1 a2 b0 b1 b2 A c l true W hC hc (two_law a0 a1 a2 b0 b1 b2 l ⟨wf_u64 h1, wf_u64 h2⟩ ⟨wf_u64 h3, wf_u64 h4⟩ (fun i hi => wf_u8 (hl _ (by
    have : rd l i = l[i] := by simp [rd, List.getD, hi]
    rw [this]; exact List.getElem_mem hi))))
end Go.Proofs.Ytbaeaiiohkfieaa.Hand
