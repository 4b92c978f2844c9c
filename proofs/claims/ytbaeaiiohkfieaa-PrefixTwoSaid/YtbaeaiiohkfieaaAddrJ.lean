/-
  The contracts of package addr's Compare and Common, out of the driver's printed walks (set C).
-/
import Derived.Test.YtbaeaiiohkfieaaCmn
import Derived.Test.YtbaeaiiohkfieaaPCx2
import Derived.Test.YtbaeaiiohkfieaaPCx4
namespace Go.Proofs.Ytbaeaiiohkfieaa.Hand
open Go.RowKit Go.Proofs.YtbaeaiiohkfieaaW.PrintWords Go.Proofs.YtbaeaiiohkfieaaW.PrintLast Go.Proofs.Ytbaeaiiohkfieaa.Bits Go.Proofs.Ytbaeaiiohkfieaa.Dig
set_option linter.unusedVariables false

theorem compare_c (a0 a1 : Int) (a2 : Bool) (b0 b1 : Int) (b2 : Bool) (ha0 : u64 a0) (ha1 : u64 a1) (hb0 : u64 b0) (hb1 : u64 b1) (w : World) :
    Calls Try.prog 29 #[.agg #[.int .u64 a0, .int .u64 a1, .bool a2], .agg #[.int .u64 b0, .int .u64 b1, .bool b2]] w fun e w' => e = .returned (.int .i64 (compA a0 a1 a2 b0 b1 b2)) ∧ Below w.heap.size w w' := by
  refine PC.addr_Compare.calls a0 a1 a2 b0 b1 b2 _ w ?_
  unfold PC.addr_Compare.f addr_read.f addr_Width.f cmp_Compare_int.f cmp_Compare_uint64.f
  rw [gd_pos ⟨ha0, ha1⟩, gd_pos ⟨hb0, hb1⟩]
  rfl
theorem mn_nat (a b : Nat) : mn (a : Int) (b : Int) = ((min a b : Nat) : Int) := by unfold mn; split <;> omega
theorem u_xor (a b : Nat) (ha : a < 18446744073709551616) (hb : b < 18446744073709551616) : u64 ((a ^^^ b : Nat) : Int) := by
  have : a ^^^ b < 18446744073709551616 := Nat.xor_lt_two_pow (n := 64) ha hb
  constructor <;> omega
theorem common_c (a0 a1 : Int) (a2 : Bool) (b0 b1 : Int) (b2 : Bool) (ha0 : u64 a0) (ha1 : u64 a1) (hb0 : u64 b0) (hb1 : u64 b1) (w : World) :
    Calls Try.prog 20 #[.agg #[.int .u64 a0, .int .u64 a1, .bool a2], .agg #[.int .u64 b0, .int .u64 b1, .bool b2]] w fun e w' => e = .returned (.int .i64 (commonA a0 a1 a2 b0 b1 b2)) ∧ Below w.heap.size w w' := by
  refine PC.addr_Common.calls 1 a0 a1 a2 b0 b1 b2 _ w ?_
  unfold PC.addr_Common.f addr_read.f commonA
  rw [gd_pos ⟨ha0, ha1⟩, gd_pos ⟨hb0, hb1⟩]
  by_cases h : a2 = b2
  · subst h
    have hx := cmn_two a2 (D a0 a1) (D b0 b1) _ _ rfl rfl
    have e1 : cmn (fun i => (wd (fun i => decide (i < W a2) && D a0 a1 i)).testBit (63 - i)) (fun i => (wd (fun i => decide (i < W a2) && D b0 b1 i)).testBit (63 - i)) 64 = cmn (Dw a2 (D a0 a1)) (Dw a2 (D b0 b1)) 64 :=
      cmn_congr (fun i hi => by rw [hi_bits a2 _ hi, hi_bits a2 _ hi])
    have e2 : cmn (fun i => (wd (fun i => decide (64 + i < W a2) && D a0 a1 (64 + i))).testBit (63 - i)) (fun i => (wd (fun i => decide (64 + i < W a2) && D b0 b1 (64 + i))).testBit (63 - i)) 64 = cmn (fun i => Dw a2 (D a0 a1) (64 + i)) (fun i => Dw a2 (D b0 b1) (64 + i)) 64 :=
      cmn_congr (fun i hi => by rw [lo_bits a2 _ hi, lo_bits a2 _ hi])
    rw [← lead_xor (wd_lt _) (wd_lt _)] at e1 e2
    have l1 := cmn_le (Dw a2 (D a0 a1)) (Dw a2 (D b0 b1)) 64
    have l2 := cmn_le (fun i => Dw a2 (D a0 a1) (64 + i)) (fun i => Dw a2 (D b0 b1) (64 + i)) 64
    have g1 : bits_LeadingZeros64.f (Go.bits .xor .u64 (hiA a2 (D a0 a1)) (hiA a2 (D b0 b1))) = some ((cmn (Dw a2 (D a0 a1)) (Dw a2 (D b0 b1)) 64 : Nat) : Int) := by
      unfold bits_LeadingZeros64.f hiA
      rw [xor64 (wd_lt _) (wd_lt _), gd_pos (u_xor _ _ (wd_lt _) (wd_lt _)), Int.toNat_natCast, ← e1]
      refine congrArg some ?_
      have := blen_le (show (wd fun i => decide (i < W a2) && D a0 a1 i) ^^^ (wd fun i => decide (i < W a2) && D b0 b1 i) < 2 ^ 64 from Nat.xor_lt_two_pow (n := 64) (wd_lt _) (wd_lt _))
      omega
    have g2 : bits_LeadingZeros64.f (Go.bits .xor .u64 (loA a2 (D a0 a1)) (loA a2 (D b0 b1))) = some ((cmn (fun i => Dw a2 (D a0 a1) (64 + i)) (fun i => Dw a2 (D b0 b1) (64 + i)) 64 : Nat) : Int) := by
      unfold bits_LeadingZeros64.f loA
      rw [xor64 (wd_lt _) (wd_lt _), gd_pos (u_xor _ _ (wd_lt _) (wd_lt _)), Int.toNat_natCast, ← e2]
      refine congrArg some ?_
      have := blen_le (show (wd fun i => decide (64 + i < W a2) && D a0 a1 (64 + i)) ^^^ (wd fun i => decide (64 + i < W a2) && D b0 b1 (64 + i)) < 2 ^ 64 from Nat.xor_lt_two_pow (n := 64) (wd_lt _) (wd_lt _))
      omega
    clear e1 e2
    rw [if_neg (by simp), if_pos rfl, ← hx]
    simp only [Option.bind_some, g1, g2, PC.addr_Common.j0, addr_Width.f]
    generalize cmn (Dw a2 (D a0 a1)) (Dw a2 (D b0 b1)) 64 = n1 at *
    generalize cmn (fun i => Dw a2 (D a0 a1) (64 + i)) (fun i => Dw a2 (D b0 b1) (64 + i)) 64 = n2 at *
    by_cases c1 : n1 = 64
    · rw [if_pos (by omega), if_pos c1, wr64 _ (by omega), ← mn_nat]
      simp
    · rw [if_neg (by omega), if_neg c1, mn_nat]
  · rw [if_pos (by cases a2 <;> cases b2 <;> simp_all), if_neg h]

noncomputable def addr_Compare.f (a0 a1 : Int) (a2 : Bool) (b0 b1 : Int) (b2 : Bool) : Option Int := gd ((u64 a0 ∧ u64 a1) ∧ u64 b0 ∧ u64 b1) (compA a0 a1 a2 b0 b1 b2)
theorem addr_Compare.calls (a0 a1 : Int) (a2 : Bool) (b0 b1 : Int) (b2 : Bool) (r : Int) (w : World) (h : addr_Compare.f a0 a1 a2 b0 b1 b2 = some r) :
    Calls Try.prog 29 #[.agg #[.int .u64 a0, .int .u64 a1, .bool a2], .agg #[.int .u64 b0, .int .u64 b1, .bool b2]] w fun e w' => e = .returned (.int .i64 r) ∧ Below w.heap.size w w' := by
  obtain ⟨⟨⟨h0, h1⟩, h2, h3⟩, rfl⟩ := gd_some h
  exact compare_c a0 a1 a2 b0 b1 b2 h0 h1 h2 h3 w
noncomputable def addr_Common.f (a0 a1 : Int) (a2 : Bool) (b0 b1 : Int) (b2 : Bool) : Option Int := gd ((u64 a0 ∧ u64 a1) ∧ u64 b0 ∧ u64 b1) (commonA a0 a1 a2 b0 b1 b2)
theorem addr_Common.calls (a0 a1 : Int) (a2 : Bool) (b0 b1 : Int) (b2 : Bool) (r : Int) (w : World) (h : addr_Common.f a0 a1 a2 b0 b1 b2 = some r) :
    Calls Try.prog 20 #[.agg #[.int .u64 a0, .int .u64 a1, .bool a2], .agg #[.int .u64 b0, .int .u64 b1, .bool b2]] w fun e w' => e = .returned (.int .i64 r) ∧ Below w.heap.size w w' := by
  obtain ⟨⟨⟨h0, h1⟩, h2, h3⟩, rfl⟩ := gd_some h
  exact common_c a0 a1 a2 b0 b1 b2 h0 h1 h2 h3 w
end Go.Proofs.Ytbaeaiiohkfieaa.Hand
