/-
  The walks of package addr's Mask and Fill, by the contracts of its inner functions.
-/
import Derived.Test.YtbaeaiiohkfieaaAddrB
namespace Go.Proofs.Ytbaeaiiohkfieaa.Hand
open Go.RowKit Go.Proofs.YtbaeaiiohkfieaaW.PrintWords Go.Proofs.YtbaeaiiohkfieaaW.PrintLast Go.Proofs.Ytbaeaiiohkfieaa.Bits Go.Proofs.Ytbaeaiiohkfieaa.Dig
set_option linter.unusedVariables false
set_option linter.unusedSimpArgs false
attribute [local go_sem] max2_mxi min2_mni max_2 min_2 min_3 setCell_setCell

/-- The digits behind a Mask, a Fill. -/
def maskA (hi lo n : Int) (i : Nat) : Bool := decide ((i : Int) < n) && D hi lo i
def fillA (hi lo n : Int) (i : Nat) : Bool := decide (n ≤ (i : Int)) || D hi lo i

theorem mask_hi (hi lo n : Int) (v6 : Bool) : Go.bits .andNot .u64 (hiA v6 (D hi lo)) (oneW (mxi 0 (mni n (W v6 : Nat))) (W v6 : Nat) 0) = hiA v6 (maskA hi lo n) := by
  unfold oneW hiA
  rw [andNot64 (wd_lt _) (wd_lt _)]
  congr 1
  refine eq_wd (Nat.lt_of_le_of_lt Nat.and_le_left (wd_lt _)) (fun i hi => ?_)
  rw [Nat.testBit_and, testBit_not (wd_lt _), testBit_wd, testBit_wd, show 63 - (63 - i) = i by omega]
  unfold maskA mxi mni
  by_cases h : i < W v6
  · rw [show decide (63 - i < 64) = true by simp; omega, decide_eq_true h]
    simp only [Bool.true_and]
    rw [Bool.and_comm]
    congr 1
    rw [← decide_not, decide_eq_decide]
    omega
  · simp [h]
theorem mask_lo (hi lo n : Int) (v6 : Bool) : Go.bits .andNot .u64 (loA v6 (D hi lo)) (oneW (mxi 0 (mni n (W v6 : Nat))) (W v6 : Nat) 64) = loA v6 (maskA hi lo n) := by
  unfold oneW loA
  rw [andNot64 (wd_lt _) (wd_lt _)]
  congr 1
  refine eq_wd (Nat.lt_of_le_of_lt Nat.and_le_left (wd_lt _)) (fun i hi => ?_)
  rw [Nat.testBit_and, testBit_not (wd_lt _), testBit_wd, testBit_wd, show 63 - (63 - i) = i by omega]
  unfold maskA mxi mni
  by_cases h : 64 + i < W v6
  · rw [show decide (63 - i < 64) = true by simp; omega, decide_eq_true h]
    simp only [Bool.true_and]
    rw [Bool.and_comm]
    congr 1
    rw [← decide_not, decide_eq_decide]
    omega
  · simp [h]
theorem fill_hi (hi lo n : Int) (v6 : Bool) : Go.bits .or .u64 (hiA v6 (D hi lo)) (oneW (mxi 0 (mni n (W v6 : Nat))) (W v6 : Nat) 0) = hiA v6 (fillA hi lo n) := by
  unfold oneW hiA
  rw [or64 (wd_lt _) (wd_lt _)]
  congr 1
  refine eq_wd (Nat.or_lt_two_pow (n := 64) (wd_lt _) (wd_lt _)) (fun i hi => ?_)
  rw [Nat.testBit_or, testBit_wd, testBit_wd, show 63 - (63 - i) = i by omega]
  unfold fillA mxi mni
  by_cases h : i < W v6
  · rw [show decide (63 - i < 64) = true by simp; omega, decide_eq_true h]
    simp only [Bool.true_and]
    rw [Bool.or_comm]
    congr 1
    rw [decide_eq_decide]
    omega
  · have : ¬ ((0 : Int) + i < (W v6 : Nat)) := by omega
    simp [h]
theorem fill_lo (hi lo n : Int) (v6 : Bool) : Go.bits .or .u64 (loA v6 (D hi lo)) (oneW (mxi 0 (mni n (W v6 : Nat))) (W v6 : Nat) 64) = loA v6 (fillA hi lo n) := by
  unfold oneW loA
  rw [or64 (wd_lt _) (wd_lt _)]
  congr 1
  refine eq_wd (Nat.or_lt_two_pow (n := 64) (wd_lt _) (wd_lt _)) (fun i hi => ?_)
  rw [Nat.testBit_or, testBit_wd, testBit_wd, show 63 - (63 - i) = i by omega]
  unfold fillA mxi mni
  by_cases h : 64 + i < W v6
  · rw [show decide (63 - i < 64) = true by simp; omega, decide_eq_true h]
    simp only [Bool.true_and]
    rw [Bool.or_comm]
    congr 1
    rw [decide_eq_decide]
    push_cast
    omega
  · simp [h]; omega

set_option maxHeartbeats 1000000 in
theorem mask_c (hi lo : Int) (v6 : Bool) (n : Int) (hu : u64 hi) (lu : u64 lo) (w : World) :
    Calls Try.prog 18 #[.agg #[.int .u64 hi, .int .u64 lo, .bool v6], .int .i64 n] w fun e w' =>
      e = .returned (.agg #[.int .u64 (hiA v6 (maskA hi lo n)), .int .u64 (loA v6 (maskA hi lo n)), .bool v6]) ∧ Below w.heap.size w w' := by
  rw [← mask_hi, ← mask_lo]
  have i0 := ix0
  have i1 := ix1
  go_enter Try.func18, Try.ntmps18
  go_wp2_with (first | (go_at_call 46; refine (read_c _ _ _ hu lu _).mono ?_; rintro e w1 ⟨rfl, hb⟩; obtain ⟨hc, hf⟩ := bcell hb; have hz : w.heap.size < w1.heap.size := (by have := hb.size; (try simp at this); omega); have hz' : w.heap.size + 1 < w1.heap.size := (by have := hb.size; (try simp at this); omega)) | (go_at_call 47; refine (tail_c _ _ _ _ _).mono ?_; rintro e w2 ⟨rfl, hb2⟩; obtain ⟨hc2, hf2⟩ := bcell hb2; have hz2 : w1.heap.size < w2.heap.size := (by have := hb2.size; (try simp at this); omega); have hz3 : w.heap.size < w2.heap.size := (by omega); have hz4 : w.heap.size + 1 < w2.heap.size := (by omega)))
  refine wp_loop_rounds 3 ?_
  rw [rounds_succ]
  go_wp2
  rw [rounds_succ]
  go_wp2
  rw [rounds_succ]
  go_wp2_with (go_at_call 48; refine (of_c _ _ _ _).mono ?_; rintro e w3 ⟨rfl, hb3⟩; obtain ⟨hc3, hf3⟩ := bcell hb3; have hz5 : w.heap.size < w3.heap.size := (by have := hb3.size; (try simp at this); omega); have hz6 : w.heap.size + 1 < w3.heap.size := (by have := hb3.size; (try simp at this); omega))
  refine bodyPost_ret ?_ rfl ⟨rfl, ?_⟩
  · simp [results, Try.results18, go_sem, hc, hc2, hc3, hz, hz', hz2, hz3, hz4, hz5, hz6]
  · repeat (first | exact Below.refl _ _ | refine below_alloc ?_ _ | refine below_step ?_ hb3 | refine below_step ?_ hb2 | refine below_step ?_ hb | refine Below.setCell ?_ (by simp <;> omega) _)

set_option maxHeartbeats 1000000 in
theorem fill_c (hi lo : Int) (v6 : Bool) (n : Int) (hu : u64 hi) (lu : u64 lo) (w : World) :
    Calls Try.prog 15 #[.agg #[.int .u64 hi, .int .u64 lo, .bool v6], .int .i64 n] w fun e w' =>
      e = .returned (.agg #[.int .u64 (hiA v6 (fillA hi lo n)), .int .u64 (loA v6 (fillA hi lo n)), .bool v6]) ∧ Below w.heap.size w w' := by
  rw [← fill_hi, ← fill_lo]
  have i0 := ix0
  have i1 := ix1
  go_enter Try.func15, Try.ntmps15
  go_wp2_with (first | (go_at_call 46; refine (read_c _ _ _ hu lu _).mono ?_; rintro e w1 ⟨rfl, hb⟩; obtain ⟨hc, hf⟩ := bcell hb; have hz : w.heap.size < w1.heap.size := (by have := hb.size; (try simp at this); omega); have hz' : w.heap.size + 1 < w1.heap.size := (by have := hb.size; (try simp at this); omega)) | (go_at_call 47; refine (tail_c _ _ _ _ _).mono ?_; rintro e w2 ⟨rfl, hb2⟩; obtain ⟨hc2, hf2⟩ := bcell hb2; have hz2 : w1.heap.size < w2.heap.size := (by have := hb2.size; (try simp at this); omega); have hz3 : w.heap.size < w2.heap.size := (by omega); have hz4 : w.heap.size + 1 < w2.heap.size := (by omega)))
  refine wp_loop_rounds 3 ?_
  rw [rounds_succ]
  go_wp2
  rw [rounds_succ]
  go_wp2
  rw [rounds_succ]
  go_wp2_with (go_at_call 48; refine (of_c _ _ _ _).mono ?_; rintro e w3 ⟨rfl, hb3⟩; obtain ⟨hc3, hf3⟩ := bcell hb3; have hz5 : w.heap.size < w3.heap.size := (by have := hb3.size; (try simp at this); omega); have hz6 : w.heap.size + 1 < w3.heap.size := (by have := hb3.size; (try simp at this); omega))
  refine bodyPost_ret ?_ rfl ⟨rfl, ?_⟩
  · simp [results, Try.results15, go_sem, hc, hc2, hc3, hz, hz', hz2, hz3, hz4, hz5, hz6]
  · repeat (first | exact Below.refl _ _ | refine below_alloc ?_ _ | refine below_step ?_ hb3 | refine below_step ?_ hb2 | refine below_step ?_ hb | refine Below.setCell ?_ (by simp <;> omega) _)
end Go.Proofs.Ytbaeaiiohkfieaa.Hand
