/-
  The walk of prefix.Of.
-/
import Derived.Test.YtbaeaiiohkfieaaAddrH
import Derived.Test.YtbaeaiiohkfieaaLawA
namespace Go.Proofs.Ytbaeaiiohkfieaa.Hand
open Go.RowKit Go.Proofs.YtbaeaiiohkfieaaW.PrintWords Go.Proofs.YtbaeaiiohkfieaaW.PrintLast Go.Proofs.Ytbaeaiiohkfieaa.Bits Go.Proofs.Ytbaeaiiohkfieaa.Dig
set_option linter.unusedVariables false
set_option linter.unusedSimpArgs false
attribute [local go_sem] max2_mxi min2_mni max_2 min_2 min_3 setCell_setCell

theorem pof_c0 (a0 a1 : Int) (v : Bool) (n : Int) (h0 : u64 a0) (h1 : u64 a1) (w : World) (wi c X0 X1 : Int) (hc : mxi 0 (mni n wi) = c)
    (WI : ∀ u, Calls Try.prog 21 #[.bool v] u fun e w' => e = .returned (.int .i64 wi) ∧ u = w')
    (MA : ∀ u, Calls Try.prog 18 #[.agg #[.int .u64 a0, .int .u64 a1, .bool v], .int .i64 c] u fun e w' => e = .returned (.agg #[.int .u64 X0, .int .u64 X1, .bool v]) ∧ Below u.heap.size u w') :
    Calls Try.prog 23 #[.agg #[.int .u64 a0, .int .u64 a1, .bool v], .int .i64 n] w fun e w' => e = .returned (.agg #[.int .u64 X0, .int .u64 X1, .bool v, .int .i64 c]) ∧ Below w.heap.size w w' := by
  go_enter Try.func23, Try.ntmps23
  go_wp2_with (first | (go_at_call 21; refine (WI _).mono ?_; rintro e w1 ⟨rfl, rfl⟩) | (go_at_call 18; refine (MA _).mono ?_; rintro e w2 ⟨rfl, hb⟩; obtain ⟨hcc, hf⟩ := bcell hb; have hz : w.heap.size + 1 < w2.heap.size := (by have := hb.size; (try simp at this); omega)))
  refine bodyPost_ret ?_ rfl ⟨rfl, ?_⟩
  · simp [results, Try.results23, go_sem, hcc, hz]
  · repeat (first | exact Below.refl _ _ | refine below_alloc ?_ _ | refine below_step ?_ hb | refine Below.setCell ?_ (by simp <;> omega) _)
/-- The first c digits. -/
def cutd (d : Nat → Bool) (c : Nat) (j : Nat) : Bool := decide (j < c) && d j
theorem cutd_lt {d : Nat → Bool} {c j : Nat} (h : j < c) : cutd d c j = d j := by unfold cutd; simp [h]
theorem cutd_ge {d : Nat → Bool} {c j : Nat} (h : c ≤ j) : cutd d c j = false := by unfold cutd; simp; omega
theorem maskA_cut (a0 a1 : Int) (c : Nat) : maskA a0 a1 (c : Int) = cutd (D a0 a1) c := funext fun j => by
  unfold maskA cutd
  rw [show decide ((j : Int) < (c : Int)) = decide (j < c) by rw [decide_eq_decide]; omega]
/-- How many digits come of a length that is asked for. -/
def clampW (v : Bool) (n : Int) : Nat := (mxi 0 (mni n (W v : Nat))).toNat
theorem clampW_eq (v : Bool) (n : Int) : mxi 0 (mni n (W v : Nat)) = (clampW v n : Nat) := by
  unfold clampW mxi mni
  split <;> split <;> omega
theorem clampW_le (v : Bool) (n : Int) : clampW v n ≤ W v := by
  unfold clampW mxi mni
  split <;> split <;> omega
theorem clampW_in {v : Bool} {c : Nat} (h : c ≤ W v) : clampW v (c : Int) = c := by
  unfold clampW mxi mni
  split <;> split <;> omega
theorem pof_c (a0 a1 : Int) (v : Bool) (n : Int) (h : u64 a0 ∧ u64 a1) (w : World) :
    Calls Try.prog 23 #[.agg #[.int .u64 a0, .int .u64 a1, .bool v], .int .i64 n] w fun e w' =>
      e = .returned (.agg #[.int .u64 (hiA v (cutd (D a0 a1) (clampW v n))), .int .u64 (loA v (cutd (D a0 a1) (clampW v n))), .bool v, .int .i64 (clampW v n : Nat)]) ∧ Below w.heap.size w w' := by
  have MA := fun u => mask_c a0 a1 v (clampW v n : Nat) h.1 h.2 u
  rw [maskA_cut] at MA
  exact pof_c0 a0 a1 v n h.1 h.2 w _ _ _ _ (clampW_eq v n) (fun u => width_c v u) MA
noncomputable def prefix_Of.f (a0 a1 : Int) (a2 : Bool) (n : Int) : Option (Int × Int × Bool × Int) := gd (u64 a0 ∧ u64 a1) (hiA a2 (cutd (D a0 a1) (clampW a2 n)), loA a2 (cutd (D a0 a1) (clampW a2 n)), a2, ((clampW a2 n : Nat) : Int))
theorem prefix_Of.calls (a0 a1 : Int) (a2 : Bool) (n : Int) (r1 r2 : Int) (r3 : Bool) (r4 : Int) (w : World) (h : prefix_Of.f a0 a1 a2 n = some (r1, r2, r3, r4)) :
    Calls Try.prog 23 #[.agg #[.int .u64 a0, .int .u64 a1, .bool a2], .int .i64 n] w fun e w' => e = .returned (.agg #[.int .u64 r1, .int .u64 r2, .bool r3, .int .i64 r4]) ∧ Below w.heap.size w w' := by
  obtain ⟨h0, h2⟩ := gd_some h
  simp only [Prod.mk.injEq] at h2
  obtain ⟨rfl, rfl, rfl, rfl⟩ := h2
  exact pof_c a0 a1 _ n h0 w
end Go.Proofs.Ytbaeaiiohkfieaa.Hand
