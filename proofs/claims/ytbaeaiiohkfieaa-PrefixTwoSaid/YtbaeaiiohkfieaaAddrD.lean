/-
  The walks of package addr's Sane, Common and Compare: regions that draw their order.
-/
import Derived.Test.YtbaeaiiohkfieaaAddrC
import Derived.Test.YtbaeaiiohkfieaaWEqStruct
namespace Go.Proofs.Ytbaeaiiohkfieaa.Hand
open Go.RowKit Go.Proofs.YtbaeaiiohkfieaaW.PrintWords Go.Proofs.YtbaeaiiohkfieaaW.PrintLast Go.Proofs.Ytbaeaiiohkfieaa.Bits Go.Proofs.Ytbaeaiiohkfieaa.Dig
set_option linter.unusedVariables false
set_option linter.unusedSimpArgs false
attribute [local go_sem] max2_mxi min2_mni max_2 min_2 min_3 setCell_setCell

theorem eqAddr (d : Nat) (w : World) (x0 y0 : Int) (x1 y1 : Int) (x2 y2 : Bool) :
    (Op.equalIn (d + 2) 24 (.agg #[.int .u64 x0, .int .u64 x1, .bool x2]) (.agg #[.int .u64 y0, .int .u64 y1, .bool y2])).run Try.prog w = .ok (x0 == y0 && (x1 == y1 && (x2 == y2))) w := by
  refine eqA_of Try.underlying24 (by kernel_rfl) ?_
  refine eqf_cons (by rfl) (by go_simp; rfl) (by go_simp; rfl) (by go_simp) ?_
  refine eqf_cons (by rfl) (by go_simp; rfl) (by go_simp; rfl) (by go_simp) ?_
  exact eqf_last (by rfl) (by go_simp; rfl) (by go_simp; rfl) (by go_simp)
attribute [local go_sem high] eqAddr
theorem sane_b (hi lo : Int) (v6 : Bool) : decide (sane hi lo v6) = (hiA v6 (D hi lo) == hi && (loA v6 (D hi lo) == lo)) := by
  rw [Bool.eq_iff_iff, decide_eq_true_iff, Bool.and_eq_true, beq_iff_eq, beq_iff_eq]
  unfold sane
  exact ⟨fun h => ⟨h.1.symm, h.2.symm⟩, fun h => ⟨h.1.symm, h.2.symm⟩⟩
theorem cell_on {W w1 : World} (hb : Below W.heap.size W w1) {a : Addr} {v : Value} (h : W.cell? a = some v) : w1.cell? a = some v := (hb.cell (World.block_lt_of_cell? W _ h)).trans h
theorem size_on {W w1 : World} {n : Nat} (hb : Below W.heap.size W w1) (h : n < W.heap.size) : n < w1.heap.size := Nat.lt_of_lt_of_le h hb.size

theorem lt_of_cell {W : World} {g o : Nat} {v : Value} (h : W.cell? ⟨g, o, none⟩ = some v) : g < W.heap.size := World.block_lt_of_cell? W _ h
theorem cell_alloc {W : World} {a : Addr} {v : Value} (h : W.cell? a = some v) (o : Obj) : (W.alloc o).cell? a = some v := cell_on (below_alloc (Below.refl W.heap.size W) o) h
theorem cell_set {W : World} {a p : Addr} {v u : Value} (h : W.cell? a = some v) (hne : p.block ≠ a.block) : (W.setCell p u).cell? a = some v := (World.cell?_setCell_far W p a u hne).trans h

set_option maxHeartbeats 1000000 in
theorem sane_c (hi lo : Int) (v6 : Bool) (hu : u64 hi) (lu : u64 lo) (w : World) :
    Calls Try.prog 19 #[.agg #[.int .u64 hi, .int .u64 lo, .bool v6]] w fun e w' => e = .returned (.bool (decide (sane hi lo v6))) ∧ Below w.heap.size w w' := by
  rw [sane_b]
  go_enter Try.func19, Try.ntmps19
  go_wp2_with fail
  go_region_held3 (fun w' => w'.cell? ⟨w.heap.size, 0, none⟩ = some (.int .u64 hi) ∧ w'.cell? ⟨w.heap.size, 1, none⟩ = some (.int .u64 lo) ∧ w'.cell? ⟨w.heap.size, 2, none⟩ = some (.bool v6) ∧ w.heap.size < w'.heap.size ∧ Below w.heap.size w w')
    (first | (refine ⟨?_, ?_, ?_, ?_, ?_⟩ <;> first | exact below_drew1 (below_alloc (Below.refl _ _) _) | (go_keep; done)) | (go_split_ands; exact ⟨cell_on hb (by assumption), cell_on hb (by assumption), cell_on hb (by assumption), size_on hb (by assumption), below_step (by assumption) hb⟩))
    (first | (go_at_call 46; refine (read_c _ _ _ hu lu _).mono ?_; rintro e w1 ⟨rfl, hb⟩) | (go_at_call 48; refine (of_c _ _ _ _).mono ?_; rintro e w1 ⟨rfl, hb⟩))
  rename_i hH
  have hB := hH.2.2.2.2
  go_wp2
  go_ret
  exact ⟨rfl, hB⟩

/-! ### Compare -/
/-- Which of two numbers is ahead. -/
def c3 (a b : Int) : Int := if a < b then -1 else if b < a then 1 else 0
theorem cmpi_c (a b : Int) (w : World) : Calls Try.prog 53 #[.int .i64 a, .int .i64 b] w fun e w' => e = .returned (.int .i64 (c3 a b)) ∧ w = w' := by
  by_cases h1 : a < b
  · rw [show c3 a b = -1 by unfold c3; rw [if_pos h1]]
    go_enter Try.func53, Try.ntmps53
    go_wp2
    go_ret
    exact ⟨rfl, rfl⟩
  · by_cases h2 : b < a
    · rw [show c3 a b = 1 by unfold c3; rw [if_neg h1, if_pos h2]]
      go_enter Try.func53, Try.ntmps53
      go_wp2
      go_ret
      exact ⟨rfl, rfl⟩
    · rw [show c3 a b = 0 by unfold c3; rw [if_neg h1, if_neg h2]]
      go_enter Try.func53, Try.ntmps53
      go_wp2
      go_ret
      exact ⟨rfl, rfl⟩
theorem cmpu_c (a b : Int) (w : World) : Calls Try.prog 54 #[.int .u64 a, .int .u64 b] w fun e w' => e = .returned (.int .i64 (c3 a b)) ∧ w = w' := by
  by_cases h1 : a < b
  · rw [show c3 a b = -1 by unfold c3; rw [if_pos h1]]
    go_enter Try.func54, Try.ntmps54
    go_wp2
    go_ret
    exact ⟨rfl, rfl⟩
  · by_cases h2 : b < a
    · rw [show c3 a b = 1 by unfold c3; rw [if_neg h1, if_pos h2]]
      go_enter Try.func54, Try.ntmps54
      go_wp2
      go_ret
      exact ⟨rfl, rfl⟩
    · rw [show c3 a b = 0 by unfold c3; rw [if_neg h1, if_neg h2]]
      go_enter Try.func54, Try.ntmps54
      go_wp2
      go_ret
      exact ⟨rfl, rfl⟩
/-- The first of three numbers that is not nought. -/
def or3 (a b c : Int) : Int := if a = 0 then (if b = 0 then c else b) else a
theorem or_c (g : Nat) (a b c : Int) (w : World) (h0 : w.cell? ⟨g, 0, none⟩ = some (.int .i64 a)) (h1 : w.cell? ⟨g, 1, none⟩ = some (.int .i64 b)) (h2 : w.cell? ⟨g, 2, none⟩ = some (.int .i64 c)) :
    Calls Try.prog 52 #[.slice (some ⟨g, 0, none⟩) 3 3] w fun e w' => e = .returned (.int .i64 (or3 a b c)) ∧ w = w' := by
  by_cases ha : a = 0
  · have ka : (a != 0) = false := bne_eq_false_iff_eq.mpr ha
    by_cases hb : b = 0
    · have kb : (b != 0) = false := bne_eq_false_iff_eq.mpr hb
      rw [show or3 a b c = c by unfold or3; rw [if_pos ha, if_pos hb]]
      clear ha hb
      by_cases hc : c = 0
      · have kc : (c != 0) = false := bne_eq_false_iff_eq.mpr hc
        rw [hc]
        clear hc
        go_enter Try.func52, Try.ntmps52
        go_wp2
        refine wp_loop_rounds 4 ?_
        iterate 4 (rw [rounds_succ]; go_wp2)
        go_ret
        exact ⟨rfl, rfl⟩
      · have kc : (c != 0) = true := bne_iff_ne.mpr hc
        clear hc
        go_enter Try.func52, Try.ntmps52
        go_wp2
        refine wp_loop_rounds 4 ?_
        iterate 3 (rw [rounds_succ]; go_wp2)
        go_ret
        exact ⟨rfl, rfl⟩
    · have kb : (b != 0) = true := bne_iff_ne.mpr hb
      rw [show or3 a b c = b by unfold or3; rw [if_pos ha, if_neg hb]]
      clear ha hb
      go_enter Try.func52, Try.ntmps52
      go_wp2
      refine wp_loop_rounds 4 ?_
      iterate 2 (rw [rounds_succ]; go_wp2)
      go_ret
      exact ⟨rfl, rfl⟩
  · have ka : (a != 0) = true := bne_iff_ne.mpr ha
    rw [show or3 a b c = a by unfold or3; rw [if_neg ha]]
    clear ha
    go_enter Try.func52, Try.ntmps52
    go_wp2
    refine wp_loop_rounds 4 ?_
    iterate 1 (rw [rounds_succ]; go_wp2)
    go_ret
    exact ⟨rfl, rfl⟩
end Go.Proofs.Ytbaeaiiohkfieaa.Hand
