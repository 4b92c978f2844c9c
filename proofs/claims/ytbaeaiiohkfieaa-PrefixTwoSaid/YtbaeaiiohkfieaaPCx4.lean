-- Written by a program of this session (wip/tools/pp.py drives the kit's print with hand-proved contracts); Lean checks it.
import Derived.Test.YtbaeaiiohkfieaaPCx0
namespace Go.Proofs.Ytbaeaiiohkfieaa.PC
open Go.RowKit Go.Proofs.Ytbaeaiiohkfieaa.Hand Go.Proofs.YtbaeaiiohkfieaaW.PrintWords Go.Proofs.YtbaeaiiohkfieaaW.PrintLast Go.Proofs.YtbaeaiiohkfieaaW.PrintMore
attribute [local go_sem] max2_int min2_int max_two min_two max_three min_three max_four min_four   -- for this text's walks alone
set_option linter.unusedVariables false
set_option linter.unusedSimpArgs false

noncomputable section
/-! ### addr_Common: function 20 -/
def addr_Common.j0 : Nat → Int → Int → Int → Bool → Option (Int)
  | 0, _, _, _, _ => none
  | k + 1, x7, x119000, x119001, x119002 => (addr_Width.f x119002).bind fun t128 => (some (mn x7 t128))
def addr_Common.f (k : Nat) (a0_0 : Int) (a0_1 : Int) (a0_2 : Bool) (a1_0 : Int) (a1_1 : Int) (a1_2 : Bool) : Option (Int) := if (a0_2 != a1_2) = true then (some 0) else ((addr_read.f a0_0 a0_1 a0_2).bind fun bt120 => ((addr_read.f a1_0 a1_1 a1_2).bind fun bt122 => ((bits_LeadingZeros64.f (Go.bits .xor .u64 bt120.1 bt122.1)).bind fun t126 => (if t126 = 64 then ((bits_LeadingZeros64.f (Go.bits .xor .u64 bt120.2 bt122.2)).bind fun t127 => (addr_Common.j0 k (wrap64 (t126 + t127)) a0_0 a0_1 a0_2)) else (addr_Common.j0 k t126 a0_0 a0_1 a0_2)))))
theorem addr_Common.mono_l : ∀ k, (∀ y0 y1 y2 y3, LeO (addr_Common.j0 k y0 y1 y2 y3) (addr_Common.j0 (k + 1) y0 y1 y2 y3))
  | 0 => fun _ _ _ _ r h => by simp [addr_Common.j0] at h
  | k + 1 => by
    have ih0 := addr_Common.mono_l k
    · intro y0 y1 y2 y3
      unfold addr_Common.j0
      repeat' first
      | (with_reducible exact ih0 _ _ _ _)
      | (with_reducible exact LeO.refl _)
      | (with_reducible exact LeO.none _)
      | (with_reducible refine LeO.ite ?_ ?_)
      | (with_reducible refine LeO.bind ?_ (fun _ => ?_))
      | exact ih0 _ _ _ _
      | exact LeO.none _
      | refine LeO.ite ?_ ?_
      | refine LeO.bind ?_ (fun _ => ?_)
theorem addr_Common.mono : ∀ a0 a1 a2 a3 a4 a5 k, LeO (addr_Common.f k a0 a1 a2 a3 a4 a5) (addr_Common.f (k + 1) a0 a1 a2 a3 a4 a5) := by
  intro a0 a1 a2 a3 a4 a5 k
  have ih0 := addr_Common.mono_l k
  unfold addr_Common.f
  repeat' first
      | (with_reducible exact ih0 _ _ _ _)
      | (with_reducible exact LeO.refl _)
      | (with_reducible exact LeO.none _)
      | (with_reducible refine LeO.ite ?_ ?_)
      | (with_reducible refine LeO.bind ?_ (fun _ => ?_))
      | exact ih0 _ _ _ _
      | exact LeO.none _
      | refine LeO.ite ?_ ?_
      | refine LeO.bind ?_ (fun _ => ?_)
def addr_Common.T3 : Bool × List (List Nat × List Nat) := (true, [([], []), ([0], [0]), ([], []), ([2, 1], [2]), ([], []), ([], []), ([4, 1, 3, 0, 1, 4, 5], [1, 4]), ([5, 3, 6, 0, 1, 2, 3, 4, 5, 6], [3, 5])])
def addr_Common.B3 : List Nat := [0, 1, 0, 7, 0, 0, 63, 127]
theorem addr_Common.tab3 : rtab .any (opsOf Try.f20 3) = addr_Common.T3 := by kernel_rfl
theorem addr_Common.bits3 : waitsOk addr_Common.T3.2 addr_Common.B3 = true := by kernel_rfl
set_option maxHeartbeats 8000000 in
set_option maxRecDepth 100000 in
theorem addr_Common.calls (k : Nat) (a0_0 : Int) (a0_1 : Int) (a0_2 : Bool) (a1_0 : Int) (a1_1 : Int) (a1_2 : Bool) (r : Int) (w : World) (h : addr_Common.f k a0_0 a0_1 a0_2 a1_0 a1_1 a1_2 = some r) :
    Calls Try.prog 20 #[.agg #[.int .u64 a0_0, .int .u64 a0_1, .bool a0_2], .agg #[.int .u64 a1_0, .int .u64 a1_1, .bool a1_2]] w fun e w' => e = .returned (.int .i64 r) ∧ Below w.heap.size w w' := by
  have hu24 := Try.underlying24
  have hu58 := Try.underlying58
  have HB := Aside0.mk (Below.refl w.heap.size w)
  have H : (if (a0_2 != a1_2) = true then (some 0) else ((addr_read.f a0_0 a0_1 a0_2).bind fun bt120 => ((addr_read.f a1_0 a1_1 a1_2).bind fun bt122 => ((bits_LeadingZeros64.f (Go.bits .xor .u64 bt120.1 bt122.1)).bind fun t126 => (if t126 = 64 then ((bits_LeadingZeros64.f (Go.bits .xor .u64 bt120.2 bt122.2)).bind fun t127 => (addr_Common.j0 k (wrap64 (t126 + t127)) a0_0 a0_1 a0_2)) else (addr_Common.j0 k t126 a0_0 a0_1 a0_2)))))) = some r := h
  clear h
  by_cases c3 : (a0_2 != a1_2) = true
  · rw [if_pos c3] at H
    have c3b0 : (a0_2 != a1_2) = true := c3
    (try (have c3b1 : decide (a0_2 = a1_2) = false := by simpa using c3))
    (try (have c3b2 : (a0_2 == a1_2) = false := by simpa using c3))
    (try (have c3b3 : ¬ (a0_2 = a1_2) := by simpa using c3))
    clear c3
    obtain rfl := Option.some.inj H
    go_enter Try.func20, Try.ntmps20
    go_wp2_with (first | ((with_reducible refine gate_dst (N := 2) rfl ?_); refine box_event ?hg (N := 2) ?hd (cs := #[.int .u64 a0_0, .int .u64 a0_1, .bool a0_2]) (t := 24) ?hr ?_; (case hd => rfl); (case hg => rfl); (case hr => first | (go_simp; done) | (go_simp; rfl)); intro gb118 hg w4 hbox hb; have n0_ := Aside0.mk (below_step (by repeat (first | (with_reducible first | exact HB.out | apply below_alloc | apply pw_below_drewN | apply below_drew1) | exact HB.out)) hb); have n1_ := Aside0.mk (hbox); have n2_ := Aside0.mk ((by rw [hg]; exact (below_size (by repeat (first | (with_reducible first | exact HB.out | apply below_alloc | apply pw_below_drewN | apply below_drew1) | exact HB.out))) : w.heap.size ≤ gb118)); have n3_ := Aside0.mk ((by rw [hg]; exact (below_size (by repeat (first | (with_reducible first | exact HB.out | apply below_alloc | apply pw_below_drewN | apply below_drew1) | exact HB.out))) : w.heap.size ≤ gb118)); clear HB; have HB := n0_; have BK118 := n1_; have GW118 := n2_; have GE118 := n3_; clear n0_ n1_ n2_ n3_; clear hb hbox hg) | ((with_reducible refine gate_dst (N := 3) rfl ?_); refine box_event ?hg (N := 3) ?hd (cs := #[.int .u64 a1_0, .int .u64 a1_1, .bool a1_2]) (t := 24) ?hr ?_; (case hd => rfl); (case hg => rfl); (case hr => first | (go_simp; done) | (go_simp; rfl)); intro gb119 hg w5 hbox hb; have n0_ := Aside0.mk (blk_below (g := gb118) (o := .cells #[.int .u64 a0_0, .int .u64 a0_1, .bool a0_2] 24 (0, 0)) (by (with_reducible repeat (first | refine blk_drewN ?_ _ | refine blk_drew ?_ | refine blk_alloc ?_ _)); exact BK118.out) hb); have n1_ := Aside0.mk (below_step (by repeat (first | (with_reducible first | exact HB.out | apply below_alloc | apply pw_below_drewN | apply below_drew1 | refine below_set ?_ GE118.out) | exact HB.out)) hb); have n2_ := Aside0.mk (hbox); have n3_ := Aside0.mk ((by rw [hg]; exact (below_size (by repeat (first | (with_reducible first | exact HB.out | apply below_alloc | apply pw_below_drewN | apply below_drew1 | refine below_set ?_ GE118.out) | exact HB.out))) : w.heap.size ≤ gb119)); have n4_ := Aside0.mk ((by rw [hg]; exact (below_size (by repeat (first | (with_reducible first | exact HB.out | apply below_alloc | apply pw_below_drewN | apply below_drew1 | refine below_set ?_ GE118.out) | exact HB.out))) : w.heap.size ≤ gb119)); have n5_ := Aside0.mk ((by rw [hg]; exact Nat.ne_of_lt (blk_lt (g := gb118) (o := .cells #[.int .u64 a0_0, .int .u64 a0_1, .bool a0_2] 24 (0, 0)) (by (with_reducible repeat (first | refine blk_drewN ?_ _ | refine blk_drew ?_ | refine blk_alloc ?_ _)); exact BK118.out)) : gb118 ≠ gb119)); have n6_ := Aside0.mk ((by rw [hg]; exact Nat.ne_of_gt (blk_lt (g := gb118) (o := .cells #[.int .u64 a0_0, .int .u64 a0_1, .bool a0_2] 24 (0, 0)) (by (with_reducible repeat (first | refine blk_drewN ?_ _ | refine blk_drew ?_ | refine blk_alloc ?_ _)); exact BK118.out)) : gb119 ≠ gb118)); clear BK118; clear HB; have BK118 := n0_; have HB := n1_; have BK119 := n2_; have GW119 := n3_; have GE119 := n4_; have NB118_119 := n5_; have NB119_118 := n6_; clear n0_ n1_ n2_ n3_ n4_ n5_ n6_; clear hb hbox hg; have hnb6 := NB118_119.out; have hnc6 := NB119_118.out; have hcz7_0 : w5.cell? ⟨gb118, 0, none⟩ = some (.int .u64 a0_0) := (blk_cell BK118.out 0).trans rfl; have hcz7_1 : w5.cell? ⟨gb118, 1, none⟩ = some (.int .u64 a0_1) := (blk_cell BK118.out 1).trans rfl; have hcz7_2 : w5.cell? ⟨gb118, 2, none⟩ = some (.bool a0_2) := (blk_cell BK118.out 2).trans rfl; have hfz7_0 := blk_frozen BK118.out 0; have hfz7_1 := blk_frozen BK118.out 1; have hfz7_2 := blk_frozen BK118.out 2; have hcz8_0 : w5.cell? ⟨gb119, 0, none⟩ = some (.int .u64 a1_0) := (blk_cell BK119.out 0).trans rfl; have hcz8_1 : w5.cell? ⟨gb119, 1, none⟩ = some (.int .u64 a1_1) := (blk_cell BK119.out 1).trans rfl; have hcz8_2 : w5.cell? ⟨gb119, 2, none⟩ = some (.bool a1_2) := (blk_cell BK119.out 2).trans rfl; have hfz8_0 := blk_frozen BK119.out 0; have hfz8_1 := blk_frozen BK119.out 1; have hfz8_2 := blk_frozen BK119.out 2))
    go_ret
    exact ⟨by first | rfl | (simp [errW_none, errW_some] <;> rfl) | (simp [*, errW_none, errW_some] <;> rfl), by repeat (first | (with_reducible first | exact HB.out | apply below_alloc | apply pw_below_drewN | apply below_drew1 | refine below_set ?_ GE118.out | refine below_set ?_ GE119.out) | exact HB.out)⟩
  · rw [if_neg c3] at H
    have c3b0 : (a0_2 != a1_2) = false := by simpa using c3
    (try (have c3b1 : decide (a0_2 = a1_2) = true := by simpa using c3))
    (try (have c3b2 : (a0_2 == a1_2) = true := by simpa using c3))
    clear c3
    replace H := Option.bind_eq_some_iff.mp H
    obtain ⟨⟨t120, t121⟩, A90, H⟩ := H
    replace H : ((addr_read.f a1_0 a1_1 a1_2).bind fun bt122 => ((bits_LeadingZeros64.f (Go.bits .xor .u64 t120 bt122.1)).bind fun t126 => (if t126 = 64 then ((bits_LeadingZeros64.f (Go.bits .xor .u64 t121 bt122.2)).bind fun t127 => (addr_Common.j0 k (wrap64 (t126 + t127)) a0_0 a0_1 a0_2)) else (addr_Common.j0 k t126 a0_0 a0_1 a0_2)))) = some r := H
    have A9 := Aside0.mk A90
    clear A90
    replace H := Option.bind_eq_some_iff.mp H
    obtain ⟨⟨t122, t123⟩, A100, H⟩ := H
    replace H : ((bits_LeadingZeros64.f (Go.bits .xor .u64 t120 t122)).bind fun t126 => (if t126 = 64 then ((bits_LeadingZeros64.f (Go.bits .xor .u64 t121 t123)).bind fun t127 => (addr_Common.j0 k (wrap64 (t126 + t127)) a0_0 a0_1 a0_2)) else (addr_Common.j0 k t126 a0_0 a0_1 a0_2))) = some r := H
    have A10 := Aside0.mk A100
    clear A100
    replace H := Option.bind_eq_some_iff.mp H
    obtain ⟨t126, A110, H⟩ := H
    replace H : (if t126 = 64 then ((bits_LeadingZeros64.f (Go.bits .xor .u64 t121 t123)).bind fun t127 => (addr_Common.j0 k (wrap64 (t126 + t127)) a0_0 a0_1 a0_2)) else (addr_Common.j0 k t126 a0_0 a0_1 a0_2)) = some r := H
    have A11 := Aside0.mk A110
    clear A110
    have HC12 := Aside0.mk H
    clear H
    go_enter Try.func20, Try.ntmps20
    try go_wp2_with (first | ((with_reducible refine gate_dst (N := 2) rfl ?_); refine box_event ?hg (N := 2) ?hd (cs := #[.int .u64 a0_0, .int .u64 a0_1, .bool a0_2]) (t := 24) ?hr ?_; (case hd => rfl); (case hg => rfl); (case hr => first | (go_simp; done) | (go_simp; rfl)); intro gb118 hg w13 hbox hb; have n0_ := Aside0.mk (below_step (by repeat (first | (with_reducible first | exact HB.out | apply below_alloc | apply pw_below_drewN | apply below_drew1) | exact HB.out)) hb); have n1_ := Aside0.mk (hbox); have n2_ := Aside0.mk ((by rw [hg]; exact (below_size (by repeat (first | (with_reducible first | exact HB.out | apply below_alloc | apply pw_below_drewN | apply below_drew1) | exact HB.out))) : w.heap.size ≤ gb118)); have n3_ := Aside0.mk ((by rw [hg]; exact (below_size (by repeat (first | (with_reducible first | exact HB.out | apply below_alloc | apply pw_below_drewN | apply below_drew1) | exact HB.out))) : w.heap.size ≤ gb118)); clear HB; have HB := n0_; have BK118 := n1_; have GW118 := n2_; have GE118 := n3_; clear n0_ n1_ n2_ n3_; clear hb hbox hg) | ((with_reducible refine gate_dst (N := 3) rfl ?_); refine box_event ?hg (N := 3) ?hd (cs := #[.int .u64 a1_0, .int .u64 a1_1, .bool a1_2]) (t := 24) ?hr ?_; (case hd => rfl); (case hg => rfl); (case hr => first | (go_simp; done) | (go_simp; rfl)); intro gb119 hg w14 hbox hb; have n0_ := Aside0.mk (blk_below (g := gb118) (o := .cells #[.int .u64 a0_0, .int .u64 a0_1, .bool a0_2] 24 (0, 0)) (by (with_reducible repeat (first | refine blk_drewN ?_ _ | refine blk_drew ?_ | refine blk_alloc ?_ _)); exact BK118.out) hb); have n1_ := Aside0.mk (below_step (by repeat (first | (with_reducible first | exact HB.out | apply below_alloc | apply pw_below_drewN | apply below_drew1 | refine below_set ?_ GE118.out) | exact HB.out)) hb); have n2_ := Aside0.mk (hbox); have n3_ := Aside0.mk ((by rw [hg]; exact (below_size (by repeat (first | (with_reducible first | exact HB.out | apply below_alloc | apply pw_below_drewN | apply below_drew1 | refine below_set ?_ GE118.out) | exact HB.out))) : w.heap.size ≤ gb119)); have n4_ := Aside0.mk ((by rw [hg]; exact (below_size (by repeat (first | (with_reducible first | exact HB.out | apply below_alloc | apply pw_below_drewN | apply below_drew1 | refine below_set ?_ GE118.out) | exact HB.out))) : w.heap.size ≤ gb119)); have n5_ := Aside0.mk ((by rw [hg]; exact Nat.ne_of_lt (blk_lt (g := gb118) (o := .cells #[.int .u64 a0_0, .int .u64 a0_1, .bool a0_2] 24 (0, 0)) (by (with_reducible repeat (first | refine blk_drewN ?_ _ | refine blk_drew ?_ | refine blk_alloc ?_ _)); exact BK118.out)) : gb118 ≠ gb119)); have n6_ := Aside0.mk ((by rw [hg]; exact Nat.ne_of_gt (blk_lt (g := gb118) (o := .cells #[.int .u64 a0_0, .int .u64 a0_1, .bool a0_2] 24 (0, 0)) (by (with_reducible repeat (first | refine blk_drewN ?_ _ | refine blk_drew ?_ | refine blk_alloc ?_ _)); exact BK118.out)) : gb119 ≠ gb118)); clear BK118; clear HB; have BK118 := n0_; have HB := n1_; have BK119 := n2_; have GW119 := n3_; have GE119 := n4_; have NB118_119 := n5_; have NB119_118 := n6_; clear n0_ n1_ n2_ n3_ n4_ n5_ n6_; clear hb hbox hg; have hnb15 := NB118_119.out; have hnc15 := NB119_118.out; have hcz16_0 : w14.cell? ⟨gb118, 0, none⟩ = some (.int .u64 a0_0) := (blk_cell BK118.out 0).trans rfl; have hcz16_1 : w14.cell? ⟨gb118, 1, none⟩ = some (.int .u64 a0_1) := (blk_cell BK118.out 1).trans rfl; have hcz16_2 : w14.cell? ⟨gb118, 2, none⟩ = some (.bool a0_2) := (blk_cell BK118.out 2).trans rfl; have hfz16_0 := blk_frozen BK118.out 0; have hfz16_1 := blk_frozen BK118.out 1; have hfz16_2 := blk_frozen BK118.out 2; have hcz17_0 : w14.cell? ⟨gb119, 0, none⟩ = some (.int .u64 a1_0) := (blk_cell BK119.out 0).trans rfl; have hcz17_1 : w14.cell? ⟨gb119, 1, none⟩ = some (.int .u64 a1_1) := (blk_cell BK119.out 1).trans rfl; have hcz17_2 : w14.cell? ⟨gb119, 2, none⟩ = some (.bool a1_2) := (blk_cell BK119.out 2).trans rfl; have hfz17_0 := blk_frozen BK119.out 0; have hfz17_1 := blk_frozen BK119.out 1; have hfz17_2 := blk_frozen BK119.out 2))
    have n0_ := Aside0.mk (blk_drew BK118.out)
    have n1_ := Aside0.mk (blk_drew BK119.out)
    have n2_ := Aside0.mk (below_drew1 HB.out)
    clear BK118
    clear BK119
    clear HB
    have BK118 := n0_
    have BK119 := n1_
    have HB := n2_
    clear n0_ n1_ n2_
    refine start_ (n := 8) (S := fun w' => w'.cell? ⟨gb118, 0, none⟩ = some (.int .u64 a0_0) ∧ w'.cell? ⟨gb118, 1, none⟩ = some (.int .u64 a0_1) ∧ w'.cell? ⟨gb118, 2, none⟩ = some (.bool a0_2) ∧ w'.cell? ⟨gb119, 0, none⟩ = some (.int .u64 a1_0) ∧ w'.cell? ⟨gb119, 1, none⟩ = some (.int .u64 a1_1) ∧ w'.cell? ⟨gb119, 2, none⟩ = some (.bool a1_2)) (ds := []) #[false, false, false, false, false, false, false, false] (by kernel_rfl) rfl rfl ⟨(blk_cell BK118.out 0).trans rfl, (blk_cell BK118.out 1).trans rfl, (blk_cell BK118.out 2).trans rfl, (blk_cell BK119.out 0).trans rfl, (blk_cell BK119.out 1).trans rfl, (blk_cell BK119.out 2).trans rfl⟩ (fun hHeld => ?_); refine with_tabW addr_Common.tab3 addr_Common.bits3 (fun HT_ HW_ => ?_)
    generalize w14.drew = w18 at BK118 BK119 HB hHeld ⊢
    refine take_ (i := 0) (N := some 13) (v := ?_) (a' := ?_) #[true, false, false, false, false, false, false, false] rfl rfl (take_ofW HT_.out HW_.out (by kernel_rfl)) (fun _ _ _ h => h) (Or.inl ⟨by rfl, ?_⟩) hHeld ?_ ?_
    rotate_left
    · rintro w' ⟨s0, s1, s2, s3, s4, s5⟩
      go_simp
      with_reducible rfl
    rotate_left
    · simp only [Act.put, List.setIfInBounds_toArray, List.set_cons_zero, List.set_cons_succ, i64_w, i32_w]
      rfl
    refine take_ (i := 2) (N := some 15) (v := ?_) (a' := ?_) #[true, false, true, false, false, false, false, false] rfl rfl (take_ofW HT_.out HW_.out (by kernel_rfl)) (fun _ _ _ h => h) (Or.inl ⟨by rfl, ?_⟩) hHeld ?_ ?_
    rotate_left
    · rintro w' ⟨s0, s1, s2, s3, s4, s5⟩
      go_simp
      with_reducible rfl
    rotate_left
    · simp only [Act.put, List.setIfInBounds_toArray, List.set_cons_zero, List.set_cons_succ, i64_w, i32_w]
      rfl
    refine join_ (σ := Nat × Nat) 2 #[true, true, true, true, true, true, false, false] (fun s_ => [(14, .agg #[.int .u64 t120, .int .u64 t121]), (16, .agg #[.int .u64 t122, .int .u64 t123]), (5, .pointer (some ⟨s_.1, 0, none⟩)), (6, .pointer (some ⟨s_.2, 0, none⟩))]) (fun s_ w' => (w'.cell? ⟨gb118, 0, none⟩ = some (.int .u64 a0_0) ∧ w'.cell? ⟨gb118, 1, none⟩ = some (.int .u64 a0_1) ∧ w'.cell? ⟨gb118, 2, none⟩ = some (.bool a0_2) ∧ w'.cell? ⟨gb119, 0, none⟩ = some (.int .u64 a1_0) ∧ w'.cell? ⟨gb119, 1, none⟩ = some (.int .u64 a1_1) ∧ w'.cell? ⟨gb119, 2, none⟩ = some (.bool a1_2)) ∧ (w'.heap[gb118]? = some (.cells #[.int .u64 a0_0, .int .u64 a0_1, .bool a0_2] 24 (0, 0))) ∧ (w'.heap[gb119]? = some (.cells #[.int .u64 a1_0, .int .u64 a1_1, .bool a1_2] 24 (0, 0))) ∧ (w'.heap[s_.1]? = some (.cells #[.int .u64 0, .int .u64 0] 58 (0, 0))) ∧ (w'.heap[s_.2]? = some (.cells #[.int .u64 0, .int .u64 0] 58 (0, 0))) ∧ (w.heap.size ≤ s_.1) ∧ (w.heap.size ≤ s_.1) ∧ (gb118 ≠ s_.1) ∧ (s_.1 ≠ gb118) ∧ (gb119 ≠ s_.1) ∧ (s_.1 ≠ gb119) ∧ (s_.2 ≠ s_.1) ∧ (s_.1 ≠ s_.2) ∧ (w.heap.size ≤ s_.2) ∧ (w.heap.size ≤ s_.2) ∧ (gb118 ≠ s_.2) ∧ (s_.2 ≠ gb118) ∧ (gb119 ≠ s_.2) ∧ (s_.2 ≠ gb119) ∧ (Below w.heap.size w w')) ?_ ?_
    rotate_left
    · intro hJ1_3_4_5
      refine join_ (σ := Nat) 3 #[true, true, true, true, true, false, false, false] (fun s_ => [(14, .agg #[.int .u64 t120, .int .u64 t121]), (16, .agg #[.int .u64 t122, .int .u64 t123]), (5, .pointer (some ⟨s_, 0, none⟩))]) (fun s_ w' => (w'.cell? ⟨gb118, 0, none⟩ = some (.int .u64 a0_0) ∧ w'.cell? ⟨gb118, 1, none⟩ = some (.int .u64 a0_1) ∧ w'.cell? ⟨gb118, 2, none⟩ = some (.bool a0_2) ∧ w'.cell? ⟨gb119, 0, none⟩ = some (.int .u64 a1_0) ∧ w'.cell? ⟨gb119, 1, none⟩ = some (.int .u64 a1_1) ∧ w'.cell? ⟨gb119, 2, none⟩ = some (.bool a1_2)) ∧ (w'.heap[gb118]? = some (.cells #[.int .u64 a0_0, .int .u64 a0_1, .bool a0_2] 24 (0, 0))) ∧ (w'.heap[gb119]? = some (.cells #[.int .u64 a1_0, .int .u64 a1_1, .bool a1_2] 24 (0, 0))) ∧ (w'.heap[s_]? = some (.cells #[.int .u64 0, .int .u64 0] 58 (0, 0))) ∧ (w.heap.size ≤ s_) ∧ (w.heap.size ≤ s_) ∧ (gb118 ≠ s_) ∧ (s_ ≠ gb118) ∧ (gb119 ≠ s_) ∧ (s_ ≠ gb119) ∧ (Below w.heap.size w w')) ?_ ?_
      rotate_left
      · intro hJ1_3_4
        refine join_ (σ := Nat) 3 #[true, true, true, true, false, true, false, false] (fun s_ => [(14, .agg #[.int .u64 t120, .int .u64 t121]), (16, .agg #[.int .u64 t122, .int .u64 t123]), (6, .pointer (some ⟨s_, 0, none⟩))]) (fun s_ w' => (w'.cell? ⟨gb118, 0, none⟩ = some (.int .u64 a0_0) ∧ w'.cell? ⟨gb118, 1, none⟩ = some (.int .u64 a0_1) ∧ w'.cell? ⟨gb118, 2, none⟩ = some (.bool a0_2) ∧ w'.cell? ⟨gb119, 0, none⟩ = some (.int .u64 a1_0) ∧ w'.cell? ⟨gb119, 1, none⟩ = some (.int .u64 a1_1) ∧ w'.cell? ⟨gb119, 2, none⟩ = some (.bool a1_2)) ∧ (w'.heap[gb118]? = some (.cells #[.int .u64 a0_0, .int .u64 a0_1, .bool a0_2] 24 (0, 0))) ∧ (w'.heap[gb119]? = some (.cells #[.int .u64 a1_0, .int .u64 a1_1, .bool a1_2] 24 (0, 0))) ∧ (w'.heap[s_]? = some (.cells #[.int .u64 0, .int .u64 0] 58 (0, 0))) ∧ (w.heap.size ≤ s_) ∧ (w.heap.size ≤ s_) ∧ (gb118 ≠ s_) ∧ (s_ ≠ gb118) ∧ (gb119 ≠ s_) ∧ (s_ ≠ gb119) ∧ (Below w.heap.size w w')) ?_ ?_
        rotate_left
        · intro hJ1_3_5
          refine join_ (σ := Nat × Nat) 3 #[true, true, true, false, true, true, false, false] (fun s_ => [(14, .agg #[.int .u64 t120, .int .u64 t121]), (5, .pointer (some ⟨s_.1, 0, none⟩)), (6, .pointer (some ⟨s_.2, 0, none⟩))]) (fun s_ w' => (w'.cell? ⟨gb118, 0, none⟩ = some (.int .u64 a0_0) ∧ w'.cell? ⟨gb118, 1, none⟩ = some (.int .u64 a0_1) ∧ w'.cell? ⟨gb118, 2, none⟩ = some (.bool a0_2) ∧ w'.cell? ⟨gb119, 0, none⟩ = some (.int .u64 a1_0) ∧ w'.cell? ⟨gb119, 1, none⟩ = some (.int .u64 a1_1) ∧ w'.cell? ⟨gb119, 2, none⟩ = some (.bool a1_2)) ∧ (w'.heap[gb118]? = some (.cells #[.int .u64 a0_0, .int .u64 a0_1, .bool a0_2] 24 (0, 0))) ∧ (w'.heap[gb119]? = some (.cells #[.int .u64 a1_0, .int .u64 a1_1, .bool a1_2] 24 (0, 0))) ∧ (w'.heap[s_.1]? = some (.cells #[.int .u64 0, .int .u64 0] 58 (0, 0))) ∧ (w'.heap[s_.2]? = some (.cells #[.int .u64 0, .int .u64 0] 58 (0, 0))) ∧ (w.heap.size ≤ s_.1) ∧ (w.heap.size ≤ s_.1) ∧ (gb118 ≠ s_.1) ∧ (s_.1 ≠ gb118) ∧ (gb119 ≠ s_.1) ∧ (s_.1 ≠ gb119) ∧ (s_.2 ≠ s_.1) ∧ (s_.1 ≠ s_.2) ∧ (w.heap.size ≤ s_.2) ∧ (w.heap.size ≤ s_.2) ∧ (gb118 ≠ s_.2) ∧ (s_.2 ≠ gb118) ∧ (gb119 ≠ s_.2) ∧ (s_.2 ≠ gb119) ∧ (Below w.heap.size w w')) ?_ ?_
          rotate_left
          · intro hJ1_4_5
            refine join_ (σ := Unit) 4 #[true, true, true, true, false, false, false, false] (fun s_ => [(14, .agg #[.int .u64 t120, .int .u64 t121]), (16, .agg #[.int .u64 t122, .int .u64 t123])]) (fun s_ w' => (w'.cell? ⟨gb118, 0, none⟩ = some (.int .u64 a0_0) ∧ w'.cell? ⟨gb118, 1, none⟩ = some (.int .u64 a0_1) ∧ w'.cell? ⟨gb118, 2, none⟩ = some (.bool a0_2) ∧ w'.cell? ⟨gb119, 0, none⟩ = some (.int .u64 a1_0) ∧ w'.cell? ⟨gb119, 1, none⟩ = some (.int .u64 a1_1) ∧ w'.cell? ⟨gb119, 2, none⟩ = some (.bool a1_2)) ∧ (w'.heap[gb118]? = some (.cells #[.int .u64 a0_0, .int .u64 a0_1, .bool a0_2] 24 (0, 0))) ∧ (w'.heap[gb119]? = some (.cells #[.int .u64 a1_0, .int .u64 a1_1, .bool a1_2] 24 (0, 0))) ∧ (Below w.heap.size w w')) ?_ ?_
            rotate_left
            · intro hJ1_3
              refine join_ (σ := Nat) 4 #[true, true, true, false, true, false, false, false] (fun s_ => [(14, .agg #[.int .u64 t120, .int .u64 t121]), (5, .pointer (some ⟨s_, 0, none⟩))]) (fun s_ w' => (w'.cell? ⟨gb118, 0, none⟩ = some (.int .u64 a0_0) ∧ w'.cell? ⟨gb118, 1, none⟩ = some (.int .u64 a0_1) ∧ w'.cell? ⟨gb118, 2, none⟩ = some (.bool a0_2) ∧ w'.cell? ⟨gb119, 0, none⟩ = some (.int .u64 a1_0) ∧ w'.cell? ⟨gb119, 1, none⟩ = some (.int .u64 a1_1) ∧ w'.cell? ⟨gb119, 2, none⟩ = some (.bool a1_2)) ∧ (w'.heap[gb118]? = some (.cells #[.int .u64 a0_0, .int .u64 a0_1, .bool a0_2] 24 (0, 0))) ∧ (w'.heap[gb119]? = some (.cells #[.int .u64 a1_0, .int .u64 a1_1, .bool a1_2] 24 (0, 0))) ∧ (w'.heap[s_]? = some (.cells #[.int .u64 0, .int .u64 0] 58 (0, 0))) ∧ (w.heap.size ≤ s_) ∧ (w.heap.size ≤ s_) ∧ (gb118 ≠ s_) ∧ (s_ ≠ gb118) ∧ (gb119 ≠ s_) ∧ (s_ ≠ gb119) ∧ (Below w.heap.size w w')) ?_ ?_
              rotate_left
              · intro hJ1_4
                refine join_ (σ := Nat) 4 #[true, true, true, false, false, true, false, false] (fun s_ => [(14, .agg #[.int .u64 t120, .int .u64 t121]), (6, .pointer (some ⟨s_, 0, none⟩))]) (fun s_ w' => (w'.cell? ⟨gb118, 0, none⟩ = some (.int .u64 a0_0) ∧ w'.cell? ⟨gb118, 1, none⟩ = some (.int .u64 a0_1) ∧ w'.cell? ⟨gb118, 2, none⟩ = some (.bool a0_2) ∧ w'.cell? ⟨gb119, 0, none⟩ = some (.int .u64 a1_0) ∧ w'.cell? ⟨gb119, 1, none⟩ = some (.int .u64 a1_1) ∧ w'.cell? ⟨gb119, 2, none⟩ = some (.bool a1_2)) ∧ (w'.heap[gb118]? = some (.cells #[.int .u64 a0_0, .int .u64 a0_1, .bool a0_2] 24 (0, 0))) ∧ (w'.heap[gb119]? = some (.cells #[.int .u64 a1_0, .int .u64 a1_1, .bool a1_2] 24 (0, 0))) ∧ (w'.heap[s_]? = some (.cells #[.int .u64 0, .int .u64 0] 58 (0, 0))) ∧ (w.heap.size ≤ s_) ∧ (w.heap.size ≤ s_) ∧ (gb118 ≠ s_) ∧ (s_ ≠ gb118) ∧ (gb119 ≠ s_) ∧ (s_ ≠ gb119) ∧ (Below w.heap.size w w')) ?_ ?_
                rotate_left
                · intro hJ1_5
                  refine join_ (σ := Nat × Nat) 4 #[true, false, true, false, true, true, false, false] (fun s_ => [(5, .pointer (some ⟨s_.1, 0, none⟩)), (6, .pointer (some ⟨s_.2, 0, none⟩))]) (fun s_ w' => (w'.cell? ⟨gb118, 0, none⟩ = some (.int .u64 a0_0) ∧ w'.cell? ⟨gb118, 1, none⟩ = some (.int .u64 a0_1) ∧ w'.cell? ⟨gb118, 2, none⟩ = some (.bool a0_2) ∧ w'.cell? ⟨gb119, 0, none⟩ = some (.int .u64 a1_0) ∧ w'.cell? ⟨gb119, 1, none⟩ = some (.int .u64 a1_1) ∧ w'.cell? ⟨gb119, 2, none⟩ = some (.bool a1_2)) ∧ (w'.heap[gb118]? = some (.cells #[.int .u64 a0_0, .int .u64 a0_1, .bool a0_2] 24 (0, 0))) ∧ (w'.heap[gb119]? = some (.cells #[.int .u64 a1_0, .int .u64 a1_1, .bool a1_2] 24 (0, 0))) ∧ (w'.heap[s_.1]? = some (.cells #[.int .u64 0, .int .u64 0] 58 (0, 0))) ∧ (w'.heap[s_.2]? = some (.cells #[.int .u64 0, .int .u64 0] 58 (0, 0))) ∧ (w.heap.size ≤ s_.1) ∧ (w.heap.size ≤ s_.1) ∧ (gb118 ≠ s_.1) ∧ (s_.1 ≠ gb118) ∧ (gb119 ≠ s_.1) ∧ (s_.1 ≠ gb119) ∧ (s_.2 ≠ s_.1) ∧ (s_.1 ≠ s_.2) ∧ (w.heap.size ≤ s_.2) ∧ (w.heap.size ≤ s_.2) ∧ (gb118 ≠ s_.2) ∧ (s_.2 ≠ gb118) ∧ (gb119 ≠ s_.2) ∧ (s_.2 ≠ gb119) ∧ (Below w.heap.size w w')) ?_ ?_
                  rotate_left
                  · intro hJ4_5
                    refine join_ (σ := Unit) 5 #[true, true, true, false, false, false, false, false] (fun s_ => [(14, .agg #[.int .u64 t120, .int .u64 t121])]) (fun s_ w' => (w'.cell? ⟨gb118, 0, none⟩ = some (.int .u64 a0_0) ∧ w'.cell? ⟨gb118, 1, none⟩ = some (.int .u64 a0_1) ∧ w'.cell? ⟨gb118, 2, none⟩ = some (.bool a0_2) ∧ w'.cell? ⟨gb119, 0, none⟩ = some (.int .u64 a1_0) ∧ w'.cell? ⟨gb119, 1, none⟩ = some (.int .u64 a1_1) ∧ w'.cell? ⟨gb119, 2, none⟩ = some (.bool a1_2)) ∧ (w'.heap[gb118]? = some (.cells #[.int .u64 a0_0, .int .u64 a0_1, .bool a0_2] 24 (0, 0))) ∧ (w'.heap[gb119]? = some (.cells #[.int .u64 a1_0, .int .u64 a1_1, .bool a1_2] 24 (0, 0))) ∧ (Below w.heap.size w w')) ?_ ?_
                    rotate_left
                    · intro hJ1
                      refine join_ (σ := Nat) 5 #[true, false, true, false, true, false, false, false] (fun s_ => [(5, .pointer (some ⟨s_, 0, none⟩))]) (fun s_ w' => (w'.cell? ⟨gb118, 0, none⟩ = some (.int .u64 a0_0) ∧ w'.cell? ⟨gb118, 1, none⟩ = some (.int .u64 a0_1) ∧ w'.cell? ⟨gb118, 2, none⟩ = some (.bool a0_2) ∧ w'.cell? ⟨gb119, 0, none⟩ = some (.int .u64 a1_0) ∧ w'.cell? ⟨gb119, 1, none⟩ = some (.int .u64 a1_1) ∧ w'.cell? ⟨gb119, 2, none⟩ = some (.bool a1_2)) ∧ (w'.heap[gb118]? = some (.cells #[.int .u64 a0_0, .int .u64 a0_1, .bool a0_2] 24 (0, 0))) ∧ (w'.heap[gb119]? = some (.cells #[.int .u64 a1_0, .int .u64 a1_1, .bool a1_2] 24 (0, 0))) ∧ (w'.heap[s_]? = some (.cells #[.int .u64 0, .int .u64 0] 58 (0, 0))) ∧ (w.heap.size ≤ s_) ∧ (w.heap.size ≤ s_) ∧ (gb118 ≠ s_) ∧ (s_ ≠ gb118) ∧ (gb119 ≠ s_) ∧ (s_ ≠ gb119) ∧ (Below w.heap.size w w')) ?_ ?_
                      rotate_left
                      · intro hJ4
                        refine join_ (σ := Nat) 5 #[true, false, true, false, false, true, false, false] (fun s_ => [(6, .pointer (some ⟨s_, 0, none⟩))]) (fun s_ w' => (w'.cell? ⟨gb118, 0, none⟩ = some (.int .u64 a0_0) ∧ w'.cell? ⟨gb118, 1, none⟩ = some (.int .u64 a0_1) ∧ w'.cell? ⟨gb118, 2, none⟩ = some (.bool a0_2) ∧ w'.cell? ⟨gb119, 0, none⟩ = some (.int .u64 a1_0) ∧ w'.cell? ⟨gb119, 1, none⟩ = some (.int .u64 a1_1) ∧ w'.cell? ⟨gb119, 2, none⟩ = some (.bool a1_2)) ∧ (w'.heap[gb118]? = some (.cells #[.int .u64 a0_0, .int .u64 a0_1, .bool a0_2] 24 (0, 0))) ∧ (w'.heap[gb119]? = some (.cells #[.int .u64 a1_0, .int .u64 a1_1, .bool a1_2] 24 (0, 0))) ∧ (w'.heap[s_]? = some (.cells #[.int .u64 0, .int .u64 0] 58 (0, 0))) ∧ (w.heap.size ≤ s_) ∧ (w.heap.size ≤ s_) ∧ (gb118 ≠ s_) ∧ (s_ ≠ gb118) ∧ (gb119 ≠ s_) ∧ (s_ ≠ gb119) ∧ (Below w.heap.size w w')) ?_ ?_
                        rotate_left
                        · intro hJ5
                          refine three_ (i := 1) (j := 4) (k := 5) (Ni := some 14) (Nj := some 5) (Nk := some 6) #[true, true, true, false, false, false, false, false] #[true, false, true, false, true, false, false, false] #[true, false, true, false, false, true, false, false] rfl rfl rfl rfl rfl rfl (three_of HT_.out (by kernel_rfl)) (by decide) (by decide) (by decide) (fun K hK => ?_) (fun K hK => ?_) (fun K hK => ?_)
                          · skip
                            refine goes_ Try.func46 (by kernel_rfl) rfl #[.agg #[.int .u64 a0_0, .int .u64 a0_1, .bool a0_2]] (by rfl) rfl rfl (by (try simp only [List.map_toArray, List.map_cons, List.map_nil]); first | done | rfl | (simp only [List.length_drop, List.length_take]; rfl)) ?_
                            with_reducible refine (addr_read.calls a0_0 a0_1 a0_2 t120 t121 _ A9.out).mono ?_
                            rintro e w19 ⟨rfl, hb⟩
                            refine ⟨_, rfl, ?_⟩
                            have n0_ := Aside0.mk (blk_below (g := gb118) (o := .cells #[.int .u64 a0_0, .int .u64 a0_1, .bool a0_2] 24 (0, 0)) (by (with_reducible repeat (first | refine blk_drewN ?_ _ | refine blk_drew ?_ | refine blk_alloc ?_ _)); exact BK118.out) hb)
                            have n1_ := Aside0.mk (blk_below (g := gb119) (o := .cells #[.int .u64 a1_0, .int .u64 a1_1, .bool a1_2] 24 (0, 0)) (by (with_reducible repeat (first | refine blk_drewN ?_ _ | refine blk_drew ?_ | refine blk_alloc ?_ _)); exact BK119.out) hb)
                            have n2_ := Aside0.mk (below_step (by repeat (first | (with_reducible first | exact HB.out | apply below_alloc | apply pw_below_drewN | apply below_drew1 | refine below_set ?_ GE118.out | refine below_set ?_ GE119.out) | exact HB.out)) hb)
                            clear BK118
                            clear BK119
                            clear HB
                            have BK118 := n0_
                            have BK119 := n1_
                            have HB := n2_
                            clear n0_ n1_ n2_
                            (try clear hb)
                            (try clear hb2)
                            (try clear hk)
                            (try clear hi)
                            refine hK.out _ _ ⟨(blk_cell BK118.out 0).trans rfl, (blk_cell BK118.out 1).trans rfl, (blk_cell BK118.out 2).trans rfl, (blk_cell BK119.out 0).trans rfl, (blk_cell BK119.out 1).trans rfl, (blk_cell BK119.out 2).trans rfl⟩ (fun hHeld => ?_)
                            clear hK K
                            refine norm_ (a' := ?_) ?_ ?_
                            rotate_left
                            · show Act.put _ (some 14) _ = _
                              simp only [Act.put, List.setIfInBounds_toArray, List.set_cons_zero, List.set_cons_succ, i64_w, i32_w]
                              rfl
                            exact norm_ (by first | (simp only [putAll, Act.put, List.setIfInBounds_toArray, List.set_cons_zero, List.set_cons_succ]; done) | (simp only [putAll, Act.put, List.setIfInBounds_toArray, List.set_cons_zero, List.set_cons_succ]; rfl)) (hJ1 () _ ⟨hHeld, (by (with_reducible repeat (first | refine blk_drewN ?_ _ | refine blk_drew ?_ | refine blk_alloc ?_ _)); exact BK118.out), (by (with_reducible repeat (first | refine blk_drewN ?_ _ | refine blk_drew ?_ | refine blk_alloc ?_ _)); exact BK119.out), (by repeat (first | (with_reducible first | exact HB.out | apply below_alloc | apply pw_below_drewN | apply below_drew1 | refine below_set ?_ GE118.out | refine below_set ?_ GE119.out) | exact HB.out))⟩)
                          · skip
                            refine box_step ?hg (N := 5) ?hd (cs := #[.int .u64 0, .int .u64 0]) (t := 58) ?hr ?_; (case hd => rfl); (case hg => rfl); (case hr => first | (go_simp; done) | (go_simp; rfl))
                            intro gb124 hg w19 hbox hb
                            have n0_ := Aside0.mk (blk_below (g := gb118) (o := .cells #[.int .u64 a0_0, .int .u64 a0_1, .bool a0_2] 24 (0, 0)) (by (with_reducible repeat (first | refine blk_drewN ?_ _ | refine blk_drew ?_ | refine blk_alloc ?_ _)); exact BK118.out) hb)
                            have n1_ := Aside0.mk (blk_below (g := gb119) (o := .cells #[.int .u64 a1_0, .int .u64 a1_1, .bool a1_2] 24 (0, 0)) (by (with_reducible repeat (first | refine blk_drewN ?_ _ | refine blk_drew ?_ | refine blk_alloc ?_ _)); exact BK119.out) hb)
                            have n2_ := Aside0.mk (below_step (by repeat (first | (with_reducible first | exact HB.out | apply below_alloc | apply pw_below_drewN | apply below_drew1 | refine below_set ?_ GE118.out | refine below_set ?_ GE119.out) | exact HB.out)) hb)
                            have n3_ := Aside0.mk (hbox)
                            have n4_ := Aside0.mk ((by rw [hg]; exact (below_size (by repeat (first | (with_reducible first | exact HB.out | apply below_alloc | apply pw_below_drewN | apply below_drew1 | refine below_set ?_ GE118.out | refine below_set ?_ GE119.out) | exact HB.out))) : w.heap.size ≤ gb124))
                            have n5_ := Aside0.mk ((by rw [hg]; exact (below_size (by repeat (first | (with_reducible first | exact HB.out | apply below_alloc | apply pw_below_drewN | apply below_drew1 | refine below_set ?_ GE118.out | refine below_set ?_ GE119.out) | exact HB.out))) : w.heap.size ≤ gb124))
                            have n6_ := Aside0.mk ((by rw [hg]; exact Nat.ne_of_lt (blk_lt (g := gb118) (o := .cells #[.int .u64 a0_0, .int .u64 a0_1, .bool a0_2] 24 (0, 0)) (by (with_reducible repeat (first | refine blk_drewN ?_ _ | refine blk_drew ?_ | refine blk_alloc ?_ _)); exact BK118.out)) : gb118 ≠ gb124))
                            have n7_ := Aside0.mk ((by rw [hg]; exact Nat.ne_of_gt (blk_lt (g := gb118) (o := .cells #[.int .u64 a0_0, .int .u64 a0_1, .bool a0_2] 24 (0, 0)) (by (with_reducible repeat (first | refine blk_drewN ?_ _ | refine blk_drew ?_ | refine blk_alloc ?_ _)); exact BK118.out)) : gb124 ≠ gb118))
                            have n8_ := Aside0.mk ((by rw [hg]; exact Nat.ne_of_lt (blk_lt (g := gb119) (o := .cells #[.int .u64 a1_0, .int .u64 a1_1, .bool a1_2] 24 (0, 0)) (by (with_reducible repeat (first | refine blk_drewN ?_ _ | refine blk_drew ?_ | refine blk_alloc ?_ _)); exact BK119.out)) : gb119 ≠ gb124))
                            have n9_ := Aside0.mk ((by rw [hg]; exact Nat.ne_of_gt (blk_lt (g := gb119) (o := .cells #[.int .u64 a1_0, .int .u64 a1_1, .bool a1_2] 24 (0, 0)) (by (with_reducible repeat (first | refine blk_drewN ?_ _ | refine blk_drew ?_ | refine blk_alloc ?_ _)); exact BK119.out)) : gb124 ≠ gb119))
                            clear BK118
                            clear BK119
                            clear HB
                            have BK118 := n0_
                            have BK119 := n1_
                            have HB := n2_
                            have BK124 := n3_
                            have GW124 := n4_
                            have GE124 := n5_
                            have NB118_124 := n6_
                            have NB124_118 := n7_
                            have NB119_124 := n8_
                            have NB124_119 := n9_
                            clear n0_ n1_ n2_ n3_ n4_ n5_ n6_ n7_ n8_ n9_
                            clear hb hbox hg
                            refine hK.out _ _ ⟨(blk_cell BK118.out 0).trans rfl, (blk_cell BK118.out 1).trans rfl, (blk_cell BK118.out 2).trans rfl, (blk_cell BK119.out 0).trans rfl, (blk_cell BK119.out 1).trans rfl, (blk_cell BK119.out 2).trans rfl⟩ (fun hHeld => ?_)
                            clear hK K
                            refine norm_ (a' := ?_) ?_ ?_
                            rotate_left
                            · show Act.put _ (some 5) _ = _
                              simp only [Act.put, List.setIfInBounds_toArray, List.set_cons_zero, List.set_cons_succ, i64_w, i32_w]
                              rfl
                            exact norm_ (by first | (simp only [putAll, Act.put, List.setIfInBounds_toArray, List.set_cons_zero, List.set_cons_succ]; done) | (simp only [putAll, Act.put, List.setIfInBounds_toArray, List.set_cons_zero, List.set_cons_succ]; rfl)) (hJ4 (gb124) _ ⟨hHeld, (by (with_reducible repeat (first | refine blk_drewN ?_ _ | refine blk_drew ?_ | refine blk_alloc ?_ _)); exact BK118.out), (by (with_reducible repeat (first | refine blk_drewN ?_ _ | refine blk_drew ?_ | refine blk_alloc ?_ _)); exact BK119.out), (by (with_reducible repeat (first | refine blk_drewN ?_ _ | refine blk_drew ?_ | refine blk_alloc ?_ _)); exact BK124.out), GW124.out, GE124.out, NB118_124.out, NB124_118.out, NB119_124.out, NB124_119.out, (by repeat (first | (with_reducible first | exact HB.out | apply below_alloc | apply pw_below_drewN | apply below_drew1 | refine below_set ?_ GE118.out | refine below_set ?_ GE119.out | refine below_set ?_ GE124.out) | exact HB.out))⟩)
                          · skip
                            refine box_step ?hg (N := 6) ?hd (cs := #[.int .u64 0, .int .u64 0]) (t := 58) ?hr ?_; (case hd => rfl); (case hg => rfl); (case hr => first | (go_simp; done) | (go_simp; rfl))
                            intro gb125 hg w19 hbox hb
                            have n0_ := Aside0.mk (blk_below (g := gb118) (o := .cells #[.int .u64 a0_0, .int .u64 a0_1, .bool a0_2] 24 (0, 0)) (by (with_reducible repeat (first | refine blk_drewN ?_ _ | refine blk_drew ?_ | refine blk_alloc ?_ _)); exact BK118.out) hb)
                            have n1_ := Aside0.mk (blk_below (g := gb119) (o := .cells #[.int .u64 a1_0, .int .u64 a1_1, .bool a1_2] 24 (0, 0)) (by (with_reducible repeat (first | refine blk_drewN ?_ _ | refine blk_drew ?_ | refine blk_alloc ?_ _)); exact BK119.out) hb)
                            have n2_ := Aside0.mk (below_step (by repeat (first | (with_reducible first | exact HB.out | apply below_alloc | apply pw_below_drewN | apply below_drew1 | refine below_set ?_ GE118.out | refine below_set ?_ GE119.out) | exact HB.out)) hb)
                            have n3_ := Aside0.mk (hbox)
                            have n4_ := Aside0.mk ((by rw [hg]; exact (below_size (by repeat (first | (with_reducible first | exact HB.out | apply below_alloc | apply pw_below_drewN | apply below_drew1 | refine below_set ?_ GE118.out | refine below_set ?_ GE119.out) | exact HB.out))) : w.heap.size ≤ gb125))
                            have n5_ := Aside0.mk ((by rw [hg]; exact (below_size (by repeat (first | (with_reducible first | exact HB.out | apply below_alloc | apply pw_below_drewN | apply below_drew1 | refine below_set ?_ GE118.out | refine below_set ?_ GE119.out) | exact HB.out))) : w.heap.size ≤ gb125))
                            have n6_ := Aside0.mk ((by rw [hg]; exact Nat.ne_of_lt (blk_lt (g := gb118) (o := .cells #[.int .u64 a0_0, .int .u64 a0_1, .bool a0_2] 24 (0, 0)) (by (with_reducible repeat (first | refine blk_drewN ?_ _ | refine blk_drew ?_ | refine blk_alloc ?_ _)); exact BK118.out)) : gb118 ≠ gb125))
                            have n7_ := Aside0.mk ((by rw [hg]; exact Nat.ne_of_gt (blk_lt (g := gb118) (o := .cells #[.int .u64 a0_0, .int .u64 a0_1, .bool a0_2] 24 (0, 0)) (by (with_reducible repeat (first | refine blk_drewN ?_ _ | refine blk_drew ?_ | refine blk_alloc ?_ _)); exact BK118.out)) : gb125 ≠ gb118))
                            have n8_ := Aside0.mk ((by rw [hg]; exact Nat.ne_of_lt (blk_lt (g := gb119) (o := .cells #[.int .u64 a1_0, .int .u64 a1_1, .bool a1_2] 24 (0, 0)) (by (with_reducible repeat (first | refine blk_drewN ?_ _ | refine blk_drew ?_ | refine blk_alloc ?_ _)); exact BK119.out)) : gb119 ≠ gb125))
                            have n9_ := Aside0.mk ((by rw [hg]; exact Nat.ne_of_gt (blk_lt (g := gb119) (o := .cells #[.int .u64 a1_0, .int .u64 a1_1, .bool a1_2] 24 (0, 0)) (by (with_reducible repeat (first | refine blk_drewN ?_ _ | refine blk_drew ?_ | refine blk_alloc ?_ _)); exact BK119.out)) : gb125 ≠ gb119))
                            clear BK118
                            clear BK119
                            clear HB
                            have BK118 := n0_
                            have BK119 := n1_
                            have HB := n2_
                            have BK125 := n3_
                            have GW125 := n4_
                            have GE125 := n5_
                            have NB118_125 := n6_
                            have NB125_118 := n7_
                            have NB119_125 := n8_
                            have NB125_119 := n9_
                            clear n0_ n1_ n2_ n3_ n4_ n5_ n6_ n7_ n8_ n9_
                            clear hb hbox hg
                            refine hK.out _ _ ⟨(blk_cell BK118.out 0).trans rfl, (blk_cell BK118.out 1).trans rfl, (blk_cell BK118.out 2).trans rfl, (blk_cell BK119.out 0).trans rfl, (blk_cell BK119.out 1).trans rfl, (blk_cell BK119.out 2).trans rfl⟩ (fun hHeld => ?_)
                            clear hK K
                            refine norm_ (a' := ?_) ?_ ?_
                            rotate_left
                            · show Act.put _ (some 6) _ = _
                              simp only [Act.put, List.setIfInBounds_toArray, List.set_cons_zero, List.set_cons_succ, i64_w, i32_w]
                              rfl
                            exact norm_ (by first | (simp only [putAll, Act.put, List.setIfInBounds_toArray, List.set_cons_zero, List.set_cons_succ]; done) | (simp only [putAll, Act.put, List.setIfInBounds_toArray, List.set_cons_zero, List.set_cons_succ]; rfl)) (hJ5 (gb125) _ ⟨hHeld, (by (with_reducible repeat (first | refine blk_drewN ?_ _ | refine blk_drew ?_ | refine blk_alloc ?_ _)); exact BK118.out), (by (with_reducible repeat (first | refine blk_drewN ?_ _ | refine blk_drew ?_ | refine blk_alloc ?_ _)); exact BK119.out), (by (with_reducible repeat (first | refine blk_drewN ?_ _ | refine blk_drew ?_ | refine blk_alloc ?_ _)); exact BK125.out), GW125.out, GE125.out, NB118_125.out, NB125_118.out, NB119_125.out, NB125_119.out, (by repeat (first | (with_reducible first | exact HB.out | apply below_alloc | apply pw_below_drewN | apply below_drew1 | refine below_set ?_ GE118.out | refine below_set ?_ GE119.out | refine below_set ?_ GE125.out) | exact HB.out))⟩)
                        · skip
                          rintro gb125 w20 ⟨hS_, h0_, h1_, h2_, h3_, h4_, h5_, h6_, h7_, h8_, h9_⟩
                          have n0_ : Aside0 (w20.heap[gb118]? = some (.cells #[.int .u64 a0_0, .int .u64 a0_1, .bool a0_2] 24 (0, 0))) := ⟨h0_⟩
                          have n1_ : Aside0 (w20.heap[gb119]? = some (.cells #[.int .u64 a1_0, .int .u64 a1_1, .bool a1_2] 24 (0, 0))) := ⟨h1_⟩
                          have n2_ : Aside0 (w20.heap[gb125]? = some (.cells #[.int .u64 0, .int .u64 0] 58 (0, 0))) := ⟨h2_⟩
                          have n3_ : Aside0 (w.heap.size ≤ gb125) := ⟨h3_⟩
                          have n4_ : Aside0 (w.heap.size ≤ gb125) := ⟨h4_⟩
                          have n5_ : Aside0 (gb118 ≠ gb125) := ⟨h5_⟩
                          have n6_ : Aside0 (gb125 ≠ gb118) := ⟨h6_⟩
                          have n7_ : Aside0 (gb119 ≠ gb125) := ⟨h7_⟩
                          have n8_ : Aside0 (gb125 ≠ gb119) := ⟨h8_⟩
                          have n9_ : Aside0 (Below w.heap.size w w20) := ⟨h9_⟩
                          clear BK118
                          clear BK119
                          clear HB
                          clear h0_ h1_ h2_ h3_ h4_ h5_ h6_ h7_ h8_ h9_
                          have BK118 := n0_
                          have BK119 := n1_
                          have BK125 := n2_
                          have GW125 := n3_
                          have GE125 := n4_
                          have NB118_125 := n5_
                          have NB125_118 := n6_
                          have NB119_125 := n7_
                          have NB125_119 := n8_
                          have HB := n9_
                          clear n0_ n1_ n2_ n3_ n4_ n5_ n6_ n7_ n8_ n9_
                          have hHeld : w20.cell? ⟨gb118, 0, none⟩ = some (.int .u64 a0_0) ∧ w20.cell? ⟨gb118, 1, none⟩ = some (.int .u64 a0_1) ∧ w20.cell? ⟨gb118, 2, none⟩ = some (.bool a0_2) ∧ w20.cell? ⟨gb119, 0, none⟩ = some (.int .u64 a1_0) ∧ w20.cell? ⟨gb119, 1, none⟩ = some (.int .u64 a1_1) ∧ w20.cell? ⟨gb119, 2, none⟩ = some (.bool a1_2) := hS_
                          refine norm_ (a' := ?_) ?_ ?_
                          rotate_left
                          · simp only [putAll, Act.put, List.setIfInBounds_toArray, List.set_cons_zero, List.set_cons_succ]
                            rfl
                          refine two_ (i := 1) (j := 4) (Ni := some 14) (Nj := some 5) #[true, true, true, false, false, true, false, false] #[true, false, true, false, true, true, false, false] rfl rfl rfl rfl (two_of HT_.out (by kernel_rfl)) (by decide) (by decide) (fun K hK => ?_) (fun K hK => ?_)
                          · skip
                            refine goes_ Try.func46 (by kernel_rfl) rfl #[.agg #[.int .u64 a0_0, .int .u64 a0_1, .bool a0_2]] (by rfl) rfl rfl (by (try simp only [List.map_toArray, List.map_cons, List.map_nil]); first | done | rfl | (simp only [List.length_drop, List.length_take]; rfl)) ?_
                            with_reducible refine (addr_read.calls a0_0 a0_1 a0_2 t120 t121 _ A9.out).mono ?_
                            rintro e w21 ⟨rfl, hb⟩
                            refine ⟨_, rfl, ?_⟩
                            have n0_ := Aside0.mk (blk_below (g := gb118) (o := .cells #[.int .u64 a0_0, .int .u64 a0_1, .bool a0_2] 24 (0, 0)) (by (with_reducible repeat (first | refine blk_drewN ?_ _ | refine blk_drew ?_ | refine blk_alloc ?_ _)); exact BK118.out) hb)
                            have n1_ := Aside0.mk (blk_below (g := gb119) (o := .cells #[.int .u64 a1_0, .int .u64 a1_1, .bool a1_2] 24 (0, 0)) (by (with_reducible repeat (first | refine blk_drewN ?_ _ | refine blk_drew ?_ | refine blk_alloc ?_ _)); exact BK119.out) hb)
                            have n2_ := Aside0.mk (blk_below (g := gb125) (o := .cells #[.int .u64 0, .int .u64 0] 58 (0, 0)) (by (with_reducible repeat (first | refine blk_drewN ?_ _ | refine blk_drew ?_ | refine blk_alloc ?_ _)); exact BK125.out) hb)
                            have n3_ := Aside0.mk (below_step (by repeat (first | (with_reducible first | exact HB.out | apply below_alloc | apply pw_below_drewN | apply below_drew1 | refine below_set ?_ GE118.out | refine below_set ?_ GE119.out | refine below_set ?_ GE125.out) | exact HB.out)) hb)
                            clear BK118
                            clear BK119
                            clear BK125
                            clear HB
                            have BK118 := n0_
                            have BK119 := n1_
                            have BK125 := n2_
                            have HB := n3_
                            clear n0_ n1_ n2_ n3_
                            (try clear hb)
                            (try clear hb2)
                            (try clear hk)
                            (try clear hi)
                            refine hK.out _ _ ⟨(blk_cell BK118.out 0).trans rfl, (blk_cell BK118.out 1).trans rfl, (blk_cell BK118.out 2).trans rfl, (blk_cell BK119.out 0).trans rfl, (blk_cell BK119.out 1).trans rfl, (blk_cell BK119.out 2).trans rfl⟩ (fun hHeld => ?_)
                            clear hK K
                            refine norm_ (a' := ?_) ?_ ?_
                            rotate_left
                            · show Act.put _ (some 14) _ = _
                              simp only [Act.put, List.setIfInBounds_toArray, List.set_cons_zero, List.set_cons_succ, i64_w, i32_w]
                              rfl
                            exact norm_ (by first | (simp only [putAll, Act.put, List.setIfInBounds_toArray, List.set_cons_zero, List.set_cons_succ]; done) | (simp only [putAll, Act.put, List.setIfInBounds_toArray, List.set_cons_zero, List.set_cons_succ]; rfl)) (hJ1_5 (gb125) _ ⟨hHeld, (by (with_reducible repeat (first | refine blk_drewN ?_ _ | refine blk_drew ?_ | refine blk_alloc ?_ _)); exact BK118.out), (by (with_reducible repeat (first | refine blk_drewN ?_ _ | refine blk_drew ?_ | refine blk_alloc ?_ _)); exact BK119.out), (by (with_reducible repeat (first | refine blk_drewN ?_ _ | refine blk_drew ?_ | refine blk_alloc ?_ _)); exact BK125.out), GW125.out, GE125.out, NB118_125.out, NB125_118.out, NB119_125.out, NB125_119.out, (by repeat (first | (with_reducible first | exact HB.out | apply below_alloc | apply pw_below_drewN | apply below_drew1 | refine below_set ?_ GE118.out | refine below_set ?_ GE119.out | refine below_set ?_ GE125.out) | exact HB.out))⟩)
                          · skip
                            refine box_step ?hg (N := 5) ?hd (cs := #[.int .u64 0, .int .u64 0]) (t := 58) ?hr ?_; (case hd => rfl); (case hg => rfl); (case hr => first | (go_simp; done) | (go_simp; rfl))
                            intro gb124 hg w21 hbox hb
                            have n0_ := Aside0.mk (blk_below (g := gb118) (o := .cells #[.int .u64 a0_0, .int .u64 a0_1, .bool a0_2] 24 (0, 0)) (by (with_reducible repeat (first | refine blk_drewN ?_ _ | refine blk_drew ?_ | refine blk_alloc ?_ _)); exact BK118.out) hb)
                            have n1_ := Aside0.mk (blk_below (g := gb119) (o := .cells #[.int .u64 a1_0, .int .u64 a1_1, .bool a1_2] 24 (0, 0)) (by (with_reducible repeat (first | refine blk_drewN ?_ _ | refine blk_drew ?_ | refine blk_alloc ?_ _)); exact BK119.out) hb)
                            have n2_ := Aside0.mk (blk_below (g := gb125) (o := .cells #[.int .u64 0, .int .u64 0] 58 (0, 0)) (by (with_reducible repeat (first | refine blk_drewN ?_ _ | refine blk_drew ?_ | refine blk_alloc ?_ _)); exact BK125.out) hb)
                            have n3_ := Aside0.mk (below_step (by repeat (first | (with_reducible first | exact HB.out | apply below_alloc | apply pw_below_drewN | apply below_drew1 | refine below_set ?_ GE118.out | refine below_set ?_ GE119.out | refine below_set ?_ GE125.out) | exact HB.out)) hb)
                            have n4_ := Aside0.mk (hbox)
                            have n5_ := Aside0.mk ((by rw [hg]; exact (below_size (by repeat (first | (with_reducible first | exact HB.out | apply below_alloc | apply pw_below_drewN | apply below_drew1 | refine below_set ?_ GE118.out | refine below_set ?_ GE119.out | refine below_set ?_ GE125.out) | exact HB.out))) : w.heap.size ≤ gb124))
                            have n6_ := Aside0.mk ((by rw [hg]; exact (below_size (by repeat (first | (with_reducible first | exact HB.out | apply below_alloc | apply pw_below_drewN | apply below_drew1 | refine below_set ?_ GE118.out | refine below_set ?_ GE119.out | refine below_set ?_ GE125.out) | exact HB.out))) : w.heap.size ≤ gb124))
                            have n7_ := Aside0.mk ((by rw [hg]; exact Nat.ne_of_lt (blk_lt (g := gb118) (o := .cells #[.int .u64 a0_0, .int .u64 a0_1, .bool a0_2] 24 (0, 0)) (by (with_reducible repeat (first | refine blk_drewN ?_ _ | refine blk_drew ?_ | refine blk_alloc ?_ _)); exact BK118.out)) : gb118 ≠ gb124))
                            have n8_ := Aside0.mk ((by rw [hg]; exact Nat.ne_of_gt (blk_lt (g := gb118) (o := .cells #[.int .u64 a0_0, .int .u64 a0_1, .bool a0_2] 24 (0, 0)) (by (with_reducible repeat (first | refine blk_drewN ?_ _ | refine blk_drew ?_ | refine blk_alloc ?_ _)); exact BK118.out)) : gb124 ≠ gb118))
                            have n9_ := Aside0.mk ((by rw [hg]; exact Nat.ne_of_lt (blk_lt (g := gb119) (o := .cells #[.int .u64 a1_0, .int .u64 a1_1, .bool a1_2] 24 (0, 0)) (by (with_reducible repeat (first | refine blk_drewN ?_ _ | refine blk_drew ?_ | refine blk_alloc ?_ _)); exact BK119.out)) : gb119 ≠ gb124))
                            have n10_ := Aside0.mk ((by rw [hg]; exact Nat.ne_of_gt (blk_lt (g := gb119) (o := .cells #[.int .u64 a1_0, .int .u64 a1_1, .bool a1_2] 24 (0, 0)) (by (with_reducible repeat (first | refine blk_drewN ?_ _ | refine blk_drew ?_ | refine blk_alloc ?_ _)); exact BK119.out)) : gb124 ≠ gb119))
                            have n11_ := Aside0.mk ((by rw [hg]; exact Nat.ne_of_lt (blk_lt (g := gb125) (o := .cells #[.int .u64 0, .int .u64 0] 58 (0, 0)) (by (with_reducible repeat (first | refine blk_drewN ?_ _ | refine blk_drew ?_ | refine blk_alloc ?_ _)); exact BK125.out)) : gb125 ≠ gb124))
                            have n12_ := Aside0.mk ((by rw [hg]; exact Nat.ne_of_gt (blk_lt (g := gb125) (o := .cells #[.int .u64 0, .int .u64 0] 58 (0, 0)) (by (with_reducible repeat (first | refine blk_drewN ?_ _ | refine blk_drew ?_ | refine blk_alloc ?_ _)); exact BK125.out)) : gb124 ≠ gb125))
                            clear BK118
                            clear BK119
                            clear BK125
                            clear HB
                            have BK118 := n0_
                            have BK119 := n1_
                            have BK125 := n2_
                            have HB := n3_
                            have BK124 := n4_
                            have GW124 := n5_
                            have GE124 := n6_
                            have NB118_124 := n7_
                            have NB124_118 := n8_
                            have NB119_124 := n9_
                            have NB124_119 := n10_
                            have NB125_124 := n11_
                            have NB124_125 := n12_
                            clear n0_ n1_ n2_ n3_ n4_ n5_ n6_ n7_ n8_ n9_ n10_ n11_ n12_
                            clear hb hbox hg
                            refine hK.out _ _ ⟨(blk_cell BK118.out 0).trans rfl, (blk_cell BK118.out 1).trans rfl, (blk_cell BK118.out 2).trans rfl, (blk_cell BK119.out 0).trans rfl, (blk_cell BK119.out 1).trans rfl, (blk_cell BK119.out 2).trans rfl⟩ (fun hHeld => ?_)
                            clear hK K
                            refine norm_ (a' := ?_) ?_ ?_
                            rotate_left
                            · show Act.put _ (some 5) _ = _
                              simp only [Act.put, List.setIfInBounds_toArray, List.set_cons_zero, List.set_cons_succ, i64_w, i32_w]
                              rfl
                            exact norm_ (by first | (simp only [putAll, Act.put, List.setIfInBounds_toArray, List.set_cons_zero, List.set_cons_succ]; done) | (simp only [putAll, Act.put, List.setIfInBounds_toArray, List.set_cons_zero, List.set_cons_succ]; rfl)) (hJ4_5 (gb124, gb125) _ ⟨hHeld, (by (with_reducible repeat (first | refine blk_drewN ?_ _ | refine blk_drew ?_ | refine blk_alloc ?_ _)); exact BK118.out), (by (with_reducible repeat (first | refine blk_drewN ?_ _ | refine blk_drew ?_ | refine blk_alloc ?_ _)); exact BK119.out), (by (with_reducible repeat (first | refine blk_drewN ?_ _ | refine blk_drew ?_ | refine blk_alloc ?_ _)); exact BK124.out), (by (with_reducible repeat (first | refine blk_drewN ?_ _ | refine blk_drew ?_ | refine blk_alloc ?_ _)); exact BK125.out), GW124.out, GE124.out, NB118_124.out, NB124_118.out, NB119_124.out, NB124_119.out, NB125_124.out, NB124_125.out, GW125.out, GE125.out, NB118_125.out, NB125_118.out, NB119_125.out, NB125_119.out, (by repeat (first | (with_reducible first | exact HB.out | apply below_alloc | apply pw_below_drewN | apply below_drew1 | refine below_set ?_ GE118.out | refine below_set ?_ GE119.out | refine below_set ?_ GE125.out | refine below_set ?_ GE124.out) | exact HB.out))⟩)
                      · skip
                        rintro gb124 w20 ⟨hS_, h0_, h1_, h2_, h3_, h4_, h5_, h6_, h7_, h8_, h9_⟩
                        have n0_ : Aside0 (w20.heap[gb118]? = some (.cells #[.int .u64 a0_0, .int .u64 a0_1, .bool a0_2] 24 (0, 0))) := ⟨h0_⟩
                        have n1_ : Aside0 (w20.heap[gb119]? = some (.cells #[.int .u64 a1_0, .int .u64 a1_1, .bool a1_2] 24 (0, 0))) := ⟨h1_⟩
                        have n2_ : Aside0 (w20.heap[gb124]? = some (.cells #[.int .u64 0, .int .u64 0] 58 (0, 0))) := ⟨h2_⟩
                        have n3_ : Aside0 (w.heap.size ≤ gb124) := ⟨h3_⟩
                        have n4_ : Aside0 (w.heap.size ≤ gb124) := ⟨h4_⟩
                        have n5_ : Aside0 (gb118 ≠ gb124) := ⟨h5_⟩
                        have n6_ : Aside0 (gb124 ≠ gb118) := ⟨h6_⟩
                        have n7_ : Aside0 (gb119 ≠ gb124) := ⟨h7_⟩
                        have n8_ : Aside0 (gb124 ≠ gb119) := ⟨h8_⟩
                        have n9_ : Aside0 (Below w.heap.size w w20) := ⟨h9_⟩
                        clear BK118
                        clear BK119
                        clear HB
                        clear h0_ h1_ h2_ h3_ h4_ h5_ h6_ h7_ h8_ h9_
                        have BK118 := n0_
                        have BK119 := n1_
                        have BK124 := n2_
                        have GW124 := n3_
                        have GE124 := n4_
                        have NB118_124 := n5_
                        have NB124_118 := n6_
                        have NB119_124 := n7_
                        have NB124_119 := n8_
                        have HB := n9_
                        clear n0_ n1_ n2_ n3_ n4_ n5_ n6_ n7_ n8_ n9_
                        have hHeld : w20.cell? ⟨gb118, 0, none⟩ = some (.int .u64 a0_0) ∧ w20.cell? ⟨gb118, 1, none⟩ = some (.int .u64 a0_1) ∧ w20.cell? ⟨gb118, 2, none⟩ = some (.bool a0_2) ∧ w20.cell? ⟨gb119, 0, none⟩ = some (.int .u64 a1_0) ∧ w20.cell? ⟨gb119, 1, none⟩ = some (.int .u64 a1_1) ∧ w20.cell? ⟨gb119, 2, none⟩ = some (.bool a1_2) := hS_
                        refine norm_ (a' := ?_) ?_ ?_
                        rotate_left
                        · simp only [putAll, Act.put, List.setIfInBounds_toArray, List.set_cons_zero, List.set_cons_succ]
                          rfl
                        refine two_ (i := 1) (j := 5) (Ni := some 14) (Nj := some 6) #[true, true, true, false, true, false, false, false] #[true, false, true, false, true, true, false, false] rfl rfl rfl rfl (two_of HT_.out (by kernel_rfl)) (by decide) (by decide) (fun K hK => ?_) (fun K hK => ?_)
                        · skip
                          refine goes_ Try.func46 (by kernel_rfl) rfl #[.agg #[.int .u64 a0_0, .int .u64 a0_1, .bool a0_2]] (by rfl) rfl rfl (by (try simp only [List.map_toArray, List.map_cons, List.map_nil]); first | done | rfl | (simp only [List.length_drop, List.length_take]; rfl)) ?_
                          with_reducible refine (addr_read.calls a0_0 a0_1 a0_2 t120 t121 _ A9.out).mono ?_
                          rintro e w21 ⟨rfl, hb⟩
                          refine ⟨_, rfl, ?_⟩
                          have n0_ := Aside0.mk (blk_below (g := gb118) (o := .cells #[.int .u64 a0_0, .int .u64 a0_1, .bool a0_2] 24 (0, 0)) (by (with_reducible repeat (first | refine blk_drewN ?_ _ | refine blk_drew ?_ | refine blk_alloc ?_ _)); exact BK118.out) hb)
                          have n1_ := Aside0.mk (blk_below (g := gb119) (o := .cells #[.int .u64 a1_0, .int .u64 a1_1, .bool a1_2] 24 (0, 0)) (by (with_reducible repeat (first | refine blk_drewN ?_ _ | refine blk_drew ?_ | refine blk_alloc ?_ _)); exact BK119.out) hb)
                          have n2_ := Aside0.mk (blk_below (g := gb124) (o := .cells #[.int .u64 0, .int .u64 0] 58 (0, 0)) (by (with_reducible repeat (first | refine blk_drewN ?_ _ | refine blk_drew ?_ | refine blk_alloc ?_ _)); exact BK124.out) hb)
                          have n3_ := Aside0.mk (below_step (by repeat (first | (with_reducible first | exact HB.out | apply below_alloc | apply pw_below_drewN | apply below_drew1 | refine below_set ?_ GE118.out | refine below_set ?_ GE119.out | refine below_set ?_ GE124.out) | exact HB.out)) hb)
                          clear BK118
                          clear BK119
                          clear BK124
                          clear HB
                          have BK118 := n0_
                          have BK119 := n1_
                          have BK124 := n2_
                          have HB := n3_
                          clear n0_ n1_ n2_ n3_
                          (try clear hb)
                          (try clear hb2)
                          (try clear hk)
                          (try clear hi)
                          refine hK.out _ _ ⟨(blk_cell BK118.out 0).trans rfl, (blk_cell BK118.out 1).trans rfl, (blk_cell BK118.out 2).trans rfl, (blk_cell BK119.out 0).trans rfl, (blk_cell BK119.out 1).trans rfl, (blk_cell BK119.out 2).trans rfl⟩ (fun hHeld => ?_)
                          clear hK K
                          refine norm_ (a' := ?_) ?_ ?_
                          rotate_left
                          · show Act.put _ (some 14) _ = _
                            simp only [Act.put, List.setIfInBounds_toArray, List.set_cons_zero, List.set_cons_succ, i64_w, i32_w]
                            rfl
                          exact norm_ (by first | (simp only [putAll, Act.put, List.setIfInBounds_toArray, List.set_cons_zero, List.set_cons_succ]; done) | (simp only [putAll, Act.put, List.setIfInBounds_toArray, List.set_cons_zero, List.set_cons_succ]; rfl)) (hJ1_4 (gb124) _ ⟨hHeld, (by (with_reducible repeat (first | refine blk_drewN ?_ _ | refine blk_drew ?_ | refine blk_alloc ?_ _)); exact BK118.out), (by (with_reducible repeat (first | refine blk_drewN ?_ _ | refine blk_drew ?_ | refine blk_alloc ?_ _)); exact BK119.out), (by (with_reducible repeat (first | refine blk_drewN ?_ _ | refine blk_drew ?_ | refine blk_alloc ?_ _)); exact BK124.out), GW124.out, GE124.out, NB118_124.out, NB124_118.out, NB119_124.out, NB124_119.out, (by repeat (first | (with_reducible first | exact HB.out | apply below_alloc | apply pw_below_drewN | apply below_drew1 | refine below_set ?_ GE118.out | refine below_set ?_ GE119.out | refine below_set ?_ GE124.out) | exact HB.out))⟩)
                        · skip
                          refine box_step ?hg (N := 6) ?hd (cs := #[.int .u64 0, .int .u64 0]) (t := 58) ?hr ?_; (case hd => rfl); (case hg => rfl); (case hr => first | (go_simp; done) | (go_simp; rfl))
                          intro gb125 hg w21 hbox hb
                          have n0_ := Aside0.mk (blk_below (g := gb118) (o := .cells #[.int .u64 a0_0, .int .u64 a0_1, .bool a0_2] 24 (0, 0)) (by (with_reducible repeat (first | refine blk_drewN ?_ _ | refine blk_drew ?_ | refine blk_alloc ?_ _)); exact BK118.out) hb)
                          have n1_ := Aside0.mk (blk_below (g := gb119) (o := .cells #[.int .u64 a1_0, .int .u64 a1_1, .bool a1_2] 24 (0, 0)) (by (with_reducible repeat (first | refine blk_drewN ?_ _ | refine blk_drew ?_ | refine blk_alloc ?_ _)); exact BK119.out) hb)
                          have n2_ := Aside0.mk (blk_below (g := gb124) (o := .cells #[.int .u64 0, .int .u64 0] 58 (0, 0)) (by (with_reducible repeat (first | refine blk_drewN ?_ _ | refine blk_drew ?_ | refine blk_alloc ?_ _)); exact BK124.out) hb)
                          have n3_ := Aside0.mk (below_step (by repeat (first | (with_reducible first | exact HB.out | apply below_alloc | apply pw_below_drewN | apply below_drew1 | refine below_set ?_ GE118.out | refine below_set ?_ GE119.out | refine below_set ?_ GE124.out) | exact HB.out)) hb)
                          have n4_ := Aside0.mk (hbox)
                          have n5_ := Aside0.mk ((by rw [hg]; exact (below_size (by repeat (first | (with_reducible first | exact HB.out | apply below_alloc | apply pw_below_drewN | apply below_drew1 | refine below_set ?_ GE118.out | refine below_set ?_ GE119.out | refine below_set ?_ GE124.out) | exact HB.out))) : w.heap.size ≤ gb125))
                          have n6_ := Aside0.mk ((by rw [hg]; exact (below_size (by repeat (first | (with_reducible first | exact HB.out | apply below_alloc | apply pw_below_drewN | apply below_drew1 | refine below_set ?_ GE118.out | refine below_set ?_ GE119.out | refine below_set ?_ GE124.out) | exact HB.out))) : w.heap.size ≤ gb125))
                          have n7_ := Aside0.mk ((by rw [hg]; exact Nat.ne_of_lt (blk_lt (g := gb118) (o := .cells #[.int .u64 a0_0, .int .u64 a0_1, .bool a0_2] 24 (0, 0)) (by (with_reducible repeat (first | refine blk_drewN ?_ _ | refine blk_drew ?_ | refine blk_alloc ?_ _)); exact BK118.out)) : gb118 ≠ gb125))
                          have n8_ := Aside0.mk ((by rw [hg]; exact Nat.ne_of_gt (blk_lt (g := gb118) (o := .cells #[.int .u64 a0_0, .int .u64 a0_1, .bool a0_2] 24 (0, 0)) (by (with_reducible repeat (first | refine blk_drewN ?_ _ | refine blk_drew ?_ | refine blk_alloc ?_ _)); exact BK118.out)) : gb125 ≠ gb118))
                          have n9_ := Aside0.mk ((by rw [hg]; exact Nat.ne_of_lt (blk_lt (g := gb119) (o := .cells #[.int .u64 a1_0, .int .u64 a1_1, .bool a1_2] 24 (0, 0)) (by (with_reducible repeat (first | refine blk_drewN ?_ _ | refine blk_drew ?_ | refine blk_alloc ?_ _)); exact BK119.out)) : gb119 ≠ gb125))
                          have n10_ := Aside0.mk ((by rw [hg]; exact Nat.ne_of_gt (blk_lt (g := gb119) (o := .cells #[.int .u64 a1_0, .int .u64 a1_1, .bool a1_2] 24 (0, 0)) (by (with_reducible repeat (first | refine blk_drewN ?_ _ | refine blk_drew ?_ | refine blk_alloc ?_ _)); exact BK119.out)) : gb125 ≠ gb119))
                          have n11_ := Aside0.mk ((by rw [hg]; exact Nat.ne_of_lt (blk_lt (g := gb124) (o := .cells #[.int .u64 0, .int .u64 0] 58 (0, 0)) (by (with_reducible repeat (first | refine blk_drewN ?_ _ | refine blk_drew ?_ | refine blk_alloc ?_ _)); exact BK124.out)) : gb124 ≠ gb125))
                          have n12_ := Aside0.mk ((by rw [hg]; exact Nat.ne_of_gt (blk_lt (g := gb124) (o := .cells #[.int .u64 0, .int .u64 0] 58 (0, 0)) (by (with_reducible repeat (first | refine blk_drewN ?_ _ | refine blk_drew ?_ | refine blk_alloc ?_ _)); exact BK124.out)) : gb125 ≠ gb124))
                          clear BK118
                          clear BK119
                          clear BK124
                          clear HB
                          have BK118 := n0_
                          have BK119 := n1_
                          have BK124 := n2_
                          have HB := n3_
                          have BK125 := n4_
                          have GW125 := n5_
                          have GE125 := n6_
                          have NB118_125 := n7_
                          have NB125_118 := n8_
                          have NB119_125 := n9_
                          have NB125_119 := n10_
                          have NB124_125 := n11_
                          have NB125_124 := n12_
                          clear n0_ n1_ n2_ n3_ n4_ n5_ n6_ n7_ n8_ n9_ n10_ n11_ n12_
                          clear hb hbox hg
                          refine hK.out _ _ ⟨(blk_cell BK118.out 0).trans rfl, (blk_cell BK118.out 1).trans rfl, (blk_cell BK118.out 2).trans rfl, (blk_cell BK119.out 0).trans rfl, (blk_cell BK119.out 1).trans rfl, (blk_cell BK119.out 2).trans rfl⟩ (fun hHeld => ?_)
                          clear hK K
                          refine norm_ (a' := ?_) ?_ ?_
                          rotate_left
                          · show Act.put _ (some 6) _ = _
                            simp only [Act.put, List.setIfInBounds_toArray, List.set_cons_zero, List.set_cons_succ, i64_w, i32_w]
                            rfl
                          exact norm_ (by first | (simp only [putAll, Act.put, List.setIfInBounds_toArray, List.set_cons_zero, List.set_cons_succ]; done) | (simp only [putAll, Act.put, List.setIfInBounds_toArray, List.set_cons_zero, List.set_cons_succ]; rfl)) (hJ4_5 (gb124, gb125) _ ⟨hHeld, (by (with_reducible repeat (first | refine blk_drewN ?_ _ | refine blk_drew ?_ | refine blk_alloc ?_ _)); exact BK118.out), (by (with_reducible repeat (first | refine blk_drewN ?_ _ | refine blk_drew ?_ | refine blk_alloc ?_ _)); exact BK119.out), (by (with_reducible repeat (first | refine blk_drewN ?_ _ | refine blk_drew ?_ | refine blk_alloc ?_ _)); exact BK124.out), (by (with_reducible repeat (first | refine blk_drewN ?_ _ | refine blk_drew ?_ | refine blk_alloc ?_ _)); exact BK125.out), GW124.out, GE124.out, NB118_124.out, NB124_118.out, NB119_124.out, NB124_119.out, NB125_124.out, NB124_125.out, GW125.out, GE125.out, NB118_125.out, NB125_118.out, NB119_125.out, NB125_119.out, (by repeat (first | (with_reducible first | exact HB.out | apply below_alloc | apply pw_below_drewN | apply below_drew1 | refine below_set ?_ GE118.out | refine below_set ?_ GE119.out | refine below_set ?_ GE124.out | refine below_set ?_ GE125.out) | exact HB.out))⟩)
                    · skip
                      rintro _ w20 ⟨hS_, h0_, h1_, h2_⟩
                      have n0_ : Aside0 (w20.heap[gb118]? = some (.cells #[.int .u64 a0_0, .int .u64 a0_1, .bool a0_2] 24 (0, 0))) := ⟨h0_⟩
                      have n1_ : Aside0 (w20.heap[gb119]? = some (.cells #[.int .u64 a1_0, .int .u64 a1_1, .bool a1_2] 24 (0, 0))) := ⟨h1_⟩
                      have n2_ : Aside0 (Below w.heap.size w w20) := ⟨h2_⟩
                      clear BK118
                      clear BK119
                      clear HB
                      clear h0_ h1_ h2_
                      have BK118 := n0_
                      have BK119 := n1_
                      have HB := n2_
                      clear n0_ n1_ n2_
                      have hHeld : w20.cell? ⟨gb118, 0, none⟩ = some (.int .u64 a0_0) ∧ w20.cell? ⟨gb118, 1, none⟩ = some (.int .u64 a0_1) ∧ w20.cell? ⟨gb118, 2, none⟩ = some (.bool a0_2) ∧ w20.cell? ⟨gb119, 0, none⟩ = some (.int .u64 a1_0) ∧ w20.cell? ⟨gb119, 1, none⟩ = some (.int .u64 a1_1) ∧ w20.cell? ⟨gb119, 2, none⟩ = some (.bool a1_2) := hS_
                      refine norm_ (a' := ?_) ?_ ?_
                      rotate_left
                      · simp only [putAll, Act.put, List.setIfInBounds_toArray, List.set_cons_zero, List.set_cons_succ]
                        rfl
                      refine three_ (i := 3) (j := 4) (k := 5) (Ni := some 16) (Nj := some 5) (Nk := some 6) #[true, true, true, true, false, false, false, false] #[true, true, true, false, true, false, false, false] #[true, true, true, false, false, true, false, false] rfl rfl rfl rfl rfl rfl (three_of HT_.out (by kernel_rfl)) (by decide) (by decide) (by decide) (fun K hK => ?_) (fun K hK => ?_) (fun K hK => ?_)
                      · skip
                        refine goes_ Try.func46 (by kernel_rfl) rfl #[.agg #[.int .u64 a1_0, .int .u64 a1_1, .bool a1_2]] (by rfl) rfl rfl (by (try simp only [List.map_toArray, List.map_cons, List.map_nil]); first | done | rfl | (simp only [List.length_drop, List.length_take]; rfl)) ?_
                        with_reducible refine (addr_read.calls a1_0 a1_1 a1_2 t122 t123 _ A10.out).mono ?_
                        rintro e w21 ⟨rfl, hb⟩
                        refine ⟨_, rfl, ?_⟩
                        have n0_ := Aside0.mk (blk_below (g := gb118) (o := .cells #[.int .u64 a0_0, .int .u64 a0_1, .bool a0_2] 24 (0, 0)) (by (with_reducible repeat (first | refine blk_drewN ?_ _ | refine blk_drew ?_ | refine blk_alloc ?_ _)); exact BK118.out) hb)
                        have n1_ := Aside0.mk (blk_below (g := gb119) (o := .cells #[.int .u64 a1_0, .int .u64 a1_1, .bool a1_2] 24 (0, 0)) (by (with_reducible repeat (first | refine blk_drewN ?_ _ | refine blk_drew ?_ | refine blk_alloc ?_ _)); exact BK119.out) hb)
                        have n2_ := Aside0.mk (below_step (by repeat (first | (with_reducible first | exact HB.out | apply below_alloc | apply pw_below_drewN | apply below_drew1 | refine below_set ?_ GE118.out | refine below_set ?_ GE119.out) | exact HB.out)) hb)
                        clear BK118
                        clear BK119
                        clear HB
                        have BK118 := n0_
                        have BK119 := n1_
                        have HB := n2_
                        clear n0_ n1_ n2_
                        (try clear hb)
                        (try clear hb2)
                        (try clear hk)
                        (try clear hi)
                        refine hK.out _ _ ⟨(blk_cell BK118.out 0).trans rfl, (blk_cell BK118.out 1).trans rfl, (blk_cell BK118.out 2).trans rfl, (blk_cell BK119.out 0).trans rfl, (blk_cell BK119.out 1).trans rfl, (blk_cell BK119.out 2).trans rfl⟩ (fun hHeld => ?_)
                        clear hK K
                        refine norm_ (a' := ?_) ?_ ?_
                        rotate_left
                        · show Act.put _ (some 16) _ = _
                          simp only [Act.put, List.setIfInBounds_toArray, List.set_cons_zero, List.set_cons_succ, i64_w, i32_w]
                          rfl
                        exact norm_ (by first | (simp only [putAll, Act.put, List.setIfInBounds_toArray, List.set_cons_zero, List.set_cons_succ]; done) | (simp only [putAll, Act.put, List.setIfInBounds_toArray, List.set_cons_zero, List.set_cons_succ]; rfl)) (hJ1_3 () _ ⟨hHeld, (by (with_reducible repeat (first | refine blk_drewN ?_ _ | refine blk_drew ?_ | refine blk_alloc ?_ _)); exact BK118.out), (by (with_reducible repeat (first | refine blk_drewN ?_ _ | refine blk_drew ?_ | refine blk_alloc ?_ _)); exact BK119.out), (by repeat (first | (with_reducible first | exact HB.out | apply below_alloc | apply pw_below_drewN | apply below_drew1 | refine below_set ?_ GE118.out | refine below_set ?_ GE119.out) | exact HB.out))⟩)
                      · skip
                        refine box_step ?hg (N := 5) ?hd (cs := #[.int .u64 0, .int .u64 0]) (t := 58) ?hr ?_; (case hd => rfl); (case hg => rfl); (case hr => first | (go_simp; done) | (go_simp; rfl))
                        intro gb124 hg w21 hbox hb
                        have n0_ := Aside0.mk (blk_below (g := gb118) (o := .cells #[.int .u64 a0_0, .int .u64 a0_1, .bool a0_2] 24 (0, 0)) (by (with_reducible repeat (first | refine blk_drewN ?_ _ | refine blk_drew ?_ | refine blk_alloc ?_ _)); exact BK118.out) hb)
                        have n1_ := Aside0.mk (blk_below (g := gb119) (o := .cells #[.int .u64 a1_0, .int .u64 a1_1, .bool a1_2] 24 (0, 0)) (by (with_reducible repeat (first | refine blk_drewN ?_ _ | refine blk_drew ?_ | refine blk_alloc ?_ _)); exact BK119.out) hb)
                        have n2_ := Aside0.mk (below_step (by repeat (first | (with_reducible first | exact HB.out | apply below_alloc | apply pw_below_drewN | apply below_drew1 | refine below_set ?_ GE118.out | refine below_set ?_ GE119.out) | exact HB.out)) hb)
                        have n3_ := Aside0.mk (hbox)
                        have n4_ := Aside0.mk ((by rw [hg]; exact (below_size (by repeat (first | (with_reducible first | exact HB.out | apply below_alloc | apply pw_below_drewN | apply below_drew1 | refine below_set ?_ GE118.out | refine below_set ?_ GE119.out) | exact HB.out))) : w.heap.size ≤ gb124))
                        have n5_ := Aside0.mk ((by rw [hg]; exact (below_size (by repeat (first | (with_reducible first | exact HB.out | apply below_alloc | apply pw_below_drewN | apply below_drew1 | refine below_set ?_ GE118.out | refine below_set ?_ GE119.out) | exact HB.out))) : w.heap.size ≤ gb124))
                        have n6_ := Aside0.mk ((by rw [hg]; exact Nat.ne_of_lt (blk_lt (g := gb118) (o := .cells #[.int .u64 a0_0, .int .u64 a0_1, .bool a0_2] 24 (0, 0)) (by (with_reducible repeat (first | refine blk_drewN ?_ _ | refine blk_drew ?_ | refine blk_alloc ?_ _)); exact BK118.out)) : gb118 ≠ gb124))
                        have n7_ := Aside0.mk ((by rw [hg]; exact Nat.ne_of_gt (blk_lt (g := gb118) (o := .cells #[.int .u64 a0_0, .int .u64 a0_1, .bool a0_2] 24 (0, 0)) (by (with_reducible repeat (first | refine blk_drewN ?_ _ | refine blk_drew ?_ | refine blk_alloc ?_ _)); exact BK118.out)) : gb124 ≠ gb118))
                        have n8_ := Aside0.mk ((by rw [hg]; exact Nat.ne_of_lt (blk_lt (g := gb119) (o := .cells #[.int .u64 a1_0, .int .u64 a1_1, .bool a1_2] 24 (0, 0)) (by (with_reducible repeat (first | refine blk_drewN ?_ _ | refine blk_drew ?_ | refine blk_alloc ?_ _)); exact BK119.out)) : gb119 ≠ gb124))
                        have n9_ := Aside0.mk ((by rw [hg]; exact Nat.ne_of_gt (blk_lt (g := gb119) (o := .cells #[.int .u64 a1_0, .int .u64 a1_1, .bool a1_2] 24 (0, 0)) (by (with_reducible repeat (first | refine blk_drewN ?_ _ | refine blk_drew ?_ | refine blk_alloc ?_ _)); exact BK119.out)) : gb124 ≠ gb119))
                        clear BK118
                        clear BK119
                        clear HB
                        have BK118 := n0_
                        have BK119 := n1_
                        have HB := n2_
                        have BK124 := n3_
                        have GW124 := n4_
                        have GE124 := n5_
                        have NB118_124 := n6_
                        have NB124_118 := n7_
                        have NB119_124 := n8_
                        have NB124_119 := n9_
                        clear n0_ n1_ n2_ n3_ n4_ n5_ n6_ n7_ n8_ n9_
                        clear hb hbox hg
                        refine hK.out _ _ ⟨(blk_cell BK118.out 0).trans rfl, (blk_cell BK118.out 1).trans rfl, (blk_cell BK118.out 2).trans rfl, (blk_cell BK119.out 0).trans rfl, (blk_cell BK119.out 1).trans rfl, (blk_cell BK119.out 2).trans rfl⟩ (fun hHeld => ?_)
                        clear hK K
                        refine norm_ (a' := ?_) ?_ ?_
                        rotate_left
                        · show Act.put _ (some 5) _ = _
                          simp only [Act.put, List.setIfInBounds_toArray, List.set_cons_zero, List.set_cons_succ, i64_w, i32_w]
                          rfl
                        exact norm_ (by first | (simp only [putAll, Act.put, List.setIfInBounds_toArray, List.set_cons_zero, List.set_cons_succ]; done) | (simp only [putAll, Act.put, List.setIfInBounds_toArray, List.set_cons_zero, List.set_cons_succ]; rfl)) (hJ1_4 (gb124) _ ⟨hHeld, (by (with_reducible repeat (first | refine blk_drewN ?_ _ | refine blk_drew ?_ | refine blk_alloc ?_ _)); exact BK118.out), (by (with_reducible repeat (first | refine blk_drewN ?_ _ | refine blk_drew ?_ | refine blk_alloc ?_ _)); exact BK119.out), (by (with_reducible repeat (first | refine blk_drewN ?_ _ | refine blk_drew ?_ | refine blk_alloc ?_ _)); exact BK124.out), GW124.out, GE124.out, NB118_124.out, NB124_118.out, NB119_124.out, NB124_119.out, (by repeat (first | (with_reducible first | exact HB.out | apply below_alloc | apply pw_below_drewN | apply below_drew1 | refine below_set ?_ GE118.out | refine below_set ?_ GE119.out | refine below_set ?_ GE124.out) | exact HB.out))⟩)
                      · skip
                        refine box_step ?hg (N := 6) ?hd (cs := #[.int .u64 0, .int .u64 0]) (t := 58) ?hr ?_; (case hd => rfl); (case hg => rfl); (case hr => first | (go_simp; done) | (go_simp; rfl))
                        intro gb125 hg w21 hbox hb
                        have n0_ := Aside0.mk (blk_below (g := gb118) (o := .cells #[.int .u64 a0_0, .int .u64 a0_1, .bool a0_2] 24 (0, 0)) (by (with_reducible repeat (first | refine blk_drewN ?_ _ | refine blk_drew ?_ | refine blk_alloc ?_ _)); exact BK118.out) hb)
                        have n1_ := Aside0.mk (blk_below (g := gb119) (o := .cells #[.int .u64 a1_0, .int .u64 a1_1, .bool a1_2] 24 (0, 0)) (by (with_reducible repeat (first | refine blk_drewN ?_ _ | refine blk_drew ?_ | refine blk_alloc ?_ _)); exact BK119.out) hb)
                        have n2_ := Aside0.mk (below_step (by repeat (first | (with_reducible first | exact HB.out | apply below_alloc | apply pw_below_drewN | apply below_drew1 | refine below_set ?_ GE118.out | refine below_set ?_ GE119.out) | exact HB.out)) hb)
                        have n3_ := Aside0.mk (hbox)
                        have n4_ := Aside0.mk ((by rw [hg]; exact (below_size (by repeat (first | (with_reducible first | exact HB.out | apply below_alloc | apply pw_below_drewN | apply below_drew1 | refine below_set ?_ GE118.out | refine below_set ?_ GE119.out) | exact HB.out))) : w.heap.size ≤ gb125))
                        have n5_ := Aside0.mk ((by rw [hg]; exact (below_size (by repeat (first | (with_reducible first | exact HB.out | apply below_alloc | apply pw_below_drewN | apply below_drew1 | refine below_set ?_ GE118.out | refine below_set ?_ GE119.out) | exact HB.out))) : w.heap.size ≤ gb125))
                        have n6_ := Aside0.mk ((by rw [hg]; exact Nat.ne_of_lt (blk_lt (g := gb118) (o := .cells #[.int .u64 a0_0, .int .u64 a0_1, .bool a0_2] 24 (0, 0)) (by (with_reducible repeat (first | refine blk_drewN ?_ _ | refine blk_drew ?_ | refine blk_alloc ?_ _)); exact BK118.out)) : gb118 ≠ gb125))
                        have n7_ := Aside0.mk ((by rw [hg]; exact Nat.ne_of_gt (blk_lt (g := gb118) (o := .cells #[.int .u64 a0_0, .int .u64 a0_1, .bool a0_2] 24 (0, 0)) (by (with_reducible repeat (first | refine blk_drewN ?_ _ | refine blk_drew ?_ | refine blk_alloc ?_ _)); exact BK118.out)) : gb125 ≠ gb118))
                        have n8_ := Aside0.mk ((by rw [hg]; exact Nat.ne_of_lt (blk_lt (g := gb119) (o := .cells #[.int .u64 a1_0, .int .u64 a1_1, .bool a1_2] 24 (0, 0)) (by (with_reducible repeat (first | refine blk_drewN ?_ _ | refine blk_drew ?_ | refine blk_alloc ?_ _)); exact BK119.out)) : gb119 ≠ gb125))
                        have n9_ := Aside0.mk ((by rw [hg]; exact Nat.ne_of_gt (blk_lt (g := gb119) (o := .cells #[.int .u64 a1_0, .int .u64 a1_1, .bool a1_2] 24 (0, 0)) (by (with_reducible repeat (first | refine blk_drewN ?_ _ | refine blk_drew ?_ | refine blk_alloc ?_ _)); exact BK119.out)) : gb125 ≠ gb119))
                        clear BK118
                        clear BK119
                        clear HB
                        have BK118 := n0_
                        have BK119 := n1_
                        have HB := n2_
                        have BK125 := n3_
                        have GW125 := n4_
                        have GE125 := n5_
                        have NB118_125 := n6_
                        have NB125_118 := n7_
                        have NB119_125 := n8_
                        have NB125_119 := n9_
                        clear n0_ n1_ n2_ n3_ n4_ n5_ n6_ n7_ n8_ n9_
                        clear hb hbox hg
                        refine hK.out _ _ ⟨(blk_cell BK118.out 0).trans rfl, (blk_cell BK118.out 1).trans rfl, (blk_cell BK118.out 2).trans rfl, (blk_cell BK119.out 0).trans rfl, (blk_cell BK119.out 1).trans rfl, (blk_cell BK119.out 2).trans rfl⟩ (fun hHeld => ?_)
                        clear hK K
                        refine norm_ (a' := ?_) ?_ ?_
                        rotate_left
                        · show Act.put _ (some 6) _ = _
                          simp only [Act.put, List.setIfInBounds_toArray, List.set_cons_zero, List.set_cons_succ, i64_w, i32_w]
                          rfl
                        exact norm_ (by first | (simp only [putAll, Act.put, List.setIfInBounds_toArray, List.set_cons_zero, List.set_cons_succ]; done) | (simp only [putAll, Act.put, List.setIfInBounds_toArray, List.set_cons_zero, List.set_cons_succ]; rfl)) (hJ1_5 (gb125) _ ⟨hHeld, (by (with_reducible repeat (first | refine blk_drewN ?_ _ | refine blk_drew ?_ | refine blk_alloc ?_ _)); exact BK118.out), (by (with_reducible repeat (first | refine blk_drewN ?_ _ | refine blk_drew ?_ | refine blk_alloc ?_ _)); exact BK119.out), (by (with_reducible repeat (first | refine blk_drewN ?_ _ | refine blk_drew ?_ | refine blk_alloc ?_ _)); exact BK125.out), GW125.out, GE125.out, NB118_125.out, NB125_118.out, NB119_125.out, NB125_119.out, (by repeat (first | (with_reducible first | exact HB.out | apply below_alloc | apply pw_below_drewN | apply below_drew1 | refine below_set ?_ GE118.out | refine below_set ?_ GE119.out | refine below_set ?_ GE125.out) | exact HB.out))⟩)
                  · skip
                    rintro ⟨gb124, gb125⟩ w21 ⟨hS_, h0_, h1_, h2_, h3_, h4_, h5_, h6_, h7_, h8_, h9_, h10_, h11_, h12_, h13_, h14_, h15_, h16_, h17_, h18_⟩
                    have n0_ : Aside0 (w21.heap[gb118]? = some (.cells #[.int .u64 a0_0, .int .u64 a0_1, .bool a0_2] 24 (0, 0))) := ⟨h0_⟩
                    have n1_ : Aside0 (w21.heap[gb119]? = some (.cells #[.int .u64 a1_0, .int .u64 a1_1, .bool a1_2] 24 (0, 0))) := ⟨h1_⟩
                    have n2_ : Aside0 (w21.heap[gb124]? = some (.cells #[.int .u64 0, .int .u64 0] 58 (0, 0))) := ⟨h2_⟩
                    have n3_ : Aside0 (w21.heap[gb125]? = some (.cells #[.int .u64 0, .int .u64 0] 58 (0, 0))) := ⟨h3_⟩
                    have n4_ : Aside0 (w.heap.size ≤ gb124) := ⟨h4_⟩
                    have n5_ : Aside0 (w.heap.size ≤ gb124) := ⟨h5_⟩
                    have n6_ : Aside0 (gb118 ≠ gb124) := ⟨h6_⟩
                    have n7_ : Aside0 (gb124 ≠ gb118) := ⟨h7_⟩
                    have n8_ : Aside0 (gb119 ≠ gb124) := ⟨h8_⟩
                    have n9_ : Aside0 (gb124 ≠ gb119) := ⟨h9_⟩
                    have n10_ : Aside0 (gb125 ≠ gb124) := ⟨h10_⟩
                    have n11_ : Aside0 (gb124 ≠ gb125) := ⟨h11_⟩
                    have n12_ : Aside0 (w.heap.size ≤ gb125) := ⟨h12_⟩
                    have n13_ : Aside0 (w.heap.size ≤ gb125) := ⟨h13_⟩
                    have n14_ : Aside0 (gb118 ≠ gb125) := ⟨h14_⟩
                    have n15_ : Aside0 (gb125 ≠ gb118) := ⟨h15_⟩
                    have n16_ : Aside0 (gb119 ≠ gb125) := ⟨h16_⟩
                    have n17_ : Aside0 (gb125 ≠ gb119) := ⟨h17_⟩
                    have n18_ : Aside0 (Below w.heap.size w w21) := ⟨h18_⟩
                    clear BK118
                    clear BK119
                    clear HB
                    clear h0_ h1_ h2_ h3_ h4_ h5_ h6_ h7_ h8_ h9_ h10_ h11_ h12_ h13_ h14_ h15_ h16_ h17_ h18_
                    have BK118 := n0_
                    have BK119 := n1_
                    have BK124 := n2_
                    have BK125 := n3_
                    have GW124 := n4_
                    have GE124 := n5_
                    have NB118_124 := n6_
                    have NB124_118 := n7_
                    have NB119_124 := n8_
                    have NB124_119 := n9_
                    have NB125_124 := n10_
                    have NB124_125 := n11_
                    have GW125 := n12_
                    have GE125 := n13_
                    have NB118_125 := n14_
                    have NB125_118 := n15_
                    have NB119_125 := n16_
                    have NB125_119 := n17_
                    have HB := n18_
                    clear n0_ n1_ n2_ n3_ n4_ n5_ n6_ n7_ n8_ n9_ n10_ n11_ n12_ n13_ n14_ n15_ n16_ n17_ n18_
                    have hHeld : w21.cell? ⟨gb118, 0, none⟩ = some (.int .u64 a0_0) ∧ w21.cell? ⟨gb118, 1, none⟩ = some (.int .u64 a0_1) ∧ w21.cell? ⟨gb118, 2, none⟩ = some (.bool a0_2) ∧ w21.cell? ⟨gb119, 0, none⟩ = some (.int .u64 a1_0) ∧ w21.cell? ⟨gb119, 1, none⟩ = some (.int .u64 a1_1) ∧ w21.cell? ⟨gb119, 2, none⟩ = some (.bool a1_2) := hS_
                    refine norm_ (a' := ?_) ?_ ?_
                    rotate_left
                    · simp only [putAll, Act.put, List.setIfInBounds_toArray, List.set_cons_zero, List.set_cons_succ]
                      rfl
                    refine one_ (i := 1) (N := some 14) #[true, true, true, false, true, true, false, false] rfl rfl (one_of HT_.out (by kernel_rfl)) (by decide) (fun K hK => ?_)
                    refine goes_ Try.func46 (by kernel_rfl) rfl #[.agg #[.int .u64 a0_0, .int .u64 a0_1, .bool a0_2]] (by rfl) rfl rfl (by (try simp only [List.map_toArray, List.map_cons, List.map_nil]); first | done | rfl | (simp only [List.length_drop, List.length_take]; rfl)) ?_
                    with_reducible refine (addr_read.calls a0_0 a0_1 a0_2 t120 t121 _ A9.out).mono ?_
                    rintro e w22 ⟨rfl, hb⟩
                    refine ⟨_, rfl, ?_⟩
                    have n0_ := Aside0.mk (blk_below (g := gb118) (o := .cells #[.int .u64 a0_0, .int .u64 a0_1, .bool a0_2] 24 (0, 0)) (by (with_reducible repeat (first | refine blk_drewN ?_ _ | refine blk_drew ?_ | refine blk_alloc ?_ _)); exact BK118.out) hb)
                    have n1_ := Aside0.mk (blk_below (g := gb119) (o := .cells #[.int .u64 a1_0, .int .u64 a1_1, .bool a1_2] 24 (0, 0)) (by (with_reducible repeat (first | refine blk_drewN ?_ _ | refine blk_drew ?_ | refine blk_alloc ?_ _)); exact BK119.out) hb)
                    have n2_ := Aside0.mk (blk_below (g := gb124) (o := .cells #[.int .u64 0, .int .u64 0] 58 (0, 0)) (by (with_reducible repeat (first | refine blk_drewN ?_ _ | refine blk_drew ?_ | refine blk_alloc ?_ _)); exact BK124.out) hb)
                    have n3_ := Aside0.mk (blk_below (g := gb125) (o := .cells #[.int .u64 0, .int .u64 0] 58 (0, 0)) (by (with_reducible repeat (first | refine blk_drewN ?_ _ | refine blk_drew ?_ | refine blk_alloc ?_ _)); exact BK125.out) hb)
                    have n4_ := Aside0.mk (below_step (by repeat (first | (with_reducible first | exact HB.out | apply below_alloc | apply pw_below_drewN | apply below_drew1 | refine below_set ?_ GE118.out | refine below_set ?_ GE119.out | refine below_set ?_ GE124.out | refine below_set ?_ GE125.out) | exact HB.out)) hb)
                    clear BK118
                    clear BK119
                    clear BK124
                    clear BK125
                    clear HB
                    have BK118 := n0_
                    have BK119 := n1_
                    have BK124 := n2_
                    have BK125 := n3_
                    have HB := n4_
                    clear n0_ n1_ n2_ n3_ n4_
                    (try clear hb)
                    (try clear hb2)
                    (try clear hk)
                    (try clear hi)
                    refine hK.out _ _ ⟨(blk_cell BK118.out 0).trans rfl, (blk_cell BK118.out 1).trans rfl, (blk_cell BK118.out 2).trans rfl, (blk_cell BK119.out 0).trans rfl, (blk_cell BK119.out 1).trans rfl, (blk_cell BK119.out 2).trans rfl⟩ (fun hHeld => ?_)
                    clear hK K
                    refine norm_ (a' := ?_) ?_ ?_
                    rotate_left
                    · show Act.put _ (some 14) _ = _
                      simp only [Act.put, List.setIfInBounds_toArray, List.set_cons_zero, List.set_cons_succ, i64_w, i32_w]
                      rfl
                    exact norm_ (by first | (simp only [putAll, Act.put, List.setIfInBounds_toArray, List.set_cons_zero, List.set_cons_succ]; done) | (simp only [putAll, Act.put, List.setIfInBounds_toArray, List.set_cons_zero, List.set_cons_succ]; rfl)) (hJ1_4_5 (gb124, gb125) _ ⟨hHeld, (by (with_reducible repeat (first | refine blk_drewN ?_ _ | refine blk_drew ?_ | refine blk_alloc ?_ _)); exact BK118.out), (by (with_reducible repeat (first | refine blk_drewN ?_ _ | refine blk_drew ?_ | refine blk_alloc ?_ _)); exact BK119.out), (by (with_reducible repeat (first | refine blk_drewN ?_ _ | refine blk_drew ?_ | refine blk_alloc ?_ _)); exact BK124.out), (by (with_reducible repeat (first | refine blk_drewN ?_ _ | refine blk_drew ?_ | refine blk_alloc ?_ _)); exact BK125.out), GW124.out, GE124.out, NB118_124.out, NB124_118.out, NB119_124.out, NB124_119.out, NB125_124.out, NB124_125.out, GW125.out, GE125.out, NB118_125.out, NB125_118.out, NB119_125.out, NB125_119.out, (by repeat (first | (with_reducible first | exact HB.out | apply below_alloc | apply pw_below_drewN | apply below_drew1 | refine below_set ?_ GE118.out | refine below_set ?_ GE119.out | refine below_set ?_ GE124.out | refine below_set ?_ GE125.out) | exact HB.out))⟩)
                · skip
                  rintro gb125 w21 ⟨hS_, h0_, h1_, h2_, h3_, h4_, h5_, h6_, h7_, h8_, h9_⟩
                  have n0_ : Aside0 (w21.heap[gb118]? = some (.cells #[.int .u64 a0_0, .int .u64 a0_1, .bool a0_2] 24 (0, 0))) := ⟨h0_⟩
                  have n1_ : Aside0 (w21.heap[gb119]? = some (.cells #[.int .u64 a1_0, .int .u64 a1_1, .bool a1_2] 24 (0, 0))) := ⟨h1_⟩
                  have n2_ : Aside0 (w21.heap[gb125]? = some (.cells #[.int .u64 0, .int .u64 0] 58 (0, 0))) := ⟨h2_⟩
                  have n3_ : Aside0 (w.heap.size ≤ gb125) := ⟨h3_⟩
                  have n4_ : Aside0 (w.heap.size ≤ gb125) := ⟨h4_⟩
                  have n5_ : Aside0 (gb118 ≠ gb125) := ⟨h5_⟩
                  have n6_ : Aside0 (gb125 ≠ gb118) := ⟨h6_⟩
                  have n7_ : Aside0 (gb119 ≠ gb125) := ⟨h7_⟩
                  have n8_ : Aside0 (gb125 ≠ gb119) := ⟨h8_⟩
                  have n9_ : Aside0 (Below w.heap.size w w21) := ⟨h9_⟩
                  clear BK118
                  clear BK119
                  clear HB
                  clear h0_ h1_ h2_ h3_ h4_ h5_ h6_ h7_ h8_ h9_
                  have BK118 := n0_
                  have BK119 := n1_
                  have BK125 := n2_
                  have GW125 := n3_
                  have GE125 := n4_
                  have NB118_125 := n5_
                  have NB125_118 := n6_
                  have NB119_125 := n7_
                  have NB125_119 := n8_
                  have HB := n9_
                  clear n0_ n1_ n2_ n3_ n4_ n5_ n6_ n7_ n8_ n9_
                  have hHeld : w21.cell? ⟨gb118, 0, none⟩ = some (.int .u64 a0_0) ∧ w21.cell? ⟨gb118, 1, none⟩ = some (.int .u64 a0_1) ∧ w21.cell? ⟨gb118, 2, none⟩ = some (.bool a0_2) ∧ w21.cell? ⟨gb119, 0, none⟩ = some (.int .u64 a1_0) ∧ w21.cell? ⟨gb119, 1, none⟩ = some (.int .u64 a1_1) ∧ w21.cell? ⟨gb119, 2, none⟩ = some (.bool a1_2) := hS_
                  refine norm_ (a' := ?_) ?_ ?_
                  rotate_left
                  · simp only [putAll, Act.put, List.setIfInBounds_toArray, List.set_cons_zero, List.set_cons_succ]
                    rfl
                  refine two_ (i := 3) (j := 4) (Ni := some 16) (Nj := some 5) #[true, true, true, true, false, true, false, false] #[true, true, true, false, true, true, false, false] rfl rfl rfl rfl (two_of HT_.out (by kernel_rfl)) (by decide) (by decide) (fun K hK => ?_) (fun K hK => ?_)
                  · skip
                    refine goes_ Try.func46 (by kernel_rfl) rfl #[.agg #[.int .u64 a1_0, .int .u64 a1_1, .bool a1_2]] (by rfl) rfl rfl (by (try simp only [List.map_toArray, List.map_cons, List.map_nil]); first | done | rfl | (simp only [List.length_drop, List.length_take]; rfl)) ?_
                    with_reducible refine (addr_read.calls a1_0 a1_1 a1_2 t122 t123 _ A10.out).mono ?_
                    rintro e w22 ⟨rfl, hb⟩
                    refine ⟨_, rfl, ?_⟩
                    have n0_ := Aside0.mk (blk_below (g := gb118) (o := .cells #[.int .u64 a0_0, .int .u64 a0_1, .bool a0_2] 24 (0, 0)) (by (with_reducible repeat (first | refine blk_drewN ?_ _ | refine blk_drew ?_ | refine blk_alloc ?_ _)); exact BK118.out) hb)
                    have n1_ := Aside0.mk (blk_below (g := gb119) (o := .cells #[.int .u64 a1_0, .int .u64 a1_1, .bool a1_2] 24 (0, 0)) (by (with_reducible repeat (first | refine blk_drewN ?_ _ | refine blk_drew ?_ | refine blk_alloc ?_ _)); exact BK119.out) hb)
                    have n2_ := Aside0.mk (blk_below (g := gb125) (o := .cells #[.int .u64 0, .int .u64 0] 58 (0, 0)) (by (with_reducible repeat (first | refine blk_drewN ?_ _ | refine blk_drew ?_ | refine blk_alloc ?_ _)); exact BK125.out) hb)
                    have n3_ := Aside0.mk (below_step (by repeat (first | (with_reducible first | exact HB.out | apply below_alloc | apply pw_below_drewN | apply below_drew1 | refine below_set ?_ GE118.out | refine below_set ?_ GE119.out | refine below_set ?_ GE125.out) | exact HB.out)) hb)
                    clear BK118
                    clear BK119
                    clear BK125
                    clear HB
                    have BK118 := n0_
                    have BK119 := n1_
                    have BK125 := n2_
                    have HB := n3_
                    clear n0_ n1_ n2_ n3_
                    (try clear hb)
                    (try clear hb2)
                    (try clear hk)
                    (try clear hi)
                    refine hK.out _ _ ⟨(blk_cell BK118.out 0).trans rfl, (blk_cell BK118.out 1).trans rfl, (blk_cell BK118.out 2).trans rfl, (blk_cell BK119.out 0).trans rfl, (blk_cell BK119.out 1).trans rfl, (blk_cell BK119.out 2).trans rfl⟩ (fun hHeld => ?_)
                    clear hK K
                    refine norm_ (a' := ?_) ?_ ?_
                    rotate_left
                    · show Act.put _ (some 16) _ = _
                      simp only [Act.put, List.setIfInBounds_toArray, List.set_cons_zero, List.set_cons_succ, i64_w, i32_w]
                      rfl
                    exact norm_ (by first | (simp only [putAll, Act.put, List.setIfInBounds_toArray, List.set_cons_zero, List.set_cons_succ]; done) | (simp only [putAll, Act.put, List.setIfInBounds_toArray, List.set_cons_zero, List.set_cons_succ]; rfl)) (hJ1_3_5 (gb125) _ ⟨hHeld, (by (with_reducible repeat (first | refine blk_drewN ?_ _ | refine blk_drew ?_ | refine blk_alloc ?_ _)); exact BK118.out), (by (with_reducible repeat (first | refine blk_drewN ?_ _ | refine blk_drew ?_ | refine blk_alloc ?_ _)); exact BK119.out), (by (with_reducible repeat (first | refine blk_drewN ?_ _ | refine blk_drew ?_ | refine blk_alloc ?_ _)); exact BK125.out), GW125.out, GE125.out, NB118_125.out, NB125_118.out, NB119_125.out, NB125_119.out, (by repeat (first | (with_reducible first | exact HB.out | apply below_alloc | apply pw_below_drewN | apply below_drew1 | refine below_set ?_ GE118.out | refine below_set ?_ GE119.out | refine below_set ?_ GE125.out) | exact HB.out))⟩)
                  · skip
                    refine box_step ?hg (N := 5) ?hd (cs := #[.int .u64 0, .int .u64 0]) (t := 58) ?hr ?_; (case hd => rfl); (case hg => rfl); (case hr => first | (go_simp; done) | (go_simp; rfl))
                    intro gb124 hg w22 hbox hb
                    have n0_ := Aside0.mk (blk_below (g := gb118) (o := .cells #[.int .u64 a0_0, .int .u64 a0_1, .bool a0_2] 24 (0, 0)) (by (with_reducible repeat (first | refine blk_drewN ?_ _ | refine blk_drew ?_ | refine blk_alloc ?_ _)); exact BK118.out) hb)
                    have n1_ := Aside0.mk (blk_below (g := gb119) (o := .cells #[.int .u64 a1_0, .int .u64 a1_1, .bool a1_2] 24 (0, 0)) (by (with_reducible repeat (first | refine blk_drewN ?_ _ | refine blk_drew ?_ | refine blk_alloc ?_ _)); exact BK119.out) hb)
                    have n2_ := Aside0.mk (blk_below (g := gb125) (o := .cells #[.int .u64 0, .int .u64 0] 58 (0, 0)) (by (with_reducible repeat (first | refine blk_drewN ?_ _ | refine blk_drew ?_ | refine blk_alloc ?_ _)); exact BK125.out) hb)
                    have n3_ := Aside0.mk (below_step (by repeat (first | (with_reducible first | exact HB.out | apply below_alloc | apply pw_below_drewN | apply below_drew1 | refine below_set ?_ GE118.out | refine below_set ?_ GE119.out | refine below_set ?_ GE125.out) | exact HB.out)) hb)
                    have n4_ := Aside0.mk (hbox)
                    have n5_ := Aside0.mk ((by rw [hg]; exact (below_size (by repeat (first | (with_reducible first | exact HB.out | apply below_alloc | apply pw_below_drewN | apply below_drew1 | refine below_set ?_ GE118.out | refine below_set ?_ GE119.out | refine below_set ?_ GE125.out) | exact HB.out))) : w.heap.size ≤ gb124))
                    have n6_ := Aside0.mk ((by rw [hg]; exact (below_size (by repeat (first | (with_reducible first | exact HB.out | apply below_alloc | apply pw_below_drewN | apply below_drew1 | refine below_set ?_ GE118.out | refine below_set ?_ GE119.out | refine below_set ?_ GE125.out) | exact HB.out))) : w.heap.size ≤ gb124))
                    have n7_ := Aside0.mk ((by rw [hg]; exact Nat.ne_of_lt (blk_lt (g := gb118) (o := .cells #[.int .u64 a0_0, .int .u64 a0_1, .bool a0_2] 24 (0, 0)) (by (with_reducible repeat (first | refine blk_drewN ?_ _ | refine blk_drew ?_ | refine blk_alloc ?_ _)); exact BK118.out)) : gb118 ≠ gb124))
                    have n8_ := Aside0.mk ((by rw [hg]; exact Nat.ne_of_gt (blk_lt (g := gb118) (o := .cells #[.int .u64 a0_0, .int .u64 a0_1, .bool a0_2] 24 (0, 0)) (by (with_reducible repeat (first | refine blk_drewN ?_ _ | refine blk_drew ?_ | refine blk_alloc ?_ _)); exact BK118.out)) : gb124 ≠ gb118))
                    have n9_ := Aside0.mk ((by rw [hg]; exact Nat.ne_of_lt (blk_lt (g := gb119) (o := .cells #[.int .u64 a1_0, .int .u64 a1_1, .bool a1_2] 24 (0, 0)) (by (with_reducible repeat (first | refine blk_drewN ?_ _ | refine blk_drew ?_ | refine blk_alloc ?_ _)); exact BK119.out)) : gb119 ≠ gb124))
                    have n10_ := Aside0.mk ((by rw [hg]; exact Nat.ne_of_gt (blk_lt (g := gb119) (o := .cells #[.int .u64 a1_0, .int .u64 a1_1, .bool a1_2] 24 (0, 0)) (by (with_reducible repeat (first | refine blk_drewN ?_ _ | refine blk_drew ?_ | refine blk_alloc ?_ _)); exact BK119.out)) : gb124 ≠ gb119))
                    have n11_ := Aside0.mk ((by rw [hg]; exact Nat.ne_of_lt (blk_lt (g := gb125) (o := .cells #[.int .u64 0, .int .u64 0] 58 (0, 0)) (by (with_reducible repeat (first | refine blk_drewN ?_ _ | refine blk_drew ?_ | refine blk_alloc ?_ _)); exact BK125.out)) : gb125 ≠ gb124))
                    have n12_ := Aside0.mk ((by rw [hg]; exact Nat.ne_of_gt (blk_lt (g := gb125) (o := .cells #[.int .u64 0, .int .u64 0] 58 (0, 0)) (by (with_reducible repeat (first | refine blk_drewN ?_ _ | refine blk_drew ?_ | refine blk_alloc ?_ _)); exact BK125.out)) : gb124 ≠ gb125))
                    clear BK118
                    clear BK119
                    clear BK125
                    clear HB
                    have BK118 := n0_
                    have BK119 := n1_
                    have BK125 := n2_
                    have HB := n3_
                    have BK124 := n4_
                    have GW124 := n5_
                    have GE124 := n6_
                    have NB118_124 := n7_
                    have NB124_118 := n8_
                    have NB119_124 := n9_
                    have NB124_119 := n10_
                    have NB125_124 := n11_
                    have NB124_125 := n12_
                    clear n0_ n1_ n2_ n3_ n4_ n5_ n6_ n7_ n8_ n9_ n10_ n11_ n12_
                    clear hb hbox hg
                    refine hK.out _ _ ⟨(blk_cell BK118.out 0).trans rfl, (blk_cell BK118.out 1).trans rfl, (blk_cell BK118.out 2).trans rfl, (blk_cell BK119.out 0).trans rfl, (blk_cell BK119.out 1).trans rfl, (blk_cell BK119.out 2).trans rfl⟩ (fun hHeld => ?_)
                    clear hK K
                    refine norm_ (a' := ?_) ?_ ?_
                    rotate_left
                    · show Act.put _ (some 5) _ = _
                      simp only [Act.put, List.setIfInBounds_toArray, List.set_cons_zero, List.set_cons_succ, i64_w, i32_w]
                      rfl
                    exact norm_ (by first | (simp only [putAll, Act.put, List.setIfInBounds_toArray, List.set_cons_zero, List.set_cons_succ]; done) | (simp only [putAll, Act.put, List.setIfInBounds_toArray, List.set_cons_zero, List.set_cons_succ]; rfl)) (hJ1_4_5 (gb124, gb125) _ ⟨hHeld, (by (with_reducible repeat (first | refine blk_drewN ?_ _ | refine blk_drew ?_ | refine blk_alloc ?_ _)); exact BK118.out), (by (with_reducible repeat (first | refine blk_drewN ?_ _ | refine blk_drew ?_ | refine blk_alloc ?_ _)); exact BK119.out), (by (with_reducible repeat (first | refine blk_drewN ?_ _ | refine blk_drew ?_ | refine blk_alloc ?_ _)); exact BK124.out), (by (with_reducible repeat (first | refine blk_drewN ?_ _ | refine blk_drew ?_ | refine blk_alloc ?_ _)); exact BK125.out), GW124.out, GE124.out, NB118_124.out, NB124_118.out, NB119_124.out, NB124_119.out, NB125_124.out, NB124_125.out, GW125.out, GE125.out, NB118_125.out, NB125_118.out, NB119_125.out, NB125_119.out, (by repeat (first | (with_reducible first | exact HB.out | apply below_alloc | apply pw_below_drewN | apply below_drew1 | refine below_set ?_ GE118.out | refine below_set ?_ GE119.out | refine below_set ?_ GE125.out | refine below_set ?_ GE124.out) | exact HB.out))⟩)
              · skip
                rintro gb124 w21 ⟨hS_, h0_, h1_, h2_, h3_, h4_, h5_, h6_, h7_, h8_, h9_⟩
                have n0_ : Aside0 (w21.heap[gb118]? = some (.cells #[.int .u64 a0_0, .int .u64 a0_1, .bool a0_2] 24 (0, 0))) := ⟨h0_⟩
                have n1_ : Aside0 (w21.heap[gb119]? = some (.cells #[.int .u64 a1_0, .int .u64 a1_1, .bool a1_2] 24 (0, 0))) := ⟨h1_⟩
                have n2_ : Aside0 (w21.heap[gb124]? = some (.cells #[.int .u64 0, .int .u64 0] 58 (0, 0))) := ⟨h2_⟩
                have n3_ : Aside0 (w.heap.size ≤ gb124) := ⟨h3_⟩
                have n4_ : Aside0 (w.heap.size ≤ gb124) := ⟨h4_⟩
                have n5_ : Aside0 (gb118 ≠ gb124) := ⟨h5_⟩
                have n6_ : Aside0 (gb124 ≠ gb118) := ⟨h6_⟩
                have n7_ : Aside0 (gb119 ≠ gb124) := ⟨h7_⟩
                have n8_ : Aside0 (gb124 ≠ gb119) := ⟨h8_⟩
                have n9_ : Aside0 (Below w.heap.size w w21) := ⟨h9_⟩
                clear BK118
                clear BK119
                clear HB
                clear h0_ h1_ h2_ h3_ h4_ h5_ h6_ h7_ h8_ h9_
                have BK118 := n0_
                have BK119 := n1_
                have BK124 := n2_
                have GW124 := n3_
                have GE124 := n4_
                have NB118_124 := n5_
                have NB124_118 := n6_
                have NB119_124 := n7_
                have NB124_119 := n8_
                have HB := n9_
                clear n0_ n1_ n2_ n3_ n4_ n5_ n6_ n7_ n8_ n9_
                have hHeld : w21.cell? ⟨gb118, 0, none⟩ = some (.int .u64 a0_0) ∧ w21.cell? ⟨gb118, 1, none⟩ = some (.int .u64 a0_1) ∧ w21.cell? ⟨gb118, 2, none⟩ = some (.bool a0_2) ∧ w21.cell? ⟨gb119, 0, none⟩ = some (.int .u64 a1_0) ∧ w21.cell? ⟨gb119, 1, none⟩ = some (.int .u64 a1_1) ∧ w21.cell? ⟨gb119, 2, none⟩ = some (.bool a1_2) := hS_
                refine norm_ (a' := ?_) ?_ ?_
                rotate_left
                · simp only [putAll, Act.put, List.setIfInBounds_toArray, List.set_cons_zero, List.set_cons_succ]
                  rfl
                refine two_ (i := 3) (j := 5) (Ni := some 16) (Nj := some 6) #[true, true, true, true, true, false, false, false] #[true, true, true, false, true, true, false, false] rfl rfl rfl rfl (two_of HT_.out (by kernel_rfl)) (by decide) (by decide) (fun K hK => ?_) (fun K hK => ?_)
                · skip
                  refine goes_ Try.func46 (by kernel_rfl) rfl #[.agg #[.int .u64 a1_0, .int .u64 a1_1, .bool a1_2]] (by rfl) rfl rfl (by (try simp only [List.map_toArray, List.map_cons, List.map_nil]); first | done | rfl | (simp only [List.length_drop, List.length_take]; rfl)) ?_
                  with_reducible refine (addr_read.calls a1_0 a1_1 a1_2 t122 t123 _ A10.out).mono ?_
                  rintro e w22 ⟨rfl, hb⟩
                  refine ⟨_, rfl, ?_⟩
                  have n0_ := Aside0.mk (blk_below (g := gb118) (o := .cells #[.int .u64 a0_0, .int .u64 a0_1, .bool a0_2] 24 (0, 0)) (by (with_reducible repeat (first | refine blk_drewN ?_ _ | refine blk_drew ?_ | refine blk_alloc ?_ _)); exact BK118.out) hb)
                  have n1_ := Aside0.mk (blk_below (g := gb119) (o := .cells #[.int .u64 a1_0, .int .u64 a1_1, .bool a1_2] 24 (0, 0)) (by (with_reducible repeat (first | refine blk_drewN ?_ _ | refine blk_drew ?_ | refine blk_alloc ?_ _)); exact BK119.out) hb)
                  have n2_ := Aside0.mk (blk_below (g := gb124) (o := .cells #[.int .u64 0, .int .u64 0] 58 (0, 0)) (by (with_reducible repeat (first | refine blk_drewN ?_ _ | refine blk_drew ?_ | refine blk_alloc ?_ _)); exact BK124.out) hb)
                  have n3_ := Aside0.mk (below_step (by repeat (first | (with_reducible first | exact HB.out | apply below_alloc | apply pw_below_drewN | apply below_drew1 | refine below_set ?_ GE118.out | refine below_set ?_ GE119.out | refine below_set ?_ GE124.out) | exact HB.out)) hb)
                  clear BK118
                  clear BK119
                  clear BK124
                  clear HB
                  have BK118 := n0_
                  have BK119 := n1_
                  have BK124 := n2_
                  have HB := n3_
                  clear n0_ n1_ n2_ n3_
                  (try clear hb)
                  (try clear hb2)
                  (try clear hk)
                  (try clear hi)
                  refine hK.out _ _ ⟨(blk_cell BK118.out 0).trans rfl, (blk_cell BK118.out 1).trans rfl, (blk_cell BK118.out 2).trans rfl, (blk_cell BK119.out 0).trans rfl, (blk_cell BK119.out 1).trans rfl, (blk_cell BK119.out 2).trans rfl⟩ (fun hHeld => ?_)
                  clear hK K
                  refine norm_ (a' := ?_) ?_ ?_
                  rotate_left
                  · show Act.put _ (some 16) _ = _
                    simp only [Act.put, List.setIfInBounds_toArray, List.set_cons_zero, List.set_cons_succ, i64_w, i32_w]
                    rfl
                  exact norm_ (by first | (simp only [putAll, Act.put, List.setIfInBounds_toArray, List.set_cons_zero, List.set_cons_succ]; done) | (simp only [putAll, Act.put, List.setIfInBounds_toArray, List.set_cons_zero, List.set_cons_succ]; rfl)) (hJ1_3_4 (gb124) _ ⟨hHeld, (by (with_reducible repeat (first | refine blk_drewN ?_ _ | refine blk_drew ?_ | refine blk_alloc ?_ _)); exact BK118.out), (by (with_reducible repeat (first | refine blk_drewN ?_ _ | refine blk_drew ?_ | refine blk_alloc ?_ _)); exact BK119.out), (by (with_reducible repeat (first | refine blk_drewN ?_ _ | refine blk_drew ?_ | refine blk_alloc ?_ _)); exact BK124.out), GW124.out, GE124.out, NB118_124.out, NB124_118.out, NB119_124.out, NB124_119.out, (by repeat (first | (with_reducible first | exact HB.out | apply below_alloc | apply pw_below_drewN | apply below_drew1 | refine below_set ?_ GE118.out | refine below_set ?_ GE119.out | refine below_set ?_ GE124.out) | exact HB.out))⟩)
                · skip
                  refine box_step ?hg (N := 6) ?hd (cs := #[.int .u64 0, .int .u64 0]) (t := 58) ?hr ?_; (case hd => rfl); (case hg => rfl); (case hr => first | (go_simp; done) | (go_simp; rfl))
                  intro gb125 hg w22 hbox hb
                  have n0_ := Aside0.mk (blk_below (g := gb118) (o := .cells #[.int .u64 a0_0, .int .u64 a0_1, .bool a0_2] 24 (0, 0)) (by (with_reducible repeat (first | refine blk_drewN ?_ _ | refine blk_drew ?_ | refine blk_alloc ?_ _)); exact BK118.out) hb)
                  have n1_ := Aside0.mk (blk_below (g := gb119) (o := .cells #[.int .u64 a1_0, .int .u64 a1_1, .bool a1_2] 24 (0, 0)) (by (with_reducible repeat (first | refine blk_drewN ?_ _ | refine blk_drew ?_ | refine blk_alloc ?_ _)); exact BK119.out) hb)
                  have n2_ := Aside0.mk (blk_below (g := gb124) (o := .cells #[.int .u64 0, .int .u64 0] 58 (0, 0)) (by (with_reducible repeat (first | refine blk_drewN ?_ _ | refine blk_drew ?_ | refine blk_alloc ?_ _)); exact BK124.out) hb)
                  have n3_ := Aside0.mk (below_step (by repeat (first | (with_reducible first | exact HB.out | apply below_alloc | apply pw_below_drewN | apply below_drew1 | refine below_set ?_ GE118.out | refine below_set ?_ GE119.out | refine below_set ?_ GE124.out) | exact HB.out)) hb)
                  have n4_ := Aside0.mk (hbox)
                  have n5_ := Aside0.mk ((by rw [hg]; exact (below_size (by repeat (first | (with_reducible first | exact HB.out | apply below_alloc | apply pw_below_drewN | apply below_drew1 | refine below_set ?_ GE118.out | refine below_set ?_ GE119.out | refine below_set ?_ GE124.out) | exact HB.out))) : w.heap.size ≤ gb125))
                  have n6_ := Aside0.mk ((by rw [hg]; exact (below_size (by repeat (first | (with_reducible first | exact HB.out | apply below_alloc | apply pw_below_drewN | apply below_drew1 | refine below_set ?_ GE118.out | refine below_set ?_ GE119.out | refine below_set ?_ GE124.out) | exact HB.out))) : w.heap.size ≤ gb125))
                  have n7_ := Aside0.mk ((by rw [hg]; exact Nat.ne_of_lt (blk_lt (g := gb118) (o := .cells #[.int .u64 a0_0, .int .u64 a0_1, .bool a0_2] 24 (0, 0)) (by (with_reducible repeat (first | refine blk_drewN ?_ _ | refine blk_drew ?_ | refine blk_alloc ?_ _)); exact BK118.out)) : gb118 ≠ gb125))
                  have n8_ := Aside0.mk ((by rw [hg]; exact Nat.ne_of_gt (blk_lt (g := gb118) (o := .cells #[.int .u64 a0_0, .int .u64 a0_1, .bool a0_2] 24 (0, 0)) (by (with_reducible repeat (first | refine blk_drewN ?_ _ | refine blk_drew ?_ | refine blk_alloc ?_ _)); exact BK118.out)) : gb125 ≠ gb118))
                  have n9_ := Aside0.mk ((by rw [hg]; exact Nat.ne_of_lt (blk_lt (g := gb119) (o := .cells #[.int .u64 a1_0, .int .u64 a1_1, .bool a1_2] 24 (0, 0)) (by (with_reducible repeat (first | refine blk_drewN ?_ _ | refine blk_drew ?_ | refine blk_alloc ?_ _)); exact BK119.out)) : gb119 ≠ gb125))
                  have n10_ := Aside0.mk ((by rw [hg]; exact Nat.ne_of_gt (blk_lt (g := gb119) (o := .cells #[.int .u64 a1_0, .int .u64 a1_1, .bool a1_2] 24 (0, 0)) (by (with_reducible repeat (first | refine blk_drewN ?_ _ | refine blk_drew ?_ | refine blk_alloc ?_ _)); exact BK119.out)) : gb125 ≠ gb119))
                  have n11_ := Aside0.mk ((by rw [hg]; exact Nat.ne_of_lt (blk_lt (g := gb124) (o := .cells #[.int .u64 0, .int .u64 0] 58 (0, 0)) (by (with_reducible repeat (first | refine blk_drewN ?_ _ | refine blk_drew ?_ | refine blk_alloc ?_ _)); exact BK124.out)) : gb124 ≠ gb125))
                  have n12_ := Aside0.mk ((by rw [hg]; exact Nat.ne_of_gt (blk_lt (g := gb124) (o := .cells #[.int .u64 0, .int .u64 0] 58 (0, 0)) (by (with_reducible repeat (first | refine blk_drewN ?_ _ | refine blk_drew ?_ | refine blk_alloc ?_ _)); exact BK124.out)) : gb125 ≠ gb124))
                  clear BK118
                  clear BK119
                  clear BK124
                  clear HB
                  have BK118 := n0_
                  have BK119 := n1_
                  have BK124 := n2_
                  have HB := n3_
                  have BK125 := n4_
                  have GW125 := n5_
                  have GE125 := n6_
                  have NB118_125 := n7_
                  have NB125_118 := n8_
                  have NB119_125 := n9_
                  have NB125_119 := n10_
                  have NB124_125 := n11_
                  have NB125_124 := n12_
                  clear n0_ n1_ n2_ n3_ n4_ n5_ n6_ n7_ n8_ n9_ n10_ n11_ n12_
                  clear hb hbox hg
                  refine hK.out _ _ ⟨(blk_cell BK118.out 0).trans rfl, (blk_cell BK118.out 1).trans rfl, (blk_cell BK118.out 2).trans rfl, (blk_cell BK119.out 0).trans rfl, (blk_cell BK119.out 1).trans rfl, (blk_cell BK119.out 2).trans rfl⟩ (fun hHeld => ?_)
                  clear hK K
                  refine norm_ (a' := ?_) ?_ ?_
                  rotate_left
                  · show Act.put _ (some 6) _ = _
                    simp only [Act.put, List.setIfInBounds_toArray, List.set_cons_zero, List.set_cons_succ, i64_w, i32_w]
                    rfl
                  exact norm_ (by first | (simp only [putAll, Act.put, List.setIfInBounds_toArray, List.set_cons_zero, List.set_cons_succ]; done) | (simp only [putAll, Act.put, List.setIfInBounds_toArray, List.set_cons_zero, List.set_cons_succ]; rfl)) (hJ1_4_5 (gb124, gb125) _ ⟨hHeld, (by (with_reducible repeat (first | refine blk_drewN ?_ _ | refine blk_drew ?_ | refine blk_alloc ?_ _)); exact BK118.out), (by (with_reducible repeat (first | refine blk_drewN ?_ _ | refine blk_drew ?_ | refine blk_alloc ?_ _)); exact BK119.out), (by (with_reducible repeat (first | refine blk_drewN ?_ _ | refine blk_drew ?_ | refine blk_alloc ?_ _)); exact BK124.out), (by (with_reducible repeat (first | refine blk_drewN ?_ _ | refine blk_drew ?_ | refine blk_alloc ?_ _)); exact BK125.out), GW124.out, GE124.out, NB118_124.out, NB124_118.out, NB119_124.out, NB124_119.out, NB125_124.out, NB124_125.out, GW125.out, GE125.out, NB118_125.out, NB125_118.out, NB119_125.out, NB125_119.out, (by repeat (first | (with_reducible first | exact HB.out | apply below_alloc | apply pw_below_drewN | apply below_drew1 | refine below_set ?_ GE118.out | refine below_set ?_ GE119.out | refine below_set ?_ GE124.out | refine below_set ?_ GE125.out) | exact HB.out))⟩)
            · skip
              rintro _ w21 ⟨hS_, h0_, h1_, h2_⟩
              have n0_ : Aside0 (w21.heap[gb118]? = some (.cells #[.int .u64 a0_0, .int .u64 a0_1, .bool a0_2] 24 (0, 0))) := ⟨h0_⟩
              have n1_ : Aside0 (w21.heap[gb119]? = some (.cells #[.int .u64 a1_0, .int .u64 a1_1, .bool a1_2] 24 (0, 0))) := ⟨h1_⟩
              have n2_ : Aside0 (Below w.heap.size w w21) := ⟨h2_⟩
              clear BK118
              clear BK119
              clear HB
              clear h0_ h1_ h2_
              have BK118 := n0_
              have BK119 := n1_
              have HB := n2_
              clear n0_ n1_ n2_
              have hHeld : w21.cell? ⟨gb118, 0, none⟩ = some (.int .u64 a0_0) ∧ w21.cell? ⟨gb118, 1, none⟩ = some (.int .u64 a0_1) ∧ w21.cell? ⟨gb118, 2, none⟩ = some (.bool a0_2) ∧ w21.cell? ⟨gb119, 0, none⟩ = some (.int .u64 a1_0) ∧ w21.cell? ⟨gb119, 1, none⟩ = some (.int .u64 a1_1) ∧ w21.cell? ⟨gb119, 2, none⟩ = some (.bool a1_2) := hS_
              refine norm_ (a' := ?_) ?_ ?_
              rotate_left
              · simp only [putAll, Act.put, List.setIfInBounds_toArray, List.set_cons_zero, List.set_cons_succ]
                rfl
              refine two_ (i := 4) (j := 5) (Ni := some 5) (Nj := some 6) #[true, true, true, true, true, false, false, false] #[true, true, true, true, false, true, false, false] rfl rfl rfl rfl (two_of HT_.out (by kernel_rfl)) (by decide) (by decide) (fun K hK => ?_) (fun K hK => ?_)
              · skip
                refine box_step ?hg (N := 5) ?hd (cs := #[.int .u64 0, .int .u64 0]) (t := 58) ?hr ?_; (case hd => rfl); (case hg => rfl); (case hr => first | (go_simp; done) | (go_simp; rfl))
                intro gb124 hg w22 hbox hb
                have n0_ := Aside0.mk (blk_below (g := gb118) (o := .cells #[.int .u64 a0_0, .int .u64 a0_1, .bool a0_2] 24 (0, 0)) (by (with_reducible repeat (first | refine blk_drewN ?_ _ | refine blk_drew ?_ | refine blk_alloc ?_ _)); exact BK118.out) hb)
                have n1_ := Aside0.mk (blk_below (g := gb119) (o := .cells #[.int .u64 a1_0, .int .u64 a1_1, .bool a1_2] 24 (0, 0)) (by (with_reducible repeat (first | refine blk_drewN ?_ _ | refine blk_drew ?_ | refine blk_alloc ?_ _)); exact BK119.out) hb)
                have n2_ := Aside0.mk (below_step (by repeat (first | (with_reducible first | exact HB.out | apply below_alloc | apply pw_below_drewN | apply below_drew1 | refine below_set ?_ GE118.out | refine below_set ?_ GE119.out) | exact HB.out)) hb)
                have n3_ := Aside0.mk (hbox)
                have n4_ := Aside0.mk ((by rw [hg]; exact (below_size (by repeat (first | (with_reducible first | exact HB.out | apply below_alloc | apply pw_below_drewN | apply below_drew1 | refine below_set ?_ GE118.out | refine below_set ?_ GE119.out) | exact HB.out))) : w.heap.size ≤ gb124))
                have n5_ := Aside0.mk ((by rw [hg]; exact (below_size (by repeat (first | (with_reducible first | exact HB.out | apply below_alloc | apply pw_below_drewN | apply below_drew1 | refine below_set ?_ GE118.out | refine below_set ?_ GE119.out) | exact HB.out))) : w.heap.size ≤ gb124))
                have n6_ := Aside0.mk ((by rw [hg]; exact Nat.ne_of_lt (blk_lt (g := gb118) (o := .cells #[.int .u64 a0_0, .int .u64 a0_1, .bool a0_2] 24 (0, 0)) (by (with_reducible repeat (first | refine blk_drewN ?_ _ | refine blk_drew ?_ | refine blk_alloc ?_ _)); exact BK118.out)) : gb118 ≠ gb124))
                have n7_ := Aside0.mk ((by rw [hg]; exact Nat.ne_of_gt (blk_lt (g := gb118) (o := .cells #[.int .u64 a0_0, .int .u64 a0_1, .bool a0_2] 24 (0, 0)) (by (with_reducible repeat (first | refine blk_drewN ?_ _ | refine blk_drew ?_ | refine blk_alloc ?_ _)); exact BK118.out)) : gb124 ≠ gb118))
                have n8_ := Aside0.mk ((by rw [hg]; exact Nat.ne_of_lt (blk_lt (g := gb119) (o := .cells #[.int .u64 a1_0, .int .u64 a1_1, .bool a1_2] 24 (0, 0)) (by (with_reducible repeat (first | refine blk_drewN ?_ _ | refine blk_drew ?_ | refine blk_alloc ?_ _)); exact BK119.out)) : gb119 ≠ gb124))
                have n9_ := Aside0.mk ((by rw [hg]; exact Nat.ne_of_gt (blk_lt (g := gb119) (o := .cells #[.int .u64 a1_0, .int .u64 a1_1, .bool a1_2] 24 (0, 0)) (by (with_reducible repeat (first | refine blk_drewN ?_ _ | refine blk_drew ?_ | refine blk_alloc ?_ _)); exact BK119.out)) : gb124 ≠ gb119))
                clear BK118
                clear BK119
                clear HB
                have BK118 := n0_
                have BK119 := n1_
                have HB := n2_
                have BK124 := n3_
                have GW124 := n4_
                have GE124 := n5_
                have NB118_124 := n6_
                have NB124_118 := n7_
                have NB119_124 := n8_
                have NB124_119 := n9_
                clear n0_ n1_ n2_ n3_ n4_ n5_ n6_ n7_ n8_ n9_
                clear hb hbox hg
                refine hK.out _ _ ⟨(blk_cell BK118.out 0).trans rfl, (blk_cell BK118.out 1).trans rfl, (blk_cell BK118.out 2).trans rfl, (blk_cell BK119.out 0).trans rfl, (blk_cell BK119.out 1).trans rfl, (blk_cell BK119.out 2).trans rfl⟩ (fun hHeld => ?_)
                clear hK K
                refine norm_ (a' := ?_) ?_ ?_
                rotate_left
                · show Act.put _ (some 5) _ = _
                  simp only [Act.put, List.setIfInBounds_toArray, List.set_cons_zero, List.set_cons_succ, i64_w, i32_w]
                  rfl
                exact norm_ (by first | (simp only [putAll, Act.put, List.setIfInBounds_toArray, List.set_cons_zero, List.set_cons_succ]; done) | (simp only [putAll, Act.put, List.setIfInBounds_toArray, List.set_cons_zero, List.set_cons_succ]; rfl)) (hJ1_3_4 (gb124) _ ⟨hHeld, (by (with_reducible repeat (first | refine blk_drewN ?_ _ | refine blk_drew ?_ | refine blk_alloc ?_ _)); exact BK118.out), (by (with_reducible repeat (first | refine blk_drewN ?_ _ | refine blk_drew ?_ | refine blk_alloc ?_ _)); exact BK119.out), (by (with_reducible repeat (first | refine blk_drewN ?_ _ | refine blk_drew ?_ | refine blk_alloc ?_ _)); exact BK124.out), GW124.out, GE124.out, NB118_124.out, NB124_118.out, NB119_124.out, NB124_119.out, (by repeat (first | (with_reducible first | exact HB.out | apply below_alloc | apply pw_below_drewN | apply below_drew1 | refine below_set ?_ GE118.out | refine below_set ?_ GE119.out | refine below_set ?_ GE124.out) | exact HB.out))⟩)
              · skip
                refine box_step ?hg (N := 6) ?hd (cs := #[.int .u64 0, .int .u64 0]) (t := 58) ?hr ?_; (case hd => rfl); (case hg => rfl); (case hr => first | (go_simp; done) | (go_simp; rfl))
                intro gb125 hg w22 hbox hb
                have n0_ := Aside0.mk (blk_below (g := gb118) (o := .cells #[.int .u64 a0_0, .int .u64 a0_1, .bool a0_2] 24 (0, 0)) (by (with_reducible repeat (first | refine blk_drewN ?_ _ | refine blk_drew ?_ | refine blk_alloc ?_ _)); exact BK118.out) hb)
                have n1_ := Aside0.mk (blk_below (g := gb119) (o := .cells #[.int .u64 a1_0, .int .u64 a1_1, .bool a1_2] 24 (0, 0)) (by (with_reducible repeat (first | refine blk_drewN ?_ _ | refine blk_drew ?_ | refine blk_alloc ?_ _)); exact BK119.out) hb)
                have n2_ := Aside0.mk (below_step (by repeat (first | (with_reducible first | exact HB.out | apply below_alloc | apply pw_below_drewN | apply below_drew1 | refine below_set ?_ GE118.out | refine below_set ?_ GE119.out) | exact HB.out)) hb)
                have n3_ := Aside0.mk (hbox)
                have n4_ := Aside0.mk ((by rw [hg]; exact (below_size (by repeat (first | (with_reducible first | exact HB.out | apply below_alloc | apply pw_below_drewN | apply below_drew1 | refine below_set ?_ GE118.out | refine below_set ?_ GE119.out) | exact HB.out))) : w.heap.size ≤ gb125))
                have n5_ := Aside0.mk ((by rw [hg]; exact (below_size (by repeat (first | (with_reducible first | exact HB.out | apply below_alloc | apply pw_below_drewN | apply below_drew1 | refine below_set ?_ GE118.out | refine below_set ?_ GE119.out) | exact HB.out))) : w.heap.size ≤ gb125))
                have n6_ := Aside0.mk ((by rw [hg]; exact Nat.ne_of_lt (blk_lt (g := gb118) (o := .cells #[.int .u64 a0_0, .int .u64 a0_1, .bool a0_2] 24 (0, 0)) (by (with_reducible repeat (first | refine blk_drewN ?_ _ | refine blk_drew ?_ | refine blk_alloc ?_ _)); exact BK118.out)) : gb118 ≠ gb125))
                have n7_ := Aside0.mk ((by rw [hg]; exact Nat.ne_of_gt (blk_lt (g := gb118) (o := .cells #[.int .u64 a0_0, .int .u64 a0_1, .bool a0_2] 24 (0, 0)) (by (with_reducible repeat (first | refine blk_drewN ?_ _ | refine blk_drew ?_ | refine blk_alloc ?_ _)); exact BK118.out)) : gb125 ≠ gb118))
                have n8_ := Aside0.mk ((by rw [hg]; exact Nat.ne_of_lt (blk_lt (g := gb119) (o := .cells #[.int .u64 a1_0, .int .u64 a1_1, .bool a1_2] 24 (0, 0)) (by (with_reducible repeat (first | refine blk_drewN ?_ _ | refine blk_drew ?_ | refine blk_alloc ?_ _)); exact BK119.out)) : gb119 ≠ gb125))
                have n9_ := Aside0.mk ((by rw [hg]; exact Nat.ne_of_gt (blk_lt (g := gb119) (o := .cells #[.int .u64 a1_0, .int .u64 a1_1, .bool a1_2] 24 (0, 0)) (by (with_reducible repeat (first | refine blk_drewN ?_ _ | refine blk_drew ?_ | refine blk_alloc ?_ _)); exact BK119.out)) : gb125 ≠ gb119))
                clear BK118
                clear BK119
                clear HB
                have BK118 := n0_
                have BK119 := n1_
                have HB := n2_
                have BK125 := n3_
                have GW125 := n4_
                have GE125 := n5_
                have NB118_125 := n6_
                have NB125_118 := n7_
                have NB119_125 := n8_
                have NB125_119 := n9_
                clear n0_ n1_ n2_ n3_ n4_ n5_ n6_ n7_ n8_ n9_
                clear hb hbox hg
                refine hK.out _ _ ⟨(blk_cell BK118.out 0).trans rfl, (blk_cell BK118.out 1).trans rfl, (blk_cell BK118.out 2).trans rfl, (blk_cell BK119.out 0).trans rfl, (blk_cell BK119.out 1).trans rfl, (blk_cell BK119.out 2).trans rfl⟩ (fun hHeld => ?_)
                clear hK K
                refine norm_ (a' := ?_) ?_ ?_
                rotate_left
                · show Act.put _ (some 6) _ = _
                  simp only [Act.put, List.setIfInBounds_toArray, List.set_cons_zero, List.set_cons_succ, i64_w, i32_w]
                  rfl
                exact norm_ (by first | (simp only [putAll, Act.put, List.setIfInBounds_toArray, List.set_cons_zero, List.set_cons_succ]; done) | (simp only [putAll, Act.put, List.setIfInBounds_toArray, List.set_cons_zero, List.set_cons_succ]; rfl)) (hJ1_3_5 (gb125) _ ⟨hHeld, (by (with_reducible repeat (first | refine blk_drewN ?_ _ | refine blk_drew ?_ | refine blk_alloc ?_ _)); exact BK118.out), (by (with_reducible repeat (first | refine blk_drewN ?_ _ | refine blk_drew ?_ | refine blk_alloc ?_ _)); exact BK119.out), (by (with_reducible repeat (first | refine blk_drewN ?_ _ | refine blk_drew ?_ | refine blk_alloc ?_ _)); exact BK125.out), GW125.out, GE125.out, NB118_125.out, NB125_118.out, NB119_125.out, NB125_119.out, (by repeat (first | (with_reducible first | exact HB.out | apply below_alloc | apply pw_below_drewN | apply below_drew1 | refine below_set ?_ GE118.out | refine below_set ?_ GE119.out | refine below_set ?_ GE125.out) | exact HB.out))⟩)
          · skip
            rintro ⟨gb124, gb125⟩ w22 ⟨hS_, h0_, h1_, h2_, h3_, h4_, h5_, h6_, h7_, h8_, h9_, h10_, h11_, h12_, h13_, h14_, h15_, h16_, h17_, h18_⟩
            have n0_ : Aside0 (w22.heap[gb118]? = some (.cells #[.int .u64 a0_0, .int .u64 a0_1, .bool a0_2] 24 (0, 0))) := ⟨h0_⟩
            have n1_ : Aside0 (w22.heap[gb119]? = some (.cells #[.int .u64 a1_0, .int .u64 a1_1, .bool a1_2] 24 (0, 0))) := ⟨h1_⟩
            have n2_ : Aside0 (w22.heap[gb124]? = some (.cells #[.int .u64 0, .int .u64 0] 58 (0, 0))) := ⟨h2_⟩
            have n3_ : Aside0 (w22.heap[gb125]? = some (.cells #[.int .u64 0, .int .u64 0] 58 (0, 0))) := ⟨h3_⟩
            have n4_ : Aside0 (w.heap.size ≤ gb124) := ⟨h4_⟩
            have n5_ : Aside0 (w.heap.size ≤ gb124) := ⟨h5_⟩
            have n6_ : Aside0 (gb118 ≠ gb124) := ⟨h6_⟩
            have n7_ : Aside0 (gb124 ≠ gb118) := ⟨h7_⟩
            have n8_ : Aside0 (gb119 ≠ gb124) := ⟨h8_⟩
            have n9_ : Aside0 (gb124 ≠ gb119) := ⟨h9_⟩
            have n10_ : Aside0 (gb125 ≠ gb124) := ⟨h10_⟩
            have n11_ : Aside0 (gb124 ≠ gb125) := ⟨h11_⟩
            have n12_ : Aside0 (w.heap.size ≤ gb125) := ⟨h12_⟩
            have n13_ : Aside0 (w.heap.size ≤ gb125) := ⟨h13_⟩
            have n14_ : Aside0 (gb118 ≠ gb125) := ⟨h14_⟩
            have n15_ : Aside0 (gb125 ≠ gb118) := ⟨h15_⟩
            have n16_ : Aside0 (gb119 ≠ gb125) := ⟨h16_⟩
            have n17_ : Aside0 (gb125 ≠ gb119) := ⟨h17_⟩
            have n18_ : Aside0 (Below w.heap.size w w22) := ⟨h18_⟩
            clear BK118
            clear BK119
            clear HB
            clear h0_ h1_ h2_ h3_ h4_ h5_ h6_ h7_ h8_ h9_ h10_ h11_ h12_ h13_ h14_ h15_ h16_ h17_ h18_
            have BK118 := n0_
            have BK119 := n1_
            have BK124 := n2_
            have BK125 := n3_
            have GW124 := n4_
            have GE124 := n5_
            have NB118_124 := n6_
            have NB124_118 := n7_
            have NB119_124 := n8_
            have NB124_119 := n9_
            have NB125_124 := n10_
            have NB124_125 := n11_
            have GW125 := n12_
            have GE125 := n13_
            have NB118_125 := n14_
            have NB125_118 := n15_
            have NB119_125 := n16_
            have NB125_119 := n17_
            have HB := n18_
            clear n0_ n1_ n2_ n3_ n4_ n5_ n6_ n7_ n8_ n9_ n10_ n11_ n12_ n13_ n14_ n15_ n16_ n17_ n18_
            have hHeld : w22.cell? ⟨gb118, 0, none⟩ = some (.int .u64 a0_0) ∧ w22.cell? ⟨gb118, 1, none⟩ = some (.int .u64 a0_1) ∧ w22.cell? ⟨gb118, 2, none⟩ = some (.bool a0_2) ∧ w22.cell? ⟨gb119, 0, none⟩ = some (.int .u64 a1_0) ∧ w22.cell? ⟨gb119, 1, none⟩ = some (.int .u64 a1_1) ∧ w22.cell? ⟨gb119, 2, none⟩ = some (.bool a1_2) := hS_
            refine norm_ (a' := ?_) ?_ ?_
            rotate_left
            · simp only [putAll, Act.put, List.setIfInBounds_toArray, List.set_cons_zero, List.set_cons_succ]
              rfl
            refine one_ (i := 3) (N := some 16) #[true, true, true, true, true, true, false, false] rfl rfl (one_of HT_.out (by kernel_rfl)) (by decide) (fun K hK => ?_)
            refine goes_ Try.func46 (by kernel_rfl) rfl #[.agg #[.int .u64 a1_0, .int .u64 a1_1, .bool a1_2]] (by rfl) rfl rfl (by (try simp only [List.map_toArray, List.map_cons, List.map_nil]); first | done | rfl | (simp only [List.length_drop, List.length_take]; rfl)) ?_
            with_reducible refine (addr_read.calls a1_0 a1_1 a1_2 t122 t123 _ A10.out).mono ?_
            rintro e w23 ⟨rfl, hb⟩
            refine ⟨_, rfl, ?_⟩
            have n0_ := Aside0.mk (blk_below (g := gb118) (o := .cells #[.int .u64 a0_0, .int .u64 a0_1, .bool a0_2] 24 (0, 0)) (by (with_reducible repeat (first | refine blk_drewN ?_ _ | refine blk_drew ?_ | refine blk_alloc ?_ _)); exact BK118.out) hb)
            have n1_ := Aside0.mk (blk_below (g := gb119) (o := .cells #[.int .u64 a1_0, .int .u64 a1_1, .bool a1_2] 24 (0, 0)) (by (with_reducible repeat (first | refine blk_drewN ?_ _ | refine blk_drew ?_ | refine blk_alloc ?_ _)); exact BK119.out) hb)
            have n2_ := Aside0.mk (blk_below (g := gb124) (o := .cells #[.int .u64 0, .int .u64 0] 58 (0, 0)) (by (with_reducible repeat (first | refine blk_drewN ?_ _ | refine blk_drew ?_ | refine blk_alloc ?_ _)); exact BK124.out) hb)
            have n3_ := Aside0.mk (blk_below (g := gb125) (o := .cells #[.int .u64 0, .int .u64 0] 58 (0, 0)) (by (with_reducible repeat (first | refine blk_drewN ?_ _ | refine blk_drew ?_ | refine blk_alloc ?_ _)); exact BK125.out) hb)
            have n4_ := Aside0.mk (below_step (by repeat (first | (with_reducible first | exact HB.out | apply below_alloc | apply pw_below_drewN | apply below_drew1 | refine below_set ?_ GE118.out | refine below_set ?_ GE119.out | refine below_set ?_ GE124.out | refine below_set ?_ GE125.out) | exact HB.out)) hb)
            clear BK118
            clear BK119
            clear BK124
            clear BK125
            clear HB
            have BK118 := n0_
            have BK119 := n1_
            have BK124 := n2_
            have BK125 := n3_
            have HB := n4_
            clear n0_ n1_ n2_ n3_ n4_
            (try clear hb)
            (try clear hb2)
            (try clear hk)
            (try clear hi)
            refine hK.out _ _ ⟨(blk_cell BK118.out 0).trans rfl, (blk_cell BK118.out 1).trans rfl, (blk_cell BK118.out 2).trans rfl, (blk_cell BK119.out 0).trans rfl, (blk_cell BK119.out 1).trans rfl, (blk_cell BK119.out 2).trans rfl⟩ (fun hHeld => ?_)
            clear hK K
            refine norm_ (a' := ?_) ?_ ?_
            rotate_left
            · show Act.put _ (some 16) _ = _
              simp only [Act.put, List.setIfInBounds_toArray, List.set_cons_zero, List.set_cons_succ, i64_w, i32_w]
              rfl
            exact norm_ (by first | (simp only [putAll, Act.put, List.setIfInBounds_toArray, List.set_cons_zero, List.set_cons_succ]; done) | (simp only [putAll, Act.put, List.setIfInBounds_toArray, List.set_cons_zero, List.set_cons_succ]; rfl)) (hJ1_3_4_5 (gb124, gb125) _ ⟨hHeld, (by (with_reducible repeat (first | refine blk_drewN ?_ _ | refine blk_drew ?_ | refine blk_alloc ?_ _)); exact BK118.out), (by (with_reducible repeat (first | refine blk_drewN ?_ _ | refine blk_drew ?_ | refine blk_alloc ?_ _)); exact BK119.out), (by (with_reducible repeat (first | refine blk_drewN ?_ _ | refine blk_drew ?_ | refine blk_alloc ?_ _)); exact BK124.out), (by (with_reducible repeat (first | refine blk_drewN ?_ _ | refine blk_drew ?_ | refine blk_alloc ?_ _)); exact BK125.out), GW124.out, GE124.out, NB118_124.out, NB124_118.out, NB119_124.out, NB124_119.out, NB125_124.out, NB124_125.out, GW125.out, GE125.out, NB118_125.out, NB125_118.out, NB119_125.out, NB125_119.out, (by repeat (first | (with_reducible first | exact HB.out | apply below_alloc | apply pw_below_drewN | apply below_drew1 | refine below_set ?_ GE118.out | refine below_set ?_ GE119.out | refine below_set ?_ GE124.out | refine below_set ?_ GE125.out) | exact HB.out))⟩)
        · skip
          rintro gb125 w22 ⟨hS_, h0_, h1_, h2_, h3_, h4_, h5_, h6_, h7_, h8_, h9_⟩
          have n0_ : Aside0 (w22.heap[gb118]? = some (.cells #[.int .u64 a0_0, .int .u64 a0_1, .bool a0_2] 24 (0, 0))) := ⟨h0_⟩
          have n1_ : Aside0 (w22.heap[gb119]? = some (.cells #[.int .u64 a1_0, .int .u64 a1_1, .bool a1_2] 24 (0, 0))) := ⟨h1_⟩
          have n2_ : Aside0 (w22.heap[gb125]? = some (.cells #[.int .u64 0, .int .u64 0] 58 (0, 0))) := ⟨h2_⟩
          have n3_ : Aside0 (w.heap.size ≤ gb125) := ⟨h3_⟩
          have n4_ : Aside0 (w.heap.size ≤ gb125) := ⟨h4_⟩
          have n5_ : Aside0 (gb118 ≠ gb125) := ⟨h5_⟩
          have n6_ : Aside0 (gb125 ≠ gb118) := ⟨h6_⟩
          have n7_ : Aside0 (gb119 ≠ gb125) := ⟨h7_⟩
          have n8_ : Aside0 (gb125 ≠ gb119) := ⟨h8_⟩
          have n9_ : Aside0 (Below w.heap.size w w22) := ⟨h9_⟩
          clear BK118
          clear BK119
          clear HB
          clear h0_ h1_ h2_ h3_ h4_ h5_ h6_ h7_ h8_ h9_
          have BK118 := n0_
          have BK119 := n1_
          have BK125 := n2_
          have GW125 := n3_
          have GE125 := n4_
          have NB118_125 := n5_
          have NB125_118 := n6_
          have NB119_125 := n7_
          have NB125_119 := n8_
          have HB := n9_
          clear n0_ n1_ n2_ n3_ n4_ n5_ n6_ n7_ n8_ n9_
          have hHeld : w22.cell? ⟨gb118, 0, none⟩ = some (.int .u64 a0_0) ∧ w22.cell? ⟨gb118, 1, none⟩ = some (.int .u64 a0_1) ∧ w22.cell? ⟨gb118, 2, none⟩ = some (.bool a0_2) ∧ w22.cell? ⟨gb119, 0, none⟩ = some (.int .u64 a1_0) ∧ w22.cell? ⟨gb119, 1, none⟩ = some (.int .u64 a1_1) ∧ w22.cell? ⟨gb119, 2, none⟩ = some (.bool a1_2) := hS_
          refine norm_ (a' := ?_) ?_ ?_
          rotate_left
          · simp only [putAll, Act.put, List.setIfInBounds_toArray, List.set_cons_zero, List.set_cons_succ]
            rfl
          refine one_ (i := 4) (N := some 5) #[true, true, true, true, true, true, false, false] rfl rfl (one_of HT_.out (by kernel_rfl)) (by decide) (fun K hK => ?_)
          refine box_step ?hg (N := 5) ?hd (cs := #[.int .u64 0, .int .u64 0]) (t := 58) ?hr ?_; (case hd => rfl); (case hg => rfl); (case hr => first | (go_simp; done) | (go_simp; rfl))
          intro gb124 hg w23 hbox hb
          have n0_ := Aside0.mk (blk_below (g := gb118) (o := .cells #[.int .u64 a0_0, .int .u64 a0_1, .bool a0_2] 24 (0, 0)) (by (with_reducible repeat (first | refine blk_drewN ?_ _ | refine blk_drew ?_ | refine blk_alloc ?_ _)); exact BK118.out) hb)
          have n1_ := Aside0.mk (blk_below (g := gb119) (o := .cells #[.int .u64 a1_0, .int .u64 a1_1, .bool a1_2] 24 (0, 0)) (by (with_reducible repeat (first | refine blk_drewN ?_ _ | refine blk_drew ?_ | refine blk_alloc ?_ _)); exact BK119.out) hb)
          have n2_ := Aside0.mk (blk_below (g := gb125) (o := .cells #[.int .u64 0, .int .u64 0] 58 (0, 0)) (by (with_reducible repeat (first | refine blk_drewN ?_ _ | refine blk_drew ?_ | refine blk_alloc ?_ _)); exact BK125.out) hb)
          have n3_ := Aside0.mk (below_step (by repeat (first | (with_reducible first | exact HB.out | apply below_alloc | apply pw_below_drewN | apply below_drew1 | refine below_set ?_ GE118.out | refine below_set ?_ GE119.out | refine below_set ?_ GE125.out) | exact HB.out)) hb)
          have n4_ := Aside0.mk (hbox)
          have n5_ := Aside0.mk ((by rw [hg]; exact (below_size (by repeat (first | (with_reducible first | exact HB.out | apply below_alloc | apply pw_below_drewN | apply below_drew1 | refine below_set ?_ GE118.out | refine below_set ?_ GE119.out | refine below_set ?_ GE125.out) | exact HB.out))) : w.heap.size ≤ gb124))
          have n6_ := Aside0.mk ((by rw [hg]; exact (below_size (by repeat (first | (with_reducible first | exact HB.out | apply below_alloc | apply pw_below_drewN | apply below_drew1 | refine below_set ?_ GE118.out | refine below_set ?_ GE119.out | refine below_set ?_ GE125.out) | exact HB.out))) : w.heap.size ≤ gb124))
          have n7_ := Aside0.mk ((by rw [hg]; exact Nat.ne_of_lt (blk_lt (g := gb118) (o := .cells #[.int .u64 a0_0, .int .u64 a0_1, .bool a0_2] 24 (0, 0)) (by (with_reducible repeat (first | refine blk_drewN ?_ _ | refine blk_drew ?_ | refine blk_alloc ?_ _)); exact BK118.out)) : gb118 ≠ gb124))
          have n8_ := Aside0.mk ((by rw [hg]; exact Nat.ne_of_gt (blk_lt (g := gb118) (o := .cells #[.int .u64 a0_0, .int .u64 a0_1, .bool a0_2] 24 (0, 0)) (by (with_reducible repeat (first | refine blk_drewN ?_ _ | refine blk_drew ?_ | refine blk_alloc ?_ _)); exact BK118.out)) : gb124 ≠ gb118))
          have n9_ := Aside0.mk ((by rw [hg]; exact Nat.ne_of_lt (blk_lt (g := gb119) (o := .cells #[.int .u64 a1_0, .int .u64 a1_1, .bool a1_2] 24 (0, 0)) (by (with_reducible repeat (first | refine blk_drewN ?_ _ | refine blk_drew ?_ | refine blk_alloc ?_ _)); exact BK119.out)) : gb119 ≠ gb124))
          have n10_ := Aside0.mk ((by rw [hg]; exact Nat.ne_of_gt (blk_lt (g := gb119) (o := .cells #[.int .u64 a1_0, .int .u64 a1_1, .bool a1_2] 24 (0, 0)) (by (with_reducible repeat (first | refine blk_drewN ?_ _ | refine blk_drew ?_ | refine blk_alloc ?_ _)); exact BK119.out)) : gb124 ≠ gb119))
          have n11_ := Aside0.mk ((by rw [hg]; exact Nat.ne_of_lt (blk_lt (g := gb125) (o := .cells #[.int .u64 0, .int .u64 0] 58 (0, 0)) (by (with_reducible repeat (first | refine blk_drewN ?_ _ | refine blk_drew ?_ | refine blk_alloc ?_ _)); exact BK125.out)) : gb125 ≠ gb124))
          have n12_ := Aside0.mk ((by rw [hg]; exact Nat.ne_of_gt (blk_lt (g := gb125) (o := .cells #[.int .u64 0, .int .u64 0] 58 (0, 0)) (by (with_reducible repeat (first | refine blk_drewN ?_ _ | refine blk_drew ?_ | refine blk_alloc ?_ _)); exact BK125.out)) : gb124 ≠ gb125))
          clear BK118
          clear BK119
          clear BK125
          clear HB
          have BK118 := n0_
          have BK119 := n1_
          have BK125 := n2_
          have HB := n3_
          have BK124 := n4_
          have GW124 := n5_
          have GE124 := n6_
          have NB118_124 := n7_
          have NB124_118 := n8_
          have NB119_124 := n9_
          have NB124_119 := n10_
          have NB125_124 := n11_
          have NB124_125 := n12_
          clear n0_ n1_ n2_ n3_ n4_ n5_ n6_ n7_ n8_ n9_ n10_ n11_ n12_
          clear hb hbox hg
          refine hK.out _ _ ⟨(blk_cell BK118.out 0).trans rfl, (blk_cell BK118.out 1).trans rfl, (blk_cell BK118.out 2).trans rfl, (blk_cell BK119.out 0).trans rfl, (blk_cell BK119.out 1).trans rfl, (blk_cell BK119.out 2).trans rfl⟩ (fun hHeld => ?_)
          clear hK K
          refine norm_ (a' := ?_) ?_ ?_
          rotate_left
          · show Act.put _ (some 5) _ = _
            simp only [Act.put, List.setIfInBounds_toArray, List.set_cons_zero, List.set_cons_succ, i64_w, i32_w]
            rfl
          exact norm_ (by first | (simp only [putAll, Act.put, List.setIfInBounds_toArray, List.set_cons_zero, List.set_cons_succ]; done) | (simp only [putAll, Act.put, List.setIfInBounds_toArray, List.set_cons_zero, List.set_cons_succ]; rfl)) (hJ1_3_4_5 (gb124, gb125) _ ⟨hHeld, (by (with_reducible repeat (first | refine blk_drewN ?_ _ | refine blk_drew ?_ | refine blk_alloc ?_ _)); exact BK118.out), (by (with_reducible repeat (first | refine blk_drewN ?_ _ | refine blk_drew ?_ | refine blk_alloc ?_ _)); exact BK119.out), (by (with_reducible repeat (first | refine blk_drewN ?_ _ | refine blk_drew ?_ | refine blk_alloc ?_ _)); exact BK124.out), (by (with_reducible repeat (first | refine blk_drewN ?_ _ | refine blk_drew ?_ | refine blk_alloc ?_ _)); exact BK125.out), GW124.out, GE124.out, NB118_124.out, NB124_118.out, NB119_124.out, NB124_119.out, NB125_124.out, NB124_125.out, GW125.out, GE125.out, NB118_125.out, NB125_118.out, NB119_125.out, NB125_119.out, (by repeat (first | (with_reducible first | exact HB.out | apply below_alloc | apply pw_below_drewN | apply below_drew1 | refine below_set ?_ GE118.out | refine below_set ?_ GE119.out | refine below_set ?_ GE125.out | refine below_set ?_ GE124.out) | exact HB.out))⟩)
      · skip
        rintro gb124 w22 ⟨hS_, h0_, h1_, h2_, h3_, h4_, h5_, h6_, h7_, h8_, h9_⟩
        have n0_ : Aside0 (w22.heap[gb118]? = some (.cells #[.int .u64 a0_0, .int .u64 a0_1, .bool a0_2] 24 (0, 0))) := ⟨h0_⟩
        have n1_ : Aside0 (w22.heap[gb119]? = some (.cells #[.int .u64 a1_0, .int .u64 a1_1, .bool a1_2] 24 (0, 0))) := ⟨h1_⟩
        have n2_ : Aside0 (w22.heap[gb124]? = some (.cells #[.int .u64 0, .int .u64 0] 58 (0, 0))) := ⟨h2_⟩
        have n3_ : Aside0 (w.heap.size ≤ gb124) := ⟨h3_⟩
        have n4_ : Aside0 (w.heap.size ≤ gb124) := ⟨h4_⟩
        have n5_ : Aside0 (gb118 ≠ gb124) := ⟨h5_⟩
        have n6_ : Aside0 (gb124 ≠ gb118) := ⟨h6_⟩
        have n7_ : Aside0 (gb119 ≠ gb124) := ⟨h7_⟩
        have n8_ : Aside0 (gb124 ≠ gb119) := ⟨h8_⟩
        have n9_ : Aside0 (Below w.heap.size w w22) := ⟨h9_⟩
        clear BK118
        clear BK119
        clear HB
        clear h0_ h1_ h2_ h3_ h4_ h5_ h6_ h7_ h8_ h9_
        have BK118 := n0_
        have BK119 := n1_
        have BK124 := n2_
        have GW124 := n3_
        have GE124 := n4_
        have NB118_124 := n5_
        have NB124_118 := n6_
        have NB119_124 := n7_
        have NB124_119 := n8_
        have HB := n9_
        clear n0_ n1_ n2_ n3_ n4_ n5_ n6_ n7_ n8_ n9_
        have hHeld : w22.cell? ⟨gb118, 0, none⟩ = some (.int .u64 a0_0) ∧ w22.cell? ⟨gb118, 1, none⟩ = some (.int .u64 a0_1) ∧ w22.cell? ⟨gb118, 2, none⟩ = some (.bool a0_2) ∧ w22.cell? ⟨gb119, 0, none⟩ = some (.int .u64 a1_0) ∧ w22.cell? ⟨gb119, 1, none⟩ = some (.int .u64 a1_1) ∧ w22.cell? ⟨gb119, 2, none⟩ = some (.bool a1_2) := hS_
        refine norm_ (a' := ?_) ?_ ?_
        rotate_left
        · simp only [putAll, Act.put, List.setIfInBounds_toArray, List.set_cons_zero, List.set_cons_succ]
          rfl
        refine one_ (i := 5) (N := some 6) #[true, true, true, true, true, true, false, false] rfl rfl (one_of HT_.out (by kernel_rfl)) (by decide) (fun K hK => ?_)
        refine box_step ?hg (N := 6) ?hd (cs := #[.int .u64 0, .int .u64 0]) (t := 58) ?hr ?_; (case hd => rfl); (case hg => rfl); (case hr => first | (go_simp; done) | (go_simp; rfl))
        intro gb125 hg w23 hbox hb
        have n0_ := Aside0.mk (blk_below (g := gb118) (o := .cells #[.int .u64 a0_0, .int .u64 a0_1, .bool a0_2] 24 (0, 0)) (by (with_reducible repeat (first | refine blk_drewN ?_ _ | refine blk_drew ?_ | refine blk_alloc ?_ _)); exact BK118.out) hb)
        have n1_ := Aside0.mk (blk_below (g := gb119) (o := .cells #[.int .u64 a1_0, .int .u64 a1_1, .bool a1_2] 24 (0, 0)) (by (with_reducible repeat (first | refine blk_drewN ?_ _ | refine blk_drew ?_ | refine blk_alloc ?_ _)); exact BK119.out) hb)
        have n2_ := Aside0.mk (blk_below (g := gb124) (o := .cells #[.int .u64 0, .int .u64 0] 58 (0, 0)) (by (with_reducible repeat (first | refine blk_drewN ?_ _ | refine blk_drew ?_ | refine blk_alloc ?_ _)); exact BK124.out) hb)
        have n3_ := Aside0.mk (below_step (by repeat (first | (with_reducible first | exact HB.out | apply below_alloc | apply pw_below_drewN | apply below_drew1 | refine below_set ?_ GE118.out | refine below_set ?_ GE119.out | refine below_set ?_ GE124.out) | exact HB.out)) hb)
        have n4_ := Aside0.mk (hbox)
        have n5_ := Aside0.mk ((by rw [hg]; exact (below_size (by repeat (first | (with_reducible first | exact HB.out | apply below_alloc | apply pw_below_drewN | apply below_drew1 | refine below_set ?_ GE118.out | refine below_set ?_ GE119.out | refine below_set ?_ GE124.out) | exact HB.out))) : w.heap.size ≤ gb125))
        have n6_ := Aside0.mk ((by rw [hg]; exact (below_size (by repeat (first | (with_reducible first | exact HB.out | apply below_alloc | apply pw_below_drewN | apply below_drew1 | refine below_set ?_ GE118.out | refine below_set ?_ GE119.out | refine below_set ?_ GE124.out) | exact HB.out))) : w.heap.size ≤ gb125))
        have n7_ := Aside0.mk ((by rw [hg]; exact Nat.ne_of_lt (blk_lt (g := gb118) (o := .cells #[.int .u64 a0_0, .int .u64 a0_1, .bool a0_2] 24 (0, 0)) (by (with_reducible repeat (first | refine blk_drewN ?_ _ | refine blk_drew ?_ | refine blk_alloc ?_ _)); exact BK118.out)) : gb118 ≠ gb125))
        have n8_ := Aside0.mk ((by rw [hg]; exact Nat.ne_of_gt (blk_lt (g := gb118) (o := .cells #[.int .u64 a0_0, .int .u64 a0_1, .bool a0_2] 24 (0, 0)) (by (with_reducible repeat (first | refine blk_drewN ?_ _ | refine blk_drew ?_ | refine blk_alloc ?_ _)); exact BK118.out)) : gb125 ≠ gb118))
        have n9_ := Aside0.mk ((by rw [hg]; exact Nat.ne_of_lt (blk_lt (g := gb119) (o := .cells #[.int .u64 a1_0, .int .u64 a1_1, .bool a1_2] 24 (0, 0)) (by (with_reducible repeat (first | refine blk_drewN ?_ _ | refine blk_drew ?_ | refine blk_alloc ?_ _)); exact BK119.out)) : gb119 ≠ gb125))
        have n10_ := Aside0.mk ((by rw [hg]; exact Nat.ne_of_gt (blk_lt (g := gb119) (o := .cells #[.int .u64 a1_0, .int .u64 a1_1, .bool a1_2] 24 (0, 0)) (by (with_reducible repeat (first | refine blk_drewN ?_ _ | refine blk_drew ?_ | refine blk_alloc ?_ _)); exact BK119.out)) : gb125 ≠ gb119))
        have n11_ := Aside0.mk ((by rw [hg]; exact Nat.ne_of_lt (blk_lt (g := gb124) (o := .cells #[.int .u64 0, .int .u64 0] 58 (0, 0)) (by (with_reducible repeat (first | refine blk_drewN ?_ _ | refine blk_drew ?_ | refine blk_alloc ?_ _)); exact BK124.out)) : gb124 ≠ gb125))
        have n12_ := Aside0.mk ((by rw [hg]; exact Nat.ne_of_gt (blk_lt (g := gb124) (o := .cells #[.int .u64 0, .int .u64 0] 58 (0, 0)) (by (with_reducible repeat (first | refine blk_drewN ?_ _ | refine blk_drew ?_ | refine blk_alloc ?_ _)); exact BK124.out)) : gb125 ≠ gb124))
        clear BK118
        clear BK119
        clear BK124
        clear HB
        have BK118 := n0_
        have BK119 := n1_
        have BK124 := n2_
        have HB := n3_
        have BK125 := n4_
        have GW125 := n5_
        have GE125 := n6_
        have NB118_125 := n7_
        have NB125_118 := n8_
        have NB119_125 := n9_
        have NB125_119 := n10_
        have NB124_125 := n11_
        have NB125_124 := n12_
        clear n0_ n1_ n2_ n3_ n4_ n5_ n6_ n7_ n8_ n9_ n10_ n11_ n12_
        clear hb hbox hg
        refine hK.out _ _ ⟨(blk_cell BK118.out 0).trans rfl, (blk_cell BK118.out 1).trans rfl, (blk_cell BK118.out 2).trans rfl, (blk_cell BK119.out 0).trans rfl, (blk_cell BK119.out 1).trans rfl, (blk_cell BK119.out 2).trans rfl⟩ (fun hHeld => ?_)
        clear hK K
        refine norm_ (a' := ?_) ?_ ?_
        rotate_left
        · show Act.put _ (some 6) _ = _
          simp only [Act.put, List.setIfInBounds_toArray, List.set_cons_zero, List.set_cons_succ, i64_w, i32_w]
          rfl
        exact norm_ (by first | (simp only [putAll, Act.put, List.setIfInBounds_toArray, List.set_cons_zero, List.set_cons_succ]; done) | (simp only [putAll, Act.put, List.setIfInBounds_toArray, List.set_cons_zero, List.set_cons_succ]; rfl)) (hJ1_3_4_5 (gb124, gb125) _ ⟨hHeld, (by (with_reducible repeat (first | refine blk_drewN ?_ _ | refine blk_drew ?_ | refine blk_alloc ?_ _)); exact BK118.out), (by (with_reducible repeat (first | refine blk_drewN ?_ _ | refine blk_drew ?_ | refine blk_alloc ?_ _)); exact BK119.out), (by (with_reducible repeat (first | refine blk_drewN ?_ _ | refine blk_drew ?_ | refine blk_alloc ?_ _)); exact BK124.out), (by (with_reducible repeat (first | refine blk_drewN ?_ _ | refine blk_drew ?_ | refine blk_alloc ?_ _)); exact BK125.out), GW124.out, GE124.out, NB118_124.out, NB124_118.out, NB119_124.out, NB124_119.out, NB125_124.out, NB124_125.out, GW125.out, GE125.out, NB118_125.out, NB125_118.out, NB119_125.out, NB125_119.out, (by repeat (first | (with_reducible first | exact HB.out | apply below_alloc | apply pw_below_drewN | apply below_drew1 | refine below_set ?_ GE118.out | refine below_set ?_ GE119.out | refine below_set ?_ GE124.out | refine below_set ?_ GE125.out) | exact HB.out))⟩)
    rintro ⟨gb124, gb125⟩ w23 ⟨hS_, h0_, h1_, h2_, h3_, h4_, h5_, h6_, h7_, h8_, h9_, h10_, h11_, h12_, h13_, h14_, h15_, h16_, h17_, h18_⟩
    have n0_ : Aside0 (w23.heap[gb118]? = some (.cells #[.int .u64 a0_0, .int .u64 a0_1, .bool a0_2] 24 (0, 0))) := ⟨h0_⟩
    have n1_ : Aside0 (w23.heap[gb119]? = some (.cells #[.int .u64 a1_0, .int .u64 a1_1, .bool a1_2] 24 (0, 0))) := ⟨h1_⟩
    have n2_ : Aside0 (w23.heap[gb124]? = some (.cells #[.int .u64 0, .int .u64 0] 58 (0, 0))) := ⟨h2_⟩
    have n3_ : Aside0 (w23.heap[gb125]? = some (.cells #[.int .u64 0, .int .u64 0] 58 (0, 0))) := ⟨h3_⟩
    have n4_ : Aside0 (w.heap.size ≤ gb124) := ⟨h4_⟩
    have n5_ : Aside0 (w.heap.size ≤ gb124) := ⟨h5_⟩
    have n6_ : Aside0 (gb118 ≠ gb124) := ⟨h6_⟩
    have n7_ : Aside0 (gb124 ≠ gb118) := ⟨h7_⟩
    have n8_ : Aside0 (gb119 ≠ gb124) := ⟨h8_⟩
    have n9_ : Aside0 (gb124 ≠ gb119) := ⟨h9_⟩
    have n10_ : Aside0 (gb125 ≠ gb124) := ⟨h10_⟩
    have n11_ : Aside0 (gb124 ≠ gb125) := ⟨h11_⟩
    have n12_ : Aside0 (w.heap.size ≤ gb125) := ⟨h12_⟩
    have n13_ : Aside0 (w.heap.size ≤ gb125) := ⟨h13_⟩
    have n14_ : Aside0 (gb118 ≠ gb125) := ⟨h14_⟩
    have n15_ : Aside0 (gb125 ≠ gb118) := ⟨h15_⟩
    have n16_ : Aside0 (gb119 ≠ gb125) := ⟨h16_⟩
    have n17_ : Aside0 (gb125 ≠ gb119) := ⟨h17_⟩
    have n18_ : Aside0 (Below w.heap.size w w23) := ⟨h18_⟩
    clear BK118
    clear BK119
    clear HB
    clear h0_ h1_ h2_ h3_ h4_ h5_ h6_ h7_ h8_ h9_ h10_ h11_ h12_ h13_ h14_ h15_ h16_ h17_ h18_
    have BK118 := n0_
    have BK119 := n1_
    have BK124 := n2_
    have BK125 := n3_
    have GW124 := n4_
    have GE124 := n5_
    have NB118_124 := n6_
    have NB124_118 := n7_
    have NB119_124 := n8_
    have NB124_119 := n9_
    have NB125_124 := n10_
    have NB124_125 := n11_
    have GW125 := n12_
    have GE125 := n13_
    have NB118_125 := n14_
    have NB125_118 := n15_
    have NB119_125 := n16_
    have NB125_119 := n17_
    have HB := n18_
    clear n0_ n1_ n2_ n3_ n4_ n5_ n6_ n7_ n8_ n9_ n10_ n11_ n12_ n13_ n14_ n15_ n16_ n17_ n18_
    have hHeld : w23.cell? ⟨gb118, 0, none⟩ = some (.int .u64 a0_0) ∧ w23.cell? ⟨gb118, 1, none⟩ = some (.int .u64 a0_1) ∧ w23.cell? ⟨gb118, 2, none⟩ = some (.bool a0_2) ∧ w23.cell? ⟨gb119, 0, none⟩ = some (.int .u64 a1_0) ∧ w23.cell? ⟨gb119, 1, none⟩ = some (.int .u64 a1_1) ∧ w23.cell? ⟨gb119, 2, none⟩ = some (.bool a1_2) := hS_
    refine norm_ (a' := ?_) ?_ ?_
    rotate_left
    · simp only [putAll, Act.put, List.setIfInBounds_toArray, List.set_cons_zero, List.set_cons_succ]
      rfl
    refine one_ (i := 6) (N := none) #[true, true, true, true, true, true, true, false] rfl rfl (one_of HT_.out (by kernel_rfl)) (by decide) (fun K hK => ?_)
    have hs24 : w23.cell? ⟨gb124, 0, none⟩ = some (.int .u64 0) := (blk_cell BK124.out 0).trans rfl
    have hfs24 := blk_frozen BK124.out 0
    have hns24_0 := NB118_124.out
    have hns24_1 := NB119_124.out
    have hns24_3 := NB125_124.out
    have hms24_0 := NB124_118.out
    have hms24_1 := NB124_119.out
    have hms24_3 := NB124_125.out
    have hs25 : w23.cell? ⟨gb124, 1, none⟩ = some (.int .u64 0) := (blk_cell BK124.out 1).trans rfl
    have hfs25 := blk_frozen BK124.out 1
    have hns25_0 := NB118_124.out
    have hns25_1 := NB119_124.out
    have hns25_3 := NB125_124.out
    have hms25_0 := NB124_118.out
    have hms25_1 := NB124_119.out
    have hms25_3 := NB124_125.out
    refine skip_ (w1 := ?_) (by rfl) rfl ?_ ?_
    rotate_left
    · go_simp
      rfl
    refine hK.out _ _ ⟨((cell_far (p := ⟨gb124, _, none⟩) NB118_124.out _).trans (((cell_far (p := ⟨gb124, _, none⟩) NB118_124.out _).trans (hHeld.1)))), ((cell_far (p := ⟨gb124, _, none⟩) NB118_124.out _).trans (((cell_far (p := ⟨gb124, _, none⟩) NB118_124.out _).trans (hHeld.2.1)))), ((cell_far (p := ⟨gb124, _, none⟩) NB118_124.out _).trans (((cell_far (p := ⟨gb124, _, none⟩) NB118_124.out _).trans (hHeld.2.2.1)))), ((cell_far (p := ⟨gb124, _, none⟩) NB119_124.out _).trans (((cell_far (p := ⟨gb124, _, none⟩) NB119_124.out _).trans (hHeld.2.2.2.1)))), ((cell_far (p := ⟨gb124, _, none⟩) NB119_124.out _).trans (((cell_far (p := ⟨gb124, _, none⟩) NB119_124.out _).trans (hHeld.2.2.2.2.1)))), ((cell_far (p := ⟨gb124, _, none⟩) NB119_124.out _).trans (((cell_far (p := ⟨gb124, _, none⟩) NB119_124.out _).trans (hHeld.2.2.2.2.2))))⟩ (fun hHeld => ?_)
    clear hK K
    refine one_ (i := 7) (N := none) #[true, true, true, true, true, true, true, true] rfl rfl (one_of HT_.out (by kernel_rfl)) (by decide) (fun K hK => ?_)
    have hs26 : w23.cell? ⟨gb125, 0, none⟩ = some (.int .u64 0) := (blk_cell BK125.out 0).trans rfl
    have hfs26 := blk_frozen BK125.out 0
    have hns26_0 := NB118_125.out
    have hns26_1 := NB119_125.out
    have hns26_2 := NB124_125.out
    have hms26_0 := NB125_118.out
    have hms26_1 := NB125_119.out
    have hms26_2 := NB125_124.out
    have hs27 : w23.cell? ⟨gb125, 1, none⟩ = some (.int .u64 0) := (blk_cell BK125.out 1).trans rfl
    have hfs27 := blk_frozen BK125.out 1
    have hns27_0 := NB118_125.out
    have hns27_1 := NB119_125.out
    have hns27_2 := NB124_125.out
    have hms27_0 := NB125_118.out
    have hms27_1 := NB125_119.out
    have hms27_2 := NB125_124.out
    refine skip_ (w1 := ?_) (by rfl) rfl ?_ ?_
    rotate_left
    · go_simp
      rfl
    refine hK.out _ _ ⟨((cell_far (p := ⟨gb125, _, none⟩) NB118_125.out _).trans (((cell_far (p := ⟨gb125, _, none⟩) NB118_125.out _).trans (hHeld.1)))), ((cell_far (p := ⟨gb125, _, none⟩) NB118_125.out _).trans (((cell_far (p := ⟨gb125, _, none⟩) NB118_125.out _).trans (hHeld.2.1)))), ((cell_far (p := ⟨gb125, _, none⟩) NB118_125.out _).trans (((cell_far (p := ⟨gb125, _, none⟩) NB118_125.out _).trans (hHeld.2.2.1)))), ((cell_far (p := ⟨gb125, _, none⟩) NB119_125.out _).trans (((cell_far (p := ⟨gb125, _, none⟩) NB119_125.out _).trans (hHeld.2.2.2.1)))), ((cell_far (p := ⟨gb125, _, none⟩) NB119_125.out _).trans (((cell_far (p := ⟨gb125, _, none⟩) NB119_125.out _).trans (hHeld.2.2.2.2.1)))), ((cell_far (p := ⟨gb125, _, none⟩) NB119_125.out _).trans (((cell_far (p := ⟨gb125, _, none⟩) NB119_125.out _).trans (hHeld.2.2.2.2.2))))⟩ (fun hHeld => ?_)
    clear hK K
    refine done_ (done_of HT_.out (by kernel_rfl)) ?_
    have hnb28 := NB124_118.out
    have hnc28 := NB118_124.out
    have hnb29 := NB124_119.out
    have hnc29 := NB119_124.out
    have hnb30 := NB124_125.out
    have hnc30 := NB125_124.out
    have hcz31_0 : w23.cell? ⟨gb124, 0, none⟩ = some (.int .u64 0) := (blk_cell BK124.out 0).trans rfl
    have hcz31_1 : w23.cell? ⟨gb124, 1, none⟩ = some (.int .u64 0) := (blk_cell BK124.out 1).trans rfl
    have hfz31_0 := blk_frozen BK124.out 0
    have hfz31_1 := blk_frozen BK124.out 1
    have hnb32 := NB125_118.out
    have hnc32 := NB118_125.out
    have hnb33 := NB125_119.out
    have hnc33 := NB119_125.out
    have hcz34_0 : w23.cell? ⟨gb125, 0, none⟩ = some (.int .u64 0) := (blk_cell BK125.out 0).trans rfl
    have hcz34_1 : w23.cell? ⟨gb125, 1, none⟩ = some (.int .u64 0) := (blk_cell BK125.out 1).trans rfl
    have hfz34_0 := blk_frozen BK125.out 0
    have hfz34_1 := blk_frozen BK125.out 1
    go_upto_if 24 with (first | ((with_reducible refine gate_callee (f := 50) rfl ?_); refine goesL_ (some 22) rfl rfl Try.func50 (by kernel_rfl) rfl #[.int .u64 (Go.bits .xor .u64 t120 t122)] rfl (by (try simp only [List.map_toArray, List.map_cons, List.map_nil]); first | done | rfl | (simp only [List.length_drop, List.length_take]; rfl)) ?_; (with_reducible refine (bits_LeadingZeros64.calls (Go.bits .xor .u64 t120 t122) t126 _ A11.out).mono ?_); rintro e w' ⟨rfl, ⟨nd, rfl⟩⟩; refine ⟨_, rfl, ?_⟩))
    (try simp only [Act.put, List.setIfInBounds_toArray, List.set_cons_zero, List.set_cons_succ])
    go_cut [7] (fun v7 wc => ∃ (kq : Nat) (x7_11 : Int), v7 = .int .i64 x7_11 ∧ Aside0 (addr_Common.j0 kq x7_11 a0_0 a0_1 a0_2 = some r) ∧ Aside0 (kq ≤ k) ∧ Aside0 (wc.heap[gb118]? = some (.cells #[.int .u64 a0_0, .int .u64 a0_1, .bool a0_2] 24 (0, 0))) ∧ Aside0 (wc.heap[gb119]? = some (.cells #[.int .u64 a1_0, .int .u64 a1_1, .bool a1_2] 24 (0, 0))) ∧ Aside0 (wc.heap[gb124]? = some (.cells #[.int .u64 t120, .int .u64 t121] 58 (0, 0))) ∧ Aside0 (wc.heap[gb125]? = some (.cells #[.int .u64 t122, .int .u64 t123] 58 (0, 0))) ∧ Aside0 (Below w.heap.size w wc))
    case first =>
      have H := HC12.out
      clear HC12
      by_cases c35 : t126 = 64
      · rw [if_pos c35] at H
        have c35b0 : (t126 == 64) = true := beq_iff_eq.mpr c35
        have c35b1 : (t126 != 64) = false := bne_eq_false_iff_eq.mpr c35
        clear c35
        (first | rw [c35b0] | (simp only [i64_w, i32_w]; rw [c35b0]) | skip)
        replace H := Option.bind_eq_some_iff.mp H
        obtain ⟨t127, A360, H⟩ := H
        replace H : (addr_Common.j0 k (wrap64 (t126 + t127)) a0_0 a0_1 a0_2) = some r := H
        have A36 := Aside0.mk A360
        clear A360
        have H' := Aside0.mk H
        clear H
        have hnb37 := NB124_118.out
        have hnc37 := NB118_124.out
        have hnb38 := NB124_119.out
        have hnc38 := NB119_124.out
        have hnb39 := NB124_125.out
        have hnc39 := NB125_124.out
        have hcz40_0 : w23.cell? ⟨gb124, 0, none⟩ = some (.int .u64 0) := (blk_cell BK124.out 0).trans rfl
        have hcz40_1 : w23.cell? ⟨gb124, 1, none⟩ = some (.int .u64 0) := (blk_cell BK124.out 1).trans rfl
        have hfz40_0 := blk_frozen BK124.out 0
        have hfz40_1 := blk_frozen BK124.out 1
        have hnb41 := NB125_118.out
        have hnc41 := NB118_125.out
        have hnb42 := NB125_119.out
        have hnc42 := NB119_125.out
        have hcz43_0 : w23.cell? ⟨gb125, 0, none⟩ = some (.int .u64 0) := (blk_cell BK125.out 0).trans rfl
        have hcz43_1 : w23.cell? ⟨gb125, 1, none⟩ = some (.int .u64 0) := (blk_cell BK125.out 1).trans rfl
        have hfz43_0 := blk_frozen BK125.out 0
        have hfz43_1 := blk_frozen BK125.out 1
        go_wp2_with (first | ((with_reducible refine gate_callee (f := 50) rfl ?_); refine goesL_ (some 31) rfl rfl Try.func50 (by kernel_rfl) rfl #[.int .u64 (Go.bits .xor .u64 t121 t123)] rfl (by (try simp only [List.map_toArray, List.map_cons, List.map_nil]); first | done | rfl | (simp only [List.length_drop, List.length_take]; rfl)) ?_; (with_reducible refine (bits_LeadingZeros64.calls (Go.bits .xor .u64 t121 t123) t127 _ A36.out).mono ?_); rintro e w' ⟨rfl, ⟨nd, rfl⟩⟩; refine ⟨_, rfl, ?_⟩))
        go_meet
        case rel => exact ⟨_, (wrap64 (t126 + t127)), (by first | rfl | (simp; done) | (simp [*]; done)), H', ⟨by first | omega | exact Nat.le_refl _⟩, ⟨by (with_reducible repeat (first | refine blk_drewN ?_ _ | refine blk_drew ?_ | refine blk_alloc ?_ _)); refine blk_far ?_ NB118_125.out _; (with_reducible repeat (first | refine blk_drewN ?_ _ | refine blk_drew ?_ | refine blk_alloc ?_ _)); refine blk_far ?_ NB118_125.out _; (with_reducible repeat (first | refine blk_drewN ?_ _ | refine blk_drew ?_ | refine blk_alloc ?_ _)); refine blk_far ?_ NB118_124.out _; (with_reducible repeat (first | refine blk_drewN ?_ _ | refine blk_drew ?_ | refine blk_alloc ?_ _)); refine blk_far ?_ NB118_124.out _; (with_reducible repeat (first | refine blk_drewN ?_ _ | refine blk_drew ?_ | refine blk_alloc ?_ _)); exact BK118.out⟩, ⟨by (with_reducible repeat (first | refine blk_drewN ?_ _ | refine blk_drew ?_ | refine blk_alloc ?_ _)); refine blk_far ?_ NB119_125.out _; (with_reducible repeat (first | refine blk_drewN ?_ _ | refine blk_drew ?_ | refine blk_alloc ?_ _)); refine blk_far ?_ NB119_125.out _; (with_reducible repeat (first | refine blk_drewN ?_ _ | refine blk_drew ?_ | refine blk_alloc ?_ _)); refine blk_far ?_ NB119_124.out _; (with_reducible repeat (first | refine blk_drewN ?_ _ | refine blk_drew ?_ | refine blk_alloc ?_ _)); refine blk_far ?_ NB119_124.out _; (with_reducible repeat (first | refine blk_drewN ?_ _ | refine blk_drew ?_ | refine blk_alloc ?_ _)); exact BK119.out⟩, ⟨by (with_reducible repeat (first | refine blk_drewN ?_ _ | refine blk_drew ?_ | refine blk_alloc ?_ _)); refine blk_far ?_ NB124_125.out _; (with_reducible repeat (first | refine blk_drewN ?_ _ | refine blk_drew ?_ | refine blk_alloc ?_ _)); refine blk_far ?_ NB124_125.out _; (with_reducible repeat (first | refine blk_drewN ?_ _ | refine blk_drew ?_ | refine blk_alloc ?_ _)); refine blk_put (cs := #[.int .u64 t120, .int .u64 0]) ?_ 1 _ rfl; (with_reducible repeat (first | refine blk_drewN ?_ _ | refine blk_drew ?_ | refine blk_alloc ?_ _)); refine blk_put (cs := #[.int .u64 0, .int .u64 0]) ?_ 0 _ rfl; (with_reducible repeat (first | refine blk_drewN ?_ _ | refine blk_drew ?_ | refine blk_alloc ?_ _)); exact BK124.out⟩, ⟨by (with_reducible repeat (first | refine blk_drewN ?_ _ | refine blk_drew ?_ | refine blk_alloc ?_ _)); refine blk_put (cs := #[.int .u64 t122, .int .u64 0]) ?_ 1 _ rfl; (with_reducible repeat (first | refine blk_drewN ?_ _ | refine blk_drew ?_ | refine blk_alloc ?_ _)); refine blk_put (cs := #[.int .u64 0, .int .u64 0]) ?_ 0 _ rfl; (with_reducible repeat (first | refine blk_drewN ?_ _ | refine blk_drew ?_ | refine blk_alloc ?_ _)); refine blk_far ?_ NB125_124.out _; (with_reducible repeat (first | refine blk_drewN ?_ _ | refine blk_drew ?_ | refine blk_alloc ?_ _)); refine blk_far ?_ NB125_124.out _; (with_reducible repeat (first | refine blk_drewN ?_ _ | refine blk_drew ?_ | refine blk_alloc ?_ _)); exact BK125.out⟩, ⟨by repeat (first | (with_reducible first | exact HB.out | apply below_alloc | apply pw_below_drewN | apply below_drew1 | refine below_set ?_ GE118.out | refine below_set ?_ GE119.out | refine below_set ?_ GE124.out | refine below_set ?_ GE125.out) | exact HB.out)⟩⟩
      · rw [if_neg c35] at H
        have c35b0 : (t126 == 64) = false := beq_eq_false_iff_ne.mpr c35
        have c35b1 : (t126 != 64) = true := bne_iff_ne.mpr c35
        (first | rw [c35b0] | (simp only [i64_w, i32_w]; rw [c35b0]) | skip)
        have H' := Aside0.mk H
        clear H
        go_wp2
        go_meet
        case rel => exact ⟨_, (t126), (by first | rfl | (simp; done) | (simp [*]; done)), H', ⟨by first | omega | exact Nat.le_refl _⟩, ⟨by (with_reducible repeat (first | refine blk_drewN ?_ _ | refine blk_drew ?_ | refine blk_alloc ?_ _)); refine blk_far ?_ NB118_125.out _; (with_reducible repeat (first | refine blk_drewN ?_ _ | refine blk_drew ?_ | refine blk_alloc ?_ _)); refine blk_far ?_ NB118_125.out _; (with_reducible repeat (first | refine blk_drewN ?_ _ | refine blk_drew ?_ | refine blk_alloc ?_ _)); refine blk_far ?_ NB118_124.out _; (with_reducible repeat (first | refine blk_drewN ?_ _ | refine blk_drew ?_ | refine blk_alloc ?_ _)); refine blk_far ?_ NB118_124.out _; (with_reducible repeat (first | refine blk_drewN ?_ _ | refine blk_drew ?_ | refine blk_alloc ?_ _)); exact BK118.out⟩, ⟨by (with_reducible repeat (first | refine blk_drewN ?_ _ | refine blk_drew ?_ | refine blk_alloc ?_ _)); refine blk_far ?_ NB119_125.out _; (with_reducible repeat (first | refine blk_drewN ?_ _ | refine blk_drew ?_ | refine blk_alloc ?_ _)); refine blk_far ?_ NB119_125.out _; (with_reducible repeat (first | refine blk_drewN ?_ _ | refine blk_drew ?_ | refine blk_alloc ?_ _)); refine blk_far ?_ NB119_124.out _; (with_reducible repeat (first | refine blk_drewN ?_ _ | refine blk_drew ?_ | refine blk_alloc ?_ _)); refine blk_far ?_ NB119_124.out _; (with_reducible repeat (first | refine blk_drewN ?_ _ | refine blk_drew ?_ | refine blk_alloc ?_ _)); exact BK119.out⟩, ⟨by (with_reducible repeat (first | refine blk_drewN ?_ _ | refine blk_drew ?_ | refine blk_alloc ?_ _)); refine blk_far ?_ NB124_125.out _; (with_reducible repeat (first | refine blk_drewN ?_ _ | refine blk_drew ?_ | refine blk_alloc ?_ _)); refine blk_far ?_ NB124_125.out _; (with_reducible repeat (first | refine blk_drewN ?_ _ | refine blk_drew ?_ | refine blk_alloc ?_ _)); refine blk_put (cs := #[.int .u64 t120, .int .u64 0]) ?_ 1 _ rfl; (with_reducible repeat (first | refine blk_drewN ?_ _ | refine blk_drew ?_ | refine blk_alloc ?_ _)); refine blk_put (cs := #[.int .u64 0, .int .u64 0]) ?_ 0 _ rfl; (with_reducible repeat (first | refine blk_drewN ?_ _ | refine blk_drew ?_ | refine blk_alloc ?_ _)); exact BK124.out⟩, ⟨by (with_reducible repeat (first | refine blk_drewN ?_ _ | refine blk_drew ?_ | refine blk_alloc ?_ _)); refine blk_put (cs := #[.int .u64 t122, .int .u64 0]) ?_ 1 _ rfl; (with_reducible repeat (first | refine blk_drewN ?_ _ | refine blk_drew ?_ | refine blk_alloc ?_ _)); refine blk_put (cs := #[.int .u64 0, .int .u64 0]) ?_ 0 _ rfl; (with_reducible repeat (first | refine blk_drewN ?_ _ | refine blk_drew ?_ | refine blk_alloc ?_ _)); refine blk_far ?_ NB125_124.out _; (with_reducible repeat (first | refine blk_drewN ?_ _ | refine blk_drew ?_ | refine blk_alloc ?_ _)); refine blk_far ?_ NB125_124.out _; (with_reducible repeat (first | refine blk_drewN ?_ _ | refine blk_drew ?_ | refine blk_alloc ?_ _)); exact BK125.out⟩, ⟨by repeat (first | (with_reducible first | exact HB.out | apply below_alloc | apply pw_below_drewN | apply below_drew1 | refine below_set ?_ GE118.out | refine below_set ?_ GE119.out | refine below_set ?_ GE124.out | refine below_set ?_ GE125.out) | exact HB.out)⟩⟩
    case rest =>
      clear HC12
      try clear c2
      try clear p2
      try clear c3
      try clear c4
      try clear c5
      try clear p6
      try clear c28
      try clear c29
      try clear c30
      try clear c32
      try clear c33
      try clear c35
      try clear c35b0
      try clear c35b1
      try clear c37
      try clear c38
      try clear c39
      try clear c41
      try clear c42
      try clear hcz31_0
      try clear hcz31_1
      try clear hcz34_0
      try clear hcz34_1
      try clear hcz40_0
      try clear hcz40_1
      try clear hcz43_0
      try clear hcz43_1
      try clear hfz31_0
      try clear hfz31_1
      try clear hfz34_0
      try clear hfz34_1
      try clear hfz40_0
      try clear hfz40_1
      try clear hfz43_0
      try clear hfz43_1
      obtain ⟨kq, x7_11, rfl, HA, HJ11, BK118, BK119, BK124, BK125, HB⟩ := hcut
      cases kq with
      | zero => exact absurd HA.out (by simp [addr_Common.j0])
      | succ kj11 =>
        have H := HA.out
        clear HA
        simp only [addr_Common.j0] at H
        replace H := Option.bind_eq_some_iff.mp H
        obtain ⟨t128, A440, H⟩ := H
        replace H : (some (mn x7_11 t128)) = some r := H
        have A44 := Aside0.mk A440
        clear A440
        obtain ⟨ji45, hji45⟩ : ∃ j_ : Int, (mn x7_11 t128) = j_ := ⟨_, rfl⟩
        replace H : (some ji45) = some r := by first | (rw [hji45] at H; exact H) | (simp only [hji45] at H ⊢; exact H)
        (try rw [hji45] at A44)
        have hji45_ : (if t128 < x7_11 then t128 else x7_11) = ji45 := hji45
        obtain rfl := Option.some.inj H
        have hnb46 := NB118_119.out
        have hnc46 := NB119_118.out
        have hnb47 := NB118_124.out
        have hnc47 := NB124_118.out
        have hnb48 := NB118_125.out
        have hnc48 := NB125_118.out
        have hcz49_0 : wc.cell? ⟨gb118, 0, none⟩ = some (.int .u64 a0_0) := (blk_cell BK118.out 0).trans rfl
        have hcz49_1 : wc.cell? ⟨gb118, 1, none⟩ = some (.int .u64 a0_1) := (blk_cell BK118.out 1).trans rfl
        have hcz49_2 : wc.cell? ⟨gb118, 2, none⟩ = some (.bool a0_2) := (blk_cell BK118.out 2).trans rfl
        have hfz49_0 := blk_frozen BK118.out 0
        have hfz49_1 := blk_frozen BK118.out 1
        have hfz49_2 := blk_frozen BK118.out 2
        go_wp2_with (first | ((with_reducible refine gate_callee (f := 21) rfl ?_); refine goesL_ (some 36) rfl rfl Try.func21 (by kernel_rfl) rfl #[.bool a0_2] rfl (by (try simp only [List.map_toArray, List.map_cons, List.map_nil]); first | done | rfl | (simp only [List.length_drop, List.length_take]; rfl)) ?_; (with_reducible refine (addr_Width.calls a0_2 t128 _ A44.out).mono ?_); rintro e w' ⟨rfl, ⟨nd, rfl⟩⟩; refine ⟨_, rfl, ?_⟩))
        go_ret
        exact ⟨by first | rfl | (simp [errW_none, errW_some] <;> rfl) | (simp only [← hji45]; first | rfl | (simp [errW_none, errW_some] <;> rfl)) | (simp [*, errW_none, errW_some] <;> rfl), by repeat (first | (with_reducible first | exact HB.out | apply below_alloc | apply pw_below_drewN | apply below_drew1 | refine below_set ?_ GE118.out | refine below_set ?_ GE119.out | refine below_set ?_ GE124.out | refine below_set ?_ GE125.out) | exact HB.out)⟩

end
end Go.Proofs.Ytbaeaiiohkfieaa.PC
