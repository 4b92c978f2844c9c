/-
  Package prefix's Compare, and package addr's Sane and Next, walked by symbolic steps.
-/
import Derived.Test.YtbaeaiiohkfieaaAwakeS
namespace Go.Proofs.Ytbaeaiiohkfieaa.Hand
open Go.RowKit Go.Proofs.YtbaeaiiohkfieaaW.PrintWords Go.Proofs.YtbaeaiiohkfieaaW.PrintLast Go.Proofs.Ytbaeaiiohkfieaa.Bits Go.Proofs.Ytbaeaiiohkfieaa.Dig Go.Proofs.Ytbaeaiiohkfieaa.Sq
set_option linter.unusedVariables false
set_option linter.unusedSimpArgs false
set_option maxRecDepth 100000
set_option maxHeartbeats 4000000
theorem asane_s {a0 a1 : Int} (h : u64 a0 ∧ u64 a1) (a2 : Bool) : Cal Try.prog 19 [.agg #[.int .u64 a0, .int .u64 a1, .bool a2]] (.bool (decide (sane a0 a1 a2))) := Cal.mk fun w => addr_Sane.calls a0 a1 a2 _ w (Sane_f h a2)
theorem next_s {a0 a1 : Int} (h : u64 a0 ∧ u64 a1) (a2 : Bool) : Cal Try.prog 38 [.agg #[.int .u64 a0, .int .u64 a1, .bool a2]] (.tuple #[.agg #[.int .u64 (nextA a0 a1 a2).1, .int .u64 (nextA a0 a1 a2).2.1, .bool (nextA a0 a1 a2).2.2.1], .bool (nextA a0 a1 a2).2.2.2]) := Cal.mk fun w => next_c a0 a1 a2 h.1 h.2 w
theorem cmpi_s (a b : Int) : Cal Try.prog 53 [.int .i64 a, .int .i64 b] (.int .i64 (c3 a b)) := Cal.mk fun w => (cmpi_c a b w).mono fun _ _ ⟨he, hw⟩ => ⟨he, hw ▸ Below.refl _ _⟩
/-- The first of two numbers that is not nought. -/
def or2 (a b : Int) : Int := if a = 0 then b else a
theorem or2_c (g : Nat) (a b : Int) (w : World) (h0 : w.cell? ⟨g, 0, none⟩ = some (.int .i64 a)) (h1 : w.cell? ⟨g, 1, none⟩ = some (.int .i64 b)) :
    Calls Try.prog 52 #[.slice (some ⟨g, 0, none⟩) 2 2] w fun e w' => e = .returned (.int .i64 (or2 a b)) ∧ w = w' := by
  by_cases ha : a = 0
  · have ka : (a != 0) = false := bne_eq_false_iff_eq.mpr ha
    rw [show or2 a b = b by unfold or2; rw [if_pos ha]]
    clear ha
    by_cases hb : b = 0
    · have kb : (b != 0) = false := bne_eq_false_iff_eq.mpr hb
      rw [hb]
      clear hb
      go_enter Try.func52, Try.ntmps52
      go_wp2
      refine wp_loop_rounds 3 ?_
      iterate 3 (rw [rounds_succ]; go_wp2)
      go_ret
      exact ⟨rfl, rfl⟩
    · have kb : (b != 0) = true := bne_iff_ne.mpr hb
      clear hb
      go_enter Try.func52, Try.ntmps52
      go_wp2
      refine wp_loop_rounds 3 ?_
      iterate 2 (rw [rounds_succ]; go_wp2)
      go_ret
      exact ⟨rfl, rfl⟩
  · have ka : (a != 0) = true := bne_iff_ne.mpr ha
    rw [show or2 a b = a by unfold or2; rw [if_neg ha]]
    clear ha
    go_enter Try.func52, Try.ntmps52
    go_wp2
    refine wp_loop_rounds 3 ?_
    iterate 1 (rw [rounds_succ]; go_wp2)
    go_ret
    exact ⟨rfl, rfl⟩
theorem or2_s (a b : Int) (t : TypeId) : SCal Try.prog 52 [.int .i64 a, .int .i64 b] t 2 2 (.int .i64 (or2 a b)) :=
  SCal.mk fun g w hg => (or2_c g a b w (by rw [cell_of_row w g _ _ _ _ hg]; rfl) (by rw [cell_of_row w g _ _ _ _ hg]; rfl)).mono fun _ _ ⟨he, hw⟩ => ⟨he, hw ▸ Below.refl _ _⟩
theorem bsl2 (a b : Int) : BSl Try.prog 65 2 [(0, .int .i64 a), (1, .int .i64 b)] [.int .i64 a, .int .i64 b] 3 := BSl.mk fun w => by kernel_rfl
noncomputable def pcompA (a0 a1 : Int) (a2 : Bool) (a3 b0 b1 : Int) (b2 : Bool) (b3 : Int) : Int := or2 (compA a0 a1 a2 b0 b1 b2) (c3 a3 b3)
theorem pcompare_s {a0 a1 b0 b1 : Int} (ha : u64 a0 ∧ u64 a1) (hb : u64 b0 ∧ u64 b1) (a2 : Bool) (a3 : Int) (b2 : Bool) (b3 : Int) : Cal Try.prog 39 [.agg #[.int .u64 a0, .int .u64 a1, .bool a2, .int .i64 a3], .agg #[.int .u64 b0, .int .u64 b1, .bool b2, .int .i64 b3]] (.int .i64 (pcompA a0 a1 a2 a3 b0 b1 b2 b3)) := by
  refine Cal.mk fun Wo => enter (F := fun _ => False) Try.func39 rfl Try.ntmps39 rfl ?_
  have k1 := compare_s ha hb a2 b2
  have k2 := cmpi_s a3 b3
  have k3 := bsl2 (compA a0 a1 a2 b0 b1 b2) (c3 a3 b3)
  have k4 := or2_s (compA a0 a1 a2 b0 b1 b2) (c3 a3 b3) 3
  repeat (first
    | (apply s_box; rfl; constructor; rfl; intro _)
    | (apply s_alloc; rfl; intro _)
    | (apply s_bslice; rfl; assumption; rfl; intro _)
    | (apply s_store; rfl; rfl; (repeat (first | exact List.Mem.head _ | apply List.Mem.tail)); constructor; (focus ((simp only [setAt, List.set_cons_zero, List.set_cons_succ, Nat.zero_add, Nat.reduceAdd]); try rfl)); (repeat (first | exact MUpd.hit | apply MUpd.miss)); kernel_rfl; rfl)
    | (apply g_new; rfl; intro _)
    | apply s_st
    | apply q_st
    | apply st_go
    | (apply st_off; rfl)
    | (apply st_on; rfl)
    | (apply st_if4; rfl; intro h1 h2 h3 h4; (try simp only [h1, h2, h3, h4, gv_true, gv_tt]); (try simp only [h1, h2, h3, h4, gv_true, gv_tt, Bool.true_and]))
    | (apply st_if3; rfl; intro h1 h2 h3; (try simp only [h1, h2, h3, gv_true, gv_tt]); (try simp only [h1, h2, h3, gv_true, gv_tt, Bool.true_and]))
    | (apply st_if2; rfl; intro h1 h2; (try simp only [h1, h2, gv_true, gv_tt]))
    | (apply st_if; rfl; intro h1; (try simp only [h1, gv_true, gv_tt]))
    | (focus (first | (apply y_move; rfl; done) | (apply y_assign; rfl; done) | (apply y_not; rfl; done) | (apply y_load; rfl; (repeat (first | exact List.Mem.head _ | apply List.Mem.tail)); (repeat (first | exact Sub.nil | apply Sub.take | apply Sub.drop)); done) | (apply y_cell; rfl; (repeat (first | exact List.Mem.head _ | apply List.Mem.tail)); (repeat (first | exact At.hit | apply At.miss)); kernel_rfl; done) | (apply y_calls; rfl; rfl; rfl; assumption; done) | (apply y_scal; rfl; rfl; rfl; (repeat (first | exact List.Mem.head _ | apply List.Mem.tail)); assumption; done) | (apply y_and; rfl; rfl; done) | (apply y_or; rfl; rfl; done) | (apply y_and_f; rfl; done) | (apply y_or_t; rfl; done) | (apply y_extract; rfl; (repeat (first | exact At.hit | apply At.miss)); done) | (apply y_fagg; rfl; (repeat (first | exact Sub.nil | apply Sub.take | apply Sub.drop)); done) | (apply y_fcell; kernel_rfl; rfl; (repeat (first | exact At.hit | apply At.miss)); done) | (apply y_faddr; kernel_rfl; rfl; done) | (apply y_eq; rfl; rfl; done) | (apply y_ne; rfl; rfl; done) | (apply y_lt; rfl; rfl; done) | (apply y_le; rfl; rfl; done) | (apply y_gt; rfl; rfl; done) | (apply y_ge; rfl; rfl; done) | (apply y_add; rfl; rfl; done) | (apply y_sub; rfl; rfl; done) | (apply y_nes; rfl; rfl; kernel_rfl; exact inferInstance; done) | (apply y_eqs; rfl; rfl; kernel_rfl; exact inferInstance; done) | (apply y_beq; kernel_rfl; rfl; rfl; done) | (apply y_bne; kernel_rfl; rfl; rfl; done) | (apply y_min2; rfl; done) | (apply y_min3; rfl; done) | (apply y_max2; rfl; done) | (apply y_build; kernel_rfl; (repeat (first | exact Bld.nil | (apply Bld.cons; exact inferInstance; rfl; constructor; kernel_rfl; (focus ((simp only [setAt, List.set_cons_zero, List.set_cons_succ, Nat.zero_add, Nat.reduceAdd]); try rfl))))); done)))
    | refine q_nil ?_
    | refine s_nil ?_
    | refine w_seq ?_
    | refine f_then ?_
    | refine f_ret ?_
    | refine f_ret_block ?_
    | refine w_skip ?_
    | refine w_ret ?_
    | refine w_cond_f rfl ?_
    | refine w_cond_t rfl ?_
    | (apply w_cond_tt; rfl; assumption)
    | (apply w_cond_ff; rfl; assumption)
    | (apply f_end; rfl; rfl; intro w hw; first | exact ans hw | exact ans_b (by assumption) hw)
    | (apply f_ends; rfl; (repeat (first | exact Res.nil | (apply Res.tmp; rfl) | (apply Res.agg; exact inferInstance; rfl; (repeat (first | exact List.Mem.head _ | apply List.Mem.tail)); (repeat (first | exact Sub.nil | apply Sub.take | apply Sub.drop))) | (apply Res.cell; kernel_rfl; rfl; (repeat (first | exact List.Mem.head _ | apply List.Mem.tail)); (repeat (first | exact At.hit | apply At.miss))))); intro w hw; exact ans hw)
    | (apply f_ends1; rfl; (repeat (first | exact Res.nil | (apply Res.tmp; rfl) | (apply Res.agg; exact inferInstance; rfl; (repeat (first | exact List.Mem.head _ | apply List.Mem.tail)); (repeat (first | exact Sub.nil | apply Sub.take | apply Sub.drop))) | (apply Res.cell; kernel_rfl; rfl; (repeat (first | exact List.Mem.head _ | apply List.Mem.tail)); (repeat (first | exact At.hit | apply At.miss))))); intro w hw; exact ans hw)
    | (apply w_draw_l; kernel_rfl; rfl; kernel_rfl)
    | (apply w_mixed_l; kernel_rfl; kernel_rfl)
    | (apply g_st; intro W0)
    | refine g_done ?_
    | refine w_reg_l ?_
    | exact rfl)
end Go.Proofs.Ytbaeaiiohkfieaa.Hand
