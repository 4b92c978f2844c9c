/-
  PrefixKin: a child's parent is it.
-/
import Derived.Test.YtbaeaiiohkfieaaPreU
namespace Go.Proofs.Ytbaeaiiohkfieaa.Hand
open Go.RowKit Go.Proofs.YtbaeaiiohkfieaaW.PrintWords Go.Proofs.YtbaeaiiohkfieaaW.PrintLast Go.Proofs.Ytbaeaiiohkfieaa.Bits Go.Proofs.Ytbaeaiiohkfieaa.Dig Go.Proofs.Ytbaeaiiohkfieaa.Sq
set_option linter.unusedVariables false
set_option linter.unusedSimpArgs false
set_option maxRecDepth 100000
set_option maxHeartbeats 4000000

/-! ### The walks -/
theorem kin_up (a0 a1 : Int) (a2 : Bool) (a3 : Int) (b0 b1 : Int) (b2 : Bool) (h1 : Cal Try.prog 32 [.agg #[.int .u64 a0, .int .u64 a1, .bool a2, .int .i64 a3]] (.bool false)) :
    Cal Try.prog 13 [.agg #[.int .u64 a0, .int .u64 a1, .bool a2, .int .i64 a3], .agg #[.int .u64 b0, .int .u64 b1, .bool b2]] (.bool true) := by
  refine Cal.mk fun Wo => enter (F := fun _ => False) Try.func13 rfl Try.ntmps13 rfl ?_
  have k0 := awake02_s
  repeat (first
    | (apply s_box; rfl; constructor; rfl; intro _)
    | (apply s_alloc; rfl; intro _)
    | (apply s_bslice; rfl; assumption; rfl; intro _)
    | (apply s_store; rfl; rfl; (repeat (first | exact List.Mem.head _ | apply List.Mem.tail)); constructor; (focus ((simp only [setAt, List.set_cons_zero, List.set_cons_succ, Nat.zero_add, Nat.reduceAdd]); try rfl)); (repeat (first | exact MUpd.hit | apply MUpd.miss)); kernel_rfl; rfl)
    | (apply g_new; rfl; intro _)
    | apply s_st
    | apply q_st
    | apply st_go
    | (apply st_off; rfl)
    | (apply st_on; rfl)
    | (apply st_if4; rfl; intro h1 h2 h3 h4; (try simp only [h1, h2, h3, h4, gv_true, gv_tt]); (try simp only [h1, h2, h3, h4, gv_true, gv_tt, Bool.true_and]))
    | (apply st_if3; rfl; intro h1 h2 h3; (try simp only [h1, h2, h3, gv_true, gv_tt]); (try simp only [h1, h2, h3, gv_true, gv_tt, Bool.true_and]))
    | (apply st_if2; rfl; intro h1 h2; (try simp only [h1, h2, gv_true, gv_tt]))
    | (apply st_if; rfl; intro h1; (try simp only [h1, gv_true, gv_tt]))
    | (focus (first | (apply y_move; rfl; done) | (apply y_assign; rfl; done) | (apply y_not; rfl; done) | (apply y_load; rfl; (repeat (first | exact List.Mem.head _ | apply List.Mem.tail)); (repeat (first | exact Sub.nil | apply Sub.take | apply Sub.drop)); done) | (apply y_cell; rfl; (repeat (first | exact List.Mem.head _ | apply List.Mem.tail)); (repeat (first | exact At.hit | apply At.miss)); kernel_rfl; done) | (apply y_calls; rfl; rfl; rfl; assumption; done) | (apply y_scal; rfl; rfl; rfl; (repeat (first | exact List.Mem.head _ | apply List.Mem.tail)); assumption; done) | (apply y_and; rfl; rfl; done) | (apply y_or; rfl; rfl; done) | (apply y_and_f; rfl; done) | (apply y_or_t; rfl; done) | (apply y_extract; rfl; (repeat (first | exact At.hit | apply At.miss)); done) | (apply y_fagg; rfl; (repeat (first | exact Sub.nil | apply Sub.take | apply Sub.drop)); done) | (apply y_fcell; kernel_rfl; rfl; (repeat (first | exact At.hit | apply At.miss)); done) | (apply y_faddr; kernel_rfl; rfl; done) | (apply y_eq; rfl; rfl; done) | (apply y_ne; rfl; rfl; done) | (apply y_lt; rfl; rfl; done) | (apply y_le; rfl; rfl; done) | (apply y_gt; rfl; rfl; done) | (apply y_ge; rfl; rfl; done) | (apply y_add; rfl; rfl; done) | (apply y_sub; rfl; rfl; done) | (apply y_nes; rfl; rfl; kernel_rfl; exact inferInstance; done) | (apply y_eqs; rfl; rfl; kernel_rfl; exact inferInstance; done) | (apply y_beq; kernel_rfl; rfl; rfl; done) | (apply y_bne; kernel_rfl; rfl; rfl; done) | (apply y_min2; rfl; done) | (apply y_min3; rfl; done) | (apply y_max2; rfl; done) | (apply y_build; kernel_rfl; (repeat (first | exact Bld.nil | (apply Bld.cons; exact inferInstance; rfl; constructor; kernel_rfl; (focus ((simp only [setAt, List.set_cons_zero, List.set_cons_succ, Nat.zero_add, Nat.reduceAdd]); try rfl))))); done)))
    | refine q_nil ?_
    | refine s_nil ?_
    | refine w_seq ?_
    | refine f_then ?_
    | refine f_ret ?_
    | refine f_ret_block ?_
    | refine w_skip ?_
    | refine w_ret ?_
    | refine w_cond_f rfl ?_
    | refine w_cond_t rfl ?_
    | (apply w_cond_tt; rfl; assumption)
    | (apply w_cond_ff; rfl; assumption)
    | (apply f_end; rfl; rfl; intro w hw; first | exact ans hw | exact ans_b (by assumption) hw)
    | (apply f_ends; rfl; (repeat (first | exact Res.nil | (apply Res.tmp; rfl) | (apply Res.agg; exact inferInstance; rfl; (repeat (first | exact List.Mem.head _ | apply List.Mem.tail)); (repeat (first | exact Sub.nil | apply Sub.take | apply Sub.drop))) | (apply Res.cell; kernel_rfl; rfl; (repeat (first | exact List.Mem.head _ | apply List.Mem.tail)); (repeat (first | exact At.hit | apply At.miss))))); intro w hw; exact ans hw)
    | (apply f_ends1; rfl; (repeat (first | exact Res.nil | (apply Res.tmp; rfl) | (apply Res.agg; exact inferInstance; rfl; (repeat (first | exact List.Mem.head _ | apply List.Mem.tail)); (repeat (first | exact Sub.nil | apply Sub.take | apply Sub.drop))) | (apply Res.cell; kernel_rfl; rfl; (repeat (first | exact List.Mem.head _ | apply List.Mem.tail)); (repeat (first | exact At.hit | apply At.miss))))); intro w hw; exact ans hw)
    | (apply w_draw_l; kernel_rfl; rfl; kernel_rfl)
    | (apply w_mixed_l; kernel_rfl; kernel_rfl)
    | (apply g_st; intro W0)
    | refine g_done ?_
    | refine w_reg_l ?_
    | exact rfl)
theorem kin_full (a0 a1 : Int) (a2 : Bool) (a3 : Int) (b0 b1 : Int) (b2 : Bool) (h1 : Cal Try.prog 32 [.agg #[.int .u64 a0, .int .u64 a1, .bool a2, .int .i64 a3]] (.bool true))
    (g1 : Cal Try.prog 36 [.agg #[.int .u64 a0, .int .u64 a1, .bool a2, .int .i64 a3], .int .i64 0] (.tuple #[.agg #[.int .u64 0, .int .u64 0, .bool false, .int .i64 0], .bool false])) (g2 : Cal Try.prog 36 [.agg #[.int .u64 a0, .int .u64 a1, .bool a2, .int .i64 a3], .int .i64 1] (.tuple #[.agg #[.int .u64 0, .int .u64 0, .bool false, .int .i64 0], .bool false]))
    (x : Int) (g3 : Cal Try.prog 21 [.bool a2] (.int .i64 x)) (hF : (true && (false == false) && (a3 == x)) = true) :
    Cal Try.prog 13 [.agg #[.int .u64 a0, .int .u64 a1, .bool a2, .int .i64 a3], .agg #[.int .u64 b0, .int .u64 b1, .bool b2]] (.bool true) := by
  refine Cal.mk fun Wo => enter (F := fun _ => False) Try.func13 rfl Try.ntmps13 rfl ?_
  have k0 := awake02_s
  repeat (first
    | (apply s_box; rfl; constructor; rfl; intro _)
    | (apply s_alloc; rfl; intro _)
    | (apply s_bslice; rfl; assumption; rfl; intro _)
    | (apply s_store; rfl; rfl; (repeat (first | exact List.Mem.head _ | apply List.Mem.tail)); constructor; (focus ((simp only [setAt, List.set_cons_zero, List.set_cons_succ, Nat.zero_add, Nat.reduceAdd]); try rfl)); (repeat (first | exact MUpd.hit | apply MUpd.miss)); kernel_rfl; rfl)
    | (apply g_new; rfl; intro _)
    | apply s_st
    | apply q_st
    | apply st_go
    | (apply st_off; rfl)
    | (apply st_on; rfl)
    | (apply st_if4; rfl; intro h1 h2 h3 h4; (try simp only [h1, h2, h3, h4, gv_true, gv_tt]); (try simp only [h1, h2, h3, h4, gv_true, gv_tt, Bool.true_and]))
    | (apply st_if3; rfl; intro h1 h2 h3; (try simp only [h1, h2, h3, gv_true, gv_tt]); (try simp only [h1, h2, h3, gv_true, gv_tt, Bool.true_and]))
    | (apply st_if2; rfl; intro h1 h2; (try simp only [h1, h2, gv_true, gv_tt]))
    | (apply st_if; rfl; intro h1; (try simp only [h1, gv_true, gv_tt]))
    | (focus (first | (apply y_move; rfl; done) | (apply y_assign; rfl; done) | (apply y_not; rfl; done) | (apply y_load; rfl; (repeat (first | exact List.Mem.head _ | apply List.Mem.tail)); (repeat (first | exact Sub.nil | apply Sub.take | apply Sub.drop)); done) | (apply y_cell; rfl; (repeat (first | exact List.Mem.head _ | apply List.Mem.tail)); (repeat (first | exact At.hit | apply At.miss)); kernel_rfl; done) | (apply y_calls; rfl; rfl; rfl; assumption; done) | (apply y_scal; rfl; rfl; rfl; (repeat (first | exact List.Mem.head _ | apply List.Mem.tail)); assumption; done) | (apply y_and; rfl; rfl; done) | (apply y_or; rfl; rfl; done) | (apply y_and_f; rfl; done) | (apply y_or_t; rfl; done) | (apply y_extract; rfl; (repeat (first | exact At.hit | apply At.miss)); done) | (apply y_fagg; rfl; (repeat (first | exact Sub.nil | apply Sub.take | apply Sub.drop)); done) | (apply y_fcell; kernel_rfl; rfl; (repeat (first | exact At.hit | apply At.miss)); done) | (apply y_faddr; kernel_rfl; rfl; done) | (apply y_eq; rfl; rfl; done) | (apply y_ne; rfl; rfl; done) | (apply y_lt; rfl; rfl; done) | (apply y_le; rfl; rfl; done) | (apply y_gt; rfl; rfl; done) | (apply y_ge; rfl; rfl; done) | (apply y_add; rfl; rfl; done) | (apply y_sub; rfl; rfl; done) | (apply y_nes; rfl; rfl; kernel_rfl; exact inferInstance; done) | (apply y_eqs; rfl; rfl; kernel_rfl; exact inferInstance; done) | (apply y_beq; kernel_rfl; rfl; rfl; done) | (apply y_bne; kernel_rfl; rfl; rfl; done) | (apply y_min2; rfl; done) | (apply y_min3; rfl; done) | (apply y_max2; rfl; done) | (apply y_build; kernel_rfl; (repeat (first | exact Bld.nil | (apply Bld.cons; exact inferInstance; rfl; constructor; kernel_rfl; (focus ((simp only [setAt, List.set_cons_zero, List.set_cons_succ, Nat.zero_add, Nat.reduceAdd]); try rfl))))); done)))
    | refine q_nil ?_
    | refine s_nil ?_
    | refine w_seq ?_
    | refine f_then ?_
    | refine f_ret ?_
    | refine f_ret_block ?_
    | refine w_skip ?_
    | refine w_ret ?_
    | refine w_cond_f rfl ?_
    | refine w_cond_t rfl ?_
    | (apply w_cond_tt; rfl; assumption)
    | (apply w_cond_ff; rfl; assumption)
    | (apply f_end; rfl; rfl; intro w hw; first | exact ans hw | exact ans_b (by assumption) hw)
    | (apply f_ends; rfl; (repeat (first | exact Res.nil | (apply Res.tmp; rfl) | (apply Res.agg; exact inferInstance; rfl; (repeat (first | exact List.Mem.head _ | apply List.Mem.tail)); (repeat (first | exact Sub.nil | apply Sub.take | apply Sub.drop))) | (apply Res.cell; kernel_rfl; rfl; (repeat (first | exact List.Mem.head _ | apply List.Mem.tail)); (repeat (first | exact At.hit | apply At.miss))))); intro w hw; exact ans hw)
    | (apply f_ends1; rfl; (repeat (first | exact Res.nil | (apply Res.tmp; rfl) | (apply Res.agg; exact inferInstance; rfl; (repeat (first | exact List.Mem.head _ | apply List.Mem.tail)); (repeat (first | exact Sub.nil | apply Sub.take | apply Sub.drop))) | (apply Res.cell; kernel_rfl; rfl; (repeat (first | exact List.Mem.head _ | apply List.Mem.tail)); (repeat (first | exact At.hit | apply At.miss))))); intro w hw; exact ans hw)
    | (apply w_draw_l; kernel_rfl; rfl; kernel_rfl)
    | (apply w_mixed_l; kernel_rfl; kernel_rfl)
    | (apply g_st; intro W0)
    | refine g_done ?_
    | refine w_reg_l ?_
    | exact rfl)
theorem kin_ok (a0 a1 : Int) (a2 : Bool) (a3 : Int) (b0 b1 : Int) (b2 : Bool) (l0 l1 : Int) (l2 : Bool) (l3 : Int) (r0 r1 : Int) (r2 : Bool) (r3 : Int) (f0 f1 : Int) (f2 : Bool) (e0 e1 : Int) (e2 : Bool) (n0 n1 : Int) (n2 : Bool) (w0 w1 : Int) (w2 : Bool) (z0 z1 : Int) (z2 : Bool) (u1 u2 u3 : Bool)
    (h1 : Cal Try.prog 32 [.agg #[.int .u64 a0, .int .u64 a1, .bool a2, .int .i64 a3]] (.bool true)) (g1 : Cal Try.prog 36 [.agg #[.int .u64 a0, .int .u64 a1, .bool a2, .int .i64 a3], .int .i64 0] (.tuple #[.agg #[.int .u64 l0, .int .u64 l1, .bool l2, .int .i64 l3], .bool true])) (g2 : Cal Try.prog 36 [.agg #[.int .u64 a0, .int .u64 a1, .bool a2, .int .i64 a3], .int .i64 1] (.tuple #[.agg #[.int .u64 r0, .int .u64 r1, .bool r2, .int .i64 r3], .bool true]))
    (g3 : Cal Try.prog 24 [.agg #[.int .u64 l0, .int .u64 l1, .bool l2, .int .i64 l3]] (.tuple #[.agg #[.int .u64 a0, .int .u64 a1, .bool a2, .int .i64 a3], .bool true])) (g4 : Cal Try.prog 24 [.agg #[.int .u64 r0, .int .u64 r1, .bool r2, .int .i64 r3]] (.tuple #[.agg #[.int .u64 a0, .int .u64 a1, .bool a2, .int .i64 a3], .bool true])) (g5 : Cal Try.prog 45 [.agg #[.int .u64 l0, .int .u64 l1, .bool l2, .int .i64 l3]] (.tuple #[.agg #[.int .u64 r0, .int .u64 r1, .bool r2, .int .i64 r3], .bool true])) (g6 : Cal Try.prog 45 [.agg #[.int .u64 r0, .int .u64 r1, .bool r2, .int .i64 r3]] (.tuple #[.agg #[.int .u64 l0, .int .u64 l1, .bool l2, .int .i64 l3], .bool true]))
    (g7 : Cal Try.prog 37 [.agg #[.int .u64 l0, .int .u64 l1, .bool l2, .int .i64 l3]] (.tuple #[.agg #[.int .u64 f0, .int .u64 f1, .bool f2], .agg #[.int .u64 e0, .int .u64 e1, .bool e2]])) (g8 : Cal Try.prog 38 [.agg #[.int .u64 e0, .int .u64 e1, .bool e2]] (.tuple #[.agg #[.int .u64 n0, .int .u64 n1, .bool n2], .bool true])) (g9 : Cal Try.prog 37 [.agg #[.int .u64 r0, .int .u64 r1, .bool r2, .int .i64 r3]] (.tuple #[.agg #[.int .u64 n0, .int .u64 n1, .bool n2], .agg #[.int .u64 w0, .int .u64 w1, .bool w2]])) (g10 : Cal Try.prog 37 [.agg #[.int .u64 a0, .int .u64 a1, .bool a2, .int .i64 a3]] (.tuple #[.agg #[.int .u64 z0, .int .u64 z1, .bool z2], .agg #[.int .u64 w0, .int .u64 w1, .bool w2]]))
    (g11 : Cal Try.prog 34 [.agg #[.int .u64 l0, .int .u64 l1, .bool l2, .int .i64 l3], .agg #[.int .u64 r0, .int .u64 r1, .bool r2, .int .i64 r3]] (.bool true)) (g12 : Cal Try.prog 39 [.agg #[.int .u64 l0, .int .u64 l1, .bool l2, .int .i64 l3], .agg #[.int .u64 r0, .int .u64 r1, .bool r2, .int .i64 r3]] (.int .i64 (-1))) (g13 : Cal Try.prog 25 [.agg #[.int .u64 a0, .int .u64 a1, .bool a2, .int .i64 a3], .agg #[.int .u64 b0, .int .u64 b1, .bool b2]] (.bool u1)) (g14 : Cal Try.prog 25 [.agg #[.int .u64 l0, .int .u64 l1, .bool l2, .int .i64 l3], .agg #[.int .u64 b0, .int .u64 b1, .bool b2]] (.bool u2)) (g15 : Cal Try.prog 25 [.agg #[.int .u64 r0, .int .u64 r1, .bool r2, .int .i64 r3], .agg #[.int .u64 b0, .int .u64 b1, .bool b2]] (.bool u3))
    (g16 : Cal Try.prog 26 [.agg #[.int .u64 a0, .int .u64 a1, .bool a2, .int .i64 a3], .agg #[.int .u64 l0, .int .u64 l1, .bool l2, .int .i64 l3]] (.bool true))
    (hF : (((((((((((true && ((a0 == a0 && (a1 == a1 && a2 == a2)) && a3 == a3)) && ((a0 == a0 && (a1 == a1 && a2 == a2)) && a3 == a3)) && ((r0 == r0 && (r1 == r1 && r2 == r2)) && r3 == r3)) && ((l0 == l0 && (l1 == l1 && l2 == l2)) && l3 == l3)) && true) && ((-1 : Int) == -1)) && true) && (n0 == n0 && (n1 == n1 && n2 == n2))) && (w0 == w0 && (w1 == w1 && w2 == w2))) && (u1 == (u2 || u3))) && true) = true) :
    Cal Try.prog 13 [.agg #[.int .u64 a0, .int .u64 a1, .bool a2, .int .i64 a3], .agg #[.int .u64 b0, .int .u64 b1, .bool b2]] (.bool true) := by
  refine Cal.mk fun Wo => enter (F := fun _ => False) Try.func13 rfl Try.ntmps13 rfl ?_
  have k0 := awake02_s
  repeat (first
    | (apply s_box; rfl; constructor; rfl; intro _)
    | (apply s_alloc; rfl; intro _)
    | (apply s_bslice; rfl; assumption; rfl; intro _)
    | (apply s_store; rfl; rfl; (repeat (first | exact List.Mem.head _ | apply List.Mem.tail)); constructor; (focus ((simp only [setAt, List.set_cons_zero, List.set_cons_succ, Nat.zero_add, Nat.reduceAdd]); try rfl)); (repeat (first | exact MUpd.hit | apply MUpd.miss)); kernel_rfl; rfl)
    | (apply g_new; rfl; intro _)
    | apply s_st
    | apply q_st
    | apply st_go
    | (apply st_off; rfl)
    | (apply st_on; rfl)
    | (apply st_if4; rfl; intro h1 h2 h3 h4; (try simp only [h1, h2, h3, h4, gv_true, gv_tt]); (try simp only [h1, h2, h3, h4, gv_true, gv_tt, Bool.true_and]))
    | (apply st_if3; rfl; intro h1 h2 h3; (try simp only [h1, h2, h3, gv_true, gv_tt]); (try simp only [h1, h2, h3, gv_true, gv_tt, Bool.true_and]))
    | (apply st_if2; rfl; intro h1 h2; (try simp only [h1, h2, gv_true, gv_tt]))
    | (apply st_if; rfl; intro h1; (try simp only [h1, gv_true, gv_tt]))
    | (focus (first | (apply y_move; rfl; done) | (apply y_assign; rfl; done) | (apply y_not; rfl; done) | (apply y_load; rfl; (repeat (first | exact List.Mem.head _ | apply List.Mem.tail)); (repeat (first | exact Sub.nil | apply Sub.take | apply Sub.drop)); done) | (apply y_cell; rfl; (repeat (first | exact List.Mem.head _ | apply List.Mem.tail)); (repeat (first | exact At.hit | apply At.miss)); kernel_rfl; done) | (apply y_calls; rfl; rfl; rfl; assumption; done) | (apply y_scal; rfl; rfl; rfl; (repeat (first | exact List.Mem.head _ | apply List.Mem.tail)); assumption; done) | (apply y_and; rfl; rfl; done) | (apply y_or; rfl; rfl; done) | (apply y_and_f; rfl; done) | (apply y_or_t; rfl; done) | (apply y_extract; rfl; (repeat (first | exact At.hit | apply At.miss)); done) | (apply y_fagg; rfl; (repeat (first | exact Sub.nil | apply Sub.take | apply Sub.drop)); done) | (apply y_fcell; kernel_rfl; rfl; (repeat (first | exact At.hit | apply At.miss)); done) | (apply y_faddr; kernel_rfl; rfl; done) | (apply y_eq; rfl; rfl; done) | (apply y_ne; rfl; rfl; done) | (apply y_lt; rfl; rfl; done) | (apply y_le; rfl; rfl; done) | (apply y_gt; rfl; rfl; done) | (apply y_ge; rfl; rfl; done) | (apply y_add; rfl; rfl; done) | (apply y_sub; rfl; rfl; done) | (apply y_nes; rfl; rfl; kernel_rfl; exact inferInstance; done) | (apply y_eqs; rfl; rfl; kernel_rfl; exact inferInstance; done) | (apply y_beq; kernel_rfl; rfl; rfl; done) | (apply y_bne; kernel_rfl; rfl; rfl; done) | (apply y_min2; rfl; done) | (apply y_min3; rfl; done) | (apply y_max2; rfl; done) | (apply y_build; kernel_rfl; (repeat (first | exact Bld.nil | (apply Bld.cons; exact inferInstance; rfl; constructor; kernel_rfl; (focus ((simp only [setAt, List.set_cons_zero, List.set_cons_succ, Nat.zero_add, Nat.reduceAdd]); try rfl))))); done)))
    | refine q_nil ?_
    | refine s_nil ?_
    | refine w_seq ?_
    | refine f_then ?_
    | refine f_ret ?_
    | refine f_ret_block ?_
    | refine w_skip ?_
    | refine w_ret ?_
    | refine w_cond_f rfl ?_
    | refine w_cond_t rfl ?_
    | (apply w_cond_tt; rfl; assumption)
    | (apply w_cond_ff; rfl; assumption)
    | (apply f_end; rfl; rfl; intro w hw; first | exact ans hw | exact ans_b (by assumption) hw)
    | (apply f_ends; rfl; (repeat (first | exact Res.nil | (apply Res.tmp; rfl) | (apply Res.agg; exact inferInstance; rfl; (repeat (first | exact List.Mem.head _ | apply List.Mem.tail)); (repeat (first | exact Sub.nil | apply Sub.take | apply Sub.drop))) | (apply Res.cell; kernel_rfl; rfl; (repeat (first | exact List.Mem.head _ | apply List.Mem.tail)); (repeat (first | exact At.hit | apply At.miss))))); intro w hw; exact ans hw)
    | (apply f_ends1; rfl; (repeat (first | exact Res.nil | (apply Res.tmp; rfl) | (apply Res.agg; exact inferInstance; rfl; (repeat (first | exact List.Mem.head _ | apply List.Mem.tail)); (repeat (first | exact Sub.nil | apply Sub.take | apply Sub.drop))) | (apply Res.cell; kernel_rfl; rfl; (repeat (first | exact List.Mem.head _ | apply List.Mem.tail)); (repeat (first | exact At.hit | apply At.miss))))); intro w hw; exact ans hw)
    | (apply w_draw_l; kernel_rfl; rfl; kernel_rfl)
    | (apply w_mixed_l; kernel_rfl; kernel_rfl)
    | (apply g_st; intro W0)
    | refine g_done ?_
    | refine w_reg_l ?_
    | exact rfl)

/-! ### The plain law -/
theorem putd_at (d : Nat → Bool) (c : Nat) (b : Bool) : putd d c b c = b := by unfold putd; rw [if_pos rfl]
theorem putd_lt (d : Nat → Bool) (c : Nat) (b : Bool) {i : Nat} (h : i < c) : putd d c b i = d i := by unfold putd; rw [if_neg (by omega)]
theorem putd_put (d : Nat → Bool) (c : Nat) (a b : Bool) : putd (putd d c a) c b = putd d c b := funext fun i => by
  unfold putd
  by_cases h : i = c
  · rw [if_pos h, if_pos h]
  · rw [if_neg h, if_neg h, if_neg h]
theorem cut_putd (d : Nat → Bool) (c : Nat) (b : Bool) : cutd (putd d c b) c = cutd d c := funext fun i => by
  by_cases h : i < c
  · rw [cutd_lt h, cutd_lt h, putd_lt d c b h]
  · rw [cutd_ge (by omega), cutd_ge (by omega)]
theorem fil_put (d : Nat → Bool) (c : Nat) : filD (putd d c true) (c + 1) = filD d c := funext fun i => by
  unfold filD
  rcases Nat.lt_trichotomy i c with h | h | h
  · rw [decide_eq_false (by omega), decide_eq_false (by omega), putd_lt d c true h]
  · subst h; rw [putd_at, decide_eq_true (Nat.le_refl i), Bool.or_true, Bool.true_or]
  · rw [decide_eq_true (by omega : c + 1 ≤ i), decide_eq_true (by omega : c ≤ i), Bool.true_or, Bool.true_or]
theorem next_fil (v : Bool) (d : Nat → Bool) (c : Nat) (hc : c < W v) : nextA (hiA v (filD (putd d c false) (c + 1))) (loA v (filD (putd d c false) (c + 1))) v = (hiA v (cutd (putd d c true) (c + 1)), loA v (cutd (putd d c true) (c + 1)), v, true) := by
  have hD : ∀ i, i < W v → D (hiA v (filD (putd d c false) (c + 1))) (loA v (filD (putd d c false) (c + 1))) i = filD (putd d c false) (c + 1) i := fun i hi => by rw [D_mk, decide_eq_true hi, Bool.true_and]
  have atc : filD (putd d c false) (c + 1) c = false := by unfold filD; rw [putd_at, decide_eq_false (by omega)]; rfl
  have past : ∀ i, c < i → filD (putd d c false) (c + 1) i = true := fun i hi => by unfold filD; rw [decide_eq_true (by omega)]; rfl
  rcases next_spec (hiA v (filD (putd d c false) (c + 1))) (loA v (filD (putd d c false) (c + 1))) v with ⟨k, hk, h0, h1, h2⟩ | ⟨h1, _⟩
  · have e : k = c := by
      rcases Nat.lt_trichotomy k c with h | h | h
      · have := h1 c h hc
        rw [hD c hc, atc] at this; cases this
      · exact h
      · rw [hD k hk, past k h] at h0; cases h0
    subst e
    have e : ∀ i, i < W v → upD (D (hiA v (filD (putd d k false) (k + 1))) (loA v (filD (putd d k false) (k + 1)))) k i = cutd (putd d k true) (k + 1) i := fun i hi => by
      unfold upD
      rcases Nat.lt_trichotomy i k with h | h | h
      · rw [if_pos h, hD i hi, cutd_lt (by omega), putd_lt d k true h]
        unfold filD
        rw [decide_eq_false (by omega), putd_lt d k false h]; rfl
      · subst h
        rw [if_neg (by omega), cutd_lt (by omega), putd_at]
        exact decide_eq_true rfl
      · rw [if_neg (by omega), cutd_ge (by omega), decide_eq_false (by omega)]
    rw [h2, hi_congr e, lo_congr e]
  · have := h1 c hc
    rw [hD c hc, atc] at this; cases this
theorem kin_main (v : Bool) (d : Nat → Bool) (c : Nat) (hc : c ≤ W v) (b0 b1 : Int) (b2 : Bool) (hb : u64 b0 ∧ u64 b1) :
    Cal Try.prog 13 [.agg #[.int .u64 (hiA v (cutd d c)), .int .u64 (loA v (cutd d c)), .bool v, .int .i64 ((c : Nat) : Int)], .agg #[.int .u64 b0, .int .u64 b1, .bool b2]] (.bool true) := by
  by_cases hw : c < W v
  · have e0 : setv 0 = false := by decide
    have e1 : setv 1 = true := by decide
    have g1 := child_pk v d c hw 0
    have g2 := child_pk v d c hw 1
    rw [e0] at g1
    rw [e1] at g2
    have g3 := parent_pk v (putd d c false) c hw
    have g4 := parent_pk v (putd d c true) c hw
    rw [cut_putd] at g3 g4
    have g5 := sibling_pk v (putd d c false) c hw
    have g6 := sibling_pk v (putd d c true) c hw
    rw [putd_at, putd_put] at g5 g6
    have g7 := ends_pk v (putd d c false) (c + 1) hw
    have g9 := ends_pk v (putd d c true) (c + 1) hw
    rw [fil_put] at g9
    have g10 := ends_pk v d c hc
    have g8 := next_s (u_mk v (filD (putd d c false) (c + 1))) v
    rw [next_fil v d c hw] at g8
    have ul := u_mk v (cutd (putd d c false) (c + 1))
    have ur := u_mk v (cutd (putd d c true) (c + 1))
    have up := u_mk v (cutd d c)
    have n1 : conD v (putd d c false) (c + 1) v (putd d c true) = false := Bool.eq_false_iff.mpr fun h => by
      have := (conD_true.mp h).2 c (by omega)
      rw [putd_at, putd_at] at this; cases this
    have n2 : conD v (putd d c true) (c + 1) v (putd d c false) = false := Bool.eq_false_iff.mpr fun h => by
      have := (conD_true.mp h).2 c (by omega)
      rw [putd_at, putd_at] at this; cases this
    have g11 := apart_s ul ur v ((c + 1 : Nat) : Int) v ((c + 1 : Nat) : Int)
    rw [apaB_pk v _ (c + 1) hw v _ (c + 1) hw, n1, n2, Bool.and_false] at g11
    have g12 := pcompare_s ul ur v ((c + 1 : Nat) : Int) v ((c + 1 : Nat) : Int)
    have hcm : cmn (D (hiA v (cutd (putd d c false) (c + 1))) (loA v (cutd (putd d c false) (c + 1)))) (D (hiA v (cutd (putd d c true) (c + 1))) (loA v (cutd (putd d c true) (c + 1)))) (W v) = c :=
      cmn_is hc (fun i hi => by rw [D_cut v _ _ i (by omega), D_cut v _ _ i (by omega), cutd_lt (by omega), cutd_lt (by omega), putd_lt d c false hi, putd_lt d c true hi]) (fun _ => by rw [D_cut v _ _ c hw, D_cut v _ _ c hw, cutd_lt (by omega), cutd_lt (by omega), putd_at, putd_at]; decide)
    have hcp : pcompA (hiA v (cutd (putd d c false) (c + 1))) (loA v (cutd (putd d c false) (c + 1))) v ((c + 1 : Nat) : Int) (hiA v (cutd (putd d c true) (c + 1))) (loA v (cutd (putd d c true) (c + 1))) v ((c + 1 : Nat) : Int) = -1 := by
      unfold pcompA
      rw [comp_same, hcm, if_neg (by omega), D_cut v _ _ c hw, D_cut v _ _ c hw, cutd_lt (by omega), cutd_lt (by omega), putd_at, putd_at]
      rfl
    rw [hcp] at g12
    have g13 := contains_s up hb v (c : Int) b2
    have g14 := contains_s ul hb v ((c + 1 : Nat) : Int) b2
    have g15 := contains_s ur hb v ((c + 1 : Nat) : Int) b2
    rw [contB_pk v d c hc] at g13
    rw [contB_pk v _ (c + 1) hw] at g14 g15
    have g16 := inside_s up ul v (c : Int) v ((c + 1 : Nat) : Int)
    have hin : insB (hiA v (cutd d c)) (loA v (cutd d c)) v c (hiA v (cutd (putd d c false) (c + 1))) (loA v (cutd (putd d c false) (c + 1))) v ((c + 1 : Nat) : Int) = true := by
      unfold insB
      rw [eqP_pk v d c hc v _ (c + 1) hw, covB_pk v d c hc v _ (c + 1) hw, decide_eq_false (show ¬ c = c + 1 by omega), decide_eq_true (show c ≤ c + 1 by omega), conD_true.mpr ⟨rfl, fun i hi => (putd_lt d c false hi).symm⟩]
      rfl
    rw [hin] at g16
    refine kin_ok _ _ _ _ _ _ _ _ _ _ _ _ _ _ _ _ _ _ _ _ _ _ _ _ _ _ _ _ _ _ _ _ _ (sane_pk v d c hc) g1 g2 g3 g4 g5 g6 g7 g8 g9 g10 g11 g12 g13 g14 g15 g16 ?_
    have hu : conD v d c b2 (D b0 b1) = (conD v (putd d c false) (c + 1) b2 (D b0 b1) || conD v (putd d c true) (c + 1) b2 (D b0 b1)) := by
      rw [Bool.eq_iff_iff, Bool.or_eq_true, conD_true, conD_true, conD_true]
      constructor
      · rintro ⟨h1, h2⟩
        have k : ∀ b, D b0 b1 c = b → ∀ i, i < c + 1 → putd d c b i = D b0 b1 i := fun b hb i hi => by
          by_cases h : i = c
          · subst h; rw [putd_at, hb]
          · rw [putd_lt d c b (by omega), h2 i (by omega)]
        cases hq : D b0 b1 c with
        | false => exact .inl ⟨h1, k false hq⟩
        | true => exact .inr ⟨h1, k true hq⟩
      · rintro (⟨h1, h2⟩ | ⟨h1, h2⟩)
        · exact ⟨h1, fun i hi => by rw [← h2 i (by omega), putd_lt d c false hi]⟩
        · exact ⟨h1, fun i hi => by rw [← h2 i (by omega), putd_lt d c true hi]⟩
    rw [hu]
    simp
  · obtain rfl : c = W v := by omega
    exact kin_full _ _ _ _ _ _ _ (sane_pk v d (W v) hc) (child_full v d 0) (child_full v d 1) _ (width_s v) (by simp)
theorem kin_all {a0 a1 b0 b1 : Int} (ha : u64 a0 ∧ u64 a1) (hb : u64 b0 ∧ u64 b1) (a2 : Bool) (a3 : Int) (b2 : Bool) :
    Cal Try.prog 13 [.agg #[.int .u64 a0, .int .u64 a1, .bool a2, .int .i64 a3], .agg #[.int .u64 b0, .int .u64 b1, .bool b2]] (.bool true) := by
  cases hE : saneB a0 a1 a2 a3 with
  | false => exact kin_up _ _ _ _ _ _ _ (sane_not ha hE)
  | true =>
    obtain ⟨n1, l1, e1, p1, q1⟩ := saneB_ex hE
    have := kin_main a2 (D a0 a1) n1 l1 b0 b1 b2 hb
    rwa [← p1, ← q1, ← e1] at this
theorem prefixKin_walk (a0 a1 : Int) (a2 : Bool) (a3 : Int) (b0 b1 : Int) (b2 : Bool)
    (h1 : (Lit.int .u64 a0).wf = true) (h2 : (Lit.int .u64 a1).wf = true) (h3 : (Lit.int .i64 a3).wf = true)
    (h4 : (Lit.int .u64 b0).wf = true) (h5 : (Lit.int .u64 b1).wf = true) (W : World) :
    Calls Try.prog 13 #[.agg #[.int .u64 a0, .int .u64 a1, .bool a2, .int .i64 a3], .agg #[.int .u64 b0, .int .u64 b1, .bool b2]] W fun e w' => e = .returned (.bool true) ∧ Below W.heap.size W w' :=
  (kin_all ⟨wf_u64 h1, wf_u64 h2⟩ ⟨wf_u64 h4, wf_u64 h5⟩ a2 a3 b2).out W
end Go.Proofs.Ytbaeaiiohkfieaa.Hand
