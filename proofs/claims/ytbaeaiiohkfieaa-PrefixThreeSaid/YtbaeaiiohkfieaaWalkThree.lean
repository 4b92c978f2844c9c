/-
  PrefixThree: one covers, or they are apart.
-/
import Derived.Test.YtbaeaiiohkfieaaAwakeS
namespace Go.Proofs.Ytbaeaiiohkfieaa.Hand
open Go.RowKit Go.Proofs.YtbaeaiiohkfieaaW.PrintWords Go.Proofs.YtbaeaiiohkfieaaW.PrintLast Go.Proofs.Ytbaeaiiohkfieaa.Bits Go.Proofs.Ytbaeaiiohkfieaa.Dig Go.Proofs.Ytbaeaiiohkfieaa.Sq
set_option linter.unusedVariables false
set_option linter.unusedSimpArgs false
set_option maxRecDepth 100000
set_option maxHeartbeats 4000000

/-! ### The walks -/
theorem three_up (a0 a1 : Int) (a2 : Bool) (a3 : Int) (b0 b1 : Int) (b2 : Bool) (b3 : Int) (c0 c1 : Int) (c2 : Bool) (c3 : Int) (s1 s2 s3 : Bool)
    (h1 : Cal Try.prog 32 [.agg #[.int .u64 a0, .int .u64 a1, .bool a2, .int .i64 a3]] (.bool s1)) (h2 : Cal Try.prog 32 [.agg #[.int .u64 b0, .int .u64 b1, .bool b2, .int .i64 b3]] (.bool s2)) (h3 : Cal Try.prog 32 [.agg #[.int .u64 c0, .int .u64 c1, .bool c2, .int .i64 c3]] (.bool s3)) (hE : ((!s1 || !s2) || !s3) = true) :
    Cal Try.prog 7 [.agg #[.int .u64 a0, .int .u64 a1, .bool a2, .int .i64 a3], .agg #[.int .u64 b0, .int .u64 b1, .bool b2, .int .i64 b3], .agg #[.int .u64 c0, .int .u64 c1, .bool c2, .int .i64 c3]] (.bool true) := by
  refine Cal.mk fun Wo => enter (F := fun _ => False) Try.func7 rfl Try.ntmps7 rfl ?_
  have k0 := awake02_s
  repeat (first
    | (apply s_box; rfl; constructor; rfl; intro _)
    | (apply s_alloc; rfl; intro _)
    | (apply s_bslice; rfl; assumption; rfl; intro _)
    | (apply s_store; rfl; rfl; (repeat (first | exact List.Mem.head _ | apply List.Mem.tail)); constructor; (focus ((simp only [setAt, List.set_cons_zero, List.set_cons_succ, Nat.zero_add, Nat.reduceAdd]); try rfl)); (repeat (first | exact MUpd.hit | apply MUpd.miss)); kernel_rfl; rfl)
    | (apply g_new; rfl; intro _)
    | apply s_st
    | apply q_st
    | apply st_go
    | (apply st_off; rfl)
    | (apply st_on; rfl)
    | (apply st_if4; rfl; intro h1 h2 h3 h4; (try simp only [h1, h2, h3, h4, gv_true, gv_tt]); (try simp only [h1, h2, h3, h4, gv_true, gv_tt, Bool.true_and]))
    | (apply st_if3; rfl; intro h1 h2 h3; (try simp only [h1, h2, h3, gv_true, gv_tt]); (try simp only [h1, h2, h3, gv_true, gv_tt, Bool.true_and]))
    | (apply st_if2; rfl; intro h1 h2; (try simp only [h1, h2, gv_true, gv_tt]))
    | (apply st_if; rfl; intro h1; (try simp only [h1, gv_true, gv_tt]))
    | (focus (first | (apply y_move; rfl; done) | (apply y_assign; rfl; done) | (apply y_not; rfl; done) | (apply y_load; rfl; (repeat (first | exact List.Mem.head _ | apply List.Mem.tail)); (repeat (first | exact Sub.nil | apply Sub.take | apply Sub.drop)); done) | (apply y_cell; rfl; (repeat (first | exact List.Mem.head _ | apply List.Mem.tail)); (repeat (first | exact At.hit | apply At.miss)); kernel_rfl; done) | (apply y_calls; rfl; rfl; rfl; assumption; done) | (apply y_scal; rfl; rfl; rfl; (repeat (first | exact List.Mem.head _ | apply List.Mem.tail)); assumption; done) | (apply y_and; rfl; rfl; done) | (apply y_or; rfl; rfl; done) | (apply y_extract; rfl; (repeat (first | exact At.hit | apply At.miss)); done) | (apply y_fagg; rfl; (repeat (first | exact Sub.nil | apply Sub.take | apply Sub.drop)); done) | (apply y_fcell; kernel_rfl; rfl; (repeat (first | exact At.hit | apply At.miss)); done) | (apply y_faddr; kernel_rfl; rfl; done) | (apply y_eq; rfl; rfl; done) | (apply y_ne; rfl; rfl; done) | (apply y_lt; rfl; rfl; done) | (apply y_le; rfl; rfl; done) | (apply y_gt; rfl; rfl; done) | (apply y_ge; rfl; rfl; done) | (apply y_add; rfl; rfl; done) | (apply y_sub; rfl; rfl; done) | (apply y_nes; rfl; rfl; kernel_rfl; exact inferInstance; done) | (apply y_eqs; rfl; rfl; kernel_rfl; exact inferInstance; done) | (apply y_beq; kernel_rfl; rfl; rfl; done) | (apply y_bne; kernel_rfl; rfl; rfl; done) | (apply y_min2; rfl; done) | (apply y_min3; rfl; done) | (apply y_max2; rfl; done) | (apply y_build; kernel_rfl; (repeat (first | exact Bld.nil | (apply Bld.cons; exact inferInstance; rfl; constructor; kernel_rfl; (focus ((simp only [setAt, List.set_cons_zero, List.set_cons_succ, Nat.zero_add, Nat.reduceAdd]); try rfl))))); done)))
    | refine q_nil ?_
    | refine s_nil ?_
    | refine w_seq ?_
    | refine f_then ?_
    | refine f_ret ?_
    | refine f_ret_block ?_
    | refine w_skip ?_
    | refine w_ret ?_
    | refine w_cond_f rfl ?_
    | refine w_cond_t rfl ?_
    | (apply w_cond_tt; rfl; assumption)
    | (apply w_cond_ff; rfl; assumption)
    | (apply f_end; rfl; rfl; intro w hw; first | exact ans hw | exact ans_b (by assumption) hw)
    | (apply f_ends; rfl; (repeat (first | exact Res.nil | (apply Res.tmp; rfl) | (apply Res.agg; exact inferInstance; rfl; (repeat (first | exact List.Mem.head _ | apply List.Mem.tail)); (repeat (first | exact Sub.nil | apply Sub.take | apply Sub.drop))) | (apply Res.cell; kernel_rfl; rfl; (repeat (first | exact List.Mem.head _ | apply List.Mem.tail)); (repeat (first | exact At.hit | apply At.miss))))); intro w hw; exact ans hw)
    | (apply f_ends1; rfl; (repeat (first | exact Res.nil | (apply Res.tmp; rfl) | (apply Res.agg; exact inferInstance; rfl; (repeat (first | exact List.Mem.head _ | apply List.Mem.tail)); (repeat (first | exact Sub.nil | apply Sub.take | apply Sub.drop))) | (apply Res.cell; kernel_rfl; rfl; (repeat (first | exact List.Mem.head _ | apply List.Mem.tail)); (repeat (first | exact At.hit | apply At.miss))))); intro w hw; exact ans hw)
    | (apply w_draw_l; kernel_rfl; rfl; kernel_rfl)
    | (apply w_mixed_l; kernel_rfl; kernel_rfl)
    | (apply g_st; intro W0)
    | refine g_done ?_
    | refine w_reg_l ?_
    | exact rfl)
theorem three_no (a0 a1 : Int) (a2 : Bool) (a3 : Int) (b0 b1 : Int) (b2 : Bool) (b3 : Int) (c0 c1 : Int) (c2 : Bool) (c3 : Int) (u1 u2 u3 u4 u5 u6 u7 u8 : Bool)
    (h1 : Cal Try.prog 32 [.agg #[.int .u64 a0, .int .u64 a1, .bool a2, .int .i64 a3]] (.bool true)) (h2 : Cal Try.prog 32 [.agg #[.int .u64 b0, .int .u64 b1, .bool b2, .int .i64 b3]] (.bool true)) (h3 : Cal Try.prog 32 [.agg #[.int .u64 c0, .int .u64 c1, .bool c2, .int .i64 c3]] (.bool true))
    (g1 : Cal Try.prog 33 [.agg #[.int .u64 a0, .int .u64 a1, .bool a2, .int .i64 a3], .agg #[.int .u64 b0, .int .u64 b1, .bool b2, .int .i64 b3]] (.bool u1)) (g2 : Cal Try.prog 33 [.agg #[.int .u64 b0, .int .u64 b1, .bool b2, .int .i64 b3], .agg #[.int .u64 a0, .int .u64 a1, .bool a2, .int .i64 a3]] (.bool u2)) (g3 : Cal Try.prog 34 [.agg #[.int .u64 a0, .int .u64 a1, .bool a2, .int .i64 a3], .agg #[.int .u64 b0, .int .u64 b1, .bool b2, .int .i64 b3]] (.bool u3))
    (g4 : Cal Try.prog 33 [.agg #[.int .u64 b0, .int .u64 b1, .bool b2, .int .i64 b3], .agg #[.int .u64 c0, .int .u64 c1, .bool c2, .int .i64 c3]] (.bool u4)) (g5 : Cal Try.prog 33 [.agg #[.int .u64 a0, .int .u64 a1, .bool a2, .int .i64 a3], .agg #[.int .u64 c0, .int .u64 c1, .bool c2, .int .i64 c3]] (.bool u5)) (g6 : Cal Try.prog 33 [.agg #[.int .u64 a0, .int .u64 a1, .bool a2, .int .i64 a3], .agg #[.int .u64 a0, .int .u64 a1, .bool a2, .int .i64 a3]] (.bool u6))
    (g7 : Cal Try.prog 26 [.agg #[.int .u64 a0, .int .u64 a1, .bool a2, .int .i64 a3], .agg #[.int .u64 a0, .int .u64 a1, .bool a2, .int .i64 a3]] (.bool u7)) (g8 : Cal Try.prog 26 [.agg #[.int .u64 a0, .int .u64 a1, .bool a2, .int .i64 a3], .agg #[.int .u64 b0, .int .u64 b1, .bool b2, .int .i64 b3]] (.bool u8))
    (hE : (((((u3 != (!u1 && !u2) || u1 && u2 && !((a0 == b0 && (a1 == b1 && a2 == b2)) && a3 == b3)) || u1 && u4 && !u5) || !u6) || u7) || u8 != (u1 && !((a0 == b0 && (a1 == b1 && a2 == b2)) && a3 == b3))) = false)
    (g9 : Cal Try.prog 35 [.agg #[.int .u64 a0, .int .u64 a1, .bool a2, .int .i64 a3], .agg #[.int .u64 b0, .int .u64 b1, .bool b2, .int .i64 b3]] (.tuple #[.agg #[.int .u64 0, .int .u64 0, .bool false, .int .i64 0], .bool false])) (hF : (true && (a2 != b2)) = true) :
    Cal Try.prog 7 [.agg #[.int .u64 a0, .int .u64 a1, .bool a2, .int .i64 a3], .agg #[.int .u64 b0, .int .u64 b1, .bool b2, .int .i64 b3], .agg #[.int .u64 c0, .int .u64 c1, .bool c2, .int .i64 c3]] (.bool true) := by
  refine Cal.mk fun Wo => enter (F := fun _ => False) Try.func7 rfl Try.ntmps7 rfl ?_
  have k0 := awake02_s
  repeat (first
    | (apply s_box; rfl; constructor; rfl; intro _)
    | (apply s_alloc; rfl; intro _)
    | (apply s_bslice; rfl; assumption; rfl; intro _)
    | (apply s_store; rfl; rfl; (repeat (first | exact List.Mem.head _ | apply List.Mem.tail)); constructor; (focus ((simp only [setAt, List.set_cons_zero, List.set_cons_succ, Nat.zero_add, Nat.reduceAdd]); try rfl)); (repeat (first | exact MUpd.hit | apply MUpd.miss)); kernel_rfl; rfl)
    | (apply g_new; rfl; intro _)
    | apply s_st
    | apply q_st
    | apply st_go
    | (apply st_off; rfl)
    | (apply st_on; rfl)
    | (apply st_if4; rfl; intro h1 h2 h3 h4; (try simp only [h1, h2, h3, h4, gv_true, gv_tt]); (try simp only [h1, h2, h3, h4, gv_true, gv_tt, Bool.true_and]))
    | (apply st_if3; rfl; intro h1 h2 h3; (try simp only [h1, h2, h3, gv_true, gv_tt]); (try simp only [h1, h2, h3, gv_true, gv_tt, Bool.true_and]))
    | (apply st_if2; rfl; intro h1 h2; (try simp only [h1, h2, gv_true, gv_tt]))
    | (apply st_if; rfl; intro h1; (try simp only [h1, gv_true, gv_tt]))
    | (focus (first | (apply y_move; rfl; done) | (apply y_assign; rfl; done) | (apply y_not; rfl; done) | (apply y_load; rfl; (repeat (first | exact List.Mem.head _ | apply List.Mem.tail)); (repeat (first | exact Sub.nil | apply Sub.take | apply Sub.drop)); done) | (apply y_cell; rfl; (repeat (first | exact List.Mem.head _ | apply List.Mem.tail)); (repeat (first | exact At.hit | apply At.miss)); kernel_rfl; done) | (apply y_calls; rfl; rfl; rfl; assumption; done) | (apply y_scal; rfl; rfl; rfl; (repeat (first | exact List.Mem.head _ | apply List.Mem.tail)); assumption; done) | (apply y_and; rfl; rfl; done) | (apply y_or; rfl; rfl; done) | (apply y_extract; rfl; (repeat (first | exact At.hit | apply At.miss)); done) | (apply y_fagg; rfl; (repeat (first | exact Sub.nil | apply Sub.take | apply Sub.drop)); done) | (apply y_fcell; kernel_rfl; rfl; (repeat (first | exact At.hit | apply At.miss)); done) | (apply y_faddr; kernel_rfl; rfl; done) | (apply y_eq; rfl; rfl; done) | (apply y_ne; rfl; rfl; done) | (apply y_lt; rfl; rfl; done) | (apply y_le; rfl; rfl; done) | (apply y_gt; rfl; rfl; done) | (apply y_ge; rfl; rfl; done) | (apply y_add; rfl; rfl; done) | (apply y_sub; rfl; rfl; done) | (apply y_nes; rfl; rfl; kernel_rfl; exact inferInstance; done) | (apply y_eqs; rfl; rfl; kernel_rfl; exact inferInstance; done) | (apply y_beq; kernel_rfl; rfl; rfl; done) | (apply y_bne; kernel_rfl; rfl; rfl; done) | (apply y_min2; rfl; done) | (apply y_min3; rfl; done) | (apply y_max2; rfl; done) | (apply y_build; kernel_rfl; (repeat (first | exact Bld.nil | (apply Bld.cons; exact inferInstance; rfl; constructor; kernel_rfl; (focus ((simp only [setAt, List.set_cons_zero, List.set_cons_succ, Nat.zero_add, Nat.reduceAdd]); try rfl))))); done)))
    | refine q_nil ?_
    | refine s_nil ?_
    | refine w_seq ?_
    | refine f_then ?_
    | refine f_ret ?_
    | refine f_ret_block ?_
    | refine w_skip ?_
    | refine w_ret ?_
    | refine w_cond_f rfl ?_
    | refine w_cond_t rfl ?_
    | (apply w_cond_tt; rfl; assumption)
    | (apply w_cond_ff; rfl; assumption)
    | (apply f_end; rfl; rfl; intro w hw; first | exact ans hw | exact ans_b (by assumption) hw)
    | (apply f_ends; rfl; (repeat (first | exact Res.nil | (apply Res.tmp; rfl) | (apply Res.agg; exact inferInstance; rfl; (repeat (first | exact List.Mem.head _ | apply List.Mem.tail)); (repeat (first | exact Sub.nil | apply Sub.take | apply Sub.drop))) | (apply Res.cell; kernel_rfl; rfl; (repeat (first | exact List.Mem.head _ | apply List.Mem.tail)); (repeat (first | exact At.hit | apply At.miss))))); intro w hw; exact ans hw)
    | (apply f_ends1; rfl; (repeat (first | exact Res.nil | (apply Res.tmp; rfl) | (apply Res.agg; exact inferInstance; rfl; (repeat (first | exact List.Mem.head _ | apply List.Mem.tail)); (repeat (first | exact Sub.nil | apply Sub.take | apply Sub.drop))) | (apply Res.cell; kernel_rfl; rfl; (repeat (first | exact List.Mem.head _ | apply List.Mem.tail)); (repeat (first | exact At.hit | apply At.miss))))); intro w hw; exact ans hw)
    | (apply w_draw_l; kernel_rfl; rfl; kernel_rfl)
    | (apply w_mixed_l; kernel_rfl; kernel_rfl)
    | (apply g_st; intro W0)
    | refine g_done ?_
    | refine w_reg_l ?_
    | exact rfl)
theorem three_ok (a0 a1 : Int) (a2 : Bool) (a3 : Int) (b0 b1 : Int) (b2 : Bool) (b3 : Int) (c0 c1 : Int) (c2 : Bool) (c3 : Int) (u1 u2 u3 u4 u5 u6 u7 u8 : Bool)
    (h1 : Cal Try.prog 32 [.agg #[.int .u64 a0, .int .u64 a1, .bool a2, .int .i64 a3]] (.bool true)) (h2 : Cal Try.prog 32 [.agg #[.int .u64 b0, .int .u64 b1, .bool b2, .int .i64 b3]] (.bool true)) (h3 : Cal Try.prog 32 [.agg #[.int .u64 c0, .int .u64 c1, .bool c2, .int .i64 c3]] (.bool true))
    (g1 : Cal Try.prog 33 [.agg #[.int .u64 a0, .int .u64 a1, .bool a2, .int .i64 a3], .agg #[.int .u64 b0, .int .u64 b1, .bool b2, .int .i64 b3]] (.bool u1)) (g2 : Cal Try.prog 33 [.agg #[.int .u64 b0, .int .u64 b1, .bool b2, .int .i64 b3], .agg #[.int .u64 a0, .int .u64 a1, .bool a2, .int .i64 a3]] (.bool u2)) (g3 : Cal Try.prog 34 [.agg #[.int .u64 a0, .int .u64 a1, .bool a2, .int .i64 a3], .agg #[.int .u64 b0, .int .u64 b1, .bool b2, .int .i64 b3]] (.bool u3))
    (g4 : Cal Try.prog 33 [.agg #[.int .u64 b0, .int .u64 b1, .bool b2, .int .i64 b3], .agg #[.int .u64 c0, .int .u64 c1, .bool c2, .int .i64 c3]] (.bool u4)) (g5 : Cal Try.prog 33 [.agg #[.int .u64 a0, .int .u64 a1, .bool a2, .int .i64 a3], .agg #[.int .u64 c0, .int .u64 c1, .bool c2, .int .i64 c3]] (.bool u5)) (g6 : Cal Try.prog 33 [.agg #[.int .u64 a0, .int .u64 a1, .bool a2, .int .i64 a3], .agg #[.int .u64 a0, .int .u64 a1, .bool a2, .int .i64 a3]] (.bool u6))
    (g7 : Cal Try.prog 26 [.agg #[.int .u64 a0, .int .u64 a1, .bool a2, .int .i64 a3], .agg #[.int .u64 a0, .int .u64 a1, .bool a2, .int .i64 a3]] (.bool u7)) (g8 : Cal Try.prog 26 [.agg #[.int .u64 a0, .int .u64 a1, .bool a2, .int .i64 a3], .agg #[.int .u64 b0, .int .u64 b1, .bool b2, .int .i64 b3]] (.bool u8))
    (hE : (((((u3 != (!u1 && !u2) || u1 && u2 && !((a0 == b0 && (a1 == b1 && a2 == b2)) && a3 == b3)) || u1 && u4 && !u5) || !u6) || u7) || u8 != (u1 && !((a0 == b0 && (a1 == b1 && a2 == b2)) && a3 == b3))) = false)
    (j0 j1 : Int) (j2 : Bool) (j3 : Int) (g9 : Cal Try.prog 35 [.agg #[.int .u64 a0, .int .u64 a1, .bool a2, .int .i64 a3], .agg #[.int .u64 b0, .int .u64 b1, .bool b2, .int .i64 b3]] (.tuple #[.agg #[.int .u64 j0, .int .u64 j1, .bool j2, .int .i64 j3], .bool true]))
    (l0 l1 : Int) (l2 : Bool) (l3 : Int) (l4 : Bool) (r0 r1 : Int) (r2 : Bool) (r3 : Int) (r4 : Bool) (v1 v2 v3 v4 v5 v6 : Bool)
    (g10 : Cal Try.prog 36 [.agg #[.int .u64 j0, .int .u64 j1, .bool j2, .int .i64 j3], .int .i64 0] (.tuple #[.agg #[.int .u64 l0, .int .u64 l1, .bool l2, .int .i64 l3], .bool l4])) (g11 : Cal Try.prog 36 [.agg #[.int .u64 j0, .int .u64 j1, .bool j2, .int .i64 j3], .int .i64 1] (.tuple #[.agg #[.int .u64 r0, .int .u64 r1, .bool r2, .int .i64 r3], .bool r4]))
    (g12 : Cal Try.prog 33 [.agg #[.int .u64 j0, .int .u64 j1, .bool j2, .int .i64 j3], .agg #[.int .u64 a0, .int .u64 a1, .bool a2, .int .i64 a3]] (.bool v1)) (g13 : Cal Try.prog 33 [.agg #[.int .u64 j0, .int .u64 j1, .bool j2, .int .i64 j3], .agg #[.int .u64 b0, .int .u64 b1, .bool b2, .int .i64 b3]] (.bool v2))
    (g14 : Cal Try.prog 33 [.agg #[.int .u64 l0, .int .u64 l1, .bool l2, .int .i64 l3], .agg #[.int .u64 a0, .int .u64 a1, .bool a2, .int .i64 a3]] (.bool v3)) (g15 : Cal Try.prog 33 [.agg #[.int .u64 l0, .int .u64 l1, .bool l2, .int .i64 l3], .agg #[.int .u64 b0, .int .u64 b1, .bool b2, .int .i64 b3]] (.bool v4))
    (g16 : Cal Try.prog 33 [.agg #[.int .u64 r0, .int .u64 r1, .bool r2, .int .i64 r3], .agg #[.int .u64 a0, .int .u64 a1, .bool a2, .int .i64 a3]] (.bool v5)) (g17 : Cal Try.prog 33 [.agg #[.int .u64 r0, .int .u64 r1, .bool r2, .int .i64 r3], .agg #[.int .u64 b0, .int .u64 b1, .bool b2, .int .i64 b3]] (.bool v6))
    (hF : (true && v1 && v2 && !(l4 && v3 && v4) && !(r4 && v5 && v6)) = true) :
    Cal Try.prog 7 [.agg #[.int .u64 a0, .int .u64 a1, .bool a2, .int .i64 a3], .agg #[.int .u64 b0, .int .u64 b1, .bool b2, .int .i64 b3], .agg #[.int .u64 c0, .int .u64 c1, .bool c2, .int .i64 c3]] (.bool true) := by
  refine Cal.mk fun Wo => enter (F := fun _ => False) Try.func7 rfl Try.ntmps7 rfl ?_
  have k0 := awake02_s
  repeat (first
    | (apply s_box; rfl; constructor; rfl; intro _)
    | (apply s_alloc; rfl; intro _)
    | (apply s_bslice; rfl; assumption; rfl; intro _)
    | (apply s_store; rfl; rfl; (repeat (first | exact List.Mem.head _ | apply List.Mem.tail)); constructor; (focus ((simp only [setAt, List.set_cons_zero, List.set_cons_succ, Nat.zero_add, Nat.reduceAdd]); try rfl)); (repeat (first | exact MUpd.hit | apply MUpd.miss)); kernel_rfl; rfl)
    | (apply g_new; rfl; intro _)
    | apply s_st
    | apply q_st
    | apply st_go
    | (apply st_off; rfl)
    | (apply st_on; rfl)
    | (apply st_if4; rfl; intro h1 h2 h3 h4; (try simp only [h1, h2, h3, h4, gv_true, gv_tt]); (try simp only [h1, h2, h3, h4, gv_true, gv_tt, Bool.true_and]))
    | (apply st_if3; rfl; intro h1 h2 h3; (try simp only [h1, h2, h3, gv_true, gv_tt]); (try simp only [h1, h2, h3, gv_true, gv_tt, Bool.true_and]))
    | (apply st_if2; rfl; intro h1 h2; (try simp only [h1, h2, gv_true, gv_tt]))
    | (apply st_if; rfl; intro h1; (try simp only [h1, gv_true, gv_tt]))
    | (focus (first | (apply y_move; rfl; done) | (apply y_assign; rfl; done) | (apply y_not; rfl; done) | (apply y_load; rfl; (repeat (first | exact List.Mem.head _ | apply List.Mem.tail)); (repeat (first | exact Sub.nil | apply Sub.take | apply Sub.drop)); done) | (apply y_cell; rfl; (repeat (first | exact List.Mem.head _ | apply List.Mem.tail)); (repeat (first | exact At.hit | apply At.miss)); kernel_rfl; done) | (apply y_calls; rfl; rfl; rfl; assumption; done) | (apply y_scal; rfl; rfl; rfl; (repeat (first | exact List.Mem.head _ | apply List.Mem.tail)); assumption; done) | (apply y_and; rfl; rfl; done) | (apply y_or; rfl; rfl; done) | (apply y_extract; rfl; (repeat (first | exact At.hit | apply At.miss)); done) | (apply y_fagg; rfl; (repeat (first | exact Sub.nil | apply Sub.take | apply Sub.drop)); done) | (apply y_fcell; kernel_rfl; rfl; (repeat (first | exact At.hit | apply At.miss)); done) | (apply y_faddr; kernel_rfl; rfl; done) | (apply y_eq; rfl; rfl; done) | (apply y_ne; rfl; rfl; done) | (apply y_lt; rfl; rfl; done) | (apply y_le; rfl; rfl; done) | (apply y_gt; rfl; rfl; done) | (apply y_ge; rfl; rfl; done) | (apply y_add; rfl; rfl; done) | (apply y_sub; rfl; rfl; done) | (apply y_nes; rfl; rfl; kernel_rfl; exact inferInstance; done) | (apply y_eqs; rfl; rfl; kernel_rfl; exact inferInstance; done) | (apply y_beq; kernel_rfl; rfl; rfl; done) | (apply y_bne; kernel_rfl; rfl; rfl; done) | (apply y_min2; rfl; done) | (apply y_min3; rfl; done) | (apply y_max2; rfl; done) | (apply y_build; kernel_rfl; (repeat (first | exact Bld.nil | (apply Bld.cons; exact inferInstance; rfl; constructor; kernel_rfl; (focus ((simp only [setAt, List.set_cons_zero, List.set_cons_succ, Nat.zero_add, Nat.reduceAdd]); try rfl))))); done)))
    | refine q_nil ?_
    | refine s_nil ?_
    | refine w_seq ?_
    | refine f_then ?_
    | refine f_ret ?_
    | refine f_ret_block ?_
    | refine w_skip ?_
    | refine w_ret ?_
    | refine w_cond_f rfl ?_
    | refine w_cond_t rfl ?_
    | (apply w_cond_tt; rfl; assumption)
    | (apply w_cond_ff; rfl; assumption)
    | (apply f_end; rfl; rfl; intro w hw; first | exact ans hw | exact ans_b (by assumption) hw)
    | (apply f_ends; rfl; (repeat (first | exact Res.nil | (apply Res.tmp; rfl) | (apply Res.agg; exact inferInstance; rfl; (repeat (first | exact List.Mem.head _ | apply List.Mem.tail)); (repeat (first | exact Sub.nil | apply Sub.take | apply Sub.drop))) | (apply Res.cell; kernel_rfl; rfl; (repeat (first | exact List.Mem.head _ | apply List.Mem.tail)); (repeat (first | exact At.hit | apply At.miss))))); intro w hw; exact ans hw)
    | (apply f_ends1; rfl; (repeat (first | exact Res.nil | (apply Res.tmp; rfl) | (apply Res.agg; exact inferInstance; rfl; (repeat (first | exact List.Mem.head _ | apply List.Mem.tail)); (repeat (first | exact Sub.nil | apply Sub.take | apply Sub.drop))) | (apply Res.cell; kernel_rfl; rfl; (repeat (first | exact List.Mem.head _ | apply List.Mem.tail)); (repeat (first | exact At.hit | apply At.miss))))); intro w hw; exact ans hw)
    | (apply w_draw_l; kernel_rfl; rfl; kernel_rfl)
    | (apply w_mixed_l; kernel_rfl; kernel_rfl)
    | (apply g_st; intro W0)
    | refine g_done ?_
    | refine w_reg_l ?_
    | exact rfl)

/-! ### The plain law -/
theorem apaB_pk (v : Bool) (d : Nat → Bool) (c : Nat) (hc : c ≤ W v) (u : Bool) (e : Nat → Bool) (m : Nat) (hm : m ≤ W u) : apaB (hiA v (cutd d c)) (loA v (cutd d c)) v c (hiA u (cutd e m)) (loA u (cutd e m)) u m = (!(decide (c ≤ m) && conD v d c u e) && !(decide (m ≤ c) && conD u e m v d)) := by
  unfold apaB
  rw [saneB_pk v d c hc, saneB_pk u e m hm, Bool.true_and, Bool.true_and]
  by_cases h : v = u
  · subst h
    have hcm : cmn (D (hiA v (cutd d c)) (loA v (cutd d c))) (D (hiA v (cutd e m)) (loA v (cutd e m))) (W v) = cmn (cutd d c) (cutd e m) (W v) := cmn_congr fun i hi => by rw [D_cut v d c i hi, D_cut v e m i hi]
    unfold commonA
    rw [if_pos rfl, hcm, mn2_nat, bne_self_eq_false, Bool.false_or]
    have hl := cmn_le (cutd d c) (cutd e m) (W v)
    have ha := cmn_alike (cutd d c) (cutd e m) (W v)
    have he := cmn_end (cutd d c) (cutd e m) (W v)
    generalize cmn (cutd d c) (cutd e m) (W v) = K at hl ha he
    by_cases hK : K < min c m
    · have hne := he (by omega)
      rw [cutd_lt (by omega), cutd_lt (by omega)] at hne
      rw [decide_eq_true (by omega : (K : Int) < ((min c m : Nat) : Int))]
      have n1 : conD v d c v e = false := Bool.eq_false_iff.mpr fun h => hne ((conD_true.mp h).2 K (by omega))
      have n2 : conD v e m v d = false := Bool.eq_false_iff.mpr fun h => hne ((conD_true.mp h).2 K (by omega)).symm
      rw [n1, n2, Bool.and_false, Bool.and_false]; rfl
    · rw [decide_eq_false (by omega : ¬ (K : Int) < ((min c m : Nat) : Int))]
      by_cases hm' : c ≤ m
      · have n1 : conD v d c v e = true := conD_true.mpr ⟨rfl, fun i hi => by
          have := ha i (by omega)
          rwa [cutd_lt hi, cutd_lt (by omega)] at this⟩
        rw [n1, decide_eq_true hm']; simp
      · have n1 : conD v e m v d = true := conD_true.mpr ⟨rfl, fun i hi => by
          have := ha i (by omega)
          rw [cutd_lt (by omega), cutd_lt (by omega)] at this
          exact this.symm⟩
        rw [n1, decide_eq_true (show m ≤ c by omega)]; simp
  · have n1 : conD v d c u e = false := Bool.eq_false_iff.mpr fun k => h (conD_true.mp k).1
    have n2 : conD u e m v d = false := Bool.eq_false_iff.mpr fun k => h (conD_true.mp k).1.symm
    rw [n1, n2, Bool.and_false, Bool.and_false, show (v != u) = true from bne_iff_ne.mpr h, Bool.true_or]; rfl
/-- One covers, or they are apart. -/
theorem three_first (v : Bool) (d : Nat → Bool) (c : Nat) (hc : c ≤ W v) (u : Bool) (e : Nat → Bool) (m : Nat) (hm : m ≤ W u) (t : Bool) (g : Nat → Bool) (n : Nat) (hn : n ≤ W t) :
    (((((apaB (hiA v (cutd d c)) (loA v (cutd d c)) v c (hiA u (cutd e m)) (loA u (cutd e m)) u m != (!covB (hiA v (cutd d c)) (loA v (cutd d c)) v c (hiA u (cutd e m)) (loA u (cutd e m)) u m && !covB (hiA u (cutd e m)) (loA u (cutd e m)) u m (hiA v (cutd d c)) (loA v (cutd d c)) v c)
      || covB (hiA v (cutd d c)) (loA v (cutd d c)) v c (hiA u (cutd e m)) (loA u (cutd e m)) u m && covB (hiA u (cutd e m)) (loA u (cutd e m)) u m (hiA v (cutd d c)) (loA v (cutd d c)) v c && !((hiA v (cutd d c) == hiA u (cutd e m) && (loA v (cutd d c) == loA u (cutd e m) && v == u)) && (c : Int) == (m : Int)))
      || covB (hiA v (cutd d c)) (loA v (cutd d c)) v c (hiA u (cutd e m)) (loA u (cutd e m)) u m && covB (hiA u (cutd e m)) (loA u (cutd e m)) u m (hiA t (cutd g n)) (loA t (cutd g n)) t n && !covB (hiA v (cutd d c)) (loA v (cutd d c)) v c (hiA t (cutd g n)) (loA t (cutd g n)) t n)
      || !covB (hiA v (cutd d c)) (loA v (cutd d c)) v c (hiA v (cutd d c)) (loA v (cutd d c)) v c)
      || insB (hiA v (cutd d c)) (loA v (cutd d c)) v c (hiA v (cutd d c)) (loA v (cutd d c)) v c)
      || insB (hiA v (cutd d c)) (loA v (cutd d c)) v c (hiA u (cutd e m)) (loA u (cutd e m)) u m != (covB (hiA v (cutd d c)) (loA v (cutd d c)) v c (hiA u (cutd e m)) (loA u (cutd e m)) u m && !((hiA v (cutd d c) == hiA u (cutd e m) && (loA v (cutd d c) == loA u (cutd e m) && v == u)) && (c : Int) == (m : Int)))) = false := by
  have q := eqP_pk v d c hc u e m hm
  have q' := eqP_pk v d c hc v d c hc
  unfold insB
  rw [q, q', apaB_pk v d c hc u e m hm, covB_pk v d c hc u e m hm, covB_pk u e m hm v d c hc, covB_pk u e m hm t g n hn, covB_pk v d c hc t g n hn, covB_pk v d c hc v d c hc, conD_self]
  unfold eqP at q
  rw [q]
  have e1 : decide (c = m) = (decide (c ≤ m) && decide (m ≤ c)) := by rw [Bool.eq_iff_iff]; simp only [Bool.and_eq_true, decide_eq_true_iff]; omega
  have e2 : (decide (c ≤ m) && conD v d c u e && (decide (m ≤ n) && conD u e m t g) && !(decide (c ≤ n) && conD v d c t g)) = false := by
    rw [Bool.eq_false_iff]
    intro h
    simp only [Bool.and_eq_true, decide_eq_true_iff, Bool.not_eq_true', conD_true] at h
    obtain ⟨⟨⟨h1, h2, h3⟩, h4, h5, h6⟩, h7⟩ := h
    rw [decide_eq_true (by omega : c ≤ n), conD_true.mpr ⟨h2.trans h5, fun i hi => (h3 i hi).trans (h6 i (by omega))⟩] at h7
    exact absurd h7 (by decide)
  rw [e1, decide_eq_true (rfl : c = c), decide_eq_true (Nat.le_refl c)]
  revert e2
  generalize decide (c ≤ m) = p1
  generalize decide (m ≤ c) = p2
  generalize decide (m ≤ n) = p3
  generalize decide (c ≤ n) = p4
  generalize conD v d c u e = x
  generalize conD u e m v d = y
  generalize conD u e m t g = z
  generalize conD v d c t g = w
  clear q q'
  revert p1 p2 p3 p4 x y z w
  decide
theorem three_main (v : Bool) (d : Nat → Bool) (c : Nat) (hc : c ≤ W v) (u : Bool) (e : Nat → Bool) (m : Nat) (hm : m ≤ W u) (t : Bool) (g : Nat → Bool) (n : Nat) (hn : n ≤ W t) :
    Cal Try.prog 7 [.agg #[.int .u64 (hiA v (cutd d c)), .int .u64 (loA v (cutd d c)), .bool v, .int .i64 ((c : Nat) : Int)], .agg #[.int .u64 (hiA u (cutd e m)), .int .u64 (loA u (cutd e m)), .bool u, .int .i64 ((m : Nat) : Int)], .agg #[.int .u64 (hiA t (cutd g n)), .int .u64 (loA t (cutd g n)), .bool t, .int .i64 ((n : Nat) : Int)]] (.bool true) := by
  have up := u_mk v (cutd d c)
  have uq := u_mk u (cutd e m)
  have ur := u_mk t (cutd g n)
  have hF := three_first v d c hc u e m hm t g n hn
  by_cases h : v = u
  · subst h
    have hj := join_pk v d c hc e m hm _ rfl
    have hl := cmn_le (cutd d c) (cutd e m) (W v)
    have ha := cmn_alike (cutd d c) (cutd e m) (W v)
    have he := cmn_end (cutd d c) (cutd e m) (W v)
    generalize cmn (cutd d c) (cutd e m) (W v) = K at hl ha he hj
    generalize hk : min (min c m) K = k at hj
    have hkW : k ≤ W v := by omega
    have uj := u_mk v (cutd d k)
    have same : ∀ i, i < k → d i = e i := fun i hi => by
      have := ha i (by omega)
      rwa [cutd_lt (by omega), cutd_lt (by omega)] at this
    have f1 : covB (hiA v (cutd d k)) (loA v (cutd d k)) v k (hiA v (cutd d c)) (loA v (cutd d c)) v c = true := by
      rw [covB_pk v d k hkW v d c hc, conD_self, decide_eq_true (by omega)]; rfl
    have f2 : covB (hiA v (cutd d k)) (loA v (cutd d k)) v k (hiA v (cutd e m)) (loA v (cutd e m)) v m = true := by
      rw [covB_pk v d k hkW v e m hm, conD_true.mpr ⟨rfl, same⟩, decide_eq_true (by omega)]; rfl
    by_cases hw : k < W v
    · have f3 : ∀ b : Bool, (covB (hiA v (cutd (putd d k b) (k + 1))) (loA v (cutd (putd d k b) (k + 1))) v ((k + 1 : Nat) : Int) (hiA v (cutd d c)) (loA v (cutd d c)) v c && covB (hiA v (cutd (putd d k b) (k + 1))) (loA v (cutd (putd d k b) (k + 1))) v ((k + 1 : Nat) : Int) (hiA v (cutd e m)) (loA v (cutd e m)) v m) = false := fun b => by
        rw [covB_pk v _ (k + 1) hw v d c hc, covB_pk v _ (k + 1) hw v e m hm, Bool.eq_false_iff]
        intro hh
        simp only [Bool.and_eq_true, decide_eq_true_iff, conD_true] at hh
        obtain ⟨⟨c1, -, c2⟩, c3, -, c4⟩ := hh
        have c2 := c2 k (by omega)
        have c4 := c4 k (by omega)
        have hne := he (by omega)
        rw [show K = k by omega, cutd_lt (by omega), cutd_lt (by omega)] at hne
        exact hne (c2.symm.trans c4)
      have g10 := child_pk v d k hw 0
      have g11 := child_pk v d k hw 1
      have ul := u_mk v (cutd (putd d k (setv 0)) (k + 1))
      have ur' := u_mk v (cutd (putd d k (setv 1)) (k + 1))
      exact three_ok _ _ _ _ _ _ _ _ _ _ _ _ _ _ _ _ _ _ _ _ (sane_pk v d c hc) (sane_pk v e m hm) (sane_pk t g n hn) (covers_s up uq _ _ _ _) (covers_s uq up _ _ _ _) (apart_s up uq _ _ _ _) (covers_s uq ur _ _ _ _) (covers_s up ur _ _ _ _) (covers_s up up _ _ _ _) (inside_s up up _ _ _ _) (inside_s up uq _ _ _ _) hF
        _ _ _ _ hj _ _ _ _ _ _ _ _ _ _ _ _ _ _ _ _ g10 g11 (covers_s uj up _ _ _ _) (covers_s uj uq _ _ _ _) (covers_s ul up _ _ _ _) (covers_s ul uq _ _ _ _) (covers_s ur' up _ _ _ _) (covers_s ur' uq _ _ _ _)
        (by rw [f1, f2]; simp only [Bool.true_and]; rw [f3, f3]; rfl)
    · obtain rfl : k = W v := by omega
      have u0 : u64 0 ∧ u64 0 := by unfold u64; decide
      exact three_ok _ _ _ _ _ _ _ _ _ _ _ _ _ _ _ _ _ _ _ _ (sane_pk v d c hc) (sane_pk v e m hm) (sane_pk t g n hn) (covers_s up uq _ _ _ _) (covers_s uq up _ _ _ _) (apart_s up uq _ _ _ _) (covers_s uq ur _ _ _ _) (covers_s up ur _ _ _ _) (covers_s up up _ _ _ _) (inside_s up up _ _ _ _) (inside_s up uq _ _ _ _) hF
        _ _ _ _ hj _ _ _ _ _ _ _ _ _ _ _ _ _ _ _ _ (child_full v d 0) (child_full v d 1) (covers_s uj up _ _ _ _) (covers_s uj uq _ _ _ _) (covers_s u0 up _ _ _ _) (covers_s u0 uq _ _ _ _) (covers_s u0 up _ _ _ _) (covers_s u0 uq _ _ _ _)
        (by rw [f1, f2]; rfl)
  · exact three_no _ _ _ _ _ _ _ _ _ _ _ _ _ _ _ _ _ _ _ _ (sane_pk v d c hc) (sane_pk u e m hm) (sane_pk t g n hn) (covers_s up uq _ _ _ _) (covers_s uq up _ _ _ _) (apart_s up uq _ _ _ _) (covers_s uq ur _ _ _ _) (covers_s up ur _ _ _ _) (covers_s up up _ _ _ _) (inside_s up up _ _ _ _) (inside_s up uq _ _ _ _) hF
      (join_no up uq v c u m (by rw [show (v != u) = true from bne_iff_ne.mpr h]; rfl)) (by rw [show (v != u) = true from bne_iff_ne.mpr h]; rfl)
theorem three_s {a0 a1 b0 b1 c0 c1 : Int} (ha : u64 a0 ∧ u64 a1) (hb : u64 b0 ∧ u64 b1) (hc : u64 c0 ∧ u64 c1) (a2 : Bool) (a3 : Int) (b2 : Bool) (b3 : Int) (c2 : Bool) (c3 : Int) :
    Cal Try.prog 7 [.agg #[.int .u64 a0, .int .u64 a1, .bool a2, .int .i64 a3], .agg #[.int .u64 b0, .int .u64 b1, .bool b2, .int .i64 b3], .agg #[.int .u64 c0, .int .u64 c1, .bool c2, .int .i64 c3]] (.bool true) := by
  by_cases hE : ((!saneB a0 a1 a2 a3 || !saneB b0 b1 b2 b3) || !saneB c0 c1 c2 c3) = true
  · exact three_up _ _ _ _ _ _ _ _ _ _ _ _ _ _ _ (sane_s ha a2 a3) (sane_s hb b2 b3) (sane_s hc c2 c3) hE
  · rw [Bool.not_eq_true] at hE
    simp only [Bool.or_eq_false_iff, Bool.not_eq_false'] at hE
    obtain ⟨n1, l1, e1, p1, q1⟩ := saneB_ex hE.1.1
    obtain ⟨n2, l2, e2, p2, q2⟩ := saneB_ex hE.1.2
    obtain ⟨n3, l3, e3, p3, q3⟩ := saneB_ex hE.2
    have := three_main a2 (D a0 a1) n1 l1 b2 (D b0 b1) n2 l2 c2 (D c0 c1) n3 l3
    rwa [← p1, ← q1, ← p2, ← q2, ← p3, ← q3, ← e1, ← e2, ← e3] at this
theorem wf_u64 {n : Int} (h : (Lit.int .u64 n).wf = true) : u64 n := by
  simp [Lit.wf, IntKind.min, IntKind.max, IntKind.bits, IntKind.signed] at h
  constructor <;> omega
theorem prefixThree_walk (a0 a1 : Int) (a2 : Bool) (a3 : Int) (b0 b1 : Int) (b2 : Bool) (b3 : Int) (c0 c1 : Int) (c2 : Bool) (c3 : Int)
    (h1 : (Lit.int .u64 a0).wf = true) (h2 : (Lit.int .u64 a1).wf = true) (h3 : (Lit.int .i64 a3).wf = true)
    (h4 : (Lit.int .u64 b0).wf = true) (h5 : (Lit.int .u64 b1).wf = true) (h6 : (Lit.int .i64 b3).wf = true)
    (h7 : (Lit.int .u64 c0).wf = true) (h8 : (Lit.int .u64 c1).wf = true) (h9 : (Lit.int .i64 c3).wf = true) (W : World) :
    Calls Try.prog 7 #[.agg #[.int .u64 a0, .int .u64 a1, .bool a2, .int .i64 a3], .agg #[.int .u64 b0, .int .u64 b1, .bool b2, .int .i64 b3], .agg #[.int .u64 c0, .int .u64 c1, .bool c2, .int .i64 c3]] W fun e w' => e = .returned (.bool true) ∧ Below W.heap.size W w' :=
  (three_s ⟨wf_u64 h1, wf_u64 h2⟩ ⟨wf_u64 h4, wf_u64 h5⟩ ⟨wf_u64 h7, wf_u64 h8⟩ a2 a3 b2 b3 c2 c3).out W
end Go.Proofs.Ytbaeaiiohkfieaa.Hand
