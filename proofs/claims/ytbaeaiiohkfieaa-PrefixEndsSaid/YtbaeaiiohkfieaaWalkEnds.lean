/-
  PrefixEnds: what lies between the ends is contained, and nothing else.
-/
import Derived.Test.YtbaeaiiohkfieaaPreU
namespace Go.Proofs.Ytbaeaiiohkfieaa.Hand
open Go.RowKit Go.Proofs.YtbaeaiiohkfieaaW.PrintWords Go.Proofs.YtbaeaiiohkfieaaW.PrintLast Go.Proofs.Ytbaeaiiohkfieaa.Bits Go.Proofs.Ytbaeaiiohkfieaa.Dig Go.Proofs.Ytbaeaiiohkfieaa.Sq
set_option linter.unusedVariables false
set_option linter.unusedSimpArgs false
set_option maxRecDepth 100000
set_option maxHeartbeats 4000000

/-! ### The walks -/
theorem ends_up (a0 a1 : Int) (a2 : Bool) (a3 : Int) (b0 b1 : Int) (b2 : Bool) (n : Int) (s1 s2 : Bool)
    (h1 : Cal Try.prog 32 [.agg #[.int .u64 a0, .int .u64 a1, .bool a2, .int .i64 a3]] (.bool s1)) (h2 : Cal Try.prog 19 [.agg #[.int .u64 b0, .int .u64 b1, .bool b2]] (.bool s2)) (hE : (!s1 || !s2) = true) :
    Cal Try.prog 8 [.agg #[.int .u64 a0, .int .u64 a1, .bool a2, .int .i64 a3], .agg #[.int .u64 b0, .int .u64 b1, .bool b2], .int .i64 n] (.bool true) := by
  refine Cal.mk fun Wo => enter (F := fun _ => False) Try.func8 rfl Try.ntmps8 rfl ?_
  have k0 := awake02_s
  repeat (first
    | (apply s_box; rfl; constructor; rfl; intro _)
    | (apply s_alloc; rfl; intro _)
    | (apply s_bslice; rfl; assumption; rfl; intro _)
    | (apply s_store; rfl; rfl; (repeat (first | exact List.Mem.head _ | apply List.Mem.tail)); constructor; (focus ((simp only [setAt, List.set_cons_zero, List.set_cons_succ, Nat.zero_add, Nat.reduceAdd]); try rfl)); (repeat (first | exact MUpd.hit | apply MUpd.miss)); kernel_rfl; rfl)
    | (apply g_new; rfl; intro _)
    | apply s_st
    | apply q_st
    | apply st_go
    | (apply st_off; rfl)
    | (apply st_on; rfl)
    | (apply st_if4; rfl; intro h1 h2 h3 h4; (try simp only [h1, h2, h3, h4, gv_true, gv_tt]); (try simp only [h1, h2, h3, h4, gv_true, gv_tt, Bool.true_and]))
    | (apply st_if3; rfl; intro h1 h2 h3; (try simp only [h1, h2, h3, gv_true, gv_tt]); (try simp only [h1, h2, h3, gv_true, gv_tt, Bool.true_and]))
    | (apply st_if2; rfl; intro h1 h2; (try simp only [h1, h2, gv_true, gv_tt]))
    | (apply st_if; rfl; intro h1; (try simp only [h1, gv_true, gv_tt]))
    | (focus (first | (apply y_move; rfl; done) | (apply y_assign; rfl; done) | (apply y_not; rfl; done) | (apply y_load; rfl; (repeat (first | exact List.Mem.head _ | apply List.Mem.tail)); (repeat (first | exact Sub.nil | apply Sub.take | apply Sub.drop)); done) | (apply y_cell; rfl; (repeat (first | exact List.Mem.head _ | apply List.Mem.tail)); (repeat (first | exact At.hit | apply At.miss)); kernel_rfl; done) | (apply y_calls; rfl; rfl; rfl; assumption; done) | (apply y_scal; rfl; rfl; rfl; (repeat (first | exact List.Mem.head _ | apply List.Mem.tail)); assumption; done) | (apply y_and; rfl; rfl; done) | (apply y_or; rfl; rfl; done) | (apply y_extract; rfl; (repeat (first | exact At.hit | apply At.miss)); done) | (apply y_fagg; rfl; (repeat (first | exact Sub.nil | apply Sub.take | apply Sub.drop)); done) | (apply y_fcell; kernel_rfl; rfl; (repeat (first | exact At.hit | apply At.miss)); done) | (apply y_faddr; kernel_rfl; rfl; done) | (apply y_eq; rfl; rfl; done) | (apply y_ne; rfl; rfl; done) | (apply y_lt; rfl; rfl; done) | (apply y_le; rfl; rfl; done) | (apply y_gt; rfl; rfl; done) | (apply y_ge; rfl; rfl; done) | (apply y_add; rfl; rfl; done) | (apply y_sub; rfl; rfl; done) | (apply y_nes; rfl; rfl; kernel_rfl; exact inferInstance; done) | (apply y_eqs; rfl; rfl; kernel_rfl; exact inferInstance; done) | (apply y_beq; kernel_rfl; rfl; rfl; done) | (apply y_bne; kernel_rfl; rfl; rfl; done) | (apply y_min2; rfl; done) | (apply y_min3; rfl; done) | (apply y_max2; rfl; done) | (apply y_build; kernel_rfl; (repeat (first | exact Bld.nil | (apply Bld.cons; exact inferInstance; rfl; constructor; kernel_rfl; (focus ((simp only [setAt, List.set_cons_zero, List.set_cons_succ, Nat.zero_add, Nat.reduceAdd]); try rfl))))); done)))
    | refine q_nil ?_
    | refine s_nil ?_
    | refine w_seq ?_
    | refine f_then ?_
    | refine f_ret ?_
    | refine f_ret_block ?_
    | refine w_skip ?_
    | refine w_ret ?_
    | refine w_cond_f rfl ?_
    | refine w_cond_t rfl ?_
    | (apply w_cond_tt; rfl; assumption)
    | (apply w_cond_ff; rfl; assumption)
    | (apply f_end; rfl; rfl; intro w hw; first | exact ans hw | exact ans_b (by assumption) hw)
    | (apply f_ends; rfl; (repeat (first | exact Res.nil | (apply Res.tmp; rfl) | (apply Res.agg; exact inferInstance; rfl; (repeat (first | exact List.Mem.head _ | apply List.Mem.tail)); (repeat (first | exact Sub.nil | apply Sub.take | apply Sub.drop))) | (apply Res.cell; kernel_rfl; rfl; (repeat (first | exact List.Mem.head _ | apply List.Mem.tail)); (repeat (first | exact At.hit | apply At.miss))))); intro w hw; exact ans hw)
    | (apply f_ends1; rfl; (repeat (first | exact Res.nil | (apply Res.tmp; rfl) | (apply Res.agg; exact inferInstance; rfl; (repeat (first | exact List.Mem.head _ | apply List.Mem.tail)); (repeat (first | exact Sub.nil | apply Sub.take | apply Sub.drop))) | (apply Res.cell; kernel_rfl; rfl; (repeat (first | exact List.Mem.head _ | apply List.Mem.tail)); (repeat (first | exact At.hit | apply At.miss))))); intro w hw; exact ans hw)
    | (apply w_draw_l; kernel_rfl; rfl; kernel_rfl)
    | (apply w_mixed_l; kernel_rfl; kernel_rfl)
    | (apply g_st; intro W0)
    | refine g_done ?_
    | refine w_reg_l ?_
    | exact rfl)
theorem ends_ok (a0 a1 : Int) (a2 : Bool) (a3 : Int) (b0 b1 : Int) (b2 : Bool) (n : Int) (f0 f1 : Int) (f2 : Bool) (l0 l1 : Int) (l2 : Bool) (q0 q1 : Int) (q2 : Bool) (q3 : Int) (z0 z1 : Int) (z2 : Bool) (z3 : Int) (x y : Int) (u1 u2 u3 u4 u5 : Bool)
    (h1 : Cal Try.prog 32 [.agg #[.int .u64 a0, .int .u64 a1, .bool a2, .int .i64 a3]] (.bool true)) (h2 : Cal Try.prog 19 [.agg #[.int .u64 b0, .int .u64 b1, .bool b2]] (.bool true)) (g1 : Cal Try.prog 37 [.agg #[.int .u64 a0, .int .u64 a1, .bool a2, .int .i64 a3]] (.tuple #[.agg #[.int .u64 f0, .int .u64 f1, .bool f2], .agg #[.int .u64 l0, .int .u64 l1, .bool l2]]))
    (g2 : Cal Try.prog 29 [.agg #[.int .u64 f0, .int .u64 f1, .bool f2], .agg #[.int .u64 b0, .int .u64 b1, .bool b2]] (.int .i64 x)) (g3 : Cal Try.prog 29 [.agg #[.int .u64 b0, .int .u64 b1, .bool b2], .agg #[.int .u64 l0, .int .u64 l1, .bool l2]] (.int .i64 y)) (g4 : Cal Try.prog 23 [.agg #[.int .u64 b0, .int .u64 b1, .bool b2], .int .i64 n] (.agg #[.int .u64 q0, .int .u64 q1, .bool q2, .int .i64 q3]))
    (g5 : Cal Try.prog 25 [.agg #[.int .u64 a0, .int .u64 a1, .bool a2, .int .i64 a3], .agg #[.int .u64 b0, .int .u64 b1, .bool b2]] (.bool u1)) (g6 : Cal Try.prog 32 [.agg #[.int .u64 q0, .int .u64 q1, .bool q2, .int .i64 q3]] (.bool u2)) (g7 : Cal Try.prog 25 [.agg #[.int .u64 q0, .int .u64 q1, .bool q2, .int .i64 q3], .agg #[.int .u64 b0, .int .u64 b1, .bool b2]] (.bool u3))
    (g8 : Cal Try.prog 25 [.agg #[.int .u64 a0, .int .u64 a1, .bool a2, .int .i64 a3], .agg #[.int .u64 f0, .int .u64 f1, .bool f2]] (.bool u4)) (g9 : Cal Try.prog 25 [.agg #[.int .u64 a0, .int .u64 a1, .bool a2, .int .i64 a3], .agg #[.int .u64 l0, .int .u64 l1, .bool l2]] (.bool u5)) (g10 : Cal Try.prog 23 [.agg #[.int .u64 l0, .int .u64 l1, .bool l2], .int .i64 a3] (.agg #[.int .u64 z0, .int .u64 z1, .bool z2, .int .i64 z3]))
    (hF : (true && (u1 == (b2 == a2 && decide (x ≤ 0) && decide (y ≤ 0))) && u2 && u3 && u4 && u5 && (f0 == a0 && (f1 == a1 && f2 == a2)) && ((z0 == a0 && (z1 == a1 && z2 == a2)) && z3 == a3)) = true) :
    Cal Try.prog 8 [.agg #[.int .u64 a0, .int .u64 a1, .bool a2, .int .i64 a3], .agg #[.int .u64 b0, .int .u64 b1, .bool b2], .int .i64 n] (.bool true) := by
  refine Cal.mk fun Wo => enter (F := fun _ => False) Try.func8 rfl Try.ntmps8 rfl ?_
  have k0 := awake02_s
  repeat (first
    | (apply s_box; rfl; constructor; rfl; intro _)
    | (apply s_alloc; rfl; intro _)
    | (apply s_bslice; rfl; assumption; rfl; intro _)
    | (apply s_store; rfl; rfl; (repeat (first | exact List.Mem.head _ | apply List.Mem.tail)); constructor; (focus ((simp only [setAt, List.set_cons_zero, List.set_cons_succ, Nat.zero_add, Nat.reduceAdd]); try rfl)); (repeat (first | exact MUpd.hit | apply MUpd.miss)); kernel_rfl; rfl)
    | (apply g_new; rfl; intro _)
    | apply s_st
    | apply q_st
    | apply st_go
    | (apply st_off; rfl)
    | (apply st_on; rfl)
    | (apply st_if4; rfl; intro h1 h2 h3 h4; (try simp only [h1, h2, h3, h4, gv_true, gv_tt]); (try simp only [h1, h2, h3, h4, gv_true, gv_tt, Bool.true_and]))
    | (apply st_if3; rfl; intro h1 h2 h3; (try simp only [h1, h2, h3, gv_true, gv_tt]); (try simp only [h1, h2, h3, gv_true, gv_tt, Bool.true_and]))
    | (apply st_if2; rfl; intro h1 h2; (try simp only [h1, h2, gv_true, gv_tt]))
    | (apply st_if; rfl; intro h1; (try simp only [h1, gv_true, gv_tt]))
    | (focus (first | (apply y_move; rfl; done) | (apply y_assign; rfl; done) | (apply y_not; rfl; done) | (apply y_load; rfl; (repeat (first | exact List.Mem.head _ | apply List.Mem.tail)); (repeat (first | exact Sub.nil | apply Sub.take | apply Sub.drop)); done) | (apply y_cell; rfl; (repeat (first | exact List.Mem.head _ | apply List.Mem.tail)); (repeat (first | exact At.hit | apply At.miss)); kernel_rfl; done) | (apply y_calls; rfl; rfl; rfl; assumption; done) | (apply y_scal; rfl; rfl; rfl; (repeat (first | exact List.Mem.head _ | apply List.Mem.tail)); assumption; done) | (apply y_and; rfl; rfl; done) | (apply y_or; rfl; rfl; done) | (apply y_extract; rfl; (repeat (first | exact At.hit | apply At.miss)); done) | (apply y_fagg; rfl; (repeat (first | exact Sub.nil | apply Sub.take | apply Sub.drop)); done) | (apply y_fcell; kernel_rfl; rfl; (repeat (first | exact At.hit | apply At.miss)); done) | (apply y_faddr; kernel_rfl; rfl; done) | (apply y_eq; rfl; rfl; done) | (apply y_ne; rfl; rfl; done) | (apply y_lt; rfl; rfl; done) | (apply y_le; rfl; rfl; done) | (apply y_gt; rfl; rfl; done) | (apply y_ge; rfl; rfl; done) | (apply y_add; rfl; rfl; done) | (apply y_sub; rfl; rfl; done) | (apply y_nes; rfl; rfl; kernel_rfl; exact inferInstance; done) | (apply y_eqs; rfl; rfl; kernel_rfl; exact inferInstance; done) | (apply y_beq; kernel_rfl; rfl; rfl; done) | (apply y_bne; kernel_rfl; rfl; rfl; done) | (apply y_min2; rfl; done) | (apply y_min3; rfl; done) | (apply y_max2; rfl; done) | (apply y_build; kernel_rfl; (repeat (first | exact Bld.nil | (apply Bld.cons; exact inferInstance; rfl; constructor; kernel_rfl; (focus ((simp only [setAt, List.set_cons_zero, List.set_cons_succ, Nat.zero_add, Nat.reduceAdd]); try rfl))))); done)))
    | refine q_nil ?_
    | refine s_nil ?_
    | refine w_seq ?_
    | refine f_then ?_
    | refine f_ret ?_
    | refine f_ret_block ?_
    | refine w_skip ?_
    | refine w_ret ?_
    | refine w_cond_f rfl ?_
    | refine w_cond_t rfl ?_
    | (apply w_cond_tt; rfl; assumption)
    | (apply w_cond_ff; rfl; assumption)
    | (apply f_end; rfl; rfl; intro w hw; first | exact ans hw | exact ans_b (by assumption) hw)
    | (apply f_ends; rfl; (repeat (first | exact Res.nil | (apply Res.tmp; rfl) | (apply Res.agg; exact inferInstance; rfl; (repeat (first | exact List.Mem.head _ | apply List.Mem.tail)); (repeat (first | exact Sub.nil | apply Sub.take | apply Sub.drop))) | (apply Res.cell; kernel_rfl; rfl; (repeat (first | exact List.Mem.head _ | apply List.Mem.tail)); (repeat (first | exact At.hit | apply At.miss))))); intro w hw; exact ans hw)
    | (apply f_ends1; rfl; (repeat (first | exact Res.nil | (apply Res.tmp; rfl) | (apply Res.agg; exact inferInstance; rfl; (repeat (first | exact List.Mem.head _ | apply List.Mem.tail)); (repeat (first | exact Sub.nil | apply Sub.take | apply Sub.drop))) | (apply Res.cell; kernel_rfl; rfl; (repeat (first | exact List.Mem.head _ | apply List.Mem.tail)); (repeat (first | exact At.hit | apply At.miss))))); intro w hw; exact ans hw)
    | (apply w_draw_l; kernel_rfl; rfl; kernel_rfl)
    | (apply w_mixed_l; kernel_rfl; kernel_rfl)
    | (apply g_st; intro W0)
    | refine g_done ?_
    | refine w_reg_l ?_
    | exact rfl)

/-! ### The plain law -/
theorem ends_main (v : Bool) (d : Nat → Bool) (c : Nat) (hc : c ≤ W v) (b0 b1 : Int) (b2 : Bool) (hb : u64 b0 ∧ u64 b1) (n : Int) (hs : sane b0 b1 b2) :
    Cal Try.prog 8 [.agg #[.int .u64 (hiA v (cutd d c)), .int .u64 (loA v (cutd d c)), .bool v, .int .i64 ((c : Nat) : Int)], .agg #[.int .u64 b0, .int .u64 b1, .bool b2], .int .i64 n] (.bool true) := by
  have hp := u_mk v (cutd d c)
  have hl := u_mk v (filD d c)
  have hn := clampW_le b2 n
  have hq := u_mk b2 (cutd (D b0 b1) (clampW b2 n))
  refine ends_ok _ _ _ _ _ _ _ _ _ _ _ _ _ _ _ _ _ _ _ _ _ _ _ _ _ _ _ _ _ (sane_pk v d c hc) ((decide_eq_true hs) ▸ asane_s hb b2) (ends_pk v d c hc) (compare_s hp hb v b2) (compare_s hb hl b2 v) (of_s hb b2 n)
    (contains_s hp hb v c b2) (sane_pk b2 _ _ hn) (contains_s hq hb b2 _ b2) (contains_s hp hp v c v) (contains_s hp hl v c v) (of_fil v d c hc) ?_
  rw [contB_pk v d c hc, contB_pk b2 _ _ hn, contB_pk v d c hc, contB_pk v d c hc, conD_fil v d c hc, conD_self, conD_cut v d c hc v d c (Nat.le_refl _), conD_self]
  simp only [beq_self_eq_true, Bool.true_and, Bool.and_true]
  by_cases h : b2 = v
  · subst h
    rw [between b2 d c hc]
    simp
  · rw [show (b2 == v) = false from beq_eq_false_iff_ne.mpr h, Bool.eq_false_iff.mpr (fun k => h (conD_true.mp k).1.symm : conD v d c b2 (D b0 b1) ≠ true)]
    rfl
theorem ends_all {a0 a1 b0 b1 : Int} (ha : u64 a0 ∧ u64 a1) (hb : u64 b0 ∧ u64 b1) (a2 : Bool) (a3 : Int) (b2 : Bool) (n : Int) :
    Cal Try.prog 8 [.agg #[.int .u64 a0, .int .u64 a1, .bool a2, .int .i64 a3], .agg #[.int .u64 b0, .int .u64 b1, .bool b2], .int .i64 n] (.bool true) := by
  by_cases hE : (!saneB a0 a1 a2 a3 || !decide (sane b0 b1 b2)) = true
  · exact ends_up _ _ _ _ _ _ _ _ _ _ (sane_s ha a2 a3) (asane_s hb b2) hE
  · rw [Bool.not_eq_true] at hE
    simp only [Bool.or_eq_false_iff, Bool.not_eq_false', decide_eq_true_iff] at hE
    obtain ⟨n1, l1, e1, p1, q1⟩ := saneB_ex hE.1
    have := ends_main a2 (D a0 a1) n1 l1 b0 b1 b2 hb n hE.2
    rwa [← p1, ← q1, ← e1] at this
theorem prefixEnds_walk (a0 a1 : Int) (a2 : Bool) (a3 : Int) (b0 b1 : Int) (b2 : Bool) (n : Int)
    (h1 : (Lit.int .u64 a0).wf = true) (h2 : (Lit.int .u64 a1).wf = true) (h3 : (Lit.int .i64 a3).wf = true)
    (h4 : (Lit.int .u64 b0).wf = true) (h5 : (Lit.int .u64 b1).wf = true) (h6 : (Lit.int .i64 n).wf = true) (W : World) :
    Calls Try.prog 8 #[.agg #[.int .u64 a0, .int .u64 a1, .bool a2, .int .i64 a3], .agg #[.int .u64 b0, .int .u64 b1, .bool b2], .int .i64 n] W fun e w' => e = .returned (.bool true) ∧ Below W.heap.size W w' :=
  (ends_all ⟨wf_u64 h1, wf_u64 h2⟩ ⟨wf_u64 h4, wf_u64 h5⟩ a2 a3 b2 n).out W
end Go.Proofs.Ytbaeaiiohkfieaa.Hand
