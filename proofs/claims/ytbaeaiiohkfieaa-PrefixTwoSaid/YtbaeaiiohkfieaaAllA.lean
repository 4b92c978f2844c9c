import Derived.Test.YtbaeaiiohkfieaaEqs
import Derived.Test.YtbaeaiiohkfieaaPreM
import Derived.Test.YtbaeaiiohkfieaaAddrJ
/-
  Package prefix's functions, walked by symbolic steps.
-/
namespace Go.Proofs.Ytbaeaiiohkfieaa.Hand
open Go.RowKit Go.Proofs.YtbaeaiiohkfieaaW.PrintWords Go.Proofs.YtbaeaiiohkfieaaW.PrintLast Go.Proofs.Ytbaeaiiohkfieaa.Bits Go.Proofs.Ytbaeaiiohkfieaa.Dig Go.Proofs.Ytbaeaiiohkfieaa.Sq
set_option linter.unusedVariables false
set_option linter.unusedSimpArgs false
set_option maxRecDepth 100000
set_option maxHeartbeats 4000000

/-! ### What lies below -/
theorem of_s {a0 a1 : Int} (h : u64 a0 ∧ u64 a1) (a2 : Bool) (n : Int) : Cal Try.prog 23 [.agg #[.int .u64 a0, .int .u64 a1, .bool a2], .int .i64 n] (.agg #[.int .u64 (hiA a2 (cutd (D a0 a1) (clampW a2 n))), .int .u64 (loA a2 (cutd (D a0 a1) (clampW a2 n))), .bool a2, .int .i64 (((clampW a2 n) : Nat) : Int)]) := Cal.mk fun w => pof_c a0 a1 a2 n h w
theorem width_s (v : Bool) : Cal Try.prog 21 [.bool v] (.int .i64 ((W v : Nat) : Int)) := Cal.mk fun w => (width_c v w).mono fun e w' ⟨he, hw⟩ => ⟨he, by subst hw; exact Below.refl _ _⟩
theorem common_s {a0 a1 b0 b1 : Int} (h : u64 a0 ∧ u64 a1) (h' : u64 b0 ∧ u64 b1) (a2 b2 : Bool) : Cal Try.prog 20 [.agg #[.int .u64 a0, .int .u64 a1, .bool a2], .agg #[.int .u64 b0, .int .u64 b1, .bool b2]] (.int .i64 (commonA a0 a1 a2 b0 b1 b2)) := Cal.mk fun w => addr_Common.calls a0 a1 a2 b0 b1 b2 _ w (by unfold addr_Common.f; rw [gd_pos ⟨h, h'⟩])
theorem compare_s {a0 a1 b0 b1 : Int} (h : u64 a0 ∧ u64 a1) (h' : u64 b0 ∧ u64 b1) (a2 b2 : Bool) : Cal Try.prog 29 [.agg #[.int .u64 a0, .int .u64 a1, .bool a2], .agg #[.int .u64 b0, .int .u64 b1, .bool b2]] (.int .i64 (compA a0 a1 a2 b0 b1 b2)) := Cal.mk fun w => addr_Compare.calls a0 a1 a2 b0 b1 b2 _ w (by unfold addr_Compare.f; rw [gd_pos ⟨h, h'⟩])
theorem set_s (v : Bool) (d : Nat → Bool) (i b : Int) : Cal Try.prog 16 [.agg #[.int .u64 (hiA v d), .int .u64 (loA v d), .bool v], .int .i64 i, .int .i64 b] (.agg #[.int .u64 (hiA v fun j => if (j : Int) = i then setv b else d j), .int .u64 (loA v fun j => if (j : Int) = i then setv b else d j), .bool v]) := Cal.mk fun w => addr_Set.calls _ _ v i b _ _ _ w (Set_mk v d i b)
theorem bit_s {a0 a1 : Int} (h : u64 a0 ∧ u64 a1) (a2 : Bool) (i : Int) : Cal Try.prog 17 [.agg #[.int .u64 a0, .int .u64 a1, .bool a2], .int .i64 i] (.int .i64 (bitI (bitA a0 a1 a2 i))) := Cal.mk fun w => addr_Bit.calls a0 a1 a2 i _ w (Bit_f h a2 i)
theorem mask_s {a0 a1 : Int} (h : u64 a0 ∧ u64 a1) (a2 : Bool) (n : Int) : Cal Try.prog 18 [.agg #[.int .u64 a0, .int .u64 a1, .bool a2], .int .i64 n] (.agg #[.int .u64 (hiA a2 fun j => decide ((j : Int) < n) && D a0 a1 j), .int .u64 (loA a2 fun j => decide ((j : Int) < n) && D a0 a1 j), .bool a2]) := Cal.mk fun w => addr_Mask.calls a0 a1 a2 n _ _ _ w (Mask_f h a2 n)
theorem fill_s {a0 a1 : Int} (h : u64 a0 ∧ u64 a1) (a2 : Bool) (n : Int) : Cal Try.prog 15 [.agg #[.int .u64 a0, .int .u64 a1, .bool a2], .int .i64 n] (.agg #[.int .u64 (hiA a2 fun j => decide (n ≤ (j : Int)) || D a0 a1 j), .int .u64 (loA a2 fun j => decide (n ≤ (j : Int)) || D a0 a1 j), .bool a2]) := Cal.mk fun w => addr_Fill.calls a0 a1 a2 n _ _ _ w (Fill_f h a2 n)

/-! ### Yes or no -/
/-- Is a prefix the first digits of an address? -/
noncomputable def eqOf (a0 a1 : Int) (a2 : Bool) (a3 b0 b1 : Int) (b2 : Bool) : Bool := (a0 == hiA b2 (cutd (D b0 b1) (clampW b2 a3)) && (a1 == loA b2 (cutd (D b0 b1) (clampW b2 a3)) && a2 == b2)) && a3 == ((clampW b2 a3 : Nat) : Int)
noncomputable def saneB (a0 a1 : Int) (a2 : Bool) (a3 : Int) : Bool := eqOf a0 a1 a2 a3 a0 a1 a2
noncomputable def contB (a0 a1 : Int) (a2 : Bool) (a3 b0 b1 : Int) (b2 : Bool) : Bool := saneB a0 a1 a2 a3 && eqOf a0 a1 a2 a3 b0 b1 b2
noncomputable def covB (a0 a1 : Int) (a2 : Bool) (a3 b0 b1 : Int) (b2 : Bool) (b3 : Int) : Bool := (decide (a3 ≤ b3) && saneB b0 b1 b2 b3) && contB a0 a1 a2 a3 b0 b1 b2
def eqP (a0 a1 : Int) (a2 : Bool) (a3 b0 b1 : Int) (b2 : Bool) (b3 : Int) : Bool := (a0 == b0 && (a1 == b1 && a2 == b2)) && a3 == b3
noncomputable def insB (a0 a1 : Int) (a2 : Bool) (a3 b0 b1 : Int) (b2 : Bool) (b3 : Int) : Bool := (!eqP a0 a1 a2 a3 b0 b1 b2 b3) && covB a0 a1 a2 a3 b0 b1 b2 b3
noncomputable def apaB (a0 a1 : Int) (a2 : Bool) (a3 b0 b1 : Int) (b2 : Bool) (b3 : Int) : Bool := (saneB a0 a1 a2 a3 && saneB b0 b1 b2 b3) && (a2 != b2 || decide (commonA a0 a1 a2 b0 b1 b2 < mn2 a3 b3))
theorem sane_s {a0 a1 : Int} (ha : u64 a0 ∧ u64 a1) (a2 : Bool) (a3 : Int) : Cal Try.prog 32 [.agg #[.int .u64 a0, .int .u64 a1, .bool a2, .int .i64 a3]] (.bool (saneB a0 a1 a2 a3)) := by
  refine Cal.mk fun Wo => enter (F := fun _ => False) Try.func32 rfl Try.ntmps32 rfl ?_
  have k1 := of_s ha a2 a3
  repeat (first | (apply s_box; rfl; constructor; rfl; intro _) | (apply g_new; rfl; intro _) | apply s_st | apply q_st | apply st_go | (focus (first | (apply y_assign; rfl) | (apply y_load; rfl; (repeat (first | exact List.Mem.head _ | apply List.Mem.tail)); (repeat (first | exact Sub.nil | apply Sub.take | apply Sub.drop)); done) | (apply y_cell; rfl; (repeat (first | exact List.Mem.head _ | apply List.Mem.tail)); (repeat (first | exact At.hit | apply At.miss)); kernel_rfl; done) | (apply y_calls; rfl; rfl; rfl; assumption; done) | (apply y_fcell; kernel_rfl; rfl; (repeat (first | exact At.hit | apply At.miss)); done) | (apply y_faddr; kernel_rfl; rfl) | (apply y_eq; rfl; rfl) | (apply y_eqs; rfl; rfl; kernel_rfl; exact inferInstance) | (apply y_beq; kernel_rfl; rfl; rfl))) | apply q_nil | apply s_nil | apply w_seq | apply f_then | apply f_ret | apply w_ret | (apply f_end; rfl; rfl; intro w hw; first | exact ans hw | exact ans_b (by assumption) hw) | (apply w_draw_l; kernel_rfl; rfl; kernel_rfl) | (apply w_mixed_l; kernel_rfl; kernel_rfl) | (apply g_st; intro W0) | apply g_done | apply w_reg_l | exact rfl)
theorem contains_s {a0 a1 b0 b1 : Int} (ha : u64 a0 ∧ u64 a1) (hb : u64 b0 ∧ u64 b1) (a2 : Bool) (a3 : Int) (b2 : Bool) : Cal Try.prog 25 [.agg #[.int .u64 a0, .int .u64 a1, .bool a2, .int .i64 a3], .agg #[.int .u64 b0, .int .u64 b1, .bool b2]] (.bool (contB a0 a1 a2 a3 b0 b1 b2)) := by
  refine Cal.mk fun Wo => enter (F := fun _ => False) Try.func25 rfl Try.ntmps25 rfl ?_
  have k1 := sane_s ha a2 a3
  have k2 := of_s hb b2 a3
  repeat (first | (apply s_box; rfl; constructor; rfl; intro _) | (apply g_new; rfl; intro _) | apply s_st | apply q_st | apply st_go | (apply st_off; rfl) | (apply st_on; rfl) | (apply st_offe; rfl; assumption; rfl) | (apply st_if4; rfl; intro h1 h2 h3 h4; (try simp only [h1, h2, h3, h4, gv_true, gv_tt]); (try simp only [h1, h2, h3, h4, gv_true, gv_tt, Bool.true_and])) | (apply st_if3; rfl; intro h1 h2 h3; (try simp only [h1, h2, h3, gv_true, gv_tt]); (try simp only [h1, h2, h3, gv_true, gv_tt, Bool.true_and])) | (apply st_if2; rfl; intro h1 h2; (try simp only [h1, h2, gv_true, gv_tt])) | (apply st_if; rfl; intro h1; (try simp only [h1, gv_true, gv_tt])) | (focus (first | (apply y_move; rfl) | (apply y_assign; rfl) | (apply y_load; rfl; (repeat (first | exact List.Mem.head _ | apply List.Mem.tail)); (repeat (first | exact Sub.nil | apply Sub.take | apply Sub.drop)); done) | (apply y_cell; rfl; (repeat (first | exact List.Mem.head _ | apply List.Mem.tail)); (repeat (first | exact At.hit | apply At.miss)); kernel_rfl; done) | (apply y_calls; rfl; rfl; rfl; assumption; done) | (apply y_and; rfl; rfl; done) | (apply y_or; rfl; rfl; done) | (apply y_and_f; rfl; done) | (apply y_or_t; rfl; done) | (apply y_and_fe; rfl; assumption; done) | (apply y_or_te; rfl; assumption; done) | (apply y_fcell; kernel_rfl; rfl; (repeat (first | exact At.hit | apply At.miss)); done) | (apply y_faddr; kernel_rfl; rfl) | (apply y_eq; rfl; rfl) | (apply y_eqs; rfl; rfl; kernel_rfl; exact inferInstance) | (apply y_beq; kernel_rfl; rfl; rfl))) | apply q_nil | apply s_nil | apply w_seq | apply f_then | apply f_ret | apply w_ret | (apply f_end; rfl; rfl; intro w hw; first | exact ans hw | exact ans_b (by assumption) hw) | (apply w_draw_l; kernel_rfl; rfl; kernel_rfl) | (apply w_mixed_l; kernel_rfl; kernel_rfl) | (apply g_st; intro W0) | apply g_done | apply w_reg_l | exact rfl)
theorem covers_s {a0 a1 b0 b1 : Int} (ha : u64 a0 ∧ u64 a1) (hb : u64 b0 ∧ u64 b1) (a2 : Bool) (a3 : Int) (b2 : Bool) (b3 : Int) : Cal Try.prog 33 [.agg #[.int .u64 a0, .int .u64 a1, .bool a2, .int .i64 a3], .agg #[.int .u64 b0, .int .u64 b1, .bool b2, .int .i64 b3]] (.bool (covB a0 a1 a2 a3 b0 b1 b2 b3)) := by
  refine Cal.mk fun Wo => enter (F := fun _ => False) Try.func33 rfl Try.ntmps33 rfl ?_
  have k1 := sane_s hb b2 b3
  have k2 := contains_s ha hb a2 a3 b2
  repeat (first | (apply s_box; rfl; constructor; rfl; intro _) | apply s_st | apply st_go | (apply st_off; rfl) | (apply st_on; rfl) | (apply st_offe; rfl; assumption; rfl) | (apply st_if4; rfl; intro h1 h2 h3 h4; (try simp only [h1, h2, h3, h4, gv_true, gv_tt]); (try simp only [h1, h2, h3, h4, gv_true, gv_tt, Bool.true_and])) | (apply st_if3; rfl; intro h1 h2 h3; (try simp only [h1, h2, h3, gv_true, gv_tt]); (try simp only [h1, h2, h3, gv_true, gv_tt, Bool.true_and])) | (apply st_if2; rfl; intro h1 h2; (try simp only [h1, h2, gv_true, gv_tt])) | (apply st_if; rfl; intro h1; (try simp only [h1, gv_true, gv_tt])) | (focus (first | (apply y_move; rfl) | (apply y_assign; rfl) | (apply y_load; rfl; (repeat (first | exact List.Mem.head _ | apply List.Mem.tail)); (repeat (first | exact Sub.nil | apply Sub.take | apply Sub.drop)); done) | (apply y_cell; rfl; (repeat (first | exact List.Mem.head _ | apply List.Mem.tail)); (repeat (first | exact At.hit | apply At.miss)); kernel_rfl; done) | (apply y_calls; rfl; rfl; rfl; assumption; done) | (apply y_and; rfl; rfl; done) | (apply y_or; rfl; rfl; done) | (apply y_and_f; rfl; done) | (apply y_or_t; rfl; done) | (apply y_and_fe; rfl; assumption; done) | (apply y_or_te; rfl; assumption; done) | (apply y_fcell; kernel_rfl; rfl; (repeat (first | exact At.hit | apply At.miss)); done) | (apply y_faddr; kernel_rfl; rfl) | (apply y_le; rfl; rfl))) | apply s_nil | apply w_seq | apply f_then | apply f_ret | apply w_ret | (apply f_end; rfl; rfl; intro w hw; first | exact ans hw | exact ans_b (by assumption) hw) | apply w_reg_l | exact rfl)
theorem inside_s {a0 a1 b0 b1 : Int} (ha : u64 a0 ∧ u64 a1) (hb : u64 b0 ∧ u64 b1) (a2 : Bool) (a3 : Int) (b2 : Bool) (b3 : Int) : Cal Try.prog 26 [.agg #[.int .u64 a0, .int .u64 a1, .bool a2, .int .i64 a3], .agg #[.int .u64 b0, .int .u64 b1, .bool b2, .int .i64 b3]] (.bool (insB a0 a1 a2 a3 b0 b1 b2 b3)) := by
  refine Cal.mk fun Wo => enter (F := fun _ => False) Try.func26 rfl Try.ntmps26 rfl ?_
  have k1 := covers_s ha hb a2 a3 b2 b3
  repeat (first | (apply s_box; rfl; constructor; rfl; intro _) | apply s_st | apply st_go | (apply st_off; rfl) | (apply st_on; rfl) | (apply st_offe; rfl; assumption; rfl) | (apply st_if4; rfl; intro h1 h2 h3 h4; (try simp only [h1, h2, h3, h4, gv_true, gv_tt]); (try simp only [h1, h2, h3, h4, gv_true, gv_tt, Bool.true_and])) | (apply st_if3; rfl; intro h1 h2 h3; (try simp only [h1, h2, h3, gv_true, gv_tt]); (try simp only [h1, h2, h3, gv_true, gv_tt, Bool.true_and])) | (apply st_if2; rfl; intro h1 h2; (try simp only [h1, h2, gv_true, gv_tt])) | (apply st_if; rfl; intro h1; (try simp only [h1, gv_true, gv_tt])) | (focus (first | (apply y_move; rfl) | (apply y_assign; rfl) | (apply y_load; rfl; (repeat (first | exact List.Mem.head _ | apply List.Mem.tail)); (repeat (first | exact Sub.nil | apply Sub.take | apply Sub.drop)); done) | (apply y_cell; rfl; (repeat (first | exact List.Mem.head _ | apply List.Mem.tail)); (repeat (first | exact At.hit | apply At.miss)); kernel_rfl; done) | (apply y_calls; rfl; rfl; rfl; assumption; done) | (apply y_and; rfl; rfl; done) | (apply y_or; rfl; rfl; done) | (apply y_and_f; rfl; done) | (apply y_or_t; rfl; done) | (apply y_and_fe; rfl; assumption; done) | (apply y_or_te; rfl; assumption; done) | (apply y_fcell; kernel_rfl; rfl; (repeat (first | exact At.hit | apply At.miss)); done) | (apply y_faddr; kernel_rfl; rfl) | (apply y_ne; rfl; rfl) | (apply y_nes; rfl; rfl; kernel_rfl; exact inferInstance) | (apply y_bne; kernel_rfl; rfl; rfl))) | apply s_nil | apply w_seq | apply f_then | apply f_ret | apply w_ret | (apply f_end; rfl; rfl; intro w hw; first | exact ans hw | exact ans_b (by assumption) hw) | apply w_reg_l | exact rfl)
theorem apart_s {a0 a1 b0 b1 : Int} (ha : u64 a0 ∧ u64 a1) (hb : u64 b0 ∧ u64 b1) (a2 : Bool) (a3 : Int) (b2 : Bool) (b3 : Int) : Cal Try.prog 34 [.agg #[.int .u64 a0, .int .u64 a1, .bool a2, .int .i64 a3], .agg #[.int .u64 b0, .int .u64 b1, .bool b2, .int .i64 b3]] (.bool (apaB a0 a1 a2 a3 b0 b1 b2 b3)) := by
  refine Cal.mk fun Wo => enter (F := fun _ => False) Try.func34 rfl Try.ntmps34 rfl ?_
  have k1 := sane_s ha a2 a3
  have k2 := sane_s hb b2 b3
  have k3 := common_s ha hb a2 b2
  repeat (first | (apply s_box; rfl; constructor; rfl; intro _) | (apply g_new; rfl; intro _) | apply s_st | apply q_st | apply st_go | (apply st_off; rfl) | (apply st_on; rfl) | (apply st_offe; rfl; assumption; rfl) | (apply st_if4; rfl; intro h1 h2 h3 h4; (try simp only [h1, h2, h3, h4, gv_true, gv_tt]); (try simp only [h1, h2, h3, h4, gv_true, gv_tt, Bool.true_and])) | (apply st_if3; rfl; intro h1 h2 h3; (try simp only [h1, h2, h3, gv_true, gv_tt]); (try simp only [h1, h2, h3, gv_true, gv_tt, Bool.true_and])) | (apply st_if2; rfl; intro h1 h2; (try simp only [h1, h2, gv_true, gv_tt])) | (apply st_if; rfl; intro h1; (try simp only [h1, gv_true, gv_tt])) | (focus (first | (apply y_move; rfl) | (apply y_assign; rfl) | (apply y_load; rfl; (repeat (first | exact List.Mem.head _ | apply List.Mem.tail)); (repeat (first | exact Sub.nil | apply Sub.take | apply Sub.drop)); done) | (apply y_cell; rfl; (repeat (first | exact List.Mem.head _ | apply List.Mem.tail)); (repeat (first | exact At.hit | apply At.miss)); kernel_rfl; done) | (apply y_calls; rfl; rfl; rfl; assumption; done) | (apply y_and; rfl; rfl; done) | (apply y_or; rfl; rfl; done) | (apply y_and_f; rfl; done) | (apply y_or_t; rfl; done) | (apply y_and_fe; rfl; assumption; done) | (apply y_or_te; rfl; assumption; done) | (apply y_fcell; kernel_rfl; rfl; (repeat (first | exact At.hit | apply At.miss)); done) | (apply y_faddr; kernel_rfl; rfl) | (apply y_ne; rfl; rfl) | (apply y_lt; rfl; rfl) | (apply y_nes; rfl; rfl; kernel_rfl; exact inferInstance) | (apply y_bne; kernel_rfl; rfl; rfl) | (apply y_min2; rfl) | (apply y_min3; rfl))) | apply q_nil | apply s_nil | apply w_seq | apply f_then | apply f_ret | apply w_ret | (apply f_end; rfl; rfl; intro w hw; first | exact ans hw | exact ans_b (by assumption) hw) | (apply w_draw_l; kernel_rfl; rfl; kernel_rfl) | (apply w_mixed_l; kernel_rfl; kernel_rfl) | (apply g_st; intro W0) | apply g_done | apply w_reg_l | exact rfl)
theorem ends_s {a0 a1 : Int} (ha : u64 a0 ∧ u64 a1) (a2 : Bool) (a3 : Int) : Cal Try.prog 37 [.agg #[.int .u64 a0, .int .u64 a1, .bool a2, .int .i64 a3]] (.tuple #[.agg #[.int .u64 (hiA a2 fun j => decide ((j : Int) < a3) && D a0 a1 j), .int .u64 (loA a2 fun j => decide ((j : Int) < a3) && D a0 a1 j), .bool a2],
    .agg #[.int .u64 (hiA a2 fun j => decide (a3 ≤ (j : Int)) || D a0 a1 j), .int .u64 (loA a2 fun j => decide (a3 ≤ (j : Int)) || D a0 a1 j), .bool a2]]) := by
  refine Cal.mk fun Wo => enter (F := fun _ => False) Try.func37 rfl Try.ntmps37 rfl ?_
  have k1 := mask_s ha a2 a3
  have k2 := fill_s ha a2 a3
  repeat (first | (apply s_box; rfl; constructor; rfl; intro _) | (apply s_alloc; rfl; intro _) | (apply s_store; rfl; rfl; (repeat (first | exact List.Mem.head _ | apply List.Mem.tail)); constructor; (focus ((simp only [setAt, List.set_cons_zero, List.set_cons_succ, Nat.zero_add, Nat.reduceAdd]); try rfl)); (repeat (first | exact MUpd.hit | apply MUpd.miss)); kernel_rfl; rfl) | (apply g_new; rfl; intro _) | apply s_st | apply q_st | apply st_go | (focus (first | (apply y_load; rfl; (repeat (first | exact List.Mem.head _ | apply List.Mem.tail)); (repeat (first | exact Sub.nil | apply Sub.take | apply Sub.drop)); done) | (apply y_cell; rfl; (repeat (first | exact List.Mem.head _ | apply List.Mem.tail)); (repeat (first | exact At.hit | apply At.miss)); kernel_rfl; done) | (apply y_calls; rfl; rfl; rfl; assumption; done) | (apply y_fcell; kernel_rfl; rfl; (repeat (first | exact At.hit | apply At.miss)); done) | (apply y_faddr; kernel_rfl; rfl))) | apply q_nil | apply s_nil | apply w_seq | apply f_then | apply f_ret | apply w_ret | (apply f_end; rfl; rfl; intro w hw; first | exact ans hw | exact ans_b (by assumption) hw) | ((first | (apply f_ends; rfl) | (apply f_ends1; rfl)); (repeat (first | exact Res.nil | (apply Res.tmp; rfl) | (apply Res.agg; exact inferInstance; rfl; (repeat (first | exact List.Mem.head _ | apply List.Mem.tail)); (repeat (first | exact Sub.nil | apply Sub.take | apply Sub.drop))) | (apply Res.cell; kernel_rfl; rfl; (repeat (first | exact List.Mem.head _ | apply List.Mem.tail)); (repeat (first | exact At.hit | apply At.miss))))); intro w hw; exact ans hw) | (apply w_draw_l; kernel_rfl; rfl; kernel_rfl) | (apply w_mixed_l; kernel_rfl; kernel_rfl) | (apply g_st; intro W0) | apply g_done | apply w_reg_l | exact rfl)
end Go.Proofs.Ytbaeaiiohkfieaa.Hand
/-
  Package prefix's functions that give prefixes, walked by symbolic steps, told by digits.
-/
namespace Go.Proofs.Ytbaeaiiohkfieaa.Hand
open Go.RowKit Go.Proofs.YtbaeaiiohkfieaaW.PrintWords Go.Proofs.YtbaeaiiohkfieaaW.PrintLast Go.Proofs.Ytbaeaiiohkfieaa.Bits Go.Proofs.Ytbaeaiiohkfieaa.Dig Go.Proofs.Ytbaeaiiohkfieaa.Sq
set_option linter.unusedVariables false
set_option linter.unusedSimpArgs false
set_option maxRecDepth 100000
set_option maxHeartbeats 4000000

/-! ### Plain laws -/
/-- With another digit at c. -/
def putd (d : Nat → Bool) (c : Nat) (b : Bool) (j : Nat) : Bool := if j = c then b else d j
theorem cut_put (d : Nat → Bool) (c : Nat) (b : Bool) : (fun j : Nat => if (j : Int) = ((c : Nat) : Int) then b else cutd d c j) = cutd (putd d c b) (c + 1) := funext fun j => by
  unfold cutd putd
  by_cases h : j = c
  · subst h; simp
  · rw [if_neg (by omega), if_neg h, show decide (j < c + 1) = decide (j < c) by rw [decide_eq_decide]; omega]
theorem setv_next (b : Bool) : setv (IntKind.i64.wrap (bitI b + 1)) = !b := by cases b <;> decide
theorem wrap_nat (x : Int) (h0 : -9223372036854775808 ≤ x) (h : x < 9223372036854775808) : IntKind.i64.wrap x = x := by rw [IntWalk.i64_in _ (by omega)]
theorem eqOf_pk (v : Bool) (d : Nat → Bool) (c : Nat) (hc : c ≤ W v) (b0 b1 : Int) (u : Bool) : eqOf (hiA v (cutd d c)) (loA v (cutd d c)) v c b0 b1 u = conD v d c u (D b0 b1) := eq_pk v d c hc u (D b0 b1)
theorem conD_cut (v : Bool) (d : Nat → Bool) (c : Nat) (hc : c ≤ W v) (u : Bool) (e : Nat → Bool) (m : Nat) (h : c ≤ m) : conD v d c u (D (hiA u (cutd e m)) (loA u (cutd e m))) = conD v d c u e :=
  conD_congr fun hv i hi => by subst hv; rw [D_cut v e m i (by omega), cutd_lt (by omega)]
theorem saneB_pk (v : Bool) (d : Nat → Bool) (c : Nat) (hc : c ≤ W v) : saneB (hiA v (cutd d c)) (loA v (cutd d c)) v c = true := by
  unfold saneB
  rw [eqOf_pk v d c hc, conD_cut v d c hc v d c (Nat.le_refl _), conD_self]
theorem contB_pk (v : Bool) (d : Nat → Bool) (c : Nat) (hc : c ≤ W v) (b0 b1 : Int) (u : Bool) : contB (hiA v (cutd d c)) (loA v (cutd d c)) v c b0 b1 u = conD v d c u (D b0 b1) := by
  unfold contB
  rw [saneB_pk v d c hc, eqOf_pk v d c hc, Bool.true_and]
theorem covB_pk (v : Bool) (d : Nat → Bool) (c : Nat) (hc : c ≤ W v) (u : Bool) (e : Nat → Bool) (m : Nat) (hm : m ≤ W u) : covB (hiA v (cutd d c)) (loA v (cutd d c)) v c (hiA u (cutd e m)) (loA u (cutd e m)) u m = (decide (c ≤ m) && conD v d c u e) := by
  unfold covB
  rw [saneB_pk u e m hm, contB_pk v d c hc, Bool.and_true, show decide ((c : Int) ≤ (m : Int)) = decide (c ≤ m) by rw [decide_eq_decide]; omega]
  by_cases h : c ≤ m
  · rw [conD_cut v d c hc u e m h]
  · rw [decide_eq_false h, Bool.false_and, Bool.false_and]
theorem eqP_pk (v : Bool) (d : Nat → Bool) (c : Nat) (hc : c ≤ W v) (u : Bool) (e : Nat → Bool) (m : Nat) (hm : m ≤ W u) : eqP (hiA v (cutd d c)) (loA v (cutd d c)) v c (hiA u (cutd e m)) (loA u (cutd e m)) u m = (decide (c = m) && conD v d c u e) := by
  unfold eqP
  rw [Bool.eq_iff_iff]
  simp only [Bool.and_eq_true, beq_iff_eq, decide_eq_true_iff, conD_true]
  constructor
  · rintro ⟨⟨h1, h2, rfl⟩, h3⟩
    obtain rfl : c = m := by omega
    refine ⟨rfl, rfl, fun i hi => ?_⟩
    have := mk_inj h1 h2 i (by omega)
    rwa [cutd_lt hi, cutd_lt hi] at this
  · rintro ⟨rfl, rfl, h⟩
    have k : ∀ i, i < W v → cutd d c i = cutd e c i := fun i _ => by
      by_cases hi : i < c
      · rw [cutd_lt hi, cutd_lt hi, h i hi]
      · rw [cutd_ge (by omega), cutd_ge (by omega)]
    exact ⟨⟨hi_congr k, lo_congr k, rfl⟩, rfl⟩
/-- What may be is some address's first digits. -/
theorem saneB_ex {a0 a1 : Int} {v : Bool} {n : Int} (h : saneB a0 a1 v n = true) : ∃ c : Nat, c ≤ W v ∧ n = c ∧ a0 = hiA v (cutd (D a0 a1) c) ∧ a1 = loA v (cutd (D a0 a1) c) := by
  unfold saneB eqOf at h
  simp only [Bool.and_eq_true, beq_iff_eq, and_true] at h
  exact ⟨clampW v n, clampW_le v n, h.2, h.1.1, h.1.2⟩
theorem of_pk (v : Bool) (d : Nat → Bool) (c k : Nat) (hk : k ≤ c) (hc : c ≤ W v) {x : Int} (hx : x = ((k : Nat) : Int)) : Cal Try.prog 23 [.agg #[.int .u64 (hiA v (cutd d c)), .int .u64 (loA v (cutd d c)), .bool v], .int .i64 x] (.agg #[.int .u64 (hiA v (cutd d k)), .int .u64 (loA v (cutd d k)), .bool v, .int .i64 ((k : Nat) : Int)]) := by
  subst hx
  have h := of_s (u_mk v (cutd d c)) v (k : Int)
  have e := cut_cut v d c k hk
  rw [clampW_in (show k ≤ W v by omega), e.1, e.2] at h
  exact h
theorem sane_pk (v : Bool) (d : Nat → Bool) (c : Nat) (hc : c ≤ W v) : Cal Try.prog 32 [.agg #[.int .u64 (hiA v (cutd d c)), .int .u64 (loA v (cutd d c)), .bool v, .int .i64 ((c : Nat) : Int)]] (.bool true) := by
  have h := sane_s (u_mk v (cutd d c)) v (c : Int)
  rw [saneB_pk v d c hc] at h
  exact h
theorem sane_yes {a0 a1 : Int} (ha : u64 a0 ∧ u64 a1) {a2 : Bool} {a3 : Int} (h : saneB a0 a1 a2 a3 = true) : Cal Try.prog 32 [.agg #[.int .u64 a0, .int .u64 a1, .bool a2, .int .i64 a3]] (.bool true) := by
  have := sane_s ha a2 a3
  rwa [h] at this
theorem sane_not {a0 a1 : Int} (ha : u64 a0 ∧ u64 a1) {a2 : Bool} {a3 : Int} (h : saneB a0 a1 a2 a3 = false) : Cal Try.prog 32 [.agg #[.int .u64 a0, .int .u64 a1, .bool a2, .int .i64 a3]] (.bool false) := by
  have := sane_s ha a2 a3
  rwa [h] at this

/-! ### The walks -/
theorem parent_pk (v : Bool) (d : Nat → Bool) (c : Nat) (hc : c + 1 ≤ W v) : Cal Try.prog 24 [.agg #[.int .u64 (hiA v (cutd d (c + 1))), .int .u64 (loA v (cutd d (c + 1))), .bool v, .int .i64 (((c + 1) : Nat) : Int)]] (.tuple #[.agg #[.int .u64 (hiA v (cutd d c)), .int .u64 (loA v (cutd d c)), .bool v, .int .i64 ((c : Nat) : Int)], .bool true]) := by
  have hW := W_le v
  refine Cal.mk fun Wo => enter (F := fun _ => False) Try.func24 rfl Try.ntmps24 rfl ?_
  have k1 := sane_pk v d (c + 1) hc
  have k2 := of_pk v d (c + 1) c (by omega) hc (x := IntKind.i64.wrap (((c + 1 : Nat) : Int) - 1)) (by rw [wrap_nat _ (by omega) (by omega)]; omega)
  have hE : (decide (((c + 1 : Nat) : Int) ≤ 0) || !true) = false := by simp <;> omega
  repeat (first | (apply s_box; rfl; constructor; rfl; intro _) | (apply s_alloc; rfl; intro _) | (apply s_store; rfl; rfl; (repeat (first | exact List.Mem.head _ | apply List.Mem.tail)); constructor; (focus ((simp only [setAt, List.set_cons_zero, List.set_cons_succ, Nat.zero_add, Nat.reduceAdd]); try rfl)); (repeat (first | exact MUpd.hit | apply MUpd.miss)); kernel_rfl; rfl) | apply s_st | apply st_go | (apply st_off; rfl) | (apply st_on; rfl) | (apply st_offe; rfl; assumption; rfl) | (apply st_if4; rfl; intro h1 h2 h3 h4; (try simp only [h1, h2, h3, h4, gv_true, gv_tt]); (try simp only [h1, h2, h3, h4, gv_true, gv_tt, Bool.true_and])) | (apply st_if3; rfl; intro h1 h2 h3; (try simp only [h1, h2, h3, gv_true, gv_tt]); (try simp only [h1, h2, h3, gv_true, gv_tt, Bool.true_and])) | (apply st_if2; rfl; intro h1 h2; (try simp only [h1, h2, gv_true, gv_tt])) | (apply st_if; rfl; intro h1; (try simp only [h1, gv_true, gv_tt])) | (focus (first | (apply y_move; rfl) | (apply y_assign; rfl) | (apply y_not; rfl) | (apply y_load; rfl; (repeat (first | exact List.Mem.head _ | apply List.Mem.tail)); (repeat (first | exact Sub.nil | apply Sub.take | apply Sub.drop)); done) | (apply y_cell; rfl; (repeat (first | exact List.Mem.head _ | apply List.Mem.tail)); (repeat (first | exact At.hit | apply At.miss)); kernel_rfl; done) | (apply y_calls; rfl; rfl; rfl; assumption; done) | (apply y_and; rfl; rfl; done) | (apply y_or; rfl; rfl; done) | (apply y_and_f; rfl; done) | (apply y_or_t; rfl; done) | (apply y_and_fe; rfl; assumption; done) | (apply y_or_te; rfl; assumption; done) | (apply y_fcell; kernel_rfl; rfl; (repeat (first | exact At.hit | apply At.miss)); done) | (apply y_faddr; kernel_rfl; rfl) | (apply y_le; rfl; rfl) | (apply y_sub; rfl; rfl) | (apply y_build; kernel_rfl; (repeat (first | exact Bld.nil | (apply Bld.cons; exact inferInstance; rfl; constructor; kernel_rfl; (focus ((simp only [setAt, List.set_cons_zero, List.set_cons_succ, Nat.zero_add, Nat.reduceAdd]); try rfl))))); done))) | apply s_nil | apply w_seq | apply f_then | apply f_ret | apply w_skip | apply w_ret | refine w_cond_f rfl ?_ | refine w_cond_t rfl ?_ | (apply w_cond_tt; rfl; assumption) | (apply w_cond_ff; rfl; assumption) | (apply f_end; rfl; rfl; intro w hw; first | exact ans hw | exact ans_b (by assumption) hw) | ((first | (apply f_ends; rfl) | (apply f_ends1; rfl)); (repeat (first | exact Res.nil | (apply Res.tmp; rfl) | (apply Res.agg; exact inferInstance; rfl; (repeat (first | exact List.Mem.head _ | apply List.Mem.tail)); (repeat (first | exact Sub.nil | apply Sub.take | apply Sub.drop))) | (apply Res.cell; kernel_rfl; rfl; (repeat (first | exact List.Mem.head _ | apply List.Mem.tail)); (repeat (first | exact At.hit | apply At.miss))))); intro w hw; exact ans hw) | apply w_reg_l | exact rfl)
theorem parent_no {a0 a1 : Int} (ha : u64 a0 ∧ u64 a1) (a2 : Bool) (a3 : Int) (h : (decide (a3 ≤ 0) || !saneB a0 a1 a2 a3) = true) : Cal Try.prog 24 [.agg #[.int .u64 a0, .int .u64 a1, .bool a2, .int .i64 a3]] (.tuple #[.agg #[.int .u64 0, .int .u64 0, .bool false, .int .i64 0], .bool false]) := by
  refine Cal.mk fun Wo => enter (F := fun _ => False) Try.func24 rfl Try.ntmps24 rfl ?_
  have k1 := sane_s ha a2 a3
  repeat (first | (apply s_box; rfl; constructor; rfl; intro _) | (apply s_alloc; rfl; intro _) | (apply s_store; rfl; rfl; (repeat (first | exact List.Mem.head _ | apply List.Mem.tail)); constructor; (focus ((simp only [setAt, List.set_cons_zero, List.set_cons_succ, Nat.zero_add, Nat.reduceAdd]); try rfl)); (repeat (first | exact MUpd.hit | apply MUpd.miss)); kernel_rfl; rfl) | apply s_st | apply st_go | (apply st_off; rfl) | (apply st_on; rfl) | (apply st_offe; rfl; assumption; rfl) | (apply st_if4; rfl; intro h1 h2 h3 h4; (try simp only [h1, h2, h3, h4, gv_true, gv_tt]); (try simp only [h1, h2, h3, h4, gv_true, gv_tt, Bool.true_and])) | (apply st_if3; rfl; intro h1 h2 h3; (try simp only [h1, h2, h3, gv_true, gv_tt]); (try simp only [h1, h2, h3, gv_true, gv_tt, Bool.true_and])) | (apply st_if2; rfl; intro h1 h2; (try simp only [h1, h2, gv_true, gv_tt])) | (apply st_if; rfl; intro h1; (try simp only [h1, gv_true, gv_tt])) | (focus (first | (apply y_move; rfl) | (apply y_assign; rfl) | (apply y_not; rfl) | (apply y_load; rfl; (repeat (first | exact List.Mem.head _ | apply List.Mem.tail)); (repeat (first | exact Sub.nil | apply Sub.take | apply Sub.drop)); done) | (apply y_cell; rfl; (repeat (first | exact List.Mem.head _ | apply List.Mem.tail)); (repeat (first | exact At.hit | apply At.miss)); kernel_rfl; done) | (apply y_calls; rfl; rfl; rfl; assumption; done) | (apply y_and; rfl; rfl; done) | (apply y_or; rfl; rfl; done) | (apply y_and_f; rfl; done) | (apply y_or_t; rfl; done) | (apply y_and_fe; rfl; assumption; done) | (apply y_or_te; rfl; assumption; done) | (apply y_fcell; kernel_rfl; rfl; (repeat (first | exact At.hit | apply At.miss)); done) | (apply y_faddr; kernel_rfl; rfl) | (apply y_le; rfl; rfl) | (apply y_sub; rfl; rfl) | (apply y_build; kernel_rfl; (repeat (first | exact Bld.nil | (apply Bld.cons; exact inferInstance; rfl; constructor; kernel_rfl; (focus ((simp only [setAt, List.set_cons_zero, List.set_cons_succ, Nat.zero_add, Nat.reduceAdd]); try rfl))))); done))) | apply s_nil | apply w_seq | apply f_then | apply f_ret | apply w_skip | apply w_ret | refine w_cond_f rfl ?_ | refine w_cond_t rfl ?_ | (apply w_cond_tt; rfl; assumption) | (apply w_cond_ff; rfl; assumption) | (apply f_end; rfl; rfl; intro w hw; first | exact ans hw | exact ans_b (by assumption) hw) | ((first | (apply f_ends; rfl) | (apply f_ends1; rfl)); (repeat (first | exact Res.nil | (apply Res.tmp; rfl) | (apply Res.agg; exact inferInstance; rfl; (repeat (first | exact List.Mem.head _ | apply List.Mem.tail)); (repeat (first | exact Sub.nil | apply Sub.take | apply Sub.drop))) | (apply Res.cell; kernel_rfl; rfl; (repeat (first | exact List.Mem.head _ | apply List.Mem.tail)); (repeat (first | exact At.hit | apply At.miss))))); intro w hw; exact ans hw) | apply w_reg_l | exact rfl)
theorem child_pk (v : Bool) (d : Nat → Bool) (c : Nat) (hc : c < W v) (b : Int) : Cal Try.prog 36 [.agg #[.int .u64 (hiA v (cutd d c)), .int .u64 (loA v (cutd d c)), .bool v, .int .i64 ((c : Nat) : Int)], .int .i64 b] (.tuple #[.agg #[.int .u64 (hiA v (cutd (putd d c (setv b)) (c + 1))), .int .u64 (loA v (cutd (putd d c (setv b)) (c + 1))), .bool v, .int .i64 (((c + 1) : Nat) : Int)], .bool true]) := by
  have hW := W_le v
  refine Cal.mk fun Wo => enter (F := fun _ => False) Try.func36 rfl Try.ntmps36 rfl ?_
  have k1 := sane_pk v d c (by omega)
  have k2 := width_s v
  have k3 := set_s v (cutd d c) (c : Int) b
  rw [cut_put] at k3
  have hE : ((!true) || ((c : Int) == ((W v : Nat) : Int))) = false := by simp <;> omega
  have hw : IntKind.i64.wrap ((c : Int) + 1) = ((c + 1 : Nat) : Int) := by rw [wrap_nat _ (by omega) (by omega)]; rfl
  rw [← hw]
  repeat (first | (apply s_box; rfl; constructor; rfl; intro _) | (apply s_alloc; rfl; intro _) | (apply s_store; rfl; rfl; (repeat (first | exact List.Mem.head _ | apply List.Mem.tail)); constructor; (focus ((simp only [setAt, List.set_cons_zero, List.set_cons_succ, Nat.zero_add, Nat.reduceAdd]); try rfl)); (repeat (first | exact MUpd.hit | apply MUpd.miss)); kernel_rfl; rfl) | (apply g_new; rfl; intro _) | apply s_st | apply q_st | apply st_go | (apply st_off; rfl) | (apply st_on; rfl) | (apply st_offe; rfl; assumption; rfl) | (apply st_if4; rfl; intro h1 h2 h3 h4; (try simp only [h1, h2, h3, h4, gv_true, gv_tt]); (try simp only [h1, h2, h3, h4, gv_true, gv_tt, Bool.true_and])) | (apply st_if3; rfl; intro h1 h2 h3; (try simp only [h1, h2, h3, gv_true, gv_tt]); (try simp only [h1, h2, h3, gv_true, gv_tt, Bool.true_and])) | (apply st_if2; rfl; intro h1 h2; (try simp only [h1, h2, gv_true, gv_tt])) | (apply st_if; rfl; intro h1; (try simp only [h1, gv_true, gv_tt])) | (focus (first | (apply y_move; rfl) | (apply y_assign; rfl) | (apply y_not; rfl) | (apply y_load; rfl; (repeat (first | exact List.Mem.head _ | apply List.Mem.tail)); (repeat (first | exact Sub.nil | apply Sub.take | apply Sub.drop)); done) | (apply y_cell; rfl; (repeat (first | exact List.Mem.head _ | apply List.Mem.tail)); (repeat (first | exact At.hit | apply At.miss)); kernel_rfl; done) | (apply y_calls; rfl; rfl; rfl; assumption; done) | (apply y_and; rfl; rfl; done) | (apply y_or; rfl; rfl; done) | (apply y_and_f; rfl; done) | (apply y_or_t; rfl; done) | (apply y_and_fe; rfl; assumption; done) | (apply y_or_te; rfl; assumption; done) | (apply y_fcell; kernel_rfl; rfl; (repeat (first | exact At.hit | apply At.miss)); done) | (apply y_faddr; kernel_rfl; rfl) | (apply y_eq; rfl; rfl) | (apply y_add; rfl; rfl) | (apply y_eqs; rfl; rfl; kernel_rfl; exact inferInstance) | (apply y_beq; kernel_rfl; rfl; rfl) | (apply y_build; kernel_rfl; (repeat (first | exact Bld.nil | (apply Bld.cons; exact inferInstance; rfl; constructor; kernel_rfl; (focus ((simp only [setAt, List.set_cons_zero, List.set_cons_succ, Nat.zero_add, Nat.reduceAdd]); try rfl))))); done))) | apply q_nil | apply s_nil | apply w_seq | apply f_then | apply f_ret | apply w_skip | apply w_ret | refine w_cond_f rfl ?_ | refine w_cond_t rfl ?_ | (apply w_cond_tt; rfl; assumption) | (apply w_cond_ff; rfl; assumption) | (apply f_end; rfl; rfl; intro w hw; first | exact ans hw | exact ans_b (by assumption) hw) | ((first | (apply f_ends; rfl) | (apply f_ends1; rfl)); (repeat (first | exact Res.nil | (apply Res.tmp; rfl) | (apply Res.agg; exact inferInstance; rfl; (repeat (first | exact List.Mem.head _ | apply List.Mem.tail)); (repeat (first | exact Sub.nil | apply Sub.take | apply Sub.drop))) | (apply Res.cell; kernel_rfl; rfl; (repeat (first | exact List.Mem.head _ | apply List.Mem.tail)); (repeat (first | exact At.hit | apply At.miss))))); intro w hw; exact ans hw) | (apply w_draw_l; kernel_rfl; rfl; kernel_rfl) | (apply w_mixed_l; kernel_rfl; kernel_rfl) | (apply g_st; intro W0) | apply g_done | apply w_reg_l | exact rfl)
theorem child_full (v : Bool) (d : Nat → Bool) (b : Int) : Cal Try.prog 36 [.agg #[.int .u64 (hiA v (cutd d (W v))), .int .u64 (loA v (cutd d (W v))), .bool v, .int .i64 (((W v) : Nat) : Int)], .int .i64 b] (.tuple #[.agg #[.int .u64 0, .int .u64 0, .bool false, .int .i64 0], .bool false]) := by
  refine Cal.mk fun Wo => enter (F := fun _ => False) Try.func36 rfl Try.ntmps36 rfl ?_
  have k1 := sane_pk v d (W v) (Nat.le_refl _)
  have k2 := width_s v
  have hE : ((!true) || (((W v : Nat) : Int) == ((W v : Nat) : Int))) = true := by simp
  repeat (first | (apply s_box; rfl; constructor; rfl; intro _) | (apply s_alloc; rfl; intro _) | (apply s_store; rfl; rfl; (repeat (first | exact List.Mem.head _ | apply List.Mem.tail)); constructor; (focus ((simp only [setAt, List.set_cons_zero, List.set_cons_succ, Nat.zero_add, Nat.reduceAdd]); try rfl)); (repeat (first | exact MUpd.hit | apply MUpd.miss)); kernel_rfl; rfl) | (apply g_new; rfl; intro _) | apply s_st | apply q_st | apply st_go | (apply st_off; rfl) | (apply st_on; rfl) | (apply st_offe; rfl; assumption; rfl) | (apply st_if4; rfl; intro h1 h2 h3 h4; (try simp only [h1, h2, h3, h4, gv_true, gv_tt]); (try simp only [h1, h2, h3, h4, gv_true, gv_tt, Bool.true_and])) | (apply st_if3; rfl; intro h1 h2 h3; (try simp only [h1, h2, h3, gv_true, gv_tt]); (try simp only [h1, h2, h3, gv_true, gv_tt, Bool.true_and])) | (apply st_if2; rfl; intro h1 h2; (try simp only [h1, h2, gv_true, gv_tt])) | (apply st_if; rfl; intro h1; (try simp only [h1, gv_true, gv_tt])) | (focus (first | (apply y_move; rfl) | (apply y_assign; rfl) | (apply y_not; rfl) | (apply y_load; rfl; (repeat (first | exact List.Mem.head _ | apply List.Mem.tail)); (repeat (first | exact Sub.nil | apply Sub.take | apply Sub.drop)); done) | (apply y_cell; rfl; (repeat (first | exact List.Mem.head _ | apply List.Mem.tail)); (repeat (first | exact At.hit | apply At.miss)); kernel_rfl; done) | (apply y_calls; rfl; rfl; rfl; assumption; done) | (apply y_and; rfl; rfl; done) | (apply y_or; rfl; rfl; done) | (apply y_and_f; rfl; done) | (apply y_or_t; rfl; done) | (apply y_and_fe; rfl; assumption; done) | (apply y_or_te; rfl; assumption; done) | (apply y_fcell; kernel_rfl; rfl; (repeat (first | exact At.hit | apply At.miss)); done) | (apply y_faddr; kernel_rfl; rfl) | (apply y_eq; rfl; rfl) | (apply y_add; rfl; rfl) | (apply y_eqs; rfl; rfl; kernel_rfl; exact inferInstance) | (apply y_beq; kernel_rfl; rfl; rfl) | (apply y_build; kernel_rfl; (repeat (first | exact Bld.nil | (apply Bld.cons; exact inferInstance; rfl; constructor; kernel_rfl; (focus ((simp only [setAt, List.set_cons_zero, List.set_cons_succ, Nat.zero_add, Nat.reduceAdd]); try rfl))))); done))) | apply q_nil | apply s_nil | apply w_seq | apply f_then | apply f_ret | apply w_skip | apply w_ret | refine w_cond_f rfl ?_ | refine w_cond_t rfl ?_ | (apply w_cond_tt; rfl; assumption) | (apply w_cond_ff; rfl; assumption) | (apply f_end; rfl; rfl; intro w hw; first | exact ans hw | exact ans_b (by assumption) hw) | ((first | (apply f_ends; rfl) | (apply f_ends1; rfl)); (repeat (first | exact Res.nil | (apply Res.tmp; rfl) | (apply Res.agg; exact inferInstance; rfl; (repeat (first | exact List.Mem.head _ | apply List.Mem.tail)); (repeat (first | exact Sub.nil | apply Sub.take | apply Sub.drop))) | (apply Res.cell; kernel_rfl; rfl; (repeat (first | exact List.Mem.head _ | apply List.Mem.tail)); (repeat (first | exact At.hit | apply At.miss))))); intro w hw; exact ans hw) | (apply w_draw_l; kernel_rfl; rfl; kernel_rfl) | (apply w_mixed_l; kernel_rfl; kernel_rfl) | (apply g_st; intro W0) | apply g_done | apply w_reg_l | exact rfl)
theorem sibling_pk (v : Bool) (d : Nat → Bool) (c : Nat) (hc : c + 1 ≤ W v) : Cal Try.prog 45 [.agg #[.int .u64 (hiA v (cutd d (c + 1))), .int .u64 (loA v (cutd d (c + 1))), .bool v, .int .i64 (((c + 1) : Nat) : Int)]] (.tuple #[.agg #[.int .u64 (hiA v (cutd (putd d c (!d c)) (c + 1))), .int .u64 (loA v (cutd (putd d c (!d c)) (c + 1))), .bool v, .int .i64 (((c + 1) : Nat) : Int)], .bool true]) := by
  refine Cal.mk fun Wo => enter (F := fun _ => False) Try.func45 rfl Try.ntmps45 rfl ?_
  have k1 := parent_pk v d c hc
  have k2 := bit_s (u_mk v (cutd d (c + 1))) v (c : Int)
  rw [bitA_mk, decide_eq_true (show c < W v by omega), Bool.true_and, cutd_lt (show c < c + 1 by omega)] at k2
  have k3 := child_pk v d c (by omega) (IntKind.i64.wrap (bitI (d c) + 1))
  rw [setv_next] at k3
  repeat (first | (apply s_box; rfl; constructor; rfl; intro _) | (apply s_alloc; rfl; intro _) | (apply s_store; rfl; rfl; (repeat (first | exact List.Mem.head _ | apply List.Mem.tail)); constructor; (focus ((simp only [setAt, List.set_cons_zero, List.set_cons_succ, Nat.zero_add, Nat.reduceAdd]); try rfl)); (repeat (first | exact MUpd.hit | apply MUpd.miss)); kernel_rfl; rfl) | (apply g_new; rfl; intro _) | apply s_st | apply q_st | apply st_go | (focus (first | (apply y_move; rfl) | (apply y_assign; rfl) | (apply y_not; rfl) | (apply y_load; rfl; (repeat (first | exact List.Mem.head _ | apply List.Mem.tail)); (repeat (first | exact Sub.nil | apply Sub.take | apply Sub.drop)); done) | (apply y_cell; rfl; (repeat (first | exact List.Mem.head _ | apply List.Mem.tail)); (repeat (first | exact At.hit | apply At.miss)); kernel_rfl; done) | (apply y_calls; rfl; rfl; rfl; assumption; done) | (apply y_extract; rfl; (repeat (first | exact At.hit | apply At.miss)); done) | (apply y_fcell; kernel_rfl; rfl; (repeat (first | exact At.hit | apply At.miss)); done) | (apply y_faddr; kernel_rfl; rfl) | (apply y_add; rfl; rfl) | (apply y_build; kernel_rfl; (repeat (first | exact Bld.nil | (apply Bld.cons; exact inferInstance; rfl; constructor; kernel_rfl; (focus ((simp only [setAt, List.set_cons_zero, List.set_cons_succ, Nat.zero_add, Nat.reduceAdd]); try rfl))))); done))) | apply q_nil | apply s_nil | apply w_seq | apply f_then | apply f_ret | apply w_skip | apply w_ret | refine w_cond_f rfl ?_ | refine w_cond_t rfl ?_ | (apply w_cond_tt; rfl; assumption) | (apply w_cond_ff; rfl; assumption) | (apply f_end; rfl; rfl; intro w hw; first | exact ans hw | exact ans_b (by assumption) hw) | ((first | (apply f_ends; rfl) | (apply f_ends1; rfl)); (repeat (first | exact Res.nil | (apply Res.tmp; rfl) | (apply Res.agg; exact inferInstance; rfl; (repeat (first | exact List.Mem.head _ | apply List.Mem.tail)); (repeat (first | exact Sub.nil | apply Sub.take | apply Sub.drop))) | (apply Res.cell; kernel_rfl; rfl; (repeat (first | exact List.Mem.head _ | apply List.Mem.tail)); (repeat (first | exact At.hit | apply At.miss))))); intro w hw; exact ans hw) | (apply w_draw_l; kernel_rfl; rfl; kernel_rfl) | (apply w_mixed_l; kernel_rfl; kernel_rfl) | (apply g_st; intro W0) | apply g_done | apply w_reg_l | exact rfl)
theorem mn2_nat (a b : Nat) : mn2 (a : Int) (b : Int) = ((min a b : Nat) : Int) := by unfold mn2; split <;> omega
theorem join_pk (v : Bool) (d : Nat → Bool) (c : Nat) (hc : c ≤ W v) (e : Nat → Bool) (m : Nat) (hm : m ≤ W v) (k : Nat) (hk : k = min (min c m) (cmn (cutd d c) (cutd e m) (W v))) : Cal Try.prog 35 [.agg #[.int .u64 (hiA v (cutd d c)), .int .u64 (loA v (cutd d c)), .bool v, .int .i64 ((c : Nat) : Int)], .agg #[.int .u64 (hiA v (cutd e m)), .int .u64 (loA v (cutd e m)), .bool v, .int .i64 ((m : Nat) : Int)]] (.tuple #[.agg #[.int .u64 (hiA v (cutd d k)), .int .u64 (loA v (cutd d k)), .bool v, .int .i64 ((k : Nat) : Int)], .bool true]) := by
  refine Cal.mk fun Wo => enter (F := fun _ => False) Try.func35 rfl Try.ntmps35 rfl ?_
  have k1 := sane_pk v d c hc
  have k2 := sane_pk v e m hm
  have k3 := common_s (u_mk v (cutd d c)) (u_mk v (cutd e m)) v v
  have hcm : commonA (hiA v (cutd d c)) (loA v (cutd d c)) v (hiA v (cutd e m)) (loA v (cutd e m)) v = ((cmn (cutd d c) (cutd e m) (W v) : Nat) : Int) := by
    unfold commonA
    rw [if_pos rfl]
    exact congrArg _ (cmn_congr fun i hi => by rw [D_mk, D_mk, decide_eq_true hi, Bool.true_and, Bool.true_and])
  rw [hcm] at k3
  have k4 := of_pk v d c k (by omega) hc (x := mn2 (mn2 (c : Int) (m : Int)) ((cmn (cutd d c) (cutd e m) (W v) : Nat) : Int)) (by rw [mn2_nat, mn2_nat, hk])
  have hE : (((v != v) || !true) || !true) = false := by simp
  repeat (first | (apply s_box; rfl; constructor; rfl; intro _) | (apply s_alloc; rfl; intro _) | (apply s_store; rfl; rfl; (repeat (first | exact List.Mem.head _ | apply List.Mem.tail)); constructor; (focus ((simp only [setAt, List.set_cons_zero, List.set_cons_succ, Nat.zero_add, Nat.reduceAdd]); try rfl)); (repeat (first | exact MUpd.hit | apply MUpd.miss)); kernel_rfl; rfl) | (apply g_new; rfl; intro _) | apply s_st | apply q_st | apply st_go | (apply st_off; rfl) | (apply st_on; rfl) | (apply st_offe; rfl; assumption; rfl) | (apply st_if4; rfl; intro h1 h2 h3 h4; (try simp only [h1, h2, h3, h4, gv_true, gv_tt]); (try simp only [h1, h2, h3, h4, gv_true, gv_tt, Bool.true_and])) | (apply st_if3; rfl; intro h1 h2 h3; (try simp only [h1, h2, h3, gv_true, gv_tt]); (try simp only [h1, h2, h3, gv_true, gv_tt, Bool.true_and])) | (apply st_if2; rfl; intro h1 h2; (try simp only [h1, h2, gv_true, gv_tt])) | (apply st_if; rfl; intro h1; (try simp only [h1, gv_true, gv_tt])) | (focus (first | (apply y_move; rfl) | (apply y_assign; rfl) | (apply y_not; rfl) | (apply y_load; rfl; (repeat (first | exact List.Mem.head _ | apply List.Mem.tail)); (repeat (first | exact Sub.nil | apply Sub.take | apply Sub.drop)); done) | (apply y_cell; rfl; (repeat (first | exact List.Mem.head _ | apply List.Mem.tail)); (repeat (first | exact At.hit | apply At.miss)); kernel_rfl; done) | (apply y_calls; rfl; rfl; rfl; assumption; done) | (apply y_and; rfl; rfl; done) | (apply y_or; rfl; rfl; done) | (apply y_and_f; rfl; done) | (apply y_or_t; rfl; done) | (apply y_and_fe; rfl; assumption; done) | (apply y_or_te; rfl; assumption; done) | (apply y_fcell; kernel_rfl; rfl; (repeat (first | exact At.hit | apply At.miss)); done) | (apply y_faddr; kernel_rfl; rfl) | (apply y_ne; rfl; rfl) | (apply y_nes; rfl; rfl; kernel_rfl; exact inferInstance) | (apply y_bne; kernel_rfl; rfl; rfl) | (apply y_min2; rfl) | (apply y_min3; rfl) | (apply y_build; kernel_rfl; (repeat (first | exact Bld.nil | (apply Bld.cons; exact inferInstance; rfl; constructor; kernel_rfl; (focus ((simp only [setAt, List.set_cons_zero, List.set_cons_succ, Nat.zero_add, Nat.reduceAdd]); try rfl))))); done))) | apply q_nil | apply s_nil | apply w_seq | apply f_then | apply f_ret | apply w_skip | apply w_ret | refine w_cond_f rfl ?_ | refine w_cond_t rfl ?_ | (apply w_cond_tt; rfl; assumption) | (apply w_cond_ff; rfl; assumption) | (apply f_end; rfl; rfl; intro w hw; first | exact ans hw | exact ans_b (by assumption) hw) | ((first | (apply f_ends; rfl) | (apply f_ends1; rfl)); (repeat (first | exact Res.nil | (apply Res.tmp; rfl) | (apply Res.agg; exact inferInstance; rfl; (repeat (first | exact List.Mem.head _ | apply List.Mem.tail)); (repeat (first | exact Sub.nil | apply Sub.take | apply Sub.drop))) | (apply Res.cell; kernel_rfl; rfl; (repeat (first | exact List.Mem.head _ | apply List.Mem.tail)); (repeat (first | exact At.hit | apply At.miss))))); intro w hw; exact ans hw) | (apply w_draw_l; kernel_rfl; rfl; kernel_rfl) | (apply w_mixed_l; kernel_rfl; kernel_rfl) | (apply g_st; intro W0) | apply g_done | apply w_reg_l | exact rfl)
theorem join_no {a0 a1 b0 b1 : Int} (ha : u64 a0 ∧ u64 a1) (hb : u64 b0 ∧ u64 b1) (a2 : Bool) (a3 : Int) (b2 : Bool) (b3 : Int) (h : (((a2 != b2) || !saneB a0 a1 a2 a3) || !saneB b0 b1 b2 b3) = true) :
    Cal Try.prog 35 [.agg #[.int .u64 a0, .int .u64 a1, .bool a2, .int .i64 a3], .agg #[.int .u64 b0, .int .u64 b1, .bool b2, .int .i64 b3]] (.tuple #[.agg #[.int .u64 0, .int .u64 0, .bool false, .int .i64 0], .bool false]) := by
  refine Cal.mk fun Wo => enter (F := fun _ => False) Try.func35 rfl Try.ntmps35 rfl ?_
  have k1 := sane_s ha a2 a3
  have k2 := sane_s hb b2 b3
  repeat (first | (apply s_box; rfl; constructor; rfl; intro _) | (apply s_alloc; rfl; intro _) | (apply s_store; rfl; rfl; (repeat (first | exact List.Mem.head _ | apply List.Mem.tail)); constructor; (focus ((simp only [setAt, List.set_cons_zero, List.set_cons_succ, Nat.zero_add, Nat.reduceAdd]); try rfl)); (repeat (first | exact MUpd.hit | apply MUpd.miss)); kernel_rfl; rfl) | (apply g_new; rfl; intro _) | apply s_st | apply q_st | apply st_go | (apply st_off; rfl) | (apply st_on; rfl) | (apply st_offe; rfl; assumption; rfl) | (apply st_if4; rfl; intro h1 h2 h3 h4; (try simp only [h1, h2, h3, h4, gv_true, gv_tt]); (try simp only [h1, h2, h3, h4, gv_true, gv_tt, Bool.true_and])) | (apply st_if3; rfl; intro h1 h2 h3; (try simp only [h1, h2, h3, gv_true, gv_tt]); (try simp only [h1, h2, h3, gv_true, gv_tt, Bool.true_and])) | (apply st_if2; rfl; intro h1 h2; (try simp only [h1, h2, gv_true, gv_tt])) | (apply st_if; rfl; intro h1; (try simp only [h1, gv_true, gv_tt])) | (focus (first | (apply y_move; rfl) | (apply y_assign; rfl) | (apply y_not; rfl) | (apply y_load; rfl; (repeat (first | exact List.Mem.head _ | apply List.Mem.tail)); (repeat (first | exact Sub.nil | apply Sub.take | apply Sub.drop)); done) | (apply y_cell; rfl; (repeat (first | exact List.Mem.head _ | apply List.Mem.tail)); (repeat (first | exact At.hit | apply At.miss)); kernel_rfl; done) | (apply y_calls; rfl; rfl; rfl; assumption; done) | (apply y_and; rfl; rfl; done) | (apply y_or; rfl; rfl; done) | (apply y_and_f; rfl; done) | (apply y_or_t; rfl; done) | (apply y_and_fe; rfl; assumption; done) | (apply y_or_te; rfl; assumption; done) | (apply y_fcell; kernel_rfl; rfl; (repeat (first | exact At.hit | apply At.miss)); done) | (apply y_faddr; kernel_rfl; rfl) | (apply y_ne; rfl; rfl) | (apply y_nes; rfl; rfl; kernel_rfl; exact inferInstance) | (apply y_bne; kernel_rfl; rfl; rfl) | (apply y_min2; rfl) | (apply y_min3; rfl) | (apply y_build; kernel_rfl; (repeat (first | exact Bld.nil | (apply Bld.cons; exact inferInstance; rfl; constructor; kernel_rfl; (focus ((simp only [setAt, List.set_cons_zero, List.set_cons_succ, Nat.zero_add, Nat.reduceAdd]); try rfl))))); done))) | apply q_nil | apply s_nil | apply w_seq | apply f_then | apply f_ret | apply w_skip | apply w_ret | refine w_cond_f rfl ?_ | refine w_cond_t rfl ?_ | (apply w_cond_tt; rfl; assumption) | (apply w_cond_ff; rfl; assumption) | (apply f_end; rfl; rfl; intro w hw; first | exact ans hw | exact ans_b (by assumption) hw) | ((first | (apply f_ends; rfl) | (apply f_ends1; rfl)); (repeat (first | exact Res.nil | (apply Res.tmp; rfl) | (apply Res.agg; exact inferInstance; rfl; (repeat (first | exact List.Mem.head _ | apply List.Mem.tail)); (repeat (first | exact Sub.nil | apply Sub.take | apply Sub.drop))) | (apply Res.cell; kernel_rfl; rfl; (repeat (first | exact List.Mem.head _ | apply List.Mem.tail)); (repeat (first | exact At.hit | apply At.miss))))); intro w hw; exact ans hw) | (apply w_draw_l; kernel_rfl; rfl; kernel_rfl) | (apply w_mixed_l; kernel_rfl; kernel_rfl) | (apply g_st; intro W0) | apply g_done | apply w_reg_l | exact rfl)
end Go.Proofs.Ytbaeaiiohkfieaa.Hand
/-
  kedgelaw02.awake answers true, walked by symbolic steps.
-/
namespace Go.Proofs.Ytbaeaiiohkfieaa.Hand
open Go.RowKit Go.Proofs.YtbaeaiiohkfieaaW.PrintWords Go.Proofs.YtbaeaiiohkfieaaW.PrintLast Go.Proofs.Ytbaeaiiohkfieaa.Bits Go.Proofs.Ytbaeaiiohkfieaa.Dig Go.Proofs.Ytbaeaiiohkfieaa.Sq
set_option linter.unusedVariables false
set_option linter.unusedSimpArgs false
set_option maxRecDepth 100000
set_option maxHeartbeats 4000000
theorem reads_of_block {w : World} {g : Nat} {l : List Int} {t : TypeId} (hl : l.length ≤ 9223372036854775807) (h : w.heap[g]? = some (.cells (l.map (Value.int .u8)).toArray t (0, 0))) : (Kd.int .u8).C w (some ⟨g, 0, none⟩) l.length l :=
  ⟨rfl, hl, fun _ => ⟨_, rfl, fun j p hj => ⟨[.int .u8 p], rfl, rfl, fun i u hu => by
    cases i with
    | succ i => cases hu
    | zero =>
      cases hu
      have ha : (Addr.add ⟨g, 0, none⟩ (j * (Kd.int .u8).sz + 0)) = ⟨g, j, none⟩ := by
        have : (Kd.int .u8).sz = 1 := rfl
        rw [this, Nat.mul_one, Nat.add_zero, Addr.add_mid, Nat.zero_add]
      rw [ha, cell_of_row w g _ _ _ _ h]
      simp [hj]⟩⟩⟩
theorem from_s (l : List Int) (v6 : Bool) (t : TypeId) (hl : l.length = if v6 then 16 else 4) (h : ∀ i : Nat, i < l.length → 0 ≤ rd l i ∧ rd l i < 256) : SCal Try.prog 27 (l.map (Value.int .u8)) t l.length l.length (.tuple #[.agg #[.int .u64 (hiA v6 (byD l)), .int .u64 (loA v6 (byD l)), .bool v6], .int .i64 0]) :=
  SCal.mk fun g w hg => addr_From.calls _ _ l _ _ _ _ w (reads_of_block (by cases v6 <;> simp_all) hg) (Nat.le_refl _) (From_f l v6 hl h)
theorem awake02_s : Cal Try.prog 22 [] (.bool true) := by
  refine Cal.mk fun Wo => enter (F := fun _ => False) Try.func22 rfl Try.ntmps22 rfl ?_
  have b1 : BSl Try.prog 40 4 [(0, .int .u8 10), (1, .int .u8 0), (2, .int .u8 0), (3, .int .u8 0)] [.int .u8 10, .int .u8 0, .int .u8 0, .int .u8 0] 5 := BSl.mk fun w => by kernel_rfl
  have b2 : BSl Try.prog 40 4 [(0, .int .u8 10), (1, .int .u8 1), (2, .int .u8 0), (3, .int .u8 0)] [.int .u8 10, .int .u8 1, .int .u8 0, .int .u8 0] 5 := BSl.mk fun w => by kernel_rfl
  have b3 : BSl Try.prog 40 4 [(0, .int .u8 11), (1, .int .u8 0), (2, .int .u8 0), (3, .int .u8 0)] [.int .u8 11, .int .u8 0, .int .u8 0, .int .u8 0] 5 := BSl.mk fun w => by kernel_rfl
  have f1 := from_s [10, 0, 0, 0] false 5 rfl (by decide)
  have f2 := from_s [10, 1, 0, 0] false 5 rfl (by decide)
  have f3 := from_s [11, 0, 0, 0] false 5 rfl (by decide)
  simp only [List.map_cons, List.map_nil, List.length_cons, List.length_nil, Nat.zero_add, Nat.reduceAdd] at f1 f2 f3
  have mk : ∀ (l : List Int) (c : Nat) (hc : c ≤ 32), Cal Try.prog 23 [.agg #[.int .u64 (hiA false (byD l)), .int .u64 (loA false (byD l)), .bool false], .int .i64 ((c : Nat) : Int)] (.agg #[.int .u64 (hiA false (cutd (byD l) c)), .int .u64 (loA false (cutd (byD l) c)), .bool false, .int .i64 ((c : Nat) : Int)]) := fun l c hc => by
    have h := of_s (u_mk false (byD l)) false (c : Int)
    have e : ∀ i, i < W false → cutd (D (hiA false (byD l)) (loA false (byD l))) c i = cutd (byD l) c i := fun i hi => by unfold cutd; rw [D_mk, decide_eq_true hi, Bool.true_and]
    rw [clampW_in (show c ≤ W false by rw [W_f]; exact hc), hi_congr e, lo_congr e] at h
    exact h
  have k1 := mk [10, 0, 0, 0] 8 (by decide)
  have k2 := mk [10, 1, 0, 0] 16 (by decide)
  have k3 := mk [11, 0, 0, 0] 8 (by decide)
  clear mk
  have k4 := sibling_pk false (byD [10, 0, 0, 0]) 7 (by decide)
  have k5 := covers_s (u_mk false (cutd (byD [10, 0, 0, 0]) 8)) (u_mk false (cutd (byD [10, 1, 0, 0]) 16)) false ((8 : Nat) : Int) false ((16 : Nat) : Int)
  have k6 := sane_pk false (putd (byD [10, 0, 0, 0]) 7 (!byD [10, 0, 0, 0] 7)) 8 (by decide)
  rw [covB_pk false _ 8 (by decide) false _ 16 (by decide), show (decide (8 ≤ 16) && conD false (byD [10, 0, 0, 0]) 8 false (byD [10, 1, 0, 0])) = true by
    rw [Bool.and_eq_true, conD_true]
    exact ⟨by decide, rfl, by decide⟩] at k5
  rw [show (7 + 1 : Nat) = 8 from rfl] at k4
  have e1 : ∀ i, i < W false → cutd (putd (byD [10, 0, 0, 0]) 7 (!byD [10, 0, 0, 0] 7)) 8 i = cutd (byD [11, 0, 0, 0]) 8 i := by decide
  rw [hi_congr e1, lo_congr e1] at k4 k6
  have hF : ((((true && true) && ((hiA false (cutd (byD [11, 0, 0, 0]) 8) == hiA false (cutd (byD [11, 0, 0, 0]) 8) && (loA false (cutd (byD [11, 0, 0, 0]) 8) == loA false (cutd (byD [11, 0, 0, 0]) 8) && false == false)) && ((8 : Nat) : Int) == ((8 : Nat) : Int))) && true) && (((8 : Nat) : Int) == 8)) = true := by simp
  clear e1
  repeat (first | (apply s_alloc; rfl; intro _) | (apply s_bslice; rfl; assumption; rfl; intro _) | (apply s_store; rfl; rfl; (repeat (first | exact List.Mem.head _ | apply List.Mem.tail)); constructor; (focus ((simp only [setAt, List.set_cons_zero, List.set_cons_succ, Nat.zero_add, Nat.reduceAdd]); try rfl)); (repeat (first | exact MUpd.hit | apply MUpd.miss)); kernel_rfl; rfl) | (apply g_new; rfl; intro _) | apply s_st | apply q_st | apply st_go | (apply st_off; rfl) | (apply st_on; rfl) | (apply st_offe; rfl; assumption; rfl) | (apply st_if4; rfl; intro h1 h2 h3 h4; (try simp only [h1, h2, h3, h4, gv_true, gv_tt]); (try simp only [h1, h2, h3, h4, gv_true, gv_tt, Bool.true_and])) | (apply st_if3; rfl; intro h1 h2 h3; (try simp only [h1, h2, h3, gv_true, gv_tt]); (try simp only [h1, h2, h3, gv_true, gv_tt, Bool.true_and])) | (apply st_if2; rfl; intro h1 h2; (try simp only [h1, h2, gv_true, gv_tt])) | (apply st_if; rfl; intro h1; (try simp only [h1, gv_true, gv_tt])) | (focus (first | (apply y_move; rfl) | (apply y_assign; rfl) | (apply y_load; rfl; (repeat (first | exact List.Mem.head _ | apply List.Mem.tail)); (repeat (first | exact Sub.nil | apply Sub.take | apply Sub.drop)); done) | (apply y_cell; rfl; (repeat (first | exact List.Mem.head _ | apply List.Mem.tail)); (repeat (first | exact At.hit | apply At.miss)); kernel_rfl; done) | (apply y_calls; rfl; rfl; rfl; assumption; done) | (apply y_scal; rfl; rfl; rfl; (repeat (first | exact List.Mem.head _ | apply List.Mem.tail)); assumption; done) | (apply y_and; rfl; rfl; done) | (apply y_or; rfl; rfl; done) | (apply y_and_f; rfl; done) | (apply y_or_t; rfl; done) | (apply y_and_fe; rfl; assumption; done) | (apply y_or_te; rfl; assumption; done) | (apply y_extract; rfl; (repeat (first | exact At.hit | apply At.miss)); done) | (apply y_fcell; kernel_rfl; rfl; (repeat (first | exact At.hit | apply At.miss)); done) | (apply y_faddr; kernel_rfl; rfl) | (apply y_eq; rfl; rfl) | (apply y_eqs; rfl; rfl; kernel_rfl; exact inferInstance) | (apply y_beq; kernel_rfl; rfl; rfl))) | apply q_nil | apply s_nil | apply w_seq | apply f_then | apply f_ret | apply w_ret | (apply f_end; rfl; rfl; intro w hw; first | exact ans hw | exact ans_b (by assumption) hw) | (apply w_draw_l; kernel_rfl; rfl; kernel_rfl) | (apply w_mixed_l; kernel_rfl; kernel_rfl) | (apply g_st; intro W0) | apply g_done | apply w_reg_l | exact rfl)
end Go.Proofs.Ytbaeaiiohkfieaa.Hand
/-
  Package prefix's Compare, and package addr's Sane and Next, walked by symbolic steps.
-/
namespace Go.Proofs.Ytbaeaiiohkfieaa.Hand
open Go.RowKit Go.Proofs.YtbaeaiiohkfieaaW.PrintWords Go.Proofs.YtbaeaiiohkfieaaW.PrintLast Go.Proofs.Ytbaeaiiohkfieaa.Bits Go.Proofs.Ytbaeaiiohkfieaa.Dig Go.Proofs.Ytbaeaiiohkfieaa.Sq
set_option linter.unusedVariables false
set_option linter.unusedSimpArgs false
set_option maxRecDepth 100000
set_option maxHeartbeats 4000000
theorem asane_s {a0 a1 : Int} (h : u64 a0 ∧ u64 a1) (a2 : Bool) : Cal Try.prog 19 [.agg #[.int .u64 a0, .int .u64 a1, .bool a2]] (.bool (decide (sane a0 a1 a2))) := Cal.mk fun w => addr_Sane.calls a0 a1 a2 _ w (Sane_f h a2)
theorem next_s {a0 a1 : Int} (h : u64 a0 ∧ u64 a1) (a2 : Bool) : Cal Try.prog 38 [.agg #[.int .u64 a0, .int .u64 a1, .bool a2]] (.tuple #[.agg #[.int .u64 (nextA a0 a1 a2).1, .int .u64 (nextA a0 a1 a2).2.1, .bool (nextA a0 a1 a2).2.2.1], .bool (nextA a0 a1 a2).2.2.2]) := Cal.mk fun w => next_c a0 a1 a2 h.1 h.2 w
theorem cmpi_s (a b : Int) : Cal Try.prog 53 [.int .i64 a, .int .i64 b] (.int .i64 (c3 a b)) := Cal.mk fun w => (cmpi_c a b w).mono fun _ _ ⟨he, hw⟩ => ⟨he, hw ▸ Below.refl _ _⟩
/-- The first of two numbers that is not nought. -/
def or2 (a b : Int) : Int := if a = 0 then b else a
theorem or2_c (g : Nat) (a b : Int) (w : World) (h0 : w.cell? ⟨g, 0, none⟩ = some (.int .i64 a)) (h1 : w.cell? ⟨g, 1, none⟩ = some (.int .i64 b)) :
    Calls Try.prog 52 #[.slice (some ⟨g, 0, none⟩) 2 2] w fun e w' => e = .returned (.int .i64 (or2 a b)) ∧ w = w' := by
  by_cases ha : a = 0
  · have ka : (a != 0) = false := bne_eq_false_iff_eq.mpr ha
    rw [show or2 a b = b by unfold or2; rw [if_pos ha]]
    clear ha
    by_cases hb : b = 0
    · have kb : (b != 0) = false := bne_eq_false_iff_eq.mpr hb
      rw [hb]
      clear hb
      go_enter Try.func52, Try.ntmps52
      go_wp2
      refine wp_loop_rounds 3 ?_
      iterate 3 (rw [rounds_succ]; go_wp2)
      go_ret
      exact ⟨rfl, rfl⟩
    · have kb : (b != 0) = true := bne_iff_ne.mpr hb
      clear hb
      go_enter Try.func52, Try.ntmps52
      go_wp2
      refine wp_loop_rounds 3 ?_
      iterate 2 (rw [rounds_succ]; go_wp2)
      go_ret
      exact ⟨rfl, rfl⟩
  · have ka : (a != 0) = true := bne_iff_ne.mpr ha
    rw [show or2 a b = a by unfold or2; rw [if_neg ha]]
    clear ha
    go_enter Try.func52, Try.ntmps52
    go_wp2
    refine wp_loop_rounds 3 ?_
    iterate 1 (rw [rounds_succ]; go_wp2)
    go_ret
    exact ⟨rfl, rfl⟩
theorem or2_s (a b : Int) (t : TypeId) : SCal Try.prog 52 [.int .i64 a, .int .i64 b] t 2 2 (.int .i64 (or2 a b)) :=
  SCal.mk fun g w hg => (or2_c g a b w (by rw [cell_of_row w g _ _ _ _ hg]; rfl) (by rw [cell_of_row w g _ _ _ _ hg]; rfl)).mono fun _ _ ⟨he, hw⟩ => ⟨he, hw ▸ Below.refl _ _⟩
theorem bsl2 (a b : Int) : BSl Try.prog 65 2 [(0, .int .i64 a), (1, .int .i64 b)] [.int .i64 a, .int .i64 b] 3 := BSl.mk fun w => by kernel_rfl
noncomputable def pcompA (a0 a1 : Int) (a2 : Bool) (a3 b0 b1 : Int) (b2 : Bool) (b3 : Int) : Int := or2 (compA a0 a1 a2 b0 b1 b2) (c3 a3 b3)
theorem pcompare_s {a0 a1 b0 b1 : Int} (ha : u64 a0 ∧ u64 a1) (hb : u64 b0 ∧ u64 b1) (a2 : Bool) (a3 : Int) (b2 : Bool) (b3 : Int) : Cal Try.prog 39 [.agg #[.int .u64 a0, .int .u64 a1, .bool a2, .int .i64 a3], .agg #[.int .u64 b0, .int .u64 b1, .bool b2, .int .i64 b3]] (.int .i64 (pcompA a0 a1 a2 a3 b0 b1 b2 b3)) := by
  refine Cal.mk fun Wo => enter (F := fun _ => False) Try.func39 rfl Try.ntmps39 rfl ?_
  have k1 := compare_s ha hb a2 b2
  have k2 := cmpi_s a3 b3
  have k3 := bsl2 (compA a0 a1 a2 b0 b1 b2) (c3 a3 b3)
  have k4 := or2_s (compA a0 a1 a2 b0 b1 b2) (c3 a3 b3) 3
  repeat (first | (apply s_box; rfl; constructor; rfl; intro _) | (apply s_bslice; rfl; assumption; rfl; intro _) | (apply g_new; rfl; intro _) | apply s_st | apply q_st | apply st_go | (focus (first | (apply y_assign; rfl) | (apply y_load; rfl; (repeat (first | exact List.Mem.head _ | apply List.Mem.tail)); (repeat (first | exact Sub.nil | apply Sub.take | apply Sub.drop)); done) | (apply y_cell; rfl; (repeat (first | exact List.Mem.head _ | apply List.Mem.tail)); (repeat (first | exact At.hit | apply At.miss)); kernel_rfl; done) | (apply y_calls; rfl; rfl; rfl; assumption; done) | (apply y_scal; rfl; rfl; rfl; (repeat (first | exact List.Mem.head _ | apply List.Mem.tail)); assumption; done) | (apply y_fcell; kernel_rfl; rfl; (repeat (first | exact At.hit | apply At.miss)); done) | (apply y_faddr; kernel_rfl; rfl))) | apply q_nil | apply s_nil | apply w_seq | apply f_then | apply f_ret | apply w_ret | (apply f_end; rfl; rfl; intro w hw; first | exact ans hw | exact ans_b (by assumption) hw) | (apply w_draw_l; kernel_rfl; rfl; kernel_rfl) | (apply w_mixed_l; kernel_rfl; kernel_rfl) | (apply g_st; intro W0) | apply g_done | apply w_reg_l | exact rfl)
end Go.Proofs.Ytbaeaiiohkfieaa.Hand
/-
  Plain laws on prefixes told by digits: apart, and the ends.
-/
namespace Go.Proofs.Ytbaeaiiohkfieaa.Hand
open Go.RowKit Go.Proofs.YtbaeaiiohkfieaaW.PrintWords Go.Proofs.YtbaeaiiohkfieaaW.PrintLast Go.Proofs.Ytbaeaiiohkfieaa.Bits Go.Proofs.Ytbaeaiiohkfieaa.Dig Go.Proofs.Ytbaeaiiohkfieaa.Sq
set_option linter.unusedVariables false
set_option linter.unusedSimpArgs false
set_option maxRecDepth 100000
set_option maxHeartbeats 4000000
theorem wf_u64 {n : Int} (h : (Lit.int .u64 n).wf = true) : u64 n := by
  simp [Lit.wf, IntKind.min, IntKind.max, IntKind.bits, IntKind.signed] at h
  constructor <;> omega
theorem apaB_pk (v : Bool) (d : Nat → Bool) (c : Nat) (hc : c ≤ W v) (u : Bool) (e : Nat → Bool) (m : Nat) (hm : m ≤ W u) : apaB (hiA v (cutd d c)) (loA v (cutd d c)) v c (hiA u (cutd e m)) (loA u (cutd e m)) u m = (!(decide (c ≤ m) && conD v d c u e) && !(decide (m ≤ c) && conD u e m v d)) := by
  unfold apaB
  rw [saneB_pk v d c hc, saneB_pk u e m hm, Bool.true_and, Bool.true_and]
  by_cases h : v = u
  · subst h
    have hcm : cmn (D (hiA v (cutd d c)) (loA v (cutd d c))) (D (hiA v (cutd e m)) (loA v (cutd e m))) (W v) = cmn (cutd d c) (cutd e m) (W v) := cmn_congr fun i hi => by rw [D_cut v d c i hi, D_cut v e m i hi]
    unfold commonA
    rw [if_pos rfl, hcm, mn2_nat, bne_self_eq_false, Bool.false_or]
    have hl := cmn_le (cutd d c) (cutd e m) (W v)
    have ha := cmn_alike (cutd d c) (cutd e m) (W v)
    have he := cmn_end (cutd d c) (cutd e m) (W v)
    generalize cmn (cutd d c) (cutd e m) (W v) = K at hl ha he
    by_cases hK : K < min c m
    · have hne := he (by omega)
      rw [cutd_lt (by omega), cutd_lt (by omega)] at hne
      rw [decide_eq_true (by omega : (K : Int) < ((min c m : Nat) : Int))]
      have n1 : conD v d c v e = false := Bool.eq_false_iff.mpr fun h => hne ((conD_true.mp h).2 K (by omega))
      have n2 : conD v e m v d = false := Bool.eq_false_iff.mpr fun h => hne ((conD_true.mp h).2 K (by omega)).symm
      rw [n1, n2, Bool.and_false, Bool.and_false]; rfl
    · rw [decide_eq_false (by omega : ¬ (K : Int) < ((min c m : Nat) : Int))]
      by_cases hm' : c ≤ m
      · have n1 : conD v d c v e = true := conD_true.mpr ⟨rfl, fun i hi => by
          have := ha i (by omega)
          rwa [cutd_lt hi, cutd_lt (by omega)] at this⟩
        rw [n1, decide_eq_true hm']; simp
      · have n1 : conD v e m v d = true := conD_true.mpr ⟨rfl, fun i hi => by
          have := ha i (by omega)
          rw [cutd_lt (by omega), cutd_lt (by omega)] at this
          exact this.symm⟩
        rw [n1, decide_eq_true (show m ≤ c by omega)]; simp
  · have n1 : conD v d c u e = false := Bool.eq_false_iff.mpr fun k => h (conD_true.mp k).1
    have n2 : conD u e m v d = false := Bool.eq_false_iff.mpr fun k => h (conD_true.mp k).1.symm
    rw [n1, n2, Bool.and_false, Bool.and_false, show (v != u) = true from bne_iff_ne.mpr h, Bool.true_or]; rfl
/-- The last one of those with the first c digits. -/
def filD (d : Nat → Bool) (c : Nat) (j : Nat) : Bool := decide (c ≤ j) || d j
theorem ends_pk (v : Bool) (d : Nat → Bool) (c : Nat) (hc : c ≤ W v) : Cal Try.prog 37 [.agg #[.int .u64 (hiA v (cutd d c)), .int .u64 (loA v (cutd d c)), .bool v, .int .i64 ((c : Nat) : Int)]] (.tuple #[.agg #[.int .u64 (hiA v (cutd d c)), .int .u64 (loA v (cutd d c)), .bool v], .agg #[.int .u64 (hiA v (filD d c)), .int .u64 (loA v (filD d c)), .bool v]]) := by
  have h := ends_s (u_mk v (cutd d c)) v (c : Int)
  have e1 : ∀ i, i < W v → (decide ((i : Int) < (c : Int)) && D (hiA v (cutd d c)) (loA v (cutd d c)) i) = cutd d c i := fun i hi => by
    rw [D_cut v d c i hi]
    by_cases h : i < c
    · rw [decide_eq_true (by omega), Bool.true_and]
    · rw [cutd_ge (by omega), Bool.and_false]
  have e2 : ∀ i, i < W v → (decide ((c : Int) ≤ (i : Int)) || D (hiA v (cutd d c)) (loA v (cutd d c)) i) = filD d c i := fun i hi => by
    unfold filD
    rw [D_cut v d c i hi]
    by_cases h : i < c
    · rw [cutd_lt h, show decide ((c : Int) ≤ (i : Int)) = decide (c ≤ i) by rw [decide_eq_decide]; omega]
    · rw [decide_eq_true (show c ≤ i by omega), decide_eq_true (show (c : Int) ≤ (i : Int) by omega)]; rfl
  rw [hi_congr e1, lo_congr e1, hi_congr e2, lo_congr e2] at h
  exact h
theorem of_fil (v : Bool) (d : Nat → Bool) (c : Nat) (hc : c ≤ W v) : Cal Try.prog 23 [.agg #[.int .u64 (hiA v (filD d c)), .int .u64 (loA v (filD d c)), .bool v], .int .i64 (c : Int)] (.agg #[.int .u64 (hiA v (cutd d c)), .int .u64 (loA v (cutd d c)), .bool v, .int .i64 ((c : Nat) : Int)]) := by
  have h := of_s (u_mk v (filD d c)) v (c : Int)
  have e : ∀ i, i < W v → cutd (D (hiA v (filD d c)) (loA v (filD d c))) c i = cutd d c i := fun i hi => by
    by_cases hk : i < c
    · rw [cutd_lt hk, cutd_lt hk, D_mk, decide_eq_true hi, Bool.true_and]
      unfold filD
      rw [decide_eq_false (by omega), Bool.false_or]
    · rw [cutd_ge (by omega), cutd_ge (by omega)]
  rw [clampW_in hc, hi_congr e, lo_congr e] at h
  exact h
theorem conD_fil (v : Bool) (d : Nat → Bool) (c : Nat) (hc : c ≤ W v) : conD v d c v (D (hiA v (filD d c)) (loA v (filD d c))) = true := conD_true.mpr ⟨rfl, fun i hi => by
  rw [D_mk, decide_eq_true (by omega), Bool.true_and]
  unfold filD
  rw [decide_eq_false (by omega), Bool.false_or]⟩
/-- Between the ends. -/
theorem between (v : Bool) (d : Nat → Bool) (c : Nat) (hc : c ≤ W v) (b0 b1 : Int) : conD v d c v (D b0 b1) = (decide (compA (hiA v (cutd d c)) (loA v (cutd d c)) v b0 b1 v ≤ 0) && decide (compA b0 b1 v (hiA v (filD d c)) (loA v (filD d c)) v ≤ 0)) := by
  rw [Bool.eq_iff_iff, Bool.and_eq_true, decide_eq_true_iff, decide_eq_true_iff, conD_true]
  constructor
  · rintro ⟨-, h⟩
    rw [comp_val, comp_val, c3_le, c3_le]
    constructor
    · rw [va_D]
      refine va_mono fun i hi hd => ?_
      by_cases hk : i < c
      · rw [cutd_lt hk] at hd; rw [← h i hk]; exact hd
      · rw [cutd_ge (by omega)] at hd; cases hd
    · rw [va_D]
      refine va_mono fun i hi hd => ?_
      unfold filD
      by_cases hk : i < c
      · rw [h i hk, hd, Bool.or_true]
      · rw [decide_eq_true (by omega), Bool.true_or]
  · rintro ⟨h1, h2⟩
    refine ⟨rfl, ?_⟩
    rw [comp_same] at h1 h2
    have e1 : cmn (D (hiA v (cutd d c)) (loA v (cutd d c))) (D b0 b1) (W v) = cmn (cutd d c) (D b0 b1) (W v) := cmn_congr fun i hi => by rw [D_cut v d c i hi]
    have e2 : cmn (D b0 b1) (D (hiA v (filD d c)) (loA v (filD d c))) (W v) = cmn (D b0 b1) (filD d c) (W v) := cmn_congr fun i hi => by rw [D_mk, decide_eq_true hi, Bool.true_and]
    rw [e1] at h1
    rw [e2] at h2
    have l1 := cmn_le (cutd d c) (D b0 b1) (W v)
    have x1 := cmn_alike (cutd d c) (D b0 b1) (W v)
    have n1 := cmn_end (cutd d c) (D b0 b1) (W v)
    have l2 := cmn_le (D b0 b1) (filD d c) (W v)
    have x2 := cmn_alike (D b0 b1) (filD d c) (W v)
    have n2 := cmn_end (D b0 b1) (filD d c) (W v)
    generalize hK : cmn (cutd d c) (D b0 b1) (W v) = K at *
    generalize hM : cmn (D b0 b1) (filD d c) (W v) = M at *
    have fl : ∀ i, i < c → filD d c i = d i := fun i hi => by unfold filD; rw [decide_eq_false (by omega), Bool.false_or]
    by_cases hk : K < c
    · exfalso
      have n1 := n1 (by omega)
      rw [cutd_lt hk] at n1
      have hMK : M = K := by
        rcases Nat.lt_trichotomy M K with h | h | h
        · have a := x1 M h
          rw [cutd_lt (by omega)] at a
          have b := n2 (by omega)
          rw [fl M (by omega)] at b
          exact absurd a.symm b
        · exact h
        · have a := x2 K h
          rw [fl K hk] at a
          exact absurd a.symm n1
      subst hMK
      rw [if_neg (by omega), D_cut v d c M (by omega), cutd_lt hk] at h1
      rw [if_neg (by omega), D_mk, decide_eq_true (show M < W v by omega), Bool.true_and, fl M hk] at h2
      revert h1 h2 n1
      generalize d M = p
      generalize D b0 b1 M = q
      revert p q
      decide
    · intro i hi
      have := x1 i (by omega)
      rwa [cutd_lt hi] at this
end Go.Proofs.Ytbaeaiiohkfieaa.Hand
