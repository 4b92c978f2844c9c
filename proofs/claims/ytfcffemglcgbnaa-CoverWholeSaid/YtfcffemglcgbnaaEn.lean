/-
  package prefix: Ends; package addr: Fill.
-/
import Derived.Test.YtfcffemglcgbnaaWp
namespace Go.Proofs.Ytfcffemglcgbnaa.Hand
open Go.RowKit Go.Proofs.Ytfcffemglcgbnaa.Bits Go.Proofs.Ytfcffemglcgbnaa.Dig Go.Proofs.Ytfcffemglcgbnaa.Sq
set_option linter.unusedVariables false
set_option linter.unusedSimpArgs false
set_option maxRecDepth 100000
set_option maxHeartbeats 4000000
theorem fill_s {a0 a1 : Int} (h : u64 a0 ∧ u64 a1) (a2 : Bool) (n : Int) : Cal Try.prog 75 [.agg #[.int .u64 a0, .int .u64 a1, .bool a2], .int .i64 n] (.agg #[.int .u64 (hiA a2 (fillA a0 a1 n)), .int .u64 (loA a2 (fillA a0 a1 n)), .bool a2]) := by
  rw [← fill_hi, ← fill_lo]
  have k1 := read_s h a2
  have k2 := tail_s (a0 := a0) (a1 := a1) a2 n
  have k3 := fun x y => wof_s x y a2
  have w1 : IntKind.i64.wrap (0 + 1) = ((1 : Nat) : Int) := by decide
  refine Cal.mk fun Wo => enter (F := fun _ => False) Try.func75 rfl Try.ntmps75 rfl ?_
  repeat (first | (apply s_box; rfl; constructor; rfl; intro _) | (apply s_alloc; rfl; intro _) | (apply s_store; rfl; rfl; (repeat (first | exact Plc.hit | apply Plc.miss)); constructor; (focus ((simp only [setAt, List.set_cons_zero, List.set_cons_succ, Nat.zero_add, Nat.reduceAdd, Nat.reduceMul]); try rfl)); kernel_rfl; rfl) | apply s_st | apply st_go | (focus (first | (apply y_move; rfl) | (apply y_load; rfl; (repeat (first | exact List.Mem.head _ | apply List.Mem.tail)); (repeat (first | exact Sub.nil | apply Sub.take | apply Sub.drop)); done) | (apply y_calls; rfl; rfl; rfl; (first | assumption | exact k3 _ _); done))) | apply s_nil | apply w_seq | apply f_then | apply w_block | (apply w_reg_l; rfl) | exact rfl)
  refine w_unroll 3 ?_
  repeat (first | (apply s_store; rfl; rfl; (repeat (first | exact Plc.hit | apply Plc.miss)); constructor; (focus ((simp only [setAt, List.set_cons_zero, List.set_cons_succ, Nat.zero_add, Nat.reduceAdd, Nat.reduceMul]); try rfl)); kernel_rfl; rfl) | apply s_st | apply st_go | (focus (first | (apply y_move; rfl) | (apply y_assign; rfl) | (apply y_load; rfl; (repeat (first | exact List.Mem.head _ | apply List.Mem.tail)); (repeat (first | exact Sub.nil | apply Sub.take | apply Sub.drop)); done) | (apply y_cell; rfl; (repeat (first | exact List.Mem.head _ | apply List.Mem.tail)); (repeat (first | exact At.hit | apply At.miss)); kernel_rfl; done) | (apply y_calls; rfl; rfl; rfl; (first | assumption | exact k3 _ _); done) | (apply y_faddr; kernel_rfl; rfl) | (apply y_axaddr; rfl; rfl; (first | assumption | rfl | exact (show (0 : Int) = ((0 : Nat) : Int) from rfl) | exact (show (1 : Int) = ((1 : Nat) : Int) from rfl) | exact (show (2 : Int) = ((2 : Nat) : Int) from rfl) | exact (show (3 : Int) = ((3 : Nat) : Int) from rfl)); (first | assumption | omega | (focus (simp; done)) | (focus (simp; omega))); done) | (apply y_aindex; kernel_rfl; rfl; rfl; (first | assumption | rfl | exact (show (0 : Int) = ((0 : Nat) : Int) from rfl) | exact (show (1 : Int) = ((1 : Nat) : Int) from rfl) | exact (show (2 : Int) = ((2 : Nat) : Int) from rfl) | exact (show (3 : Int) = ((3 : Nat) : Int) from rfl)); (first | assumption | omega | (focus (simp; done)) | (focus (simp; omega))); (first | rfl | assumption); done) | (apply y_lt; rfl; rfl) | (apply y_add; rfl; rfl) | (apply y_bor; rfl; rfl))) | apply s_nil | apply w_seq | apply f_rounds | apply rd_succ | apply f_then | apply w_block | apply w_exit | apply f_out | apply f_norm_block | apply f_exit_block | apply w_skip | apply w_ret | refine w_cond_f rfl ?_ | refine w_cond_t rfl ?_ | (apply f_ends1; rfl; rfl; (repeat (first | exact Res.nil | (apply Res.tmp; rfl) | (apply Res.agg; exact inferInstance; rfl; (repeat (first | exact List.Mem.head _ | apply List.Mem.tail)); (repeat (first | exact Sub.nil | apply Sub.take | apply Sub.drop))) | (apply Res.cell; kernel_rfl; rfl; (repeat (first | exact List.Mem.head _ | apply List.Mem.tail)); (repeat (first | exact At.hit | apply At.miss))))); intro w hw; first | exact ans hw | (refine ans_b ?_ hw; (focus ((repeat (first | assumption | rfl | exact beq_self_eq_true _ | exact bne_self_eq_false _ | apply bOrF | apply bAndT | apply bNotF | apply bNotT | (focus (apply decide_eq_true; omega)) | (focus (apply decide_eq_false; omega)) | (focus (apply bEqT; omega)) | (focus (apply bEqF; omega)) | (focus (apply bNeT; omega)) | (focus (apply bNeF; omega)) | (focus (apply bOrT1; first | assumption | (apply decide_eq_true; omega))) | (focus (apply bOrT2; first | assumption | (apply decide_eq_true; omega))) | (focus (apply bAndF1; first | assumption | (apply decide_eq_false; omega))) | (focus (apply bAndF2; first | assumption | (apply decide_eq_false; omega))))); done)))) | (apply w_reg_l; rfl) | exact rfl)
theorem ends_s {a0 a1 : Int} (ha : u64 a0 ∧ u64 a1) (a2 : Bool) (a3 : Int) : Cal Try.prog 33 [.agg #[.int .u64 a0, .int .u64 a1, .bool a2, .int .i64 a3]] (.tuple #[.agg #[.int .u64 (hiA a2 (maskA a0 a1 a3)), .int .u64 (loA a2 (maskA a0 a1 a3)), .bool a2],
    .agg #[.int .u64 (hiA a2 (fillA a0 a1 a3)), .int .u64 (loA a2 (fillA a0 a1 a3)), .bool a2]]) := by
  refine Cal.mk fun Wo => enter (F := fun _ => False) Try.func33 rfl Try.ntmps33 rfl ?_
  have k1 := mask_s ha a2 a3
  have k2 := fill_s ha a2 a3
  repeat (first | (apply s_box; rfl; constructor; rfl; intro _) | (apply s_alloc; rfl; intro _) | (apply s_store; rfl; rfl; (repeat (first | exact Plc.hit | apply Plc.miss)); constructor; (focus ((simp only [setAt, List.set_cons_zero, List.set_cons_succ, Nat.zero_add, Nat.reduceAdd, Nat.reduceMul]); try rfl)); kernel_rfl; rfl) | apply s_st | apply st_go | (focus (first | (apply y_load; rfl; (repeat (first | exact List.Mem.head _ | apply List.Mem.tail)); (repeat (first | exact Sub.nil | apply Sub.take | apply Sub.drop)); done) | (apply y_cell; rfl; (repeat (first | exact List.Mem.head _ | apply List.Mem.tail)); (repeat (first | exact At.hit | apply At.miss)); kernel_rfl; done) | (apply y_calls; rfl; rfl; rfl; (first | assumption); done) | (apply y_faddr; kernel_rfl; rfl))) | apply s_nil | apply w_seq | apply f_then | apply w_ret | (apply f_ends; rfl; rfl; (repeat (first | exact Res.nil | (apply Res.tmp; rfl) | (apply Res.agg; exact inferInstance; rfl; (repeat (first | exact List.Mem.head _ | apply List.Mem.tail)); (repeat (first | exact Sub.nil | apply Sub.take | apply Sub.drop))) | (apply Res.cell; kernel_rfl; rfl; (repeat (first | exact List.Mem.head _ | apply List.Mem.tail)); (repeat (first | exact At.hit | apply At.miss))))); intro w hw; first | exact ans hw | (refine ans_b ?_ hw; (focus ((repeat (first | assumption | rfl | exact beq_self_eq_true _ | exact bne_self_eq_false _ | apply bOrF | apply bAndT | apply bNotF | apply bNotT | (focus (apply decide_eq_true; omega)) | (focus (apply decide_eq_false; omega)) | (focus (apply bEqT; omega)) | (focus (apply bEqF; omega)) | (focus (apply bNeT; omega)) | (focus (apply bNeF; omega)) | (focus (apply bOrT1; first | assumption | (apply decide_eq_true; omega))) | (focus (apply bOrT2; first | assumption | (apply decide_eq_true; omega))) | (focus (apply bAndF1; first | assumption | (apply decide_eq_false; omega))) | (focus (apply bAndF2; first | assumption | (apply decide_eq_false; omega))))); done)))) | (apply w_mixed_r rfl 1 [0, 1, 2, 3, 5, 6, 7, 8, 4] [0, 0, 0, 0, 0, 0, 0, 0, 2] _ ; kernel_rfl; kernel_rfl; exact List.Sublist.refl _; rfl) | (apply g_st1; rfl; intro W0) | (apply g_st; rfl; intro W0) | apply g_done | (apply w_reg_l; rfl) | exact rfl)
def filD (d : Nat → Bool) (c : Nat) (j : Nat) : Bool := decide (c ≤ j) || d j
theorem ends_pk (v : Bool) (d : Nat → Bool) (c : Nat) (hc : c ≤ W v) : Cal Try.prog 33 [.agg #[.int .u64 (hiA v (cutd d c)), .int .u64 (loA v (cutd d c)), .bool v, .int .i64 ((c : Nat) : Int)]] (.tuple #[.agg #[.int .u64 (hiA v (cutd d c)), .int .u64 (loA v (cutd d c)), .bool v], .agg #[.int .u64 (hiA v (filD d c)), .int .u64 (loA v (filD d c)), .bool v]]) := by
  have h := ends_s (u_mk v (cutd d c)) v (c : Int)
  have e1 : ∀ i, i < W v → maskA (hiA v (cutd d c)) (loA v (cutd d c)) (c : Int) i = cutd d c i := fun i hi => by
    unfold maskA
    rw [D_cut v d c i hi]
    by_cases h : i < c
    · rw [decide_eq_true (by omega), Bool.true_and]
    · rw [cutd_ge (by omega), Bool.and_false]
  have e2 : ∀ i, i < W v → fillA (hiA v (cutd d c)) (loA v (cutd d c)) (c : Int) i = filD d c i := fun i hi => by
    unfold filD fillA
    rw [D_cut v d c i hi]
    by_cases h : i < c
    · rw [cutd_lt h, show decide ((c : Int) ≤ (i : Int)) = decide (c ≤ i) by rw [decide_eq_decide]; omega]
    · rw [decide_eq_true (show c ≤ i by omega), decide_eq_true (show (c : Int) ≤ (i : Int) by omega)]; rfl
  rw [hi_congr e1, lo_congr e1, hi_congr e2, lo_congr e2] at h
  exact h
end Go.Proofs.Ytfcffemglcgbnaa.Hand
