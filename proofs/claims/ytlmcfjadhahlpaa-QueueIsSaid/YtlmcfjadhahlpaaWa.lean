/-
  The walks of package addr.
-/
import Derived.Test.YtlmcfjadhahlpaaRecs
import Derived.Test.YtlmcfjadhahlpaaPl
import Derived.Deep.DeepCutAuto
namespace Go.Proofs.Ytlmcfjadhahlpaa.Hand
open Go.RowKit Go.Proofs.Ytlmcfjadhahlpaa.Bits Go.Proofs.Ytlmcfjadhahlpaa.Dig Go.Proofs.Ytlmcfjadhahlpaa.Sq
set_option linter.unusedVariables false
set_option linter.unusedSimpArgs false
set_option maxRecDepth 100000
set_option maxHeartbeats 1000000
theorem of_same {f : FuncId} {vs : List Value} {v : Value} (h : ∀ w, Calls Try.prog f vs.toArray w fun e w' => e = .returned v ∧ w = w') : Cal Try.prog f vs v := Cal.mk fun w => (h w).mono fun e w' ⟨he, hw⟩ => ⟨he, by subst hw; exact Below.refl _ _⟩
theorem len_end0 {z : Int} (hz : z < 256) : wrap64 (wrap64 (blen z.toNat : Nat)) = (blen z.toNat : Nat) := by
  have := blen_le (x := z.toNat) (n := 8) (by omega)
  rw [wr64 (blen z.toNat : Nat) (by omega), wr64 _ (by omega)]
theorem len_end {z : Int} (hz : z < 256) {n : Int} (h0 : 0 ≤ n) (h1 : n ≤ 56) : wrap64 (n + wrap64 (blen z.toNat : Nat)) = n + (blen z.toNat : Nat) := by
  have := blen_le (x := z.toNat) (n := 8) (by omega)
  rw [wr64 (blen z.toNat : Nat) (by omega), wr64 _ (by omega)]
set_option maxHeartbeats 1000000 in
set_option maxRecDepth 100000 in
theorem len64_c (x : Int) (hx : u64 x) (w : World) : Calls Try.prog 118 #[.int .u64 x] w fun e w' => e = .returned (.int .i64 (blen x.toNat : Nat)) ∧ w = w' := by
  obtain ⟨hx0, hx1⟩ := hx
  generalize hr : (blen x.toNat : Int) = r
  go_enter Try.func118, Try.ntmps118
  go_upto_if 4 with (fail)
  by_cases h1 : 4294967296 ≤ x
  · rw [decide_eq_true h1]
    go_wp2
    all_goals
      rw [len_step x 32 4294967296 hx0 (by decide) h1] at hr
      first | rw [len_step (x / 4294967296) 16 65536 (by omega) (by decide) (by assumption)] at hr | skip
      first | rw [len_step (x / 4294967296 / 65536) 8 256 (by omega) (by decide) (by assumption)] at hr | rw [len_step (x / 4294967296) 8 256 (by omega) (by decide) (by assumption)] at hr | skip
      go_ret
      refine ⟨?_, rfl⟩
      rw [tab_get _ (by kernel_rfl)]
      refine congrArg (fun n => Ending.returned (.int .i64 n)) (?_ : wrap64 _ = r)
      rw [len_end]
      · rw [← hr]
        omega
      · omega
      · decide
      · decide
  · rw [decide_eq_false h1]
    go_wp2
    all_goals
      first | rw [len_step x 16 65536 (by omega) (by decide) (by assumption)] at hr | skip
      first | rw [len_step (x / 65536) 8 256 (by omega) (by decide) (by assumption)] at hr | rw [len_step x 8 256 (by omega) (by decide) (by assumption)] at hr | skip
      go_ret
      refine ⟨?_, rfl⟩
      rw [tab_get _ (by kernel_rfl)]
      refine congrArg (fun n => Ending.returned (.int .i64 n)) (?_ : wrap64 _ = r)
      first
        | (rw [len_end]
           · rw [← hr]
             omega
           · omega
           · decide
           · decide)
        | (rw [len_end0]
           · rw [← hr]
           · omega)
theorem lead_c (x : Int) (hx : u64 x) (w : World) : Calls Try.prog 105 #[.int .u64 x] w fun e w' => e = .returned (.int .i64 (64 - (blen x.toNat : Nat))) ∧ w = w' := by
  have hb : blen x.toNat ≤ 64 := blen_le (by have := hx.2; omega)
  have h64 : wrap64 (64 - (blen x.toNat : Nat)) = 64 - (blen x.toNat : Nat) := wr64 _ (by omega)
  go_enter Try.func105, Try.ntmps105
  go_wp2_with (first | (go_at_call 118; refine (len64_c _ hx _).mono ?_; rintro e w1 ⟨rfl, rfl⟩))
  go_ret
  exact ⟨rfl, rfl⟩
theorem lead_s {x : Int} (h : u64 x) : Cal Try.prog 105 [.int .u64 x] (.int .i64 (64 - ((blen x.toNat : Nat) : Int))) := of_same fun w => lead_c x h w
theorem i64w {x : Int} (h0 : -9223372036854775808 ≤ x) (h : x < 9223372036854775808) : IntKind.i64.wrap x = x := by rw [IntWalk.i64_in _ (by omega)]
theorem u64w {x : Int} (h0 : 0 ≤ x) (h : x < 18446744073709551616) : IntKind.u64.wrap x = x := by rw [wrap_u64]; omega
theorem width_s (v : Bool) : Cal Try.prog 82 [.bool v] (.int .i64 ((W v : Nat) : Int)) := by
  cases v
  · refine Cal.mk fun Wo => enter (F := fun _ => False) Try.func82 rfl Try.ntmps82 rfl ?_
    repeat (first | apply s_st | apply st_go | (focus (first | (apply y_move; rfl) | (apply y_assign; rfl))) | apply s_nil | apply w_seq | apply f_then | apply w_skip | apply w_ret | refine w_cond_f rfl ?_ | (apply f_end; rfl; rfl; rfl; intro w hw; first | exact ans hw | (refine ans_b ?_ hw; assumption)) | (apply w_reg_l; rfl) | exact rfl)
  · refine Cal.mk fun Wo => enter (F := fun _ => False) Try.func82 rfl Try.ntmps82 rfl ?_
    repeat (first | apply s_st | apply st_go | (focus (first | (apply y_move; rfl) | (apply y_assign; rfl))) | apply s_nil | apply w_seq | apply f_then | apply f_ret | apply w_ret | refine w_cond_t rfl ?_ | (apply f_end; rfl; rfl; rfl; intro w hw; first | exact ans hw | (refine ans_b ?_ hw; assumption)) | (apply w_reg_l; rfl) | exact rfl)
theorem high_s (n : Int) (h0 : 0 ≤ n) (h1 : n ≤ 64) : Cal Try.prog 123 [.int .i64 n] (.int .u64 (hiW n)) := by
  rw [hiW_eq n h0 h1]
  by_cases c : n = 0
  · subst c
    have hE : ((0 : Int) == 0) = true := rfl
    refine Cal.mk fun Wo => enter (F := fun _ => False) Try.func123 rfl Try.ntmps123 rfl ?_
    repeat (first | apply s_st | apply st_go | (focus (first | (apply y_move; rfl) | (apply y_assign; rfl) | (apply y_eq; rfl; rfl))) | apply s_nil | apply w_seq | apply f_then | apply f_ret | apply w_ret | refine w_cond_t rfl ?_ | (apply f_end; rfl; rfl; rfl; intro w hw; first | exact ans hw | (refine ans_b ?_ hw; assumption)) | (apply w_reg_l; rfl) | exact rfl)
  · have hE : (n == 0) = false := beq_eq_false_iff_ne.mpr c
    have e1 : IntKind.i64.wrap (64 - n) = 64 - n := i64w (by omega) (by omega)
    have e2 : IntKind.u64.wrap (64 - n) = 64 - n := u64w (by omega) (by omega)
    have e3 : IntKind.u64.wrap (18446744073709551615 * 2 ^ (64 - n).toNat) = 18446744073709551616 - 2 ^ (64 - n).toNat := wrap_hi _ (by omega)
    have key : Cal Try.prog 123 [.int .i64 n] (.int .u64 (IntKind.u64.wrap (18446744073709551615 * 2 ^ (IntKind.u64.wrap (IntKind.i64.wrap (64 - n))).toNat))) := by
      have hS : 0 ≤ IntKind.u64.wrap (IntKind.i64.wrap (64 - n)) ∧ IntKind.u64.wrap (IntKind.i64.wrap (64 - n)) ≤ IntKind.u64.bits := by rw [e1, e2]; exact ⟨by omega, by show 64 - n ≤ 64; omega⟩
      clear e1 e2 e3 c h0 h1
      refine Cal.mk fun Wo => enter (F := fun _ => False) Try.func123 rfl Try.ntmps123 rfl ?_
      repeat (first | apply s_st | apply st_go | (focus (first | (apply y_move; rfl) | (apply y_assign; rfl) | (apply y_eq; rfl; rfl) | (apply y_sub; rfl; rfl) | (apply y_shl; rfl; rfl; (first | assumption | decide | (constructor <;> omega)); done) | (apply y_conv; rfl; kernel_rfl; rfl))) | apply s_nil | apply w_seq | apply f_then | apply w_skip | apply w_ret | (apply w_cond_ff; rfl; assumption) | (apply f_end; rfl; rfl; rfl; intro w hw; first | exact ans hw | (refine ans_b ?_ hw; assumption)) | (apply w_reg_l; rfl) | exact rfl)
    rw [e1, e2, e3] at key
    exact key
theorem mx2_lo (x : Int) : 0 ≤ mx2 0 (mn2 x 64) ∧ mx2 0 (mn2 x 64) ≤ 64 := by unfold mx2 mn2; split <;> split <;> omega
theorem ones_s (a b : Int) (h0 : 0 ≤ a) (h1 : a ≤ 128) (h2 : 0 ≤ b) (h3 : b ≤ 128) : Cal Try.prog 117 [.int .i64 a, .int .i64 b] (.agg #[.int .u64 (oneW a b 0), .int .u64 (oneW a b 64)]) := by
  have key : Cal Try.prog 117 [.int .i64 a, .int .i64 b] (.agg #[.int .u64 (Go.bits .andNot .u64 (hiW (mx2 0 (mn2 (IntKind.i64.wrap (b - IntKind.i64.wrap (0 * 64))) 64))) (hiW (mx2 0 (mn2 (IntKind.i64.wrap (a - IntKind.i64.wrap (0 * 64))) 64)))), .int .u64 (Go.bits .andNot .u64 (hiW (mx2 0 (mn2 (IntKind.i64.wrap (b - IntKind.i64.wrap (IntKind.i64.wrap (0 + 1) * 64))) 64))) (hiW (mx2 0 (mn2 (IntKind.i64.wrap (a - IntKind.i64.wrap (IntKind.i64.wrap (0 + 1) * 64))) 64))))]) := by
    have k : ∀ x, Cal Try.prog 123 [.int .i64 (mx2 0 (mn2 x 64))] (.int .u64 (hiW (mx2 0 (mn2 x 64)))) := fun x => high_s _ (mx2_lo x).1 (mx2_lo x).2
    have w1 : IntKind.i64.wrap (0 + 1) = ((1 : Nat) : Int) := by decide
    refine Cal.mk fun Wo => enter (F := fun _ => False) Try.func117 rfl Try.ntmps117 rfl ?_
    repeat (first | (apply s_alloc; rfl; intro _) | apply s_st | apply st_go | (focus (first | (apply y_move; rfl))) | apply s_nil | apply w_seq | apply f_then | apply w_block | (apply w_reg_l; rfl) | exact rfl)
    refine w_unroll 3 ?_
    repeat (first | (apply s_store; rfl; rfl; (repeat (first | exact Plc.hit | apply Plc.miss)); constructor; (focus ((simp only [setAt, List.set_cons_zero, List.set_cons_succ, Nat.zero_add, Nat.reduceAdd, Nat.reduceMul]); try rfl)); kernel_rfl; rfl) | apply s_st | apply st_go | (focus (first | (apply y_move; rfl) | (apply y_assign; rfl) | (apply y_load; rfl; (repeat (first | exact List.Mem.head _ | apply List.Mem.tail)); (repeat (first | exact Sub.nil | apply Sub.take | apply Sub.drop)); done) | (apply y_calls; rfl; rfl; rfl; (first | assumption | exact k _); done) | (apply y_axaddr; rfl; rfl; (first | assumption | rfl | exact (show (0 : Int) = ((0 : Nat) : Int) from rfl) | exact (show (1 : Int) = ((1 : Nat) : Int) from rfl) | exact (show (2 : Int) = ((2 : Nat) : Int) from rfl) | exact (show (3 : Int) = ((3 : Nat) : Int) from rfl)); (first | assumption | omega | (focus (simp; done)) | (focus (simp; omega))); done) | (apply y_bandnot; rfl; rfl) | (apply y_lt; rfl; rfl) | (apply y_add; rfl; rfl) | (apply y_sub; rfl; rfl) | (apply y_mul; rfl; rfl) | (apply y_min2; rfl) | (apply y_max2; rfl))) | apply s_nil | apply w_seq | apply f_rounds | apply rd_succ | apply f_then | apply w_block | apply w_exit | apply f_out | apply f_norm_block | apply f_exit_block | apply w_skip | apply w_ret | refine w_cond_f rfl ?_ | refine w_cond_t rfl ?_ | (apply f_ends1; rfl; rfl; (repeat (first | exact Res.nil | (apply Res.tmp; rfl) | (apply Res.agg; exact inferInstance; rfl; (repeat (first | exact List.Mem.head _ | apply List.Mem.tail)); (repeat (first | exact Sub.nil | apply Sub.take | apply Sub.drop))) | (apply Res.cell; kernel_rfl; rfl; (repeat (first | exact List.Mem.head _ | apply List.Mem.tail)); (repeat (first | exact At.hit | apply At.miss))))); intro w hw; first | exact ans hw | (refine ans_b ?_ hw; assumption)) | (apply w_reg_l; rfl) | exact rfl)
  have e0 : IntKind.i64.wrap (0 * 64) = 0 := by decide
  have e1 : IntKind.i64.wrap (IntKind.i64.wrap (0 + 1) * 64) = 64 := by decide
  rw [e0, e1, i64w (x := a - 0) (by omega) (by omega), i64w (x := b - 0) (by omega) (by omega), i64w (x := a - 64) (by omega) (by omega), i64w (x := b - 64) (by omega) (by omega)] at key
  have r0 := ones_word a b 0
  have r1 := ones_word a b 64
  unfold mxi mni at r0 r1
  unfold mx2 mn2 at key
  rw [r0, r1] at key
  exact key
theorem wof_s (x y : Int) (v : Bool) : Cal Try.prog 98 [.agg #[.int .u64 x, .int .u64 y], .bool v] (.agg #[.int .u64 x, .int .u64 y, .bool v]) := by
  refine Cal.mk fun Wo => enter (F := fun _ => False) Try.func98 rfl Try.ntmps98 rfl ?_
  repeat (first | (apply s_box; rfl; constructor; rfl; intro _) | (apply s_alloc; rfl; intro _) | (apply s_store; rfl; rfl; (repeat (first | exact Plc.hit | apply Plc.miss)); constructor; (focus ((simp only [setAt, List.set_cons_zero, List.set_cons_succ, Nat.zero_add, Nat.reduceAdd, Nat.reduceMul]); try rfl)); kernel_rfl; rfl) | apply s_st | apply st_go | (focus (first | (apply y_move; rfl) | (apply y_cell; rfl; (repeat (first | exact List.Mem.head _ | apply List.Mem.tail)); (repeat (first | exact At.hit | apply At.miss)); kernel_rfl; done) | (apply y_axaddr; rfl; rfl; (first | assumption | rfl | exact (show (0 : Int) = ((0 : Nat) : Int) from rfl) | exact (show (1 : Int) = ((1 : Nat) : Int) from rfl) | exact (show (2 : Int) = ((2 : Nat) : Int) from rfl) | exact (show (3 : Int) = ((3 : Nat) : Int) from rfl)); (first | assumption | omega | (focus (simp; done)) | (focus (simp; omega))); done) | (apply y_build; kernel_rfl; (repeat (first | exact Bld.nil | (apply Bld.cons; exact inferInstance; rfl; constructor; kernel_rfl; (focus ((simp only [setAt, List.set_cons_zero, List.set_cons_succ, Nat.zero_add, Nat.reduceAdd, Nat.reduceMul]); try rfl))))); done))) | apply s_nil | apply w_seq | apply f_then | apply w_ret | (apply f_ends1; rfl; rfl; (repeat (first | exact Res.nil | (apply Res.tmp; rfl) | (apply Res.agg; exact inferInstance; rfl; (repeat (first | exact List.Mem.head _ | apply List.Mem.tail)); (repeat (first | exact Sub.nil | apply Sub.take | apply Sub.drop))) | (apply Res.cell; kernel_rfl; rfl; (repeat (first | exact List.Mem.head _ | apply List.Mem.tail)); (repeat (first | exact At.hit | apply At.miss))))); intro w hw; first | exact ans hw | (refine ans_b ?_ hw; assumption)) | (apply w_reg_l; rfl) | exact rfl)
theorem W_int (v : Bool) : (0 : Int) ≤ ((W v : Nat) : Int) ∧ ((W v : Nat) : Int) ≤ 128 := by have := W_le v; omega
theorem read_s {a0 a1 : Int} (h : u64 a0 ∧ u64 a1) (a2 : Bool) : Cal Try.prog 104 [.agg #[.int .u64 a0, .int .u64 a1, .bool a2]] (.agg #[.int .u64 (hiA a2 (D a0 a1)), .int .u64 (loA a2 (D a0 a1))]) := by
  rw [← hiA_read a0 a1 a2 h.1, ← loA_read a0 a1 a2 h.2]
  have k1 := width_s a2
  have k2 := ones_s 0 ((W a2 : Nat) : Int) (by decide) (by decide) (W_int a2).1 (W_int a2).2
  have w1 : IntKind.i64.wrap (0 + 1) = ((1 : Nat) : Int) := by decide
  refine Cal.mk fun Wo => enter (F := fun _ => False) Try.func104 rfl Try.ntmps104 rfl ?_
  repeat (first | (apply s_box; rfl; constructor; rfl; intro _) | (apply s_alloc; rfl; intro _) | (apply s_store; rfl; rfl; (repeat (first | exact Plc.hit | apply Plc.miss)); constructor; (focus ((simp only [setAt, List.set_cons_zero, List.set_cons_succ, Nat.zero_add, Nat.reduceAdd, Nat.reduceMul]); try rfl)); kernel_rfl; rfl) | apply s_st | apply st_go | (focus (first | (apply y_move; rfl) | (apply y_cell; rfl; (repeat (first | exact List.Mem.head _ | apply List.Mem.tail)); (repeat (first | exact At.hit | apply At.miss)); kernel_rfl; done) | (apply y_calls; rfl; rfl; rfl; (first | assumption); done) | (apply y_faddr; kernel_rfl; rfl) | (apply y_abuild; (repeat (first | exact PRows.nil | (apply PRows.cons; rfl; constructor; rfl))); rfl; (focus ((simp only [List.flatten_cons, List.flatten_nil, List.length_cons, List.length_nil, Nat.zero_add, Nat.reduceAdd, Nat.reduceMul, List.drop_succ_cons, List.drop_zero, List.drop_nil, List.append_nil, List.cons_append, List.nil_append]); try rfl)); done))) | apply s_nil | apply w_seq | apply f_then | apply w_block | (apply w_reg_l; rfl) | exact rfl)
  refine w_unroll 3 ?_
  repeat (first | (apply s_store; rfl; rfl; (repeat (first | exact Plc.hit | apply Plc.miss)); constructor; (focus ((simp only [setAt, List.set_cons_zero, List.set_cons_succ, Nat.zero_add, Nat.reduceAdd, Nat.reduceMul]); try rfl)); kernel_rfl; rfl) | apply s_st | apply st_go | (focus (first | (apply y_move; rfl) | (apply y_assign; rfl) | (apply y_load; rfl; (repeat (first | exact List.Mem.head _ | apply List.Mem.tail)); (repeat (first | exact Sub.nil | apply Sub.take | apply Sub.drop)); done) | (apply y_cell; rfl; (repeat (first | exact List.Mem.head _ | apply List.Mem.tail)); (repeat (first | exact At.hit | apply At.miss)); kernel_rfl; done) | (apply y_axaddr; rfl; rfl; (first | assumption | rfl | exact (show (0 : Int) = ((0 : Nat) : Int) from rfl) | exact (show (1 : Int) = ((1 : Nat) : Int) from rfl) | exact (show (2 : Int) = ((2 : Nat) : Int) from rfl) | exact (show (3 : Int) = ((3 : Nat) : Int) from rfl)); (first | assumption | omega | (focus (simp; done)) | (focus (simp; omega))); done) | (apply y_aindex; kernel_rfl; rfl; rfl; (first | assumption | rfl | exact (show (0 : Int) = ((0 : Nat) : Int) from rfl) | exact (show (1 : Int) = ((1 : Nat) : Int) from rfl) | exact (show (2 : Int) = ((2 : Nat) : Int) from rfl) | exact (show (3 : Int) = ((3 : Nat) : Int) from rfl)); (first | assumption | omega | (focus (simp; done)) | (focus (simp; omega))); (first | rfl | assumption); done) | (apply y_lt; rfl; rfl) | (apply y_add; rfl; rfl) | (apply y_band; rfl; rfl))) | apply s_nil | apply w_seq | apply f_rounds | apply rd_succ | apply f_then | apply w_block | apply w_exit | apply f_out | apply f_norm_block | apply f_exit_block | apply w_skip | apply w_ret | refine w_cond_f rfl ?_ | refine w_cond_t rfl ?_ | (apply f_ends1; rfl; rfl; (repeat (first | exact Res.nil | (apply Res.tmp; rfl) | (apply Res.agg; exact inferInstance; rfl; (repeat (first | exact List.Mem.head _ | apply List.Mem.tail)); (repeat (first | exact Sub.nil | apply Sub.take | apply Sub.drop))) | (apply Res.cell; kernel_rfl; rfl; (repeat (first | exact List.Mem.head _ | apply List.Mem.tail)); (repeat (first | exact At.hit | apply At.miss))))); intro w hw; first | exact ans hw | (refine ans_b ?_ hw; assumption)) | (apply w_reg_l; rfl) | exact rfl)
theorem is_s {a0 a1 : Int} (a2 : Bool) (i : Int) : Cal Try.prog 108 [.agg #[.int .u64 a0, .int .u64 a1, .bool a2], .int .i64 i] (.bool (isI a2 i)) := by
  refine Cal.of_eq (v' := .bool (decide (i ≥ 0) && decide (i < ((W a2 : Nat) : Int)))) ?_ ?_
  · have k1 := width_s a2
    refine Cal.mk fun Wo => enter (F := fun _ => False) Try.func108 rfl Try.ntmps108 rfl ?_
    repeat (first | (apply s_box; rfl; constructor; rfl; intro _) | apply s_st | apply st_go | (apply st_if; rfl; intro h1; (try simp only [h1, gv_true, gv_tt])) | (focus (first | (apply y_move; rfl) | (apply y_assign; rfl) | (apply y_cell; rfl; (repeat (first | exact List.Mem.head _ | apply List.Mem.tail)); (repeat (first | exact At.hit | apply At.miss)); kernel_rfl; done) | (apply y_calls; rfl; rfl; rfl; (first | assumption); done) | (apply y_and; rfl; rfl; done) | (apply y_faddr; kernel_rfl; rfl) | (apply y_lt; rfl; rfl) | (apply y_ge; rfl; rfl))) | apply s_nil | apply w_seq | apply f_then | apply w_ret | (apply f_end; rfl; rfl; rfl; intro w hw; first | exact ans hw | (refine ans_b ?_ hw; assumption)) | (apply w_reg_l; rfl) | exact rfl)
  · unfold isI; rw [Bool.decide_and]
theorem tail_s {a0 a1 : Int} (a2 : Bool) (n : Int) : Cal Try.prog 112 [.agg #[.int .u64 a0, .int .u64 a1, .bool a2], .int .i64 n] (.agg #[.int .u64 (oneW (mxi 0 (mni n (W a2 : Nat))) (W a2 : Nat) 0), .int .u64 (oneW (mxi 0 (mni n (W a2 : Nat))) (W a2 : Nat) 64)]) := by
  have hW := W_int a2
  have k1 := width_s a2
  have k2 := ones_s (mx2 0 (mn2 n (W a2 : Nat))) ((W a2 : Nat) : Int) (by unfold mx2 mn2; split <;> split <;> omega) (by unfold mx2 mn2; split <;> split <;> omega) hW.1 hW.2
  have e : mxi 0 (mni n (W a2 : Nat)) = mx2 0 (mn2 n (W a2 : Nat)) := rfl
  rw [e]
  clear e
  refine Cal.mk fun Wo => enter (F := fun _ => False) Try.func112 rfl Try.ntmps112 rfl ?_
  repeat (first | (apply s_box; rfl; constructor; rfl; intro _) | (apply s_alloc; rfl; intro _) | (apply s_store; rfl; rfl; (repeat (first | exact Plc.hit | apply Plc.miss)); constructor; (focus ((simp only [setAt, List.set_cons_zero, List.set_cons_succ, Nat.zero_add, Nat.reduceAdd, Nat.reduceMul]); try rfl)); kernel_rfl; rfl) | apply s_st | apply st_go | (focus (first | (apply y_move; rfl) | (apply y_assign; rfl) | (apply y_cell; rfl; (repeat (first | exact List.Mem.head _ | apply List.Mem.tail)); (repeat (first | exact At.hit | apply At.miss)); kernel_rfl; done) | (apply y_calls; rfl; rfl; rfl; (first | assumption); done) | (apply y_faddr; kernel_rfl; rfl) | (apply y_min2; rfl) | (apply y_max2; rfl))) | apply s_nil | apply w_seq | apply f_then | apply w_ret | (apply f_ends1; rfl; rfl; (repeat (first | exact Res.nil | (apply Res.tmp; rfl) | (apply Res.agg; exact inferInstance; rfl; (repeat (first | exact List.Mem.head _ | apply List.Mem.tail)); (repeat (first | exact Sub.nil | apply Sub.take | apply Sub.drop))) | (apply Res.cell; kernel_rfl; rfl; (repeat (first | exact List.Mem.head _ | apply List.Mem.tail)); (repeat (first | exact At.hit | apply At.miss))))); intro w hw; first | exact ans hw | (refine ans_b ?_ hw; assumption)) | (apply w_reg_l; rfl) | exact rfl)
theorem mask_s {a0 a1 : Int} (h : u64 a0 ∧ u64 a1) (a2 : Bool) (n : Int) : Cal Try.prog 94 [.agg #[.int .u64 a0, .int .u64 a1, .bool a2], .int .i64 n] (.agg #[.int .u64 (hiA a2 (maskA a0 a1 n)), .int .u64 (loA a2 (maskA a0 a1 n)), .bool a2]) := by
  rw [← mask_hi, ← mask_lo]
  have k1 := read_s h a2
  have k2 := tail_s (a0 := a0) (a1 := a1) a2 n
  have k3 := fun x y => wof_s x y a2
  have w1 : IntKind.i64.wrap (0 + 1) = ((1 : Nat) : Int) := by decide
  refine Cal.mk fun Wo => enter (F := fun _ => False) Try.func94 rfl Try.ntmps94 rfl ?_
  repeat (first | (apply s_box; rfl; constructor; rfl; intro _) | (apply s_alloc; rfl; intro _) | (apply s_store; rfl; rfl; (repeat (first | exact Plc.hit | apply Plc.miss)); constructor; (focus ((simp only [setAt, List.set_cons_zero, List.set_cons_succ, Nat.zero_add, Nat.reduceAdd, Nat.reduceMul]); try rfl)); kernel_rfl; rfl) | apply s_st | apply st_go | (focus (first | (apply y_move; rfl) | (apply y_load; rfl; (repeat (first | exact List.Mem.head _ | apply List.Mem.tail)); (repeat (first | exact Sub.nil | apply Sub.take | apply Sub.drop)); done) | (apply y_calls; rfl; rfl; rfl; (first | assumption | exact k3 _ _); done))) | apply s_nil | apply w_seq | apply f_then | apply w_block | (apply w_reg_l; rfl) | exact rfl)
  refine w_unroll 3 ?_
  repeat (first | (apply s_store; rfl; rfl; (repeat (first | exact Plc.hit | apply Plc.miss)); constructor; (focus ((simp only [setAt, List.set_cons_zero, List.set_cons_succ, Nat.zero_add, Nat.reduceAdd, Nat.reduceMul]); try rfl)); kernel_rfl; rfl) | apply s_st | apply st_go | (focus (first | (apply y_move; rfl) | (apply y_assign; rfl) | (apply y_load; rfl; (repeat (first | exact List.Mem.head _ | apply List.Mem.tail)); (repeat (first | exact Sub.nil | apply Sub.take | apply Sub.drop)); done) | (apply y_cell; rfl; (repeat (first | exact List.Mem.head _ | apply List.Mem.tail)); (repeat (first | exact At.hit | apply At.miss)); kernel_rfl; done) | (apply y_calls; rfl; rfl; rfl; (first | assumption | exact k3 _ _); done) | (apply y_faddr; kernel_rfl; rfl) | (apply y_axaddr; rfl; rfl; (first | assumption | rfl | exact (show (0 : Int) = ((0 : Nat) : Int) from rfl) | exact (show (1 : Int) = ((1 : Nat) : Int) from rfl) | exact (show (2 : Int) = ((2 : Nat) : Int) from rfl) | exact (show (3 : Int) = ((3 : Nat) : Int) from rfl)); (first | assumption | omega | (focus (simp; done)) | (focus (simp; omega))); done) | (apply y_aindex; kernel_rfl; rfl; rfl; (first | assumption | rfl | exact (show (0 : Int) = ((0 : Nat) : Int) from rfl) | exact (show (1 : Int) = ((1 : Nat) : Int) from rfl) | exact (show (2 : Int) = ((2 : Nat) : Int) from rfl) | exact (show (3 : Int) = ((3 : Nat) : Int) from rfl)); (first | assumption | omega | (focus (simp; done)) | (focus (simp; omega))); (first | rfl | assumption); done) | (apply y_bandnot; rfl; rfl) | (apply y_lt; rfl; rfl) | (apply y_add; rfl; rfl))) | apply s_nil | apply w_seq | apply f_rounds | apply rd_succ | apply f_then | apply w_block | apply w_exit | apply f_out | apply f_norm_block | apply f_exit_block | apply w_skip | apply w_ret | refine w_cond_f rfl ?_ | refine w_cond_t rfl ?_ | (apply f_ends1; rfl; rfl; (repeat (first | exact Res.nil | (apply Res.tmp; rfl) | (apply Res.agg; exact inferInstance; rfl; (repeat (first | exact List.Mem.head _ | apply List.Mem.tail)); (repeat (first | exact Sub.nil | apply Sub.take | apply Sub.drop))) | (apply Res.cell; kernel_rfl; rfl; (repeat (first | exact List.Mem.head _ | apply List.Mem.tail)); (repeat (first | exact At.hit | apply At.miss))))); intro w hw; first | exact ans hw | (refine ans_b ?_ hw; assumption)) | (apply w_reg_l; rfl) | exact rfl)
theorem eq_ad (x y z : Int) (u v w : Bool) : True := trivial
theorem sane_as {a0 a1 : Int} (h : u64 a0 ∧ u64 a1) (a2 : Bool) : Cal Try.prog 100 [.agg #[.int .u64 a0, .int .u64 a1, .bool a2]] (.bool (decide (sane a0 a1 a2))) := by
  rw [sane_b]
  refine Cal.of_eq (v' := .bool (hiA a2 (D a0 a1) == a0 && (loA a2 (D a0 a1) == a1 && a2 == a2))) ?_ (by simp)
  have k1 := read_s h a2
  have k3 := fun x y => wof_s x y a2
  refine Cal.mk fun Wo => enter (F := fun _ => False) Try.func100 rfl Try.ntmps100 rfl ?_
  repeat (first | (apply s_box; rfl; constructor; rfl; intro _) | apply s_st | apply q_st | apply st_go | (focus (first | (apply y_assign; rfl) | (apply y_load; rfl; (repeat (first | exact List.Mem.head _ | apply List.Mem.tail)); (repeat (first | exact Sub.nil | apply Sub.take | apply Sub.drop)); done) | (apply y_cell; rfl; (repeat (first | exact List.Mem.head _ | apply List.Mem.tail)); (repeat (first | exact At.hit | apply At.miss)); kernel_rfl; done) | (apply y_calls; rfl; rfl; rfl; (first | assumption | exact k3 _ _); done) | (apply y_faddr; kernel_rfl; rfl) | (apply y_eqs; rfl; rfl; kernel_rfl; exact inferInstance))) | apply q_nil | apply s_nil | apply w_seq | apply f_then | apply w_ret | (apply f_end; rfl; rfl; rfl; intro w hw; first | exact ans hw | (refine ans_b ?_ hw; assumption)) | (apply w_draw_l; rfl; kernel_rfl; rfl; kernel_rfl) | (apply w_reg_l; rfl) | exact rfl)
theorem cmpi_s (a b : Int) : Cal Try.prog 97 [.int .i64 a, .int .i64 b] (.int .i64 (c3 a b)) := by
  have k : ∀ x, Cal Try.prog 114 [.int .i64 x] (.bool false) := fun x => by
    refine Cal.of_eq (v' := .bool (x != x)) ?_ (by simp)
    refine Cal.mk fun Wo => enter (F := fun _ => False) Try.func114 rfl Try.ntmps114 rfl ?_
    repeat (first | apply s_st | apply st_go | (focus (first | (apply y_move; rfl) | (apply y_assign; rfl) | (apply y_ne; rfl; rfl))) | apply s_nil | apply w_seq | apply f_then | apply w_ret | (apply f_end; rfl; rfl; rfl; intro w hw; first | exact ans hw | (refine ans_b ?_ hw; assumption)) | (apply w_reg_l; rfl) | exact rfl)
  unfold c3
  by_cases h1 : a < b
  · have e1 : decide (a < b) = true := decide_eq_true h1
    rw [if_pos h1]
    clear h1
    refine Cal.mk fun Wo => enter (F := fun _ => False) Try.func97 rfl Try.ntmps97 rfl ?_
    repeat (first | apply s_st | apply st_go | (focus (first | (apply y_move; rfl) | (apply y_assign; rfl) | (apply y_calls; rfl; rfl; rfl; (first | assumption | exact k _); done) | (apply y_lt; rfl; rfl))) | apply s_nil | apply w_seq | apply f_then | apply f_ret | apply w_skip | apply w_ret | refine w_cond_f rfl ?_ | (apply w_cond_tt; rfl; assumption) | (apply f_end; rfl; rfl; rfl; intro w hw; first | exact ans hw | (refine ans_b ?_ hw; assumption)) | (apply w_reg_l; rfl) | exact rfl)
  · have e1 : decide (a < b) = false := decide_eq_false h1
    rw [if_neg h1]
    by_cases h2 : b < a
    · have e2 : decide (a > b) = true := decide_eq_true h2
      rw [if_pos h2]
      clear h1 h2
      refine Cal.mk fun Wo => enter (F := fun _ => False) Try.func97 rfl Try.ntmps97 rfl ?_
      repeat (first | apply s_st | apply st_go | (focus (first | (apply y_move; rfl) | (apply y_assign; rfl) | (apply y_calls; rfl; rfl; rfl; (first | assumption | exact k _); done) | (apply y_lt; rfl; rfl) | (apply y_gt; rfl; rfl))) | apply s_nil | apply w_seq | apply f_then | apply f_ret | apply w_skip | apply w_ret | refine w_cond_f rfl ?_ | (apply w_cond_tt; rfl; assumption) | (apply w_cond_ff; rfl; assumption) | (apply f_end; rfl; rfl; rfl; intro w hw; first | exact ans hw | (refine ans_b ?_ hw; assumption)) | (apply w_reg_l; rfl) | exact rfl)
    · have e2 : decide (a > b) = false := decide_eq_false h2
      rw [if_neg h2]
      clear h1 h2
      refine Cal.mk fun Wo => enter (F := fun _ => False) Try.func97 rfl Try.ntmps97 rfl ?_
      repeat (first | apply s_st | apply st_go | (focus (first | (apply y_move; rfl) | (apply y_assign; rfl) | (apply y_calls; rfl; rfl; rfl; (first | assumption | exact k _); done) | (apply y_lt; rfl; rfl) | (apply y_gt; rfl; rfl))) | apply s_nil | apply w_seq | apply f_then | apply w_skip | apply w_ret | refine w_cond_f rfl ?_ | (apply w_cond_ff; rfl; assumption) | (apply f_end; rfl; rfl; rfl; intro w hw; first | exact ans hw | (refine ans_b ?_ hw; assumption)) | (apply w_reg_l; rfl) | exact rfl)
theorem cmpu_s (a b : Int) : Cal Try.prog 113 [.int .u64 a, .int .u64 b] (.int .i64 (c3 a b)) := by
  have k : ∀ x, Cal Try.prog 120 [.int .u64 x] (.bool false) := fun x => by
    refine Cal.of_eq (v' := .bool (x != x)) ?_ (by simp)
    refine Cal.mk fun Wo => enter (F := fun _ => False) Try.func120 rfl Try.ntmps120 rfl ?_
    repeat (first | apply s_st | apply st_go | (focus (first | (apply y_move; rfl) | (apply y_assign; rfl) | (apply y_ne; rfl; rfl))) | apply s_nil | apply w_seq | apply f_then | apply w_ret | (apply f_end; rfl; rfl; rfl; intro w hw; first | exact ans hw | (refine ans_b ?_ hw; assumption)) | (apply w_reg_l; rfl) | exact rfl)
  unfold c3
  by_cases h1 : a < b
  · have e1 : decide (a < b) = true := decide_eq_true h1
    rw [if_pos h1]
    clear h1
    refine Cal.mk fun Wo => enter (F := fun _ => False) Try.func113 rfl Try.ntmps113 rfl ?_
    repeat (first | apply s_st | apply st_go | (focus (first | (apply y_move; rfl) | (apply y_assign; rfl) | (apply y_calls; rfl; rfl; rfl; (first | assumption | exact k _); done) | (apply y_lt; rfl; rfl))) | apply s_nil | apply w_seq | apply f_then | apply f_ret | apply w_skip | apply w_ret | refine w_cond_f rfl ?_ | (apply w_cond_tt; rfl; assumption) | (apply f_end; rfl; rfl; rfl; intro w hw; first | exact ans hw | (refine ans_b ?_ hw; assumption)) | (apply w_reg_l; rfl) | exact rfl)
  · have e1 : decide (a < b) = false := decide_eq_false h1
    rw [if_neg h1]
    by_cases h2 : b < a
    · have e2 : decide (a > b) = true := decide_eq_true h2
      rw [if_pos h2]
      clear h1 h2
      refine Cal.mk fun Wo => enter (F := fun _ => False) Try.func113 rfl Try.ntmps113 rfl ?_
      repeat (first | apply s_st | apply st_go | (focus (first | (apply y_move; rfl) | (apply y_assign; rfl) | (apply y_calls; rfl; rfl; rfl; (first | assumption | exact k _); done) | (apply y_lt; rfl; rfl) | (apply y_gt; rfl; rfl))) | apply s_nil | apply w_seq | apply f_then | apply f_ret | apply w_skip | apply w_ret | refine w_cond_f rfl ?_ | (apply w_cond_tt; rfl; assumption) | (apply w_cond_ff; rfl; assumption) | (apply f_end; rfl; rfl; rfl; intro w hw; first | exact ans hw | (refine ans_b ?_ hw; assumption)) | (apply w_reg_l; rfl) | exact rfl)
    · have e2 : decide (a > b) = false := decide_eq_false h2
      rw [if_neg h2]
      clear h1 h2
      refine Cal.mk fun Wo => enter (F := fun _ => False) Try.func113 rfl Try.ntmps113 rfl ?_
      repeat (first | apply s_st | apply st_go | (focus (first | (apply y_move; rfl) | (apply y_assign; rfl) | (apply y_calls; rfl; rfl; rfl; (first | assumption | exact k _); done) | (apply y_lt; rfl; rfl) | (apply y_gt; rfl; rfl))) | apply s_nil | apply w_seq | apply f_then | apply w_skip | apply w_ret | refine w_cond_f rfl ?_ | (apply w_cond_ff; rfl; assumption) | (apply f_end; rfl; rfl; rfl; intro w hw; first | exact ans hw | (refine ans_b ?_ hw; assumption)) | (apply w_reg_l; rfl) | exact rfl)
/-- The first that is not nought. -/
def orL : List Int → Int
  | [] => 0
  | x :: l => if x = 0 then orL l else x
def i64c (x : Int) : List Value := [.int .i64 x]
theorem cmpor_s (l : List Int) (hl : l.length ≤ 1000000) (A : Option Addr) (c : Nat) : RCal Try.prog 95 [.slice A l.length c] [.vw A c 1 (l.map i64c)] (.int .i64 (orL l)) := by
  refine enter_r rfl Try.func95 rfl Try.ntmps95 rfl (fun Wo => ?_)
  repeat (first | apply s_st | apply st_go | (focus (first | (apply y_move; rfl) | (apply y_assign; rfl) | (apply y_len; rfl))) | apply s_nil | apply w_seq | apply f_then | apply w_block | (apply w_reg_l; rfl) | exact rfl)
  refine w_loop0 (fun i : Nat => [(8, .int .i64 ((i : Nat) : Int))]) (fun i => i ≤ l.length ∧ orL l = orL (l.drop i)) (fun i => l.length - i) 0 ⟨Nat.zero_le _, rfl⟩ ?_ ?_
  · (repeat (first | exact Cov.nil | (apply Cov.cons; rfl) | (apply Cov.seen; rfl)))
  · rintro i ⟨hi, he⟩ R hR
    by_cases hlt : i < l.length
    · have hE : decide (((i : Nat) : Int) < ((l.length : Nat) : Int)) = true := by simp; exact hlt
      have hrow := map_get (f := i64c) hlt
      have hd := List.drop_eq_getElem_cons hlt
      by_cases hq : l[i] = 0
      · have hz : (l[i] != 0) = false := by simp [hq]
        have hB := hR (i + 1) ⟨hlt, by rw [he, hd, orL, if_pos hq]⟩ (by omega)
        rw [show (((i + 1 : Nat)) : Int) = IntKind.i64.wrap (((i : Nat) : Int) + 1) by rw [i64w (by omega) (by omega)]; rfl] at hB
        clear hR he hd hq
        repeat (first | apply s_st | apply st_go | (focus (first | (apply y_move; rfl) | (apply y_assign; rfl) | (apply y_ecell; rfl; (first | (focus (apply Sees.vw; (repeat (first | exact List.Mem.head _ | apply List.Mem.tail)); done)) | (focus (apply Sees.own; (repeat (first | exact List.Mem.head _ | apply List.Mem.tail)); done)) | exact Sees.nil | assumption); (first | assumption | rfl); (repeat (first | exact At.hit | apply At.miss)); kernel_rfl; done) | (apply y_ixaddr; rfl; rfl; (first | (focus (apply Sees.vw; (repeat (first | exact List.Mem.head _ | apply List.Mem.tail)); done)) | (focus (apply Sees.own; (repeat (first | exact List.Mem.head _ | apply List.Mem.tail)); done)) | exact Sees.nil | assumption); (first | rfl | assumption | (focus (simp; done)) | (focus (simp; omega))); (first | assumption | rfl | exact (show (0 : Int) = ((0 : Nat) : Int) from rfl) | exact (show (1 : Int) = ((1 : Nat) : Int) from rfl) | exact (show (2 : Int) = ((2 : Nat) : Int) from rfl) | exact (show (3 : Int) = ((3 : Nat) : Int) from rfl)); (first | assumption | omega | (focus (simp; done)) | (focus (simp; omega))); done) | (apply y_ne; rfl; rfl) | (apply y_lt; rfl; rfl) | (apply y_add; rfl; rfl))) | apply s_nil | apply w_seq | apply f_then | apply w_block | apply f_norm_block | (apply f_back; assumption; (repeat (first | exact Cov.nil | (apply Cov.cons; rfl) | (apply Cov.seen; rfl))); (focus ((repeat (first | exact List.Sublist.refl _ | apply List.Sublist.cons_cons | apply List.Sublist.cons)); done))) | apply w_skip | (apply w_cond_tt; rfl; assumption) | (apply w_cond_ff; rfl; assumption) | (apply w_reg_l; rfl) | exact rfl)
      · have hz : (l[i] != 0) = true := by simp [hq]
        rw [he, hd, orL, if_neg hq]
        clear hR he hd hq
        repeat (first | apply s_st | apply st_go | (focus (first | (apply y_move; rfl) | (apply y_assign; rfl) | (apply y_ecell; rfl; (first | (focus (apply Sees.vw; (repeat (first | exact List.Mem.head _ | apply List.Mem.tail)); done)) | (focus (apply Sees.own; (repeat (first | exact List.Mem.head _ | apply List.Mem.tail)); done)) | exact Sees.nil | assumption); (first | assumption | rfl); (repeat (first | exact At.hit | apply At.miss)); kernel_rfl; done) | (apply y_ixaddr; rfl; rfl; (first | (focus (apply Sees.vw; (repeat (first | exact List.Mem.head _ | apply List.Mem.tail)); done)) | (focus (apply Sees.own; (repeat (first | exact List.Mem.head _ | apply List.Mem.tail)); done)) | exact Sees.nil | assumption); (first | rfl | assumption | (focus (simp; done)) | (focus (simp; omega))); (first | assumption | rfl | exact (show (0 : Int) = ((0 : Nat) : Int) from rfl) | exact (show (1 : Int) = ((1 : Nat) : Int) from rfl) | exact (show (2 : Int) = ((2 : Nat) : Int) from rfl) | exact (show (3 : Int) = ((3 : Nat) : Int) from rfl)); (first | assumption | omega | (focus (simp; done)) | (focus (simp; omega))); done) | (apply y_ne; rfl; rfl) | (apply y_lt; rfl; rfl))) | apply s_nil | apply w_seq | apply f_then | apply w_block | apply f_ret | apply f_ret_block | apply w_skip | apply w_ret | (apply w_cond_tt; rfl; assumption) | (apply f_end; rfl; rfl; rfl; intro w hw; first | exact ans hw | (refine ans_b ?_ hw; assumption)) | (apply w_reg_l; rfl) | exact rfl)
    · have hE : decide (((i : Nat) : Int) < ((l.length : Nat) : Int)) = false := by simp; omega
      rw [he, List.drop_eq_nil_of_le (by omega)]
      clear hR he
      repeat (first | apply s_st | apply st_go | (focus (first | (apply y_move; rfl) | (apply y_assign; rfl) | (apply y_lt; rfl; rfl))) | apply s_nil | apply w_seq | apply f_then | apply w_exit | apply f_out | apply f_exit_block | apply w_ret | (apply w_cond_ff; rfl; assumption) | (apply f_end; rfl; rfl; rfl; intro w hw; first | exact ans hw | (refine ans_b ?_ hw; assumption)) | (apply w_reg_l; rfl) | exact rfl)
theorem bit_s {a0 a1 : Int} (h : u64 a0 ∧ u64 a1) (a2 : Bool) (i : Int) : Cal Try.prog 77 [.agg #[.int .u64 a0, .int .u64 a1, .bool a2], .int .i64 i] (.int .i64 (bitI (bitA a0 a1 a2 i))) := by
  have k1 := is_s (a0 := a0) (a1 := a1) a2 i
  have k2 := read_s h a2
  have hW := W_le a2
  cases hi : isI a2 i with
  | false =>
    rw [hi] at k1
    have e : bitI (bitA a0 a1 a2 i) = 0 := by unfold bitA; rw [hi]; rfl
    rw [e]
    clear e hi
    refine Cal.mk fun Wo => enter (F := fun _ => False) Try.func77 rfl Try.ntmps77 rfl ?_
    repeat (first | (apply s_box; rfl; constructor; rfl; intro _) | apply s_st | apply st_go | (focus (first | (apply y_move; rfl) | (apply y_assign; rfl) | (apply y_not; rfl) | (apply y_load; rfl; (repeat (first | exact List.Mem.head _ | apply List.Mem.tail)); (repeat (first | exact Sub.nil | apply Sub.take | apply Sub.drop)); done) | (apply y_calls; rfl; rfl; rfl; (first | assumption); done))) | apply s_nil | apply w_seq | apply f_then | apply f_ret | apply w_ret | refine w_cond_t rfl ?_ | (apply f_end; rfl; rfl; rfl; intro w hw; first | exact ans hw | (refine ans_b ?_ hw; assumption)) | (apply w_reg_l; rfl) | exact rfl)
  | true =>
    rw [hi] at k1
    have h' : 0 ≤ i ∧ i < ((W a2 : Nat) : Int) := by simpa [isI] using hi
    have e : bitA a0 a1 a2 i = D a0 a1 i.toNat := by unfold bitA; rw [hi]; rfl
    rw [e]
    have l0 := bitI_lo (D a0 a1 i.toNat)
    have l1 := bitI_hi (D a0 a1 i.toNat)
    have t1 : i.tdiv 64 = i / 64 := Int.tdiv_eq_ediv_of_nonneg h'.1
    have t2 : i.tmod 64 = i % 64 := Int.tmod_eq_emod_of_nonneg h'.1
    by_cases c : i < 64
    · have q1 : IntKind.i64.wrap (i.tdiv 64) = ((0 : Nat) : Int) := by rw [t1, show i / 64 = 0 by omega]; decide
      have q2 : IntKind.u64.wrap (IntKind.i64.wrap (63 - i.tmod 64)) = 63 - i := by rw [t2, i64w (by omega) (by omega), u64w (by omega) (by omega)]; omega
      have hv := bit_val a0 a1 a2 i h'.1 h'.2 c
      have hS : 0 ≤ IntKind.u64.wrap (IntKind.i64.wrap (63 - i.tmod 64)) ∧ IntKind.u64.wrap (IntKind.i64.wrap (63 - i.tmod 64)) ≤ IntKind.u64.bits := by rw [q2]; exact ⟨by omega, by show 63 - i ≤ 64; omega⟩
      refine Cal.of_eq (v' := .int .i64 (IntKind.i64.wrap (Go.bits .and .u64 (hiA a2 (D a0 a1) / 2 ^ (IntKind.u64.wrap (IntKind.i64.wrap (63 - i.tmod 64))).toNat) 1))) ?_ (by rw [q2, hv, i64w (by omega) (by omega)])
      clear q2 hv t1 t2 hi e l0 l1
      refine Cal.mk fun Wo => enter (F := fun _ => False) Try.func77 rfl Try.ntmps77 rfl ?_
      repeat (first | (apply s_box; rfl; constructor; rfl; intro _) | (apply s_alloc; rfl; intro _) | (apply s_store; rfl; rfl; (repeat (first | exact Plc.hit | apply Plc.miss)); constructor; (focus ((simp only [setAt, List.set_cons_zero, List.set_cons_succ, Nat.zero_add, Nat.reduceAdd, Nat.reduceMul]); try rfl)); kernel_rfl; rfl) | apply s_st | apply st_go | (focus (first | (apply y_move; rfl) | (apply y_assign; rfl) | (apply y_not; rfl) | (apply y_load; rfl; (repeat (first | exact List.Mem.head _ | apply List.Mem.tail)); (repeat (first | exact Sub.nil | apply Sub.take | apply Sub.drop)); done) | (apply y_cell; rfl; (repeat (first | exact List.Mem.head _ | apply List.Mem.tail)); (repeat (first | exact At.hit | apply At.miss)); kernel_rfl; done) | (apply y_calls; rfl; rfl; rfl; (first | assumption); done) | (apply y_axaddr; rfl; rfl; (first | assumption | rfl | exact (show (0 : Int) = ((0 : Nat) : Int) from rfl) | exact (show (1 : Int) = ((1 : Nat) : Int) from rfl) | exact (show (2 : Int) = ((2 : Nat) : Int) from rfl) | exact (show (3 : Int) = ((3 : Nat) : Int) from rfl)); (first | assumption | omega | (focus (simp; done)) | (focus (simp; omega))); done) | (apply y_sub; rfl; rfl) | (apply y_quo; rfl; rfl; (first | decide | assumption | omega); done) | (apply y_rem; rfl; rfl; (first | decide | assumption | omega); done) | (apply y_shr; rfl; rfl; (first | assumption | decide | (constructor <;> omega)); done) | (apply y_band; rfl; rfl) | (apply y_conv; rfl; kernel_rfl; rfl))) | apply s_nil | apply w_seq | apply f_then | apply w_skip | apply w_ret | refine w_cond_f rfl ?_ | (apply f_end; rfl; rfl; rfl; intro w hw; first | exact ans hw | (refine ans_b ?_ hw; assumption)) | (apply w_reg_l; rfl) | exact rfl)
    · have q1 : IntKind.i64.wrap (i.tdiv 64) = ((1 : Nat) : Int) := by rw [t1, show i / 64 = 1 by omega]; decide
      have q2 : IntKind.u64.wrap (IntKind.i64.wrap (63 - i.tmod 64)) = 63 - (i - 64) := by rw [t2, i64w (by omega) (by omega), u64w (by omega) (by omega)]; omega
      have hv := bit_val2 a0 a1 a2 i (by omega) h'.2
      have hS : 0 ≤ IntKind.u64.wrap (IntKind.i64.wrap (63 - i.tmod 64)) ∧ IntKind.u64.wrap (IntKind.i64.wrap (63 - i.tmod 64)) ≤ IntKind.u64.bits := by rw [q2]; exact ⟨by omega, by show 63 - (i - 64) ≤ 64; omega⟩
      refine Cal.of_eq (v' := .int .i64 (IntKind.i64.wrap (Go.bits .and .u64 (loA a2 (D a0 a1) / 2 ^ (IntKind.u64.wrap (IntKind.i64.wrap (63 - i.tmod 64))).toNat) 1))) ?_ (by rw [q2, hv, i64w (by omega) (by omega)])
      clear q2 hv t1 t2 hi e l0 l1
      refine Cal.mk fun Wo => enter (F := fun _ => False) Try.func77 rfl Try.ntmps77 rfl ?_
      repeat (first | (apply s_box; rfl; constructor; rfl; intro _) | (apply s_alloc; rfl; intro _) | (apply s_store; rfl; rfl; (repeat (first | exact Plc.hit | apply Plc.miss)); constructor; (focus ((simp only [setAt, List.set_cons_zero, List.set_cons_succ, Nat.zero_add, Nat.reduceAdd, Nat.reduceMul]); try rfl)); kernel_rfl; rfl) | apply s_st | apply st_go | (focus (first | (apply y_move; rfl) | (apply y_assign; rfl) | (apply y_not; rfl) | (apply y_load; rfl; (repeat (first | exact List.Mem.head _ | apply List.Mem.tail)); (repeat (first | exact Sub.nil | apply Sub.take | apply Sub.drop)); done) | (apply y_cell; rfl; (repeat (first | exact List.Mem.head _ | apply List.Mem.tail)); (repeat (first | exact At.hit | apply At.miss)); kernel_rfl; done) | (apply y_calls; rfl; rfl; rfl; (first | assumption); done) | (apply y_axaddr; rfl; rfl; (first | assumption | rfl | exact (show (0 : Int) = ((0 : Nat) : Int) from rfl) | exact (show (1 : Int) = ((1 : Nat) : Int) from rfl) | exact (show (2 : Int) = ((2 : Nat) : Int) from rfl) | exact (show (3 : Int) = ((3 : Nat) : Int) from rfl)); (first | assumption | omega | (focus (simp; done)) | (focus (simp; omega))); done) | (apply y_sub; rfl; rfl) | (apply y_quo; rfl; rfl; (first | decide | assumption | omega); done) | (apply y_rem; rfl; rfl; (first | decide | assumption | omega); done) | (apply y_shr; rfl; rfl; (first | assumption | decide | (constructor <;> omega)); done) | (apply y_band; rfl; rfl) | (apply y_conv; rfl; kernel_rfl; rfl))) | apply s_nil | apply w_seq | apply f_then | apply w_skip | apply w_ret | refine w_cond_f rfl ?_ | (apply f_end; rfl; rfl; rfl; intro w hw; first | exact ans hw | (refine ans_b ?_ hw; assumption)) | (apply w_reg_l; rfl) | exact rfl)
theorem set_as {a0 a1 : Int} (h : u64 a0 ∧ u64 a1) (a2 : Bool) (i v : Int) : Cal Try.prog 83 [.agg #[.int .u64 a0, .int .u64 a1, .bool a2], .int .i64 i, .int .i64 v] (.agg #[.int .u64 (hiA a2 (setA a0 a1 a2 i v)), .int .u64 (loA a2 (setA a0 a1 a2 i v)), .bool a2]) := by
  have k1 := is_s (a0 := a0) (a1 := a1) a2 i
  have k2 := read_s h a2
  have k3 := fun x y => wof_s x y a2
  have hW := W_le a2
  cases hi : isI a2 i with
  | false =>
    rw [hi] at k1
    have e : setA a0 a1 a2 i v = D a0 a1 := by unfold setA; rw [if_neg (by rw [hi]; exact Bool.false_ne_true)]
    rw [e]
    clear e hi
    refine Cal.mk fun Wo => enter (F := fun _ => False) Try.func83 rfl Try.ntmps83 rfl ?_
    repeat (first | (apply s_box; rfl; constructor; rfl; intro _) | (apply s_alloc; rfl; intro _) | (apply s_store; rfl; rfl; (repeat (first | exact Plc.hit | apply Plc.miss)); constructor; (focus ((simp only [setAt, List.set_cons_zero, List.set_cons_succ, Nat.zero_add, Nat.reduceAdd, Nat.reduceMul]); try rfl)); kernel_rfl; rfl) | apply s_st | apply st_go | (focus (first | (apply y_move; rfl) | (apply y_load; rfl; (repeat (first | exact List.Mem.head _ | apply List.Mem.tail)); (repeat (first | exact Sub.nil | apply Sub.take | apply Sub.drop)); done) | (apply y_cell; rfl; (repeat (first | exact List.Mem.head _ | apply List.Mem.tail)); (repeat (first | exact At.hit | apply At.miss)); kernel_rfl; done) | (apply y_calls; rfl; rfl; rfl; (first | assumption | exact k3 _ _); done) | (apply y_faddr; kernel_rfl; rfl))) | apply s_nil | apply w_seq | apply f_then | apply w_skip | apply w_ret | refine w_cond_f rfl ?_ | (apply f_ends1; rfl; rfl; (repeat (first | exact Res.nil | (apply Res.tmp; rfl) | (apply Res.agg; exact inferInstance; rfl; (repeat (first | exact List.Mem.head _ | apply List.Mem.tail)); (repeat (first | exact Sub.nil | apply Sub.take | apply Sub.drop))) | (apply Res.cell; kernel_rfl; rfl; (repeat (first | exact List.Mem.head _ | apply List.Mem.tail)); (repeat (first | exact At.hit | apply At.miss))))); intro w hw; first | exact ans hw | (refine ans_b ?_ hw; assumption)) | (apply w_reg_l; rfl) | exact rfl)
  | true =>
    rw [hi] at k1
    have h' : 0 ≤ i ∧ i < ((W a2 : Nat) : Int) := by simpa [isI] using hi
    have e : setA a0 a1 a2 i v = setD (D a0 a1) i (setv v) := by unfold setA; rw [if_pos hi]
    rw [e]
    clear e
    obtain ⟨m, rfl⟩ := Int.eq_ofNat_of_zero_le h'.1
    have t1 : ((m : Nat) : Int).tdiv 64 = ((m : Nat) : Int) / 64 := Int.tdiv_eq_ediv_of_nonneg h'.1
    have t2 : ((m : Nat) : Int).tmod 64 = ((m : Nat) : Int) % 64 := Int.tmod_eq_emod_of_nonneg h'.1
    have hb : (Go.bits .and .i64 v 1 == 1) = setv v := rfl
    by_cases c : m < 64
    · have q1 : IntKind.i64.wrap (((m : Nat) : Int).tdiv 64) = ((0 : Nat) : Int) := by rw [t1, show ((m : Nat) : Int) / 64 = 0 by omega]; decide
      have q2 : IntKind.u64.wrap (IntKind.i64.wrap (63 - ((m : Nat) : Int).tmod 64)) = ((63 - m : Nat) : Int) := by rw [t2, i64w (by omega) (by omega), u64w (by omega) (by omega)]; omega
      have q3 := one_shl' m c
      have q4 : IntKind.u64.wrap (1 * 2 ^ (IntKind.u64.wrap (IntKind.i64.wrap (63 - ((m : Nat) : Int).tmod 64))).toNat) = 2 ^ (63 - m) := by rw [q2, Int.toNat_natCast, Int.one_mul, q3]
      have hS : 0 ≤ IntKind.u64.wrap (IntKind.i64.wrap (63 - ((m : Nat) : Int).tmod 64)) ∧ IntKind.u64.wrap (IntKind.i64.wrap (63 - ((m : Nat) : Int).tmod 64)) ≤ IntKind.u64.bits := by rw [q2]; exact ⟨by omega, by show ((63 - m : Nat) : Int) ≤ 64; omega⟩
      cases hv : setv v with
      | true =>
        rw [hv] at hb
        rw [hi1 a2 _ m (by omega) c, lo_keep a2 _ m c, ← q4]
        clear q2 q3 q4 t1 t2 hv
        refine Cal.mk fun Wo => enter (F := fun _ => False) Try.func83 rfl Try.ntmps83 rfl ?_
        repeat (first | (apply s_box; rfl; constructor; rfl; intro _) | (apply s_alloc; rfl; intro _) | (apply s_store; rfl; rfl; (repeat (first | exact Plc.hit | apply Plc.miss)); constructor; (focus ((simp only [setAt, List.set_cons_zero, List.set_cons_succ, Nat.zero_add, Nat.reduceAdd, Nat.reduceMul]); try rfl)); kernel_rfl; rfl) | apply s_st | apply st_go | (focus (first | (apply y_move; rfl) | (apply y_assign; rfl) | (apply y_load; rfl; (repeat (first | exact List.Mem.head _ | apply List.Mem.tail)); (repeat (first | exact Sub.nil | apply Sub.take | apply Sub.drop)); done) | (apply y_cell; rfl; (repeat (first | exact List.Mem.head _ | apply List.Mem.tail)); (repeat (first | exact At.hit | apply At.miss)); kernel_rfl; done) | (apply y_calls; rfl; rfl; rfl; (first | assumption | exact k3 _ _); done) | (apply y_faddr; kernel_rfl; rfl) | (apply y_axaddr; rfl; rfl; (first | assumption | rfl | exact (show (0 : Int) = ((0 : Nat) : Int) from rfl) | exact (show (1 : Int) = ((1 : Nat) : Int) from rfl) | exact (show (2 : Int) = ((2 : Nat) : Int) from rfl) | exact (show (3 : Int) = ((3 : Nat) : Int) from rfl)); (first | assumption | omega | (focus (simp; done)) | (focus (simp; omega))); done) | (apply y_bandnot; rfl; rfl) | (apply y_eq; rfl; rfl) | (apply y_sub; rfl; rfl) | (apply y_quo; rfl; rfl; (first | decide | assumption | omega); done) | (apply y_rem; rfl; rfl; (first | decide | assumption | omega); done) | (apply y_shl; rfl; rfl; (first | assumption | decide | (constructor <;> omega)); done) | (apply y_band; rfl; rfl) | (apply y_bor; rfl; rfl) | (apply y_conv; rfl; kernel_rfl; rfl))) | apply s_nil | apply w_seq | apply f_then | apply w_ret | refine w_cond_t rfl ?_ | (apply w_cond_tt; rfl; assumption) | (apply f_ends1; rfl; rfl; (repeat (first | exact Res.nil | (apply Res.tmp; rfl) | (apply Res.agg; exact inferInstance; rfl; (repeat (first | exact List.Mem.head _ | apply List.Mem.tail)); (repeat (first | exact Sub.nil | apply Sub.take | apply Sub.drop))) | (apply Res.cell; kernel_rfl; rfl; (repeat (first | exact List.Mem.head _ | apply List.Mem.tail)); (repeat (first | exact At.hit | apply At.miss))))); intro w hw; first | exact ans hw | (refine ans_b ?_ hw; assumption)) | (apply w_reg_l; rfl) | exact rfl)
      | false =>
        rw [hv] at hb
        rw [hi0 a2 _ m (by omega) c, lo_keep a2 _ m c, ← q4]
        clear q2 q3 q4 t1 t2 hv
        refine Cal.mk fun Wo => enter (F := fun _ => False) Try.func83 rfl Try.ntmps83 rfl ?_
        repeat (first | (apply s_box; rfl; constructor; rfl; intro _) | (apply s_alloc; rfl; intro _) | (apply s_store; rfl; rfl; (repeat (first | exact Plc.hit | apply Plc.miss)); constructor; (focus ((simp only [setAt, List.set_cons_zero, List.set_cons_succ, Nat.zero_add, Nat.reduceAdd, Nat.reduceMul]); try rfl)); kernel_rfl; rfl) | apply s_st | apply st_go | (focus (first | (apply y_move; rfl) | (apply y_assign; rfl) | (apply y_load; rfl; (repeat (first | exact List.Mem.head _ | apply List.Mem.tail)); (repeat (first | exact Sub.nil | apply Sub.take | apply Sub.drop)); done) | (apply y_cell; rfl; (repeat (first | exact List.Mem.head _ | apply List.Mem.tail)); (repeat (first | exact At.hit | apply At.miss)); kernel_rfl; done) | (apply y_calls; rfl; rfl; rfl; (first | assumption | exact k3 _ _); done) | (apply y_faddr; kernel_rfl; rfl) | (apply y_axaddr; rfl; rfl; (first | assumption | rfl | exact (show (0 : Int) = ((0 : Nat) : Int) from rfl) | exact (show (1 : Int) = ((1 : Nat) : Int) from rfl) | exact (show (2 : Int) = ((2 : Nat) : Int) from rfl) | exact (show (3 : Int) = ((3 : Nat) : Int) from rfl)); (first | assumption | omega | (focus (simp; done)) | (focus (simp; omega))); done) | (apply y_bandnot; rfl; rfl) | (apply y_eq; rfl; rfl) | (apply y_sub; rfl; rfl) | (apply y_quo; rfl; rfl; (first | decide | assumption | omega); done) | (apply y_rem; rfl; rfl; (first | decide | assumption | omega); done) | (apply y_shl; rfl; rfl; (first | assumption | decide | (constructor <;> omega)); done) | (apply y_band; rfl; rfl) | (apply y_conv; rfl; kernel_rfl; rfl))) | apply s_nil | apply w_seq | apply f_then | apply w_skip | apply w_ret | refine w_cond_t rfl ?_ | (apply w_cond_ff; rfl; assumption) | (apply f_ends1; rfl; rfl; (repeat (first | exact Res.nil | (apply Res.tmp; rfl) | (apply Res.agg; exact inferInstance; rfl; (repeat (first | exact List.Mem.head _ | apply List.Mem.tail)); (repeat (first | exact Sub.nil | apply Sub.take | apply Sub.drop))) | (apply Res.cell; kernel_rfl; rfl; (repeat (first | exact List.Mem.head _ | apply List.Mem.tail)); (repeat (first | exact At.hit | apply At.miss))))); intro w hw; first | exact ans hw | (refine ans_b ?_ hw; assumption)) | (apply w_reg_l; rfl) | exact rfl)
    · obtain ⟨n, rfl⟩ : ∃ n, m = 64 + n := ⟨m - 64, by omega⟩
      have c2 : n < 64 := by omega
      have q1 : IntKind.i64.wrap (((64 + n : Nat) : Int).tdiv 64) = ((1 : Nat) : Int) := by rw [t1, show ((64 + n : Nat) : Int) / 64 = 1 by omega]; decide
      have q2 : IntKind.u64.wrap (IntKind.i64.wrap (63 - ((64 + n : Nat) : Int).tmod 64)) = ((63 - n : Nat) : Int) := by rw [t2, i64w (by omega) (by omega), u64w (by omega) (by omega)]; omega
      have q3 := one_shl' n c2
      have q4 : IntKind.u64.wrap (1 * 2 ^ (IntKind.u64.wrap (IntKind.i64.wrap (63 - ((64 + n : Nat) : Int).tmod 64))).toNat) = 2 ^ (63 - n) := by rw [q2, Int.toNat_natCast, Int.one_mul, q3]
      have hS : 0 ≤ IntKind.u64.wrap (IntKind.i64.wrap (63 - ((64 + n : Nat) : Int).tmod 64)) ∧ IntKind.u64.wrap (IntKind.i64.wrap (63 - ((64 + n : Nat) : Int).tmod 64)) ≤ IntKind.u64.bits := by rw [q2]; exact ⟨by omega, by show ((63 - n : Nat) : Int) ≤ 64; omega⟩
      cases hv : setv v with
      | true =>
        rw [hv] at hb
        rw [lo1 a2 _ n (by omega) c2, hi_keep a2 _ _ (by omega), ← q4]
        clear q2 q3 q4 t1 t2 hv
        refine Cal.mk fun Wo => enter (F := fun _ => False) Try.func83 rfl Try.ntmps83 rfl ?_
        repeat (first | (apply s_box; rfl; constructor; rfl; intro _) | (apply s_alloc; rfl; intro _) | (apply s_store; rfl; rfl; (repeat (first | exact Plc.hit | apply Plc.miss)); constructor; (focus ((simp only [setAt, List.set_cons_zero, List.set_cons_succ, Nat.zero_add, Nat.reduceAdd, Nat.reduceMul]); try rfl)); kernel_rfl; rfl) | apply s_st | apply st_go | (focus (first | (apply y_move; rfl) | (apply y_assign; rfl) | (apply y_load; rfl; (repeat (first | exact List.Mem.head _ | apply List.Mem.tail)); (repeat (first | exact Sub.nil | apply Sub.take | apply Sub.drop)); done) | (apply y_cell; rfl; (repeat (first | exact List.Mem.head _ | apply List.Mem.tail)); (repeat (first | exact At.hit | apply At.miss)); kernel_rfl; done) | (apply y_calls; rfl; rfl; rfl; (first | assumption | exact k3 _ _); done) | (apply y_faddr; kernel_rfl; rfl) | (apply y_axaddr; rfl; rfl; (first | assumption | rfl | exact (show (0 : Int) = ((0 : Nat) : Int) from rfl) | exact (show (1 : Int) = ((1 : Nat) : Int) from rfl) | exact (show (2 : Int) = ((2 : Nat) : Int) from rfl) | exact (show (3 : Int) = ((3 : Nat) : Int) from rfl)); (first | assumption | omega | (focus (simp; done)) | (focus (simp; omega))); done) | (apply y_bandnot; rfl; rfl) | (apply y_eq; rfl; rfl) | (apply y_sub; rfl; rfl) | (apply y_quo; rfl; rfl; (first | decide | assumption | omega); done) | (apply y_rem; rfl; rfl; (first | decide | assumption | omega); done) | (apply y_shl; rfl; rfl; (first | assumption | decide | (constructor <;> omega)); done) | (apply y_band; rfl; rfl) | (apply y_bor; rfl; rfl) | (apply y_conv; rfl; kernel_rfl; rfl))) | apply s_nil | apply w_seq | apply f_then | apply w_ret | refine w_cond_t rfl ?_ | (apply w_cond_tt; rfl; assumption) | (apply f_ends1; rfl; rfl; (repeat (first | exact Res.nil | (apply Res.tmp; rfl) | (apply Res.agg; exact inferInstance; rfl; (repeat (first | exact List.Mem.head _ | apply List.Mem.tail)); (repeat (first | exact Sub.nil | apply Sub.take | apply Sub.drop))) | (apply Res.cell; kernel_rfl; rfl; (repeat (first | exact List.Mem.head _ | apply List.Mem.tail)); (repeat (first | exact At.hit | apply At.miss))))); intro w hw; first | exact ans hw | (refine ans_b ?_ hw; assumption)) | (apply w_reg_l; rfl) | exact rfl)
      | false =>
        rw [hv] at hb
        rw [lo0 a2 _ n (by omega) c2, hi_keep a2 _ _ (by omega), ← q4]
        clear q2 q3 q4 t1 t2 hv
        refine Cal.mk fun Wo => enter (F := fun _ => False) Try.func83 rfl Try.ntmps83 rfl ?_
        repeat (first | (apply s_box; rfl; constructor; rfl; intro _) | (apply s_alloc; rfl; intro _) | (apply s_store; rfl; rfl; (repeat (first | exact Plc.hit | apply Plc.miss)); constructor; (focus ((simp only [setAt, List.set_cons_zero, List.set_cons_succ, Nat.zero_add, Nat.reduceAdd, Nat.reduceMul]); try rfl)); kernel_rfl; rfl) | apply s_st | apply st_go | (focus (first | (apply y_move; rfl) | (apply y_assign; rfl) | (apply y_load; rfl; (repeat (first | exact List.Mem.head _ | apply List.Mem.tail)); (repeat (first | exact Sub.nil | apply Sub.take | apply Sub.drop)); done) | (apply y_cell; rfl; (repeat (first | exact List.Mem.head _ | apply List.Mem.tail)); (repeat (first | exact At.hit | apply At.miss)); kernel_rfl; done) | (apply y_calls; rfl; rfl; rfl; (first | assumption | exact k3 _ _); done) | (apply y_faddr; kernel_rfl; rfl) | (apply y_axaddr; rfl; rfl; (first | assumption | rfl | exact (show (0 : Int) = ((0 : Nat) : Int) from rfl) | exact (show (1 : Int) = ((1 : Nat) : Int) from rfl) | exact (show (2 : Int) = ((2 : Nat) : Int) from rfl) | exact (show (3 : Int) = ((3 : Nat) : Int) from rfl)); (first | assumption | omega | (focus (simp; done)) | (focus (simp; omega))); done) | (apply y_bandnot; rfl; rfl) | (apply y_eq; rfl; rfl) | (apply y_sub; rfl; rfl) | (apply y_quo; rfl; rfl; (first | decide | assumption | omega); done) | (apply y_rem; rfl; rfl; (first | decide | assumption | omega); done) | (apply y_shl; rfl; rfl; (first | assumption | decide | (constructor <;> omega)); done) | (apply y_band; rfl; rfl) | (apply y_conv; rfl; kernel_rfl; rfl))) | apply s_nil | apply w_seq | apply f_then | apply w_skip | apply w_ret | refine w_cond_t rfl ?_ | (apply w_cond_ff; rfl; assumption) | (apply f_ends1; rfl; rfl; (repeat (first | exact Res.nil | (apply Res.tmp; rfl) | (apply Res.agg; exact inferInstance; rfl; (repeat (first | exact List.Mem.head _ | apply List.Mem.tail)); (repeat (first | exact Sub.nil | apply Sub.take | apply Sub.drop))) | (apply Res.cell; kernel_rfl; rfl; (repeat (first | exact List.Mem.head _ | apply List.Mem.tail)); (repeat (first | exact At.hit | apply At.miss))))); intro w hw; first | exact ans hw | (refine ans_b ?_ hw; assumption)) | (apply w_reg_l; rfl) | exact rfl)
theorem compare_s {a0 a1 b0 b1 : Int} (h : u64 a0 ∧ u64 a1) (h' : u64 b0 ∧ u64 b1) (a2 b2 : Bool) : Cal Try.prog 96 [.agg #[.int .u64 a0, .int .u64 a1, .bool a2], .agg #[.int .u64 b0, .int .u64 b1, .bool b2]] (.int .i64 (compA a0 a1 a2 b0 b1 b2)) := by
  refine Cal.of_eq (v' := .int .i64 (orL [c3 (W a2 : Nat) (W b2 : Nat), c3 (hiA a2 (D a0 a1)) (hiA b2 (D b0 b1)), c3 (loA a2 (D a0 a1)) (loA b2 (D b0 b1))])) ?_ ?_
  · have k1 := read_s h a2
    have k2 := read_s h' b2
    have k3 := width_s a2
    have k4 := width_s b2
    have k5 := cmpi_s (W a2 : Nat) (W b2 : Nat)
    have k6 := cmpu_s (hiA a2 (D a0 a1)) (hiA b2 (D b0 b1))
    have k7 := cmpu_s (loA a2 (D a0 a1)) (loA b2 (D b0 b1))
    have k8 := cmpor_s [c3 (W a2 : Nat) (W b2 : Nat), c3 (hiA a2 (D a0 a1)) (hiA b2 (D b0 b1)), c3 (loA a2 (D a0 a1)) (loA b2 (D b0 b1))] (by simp)
    refine Cal.mk fun Wo => enter (F := fun _ => False) Try.func96 rfl Try.ntmps96 rfl ?_
    repeat (first | (apply s_box; rfl; constructor; rfl; intro _) | (apply s_bslice; (repeat (first | exact PRows.nil | (apply PRows.cons; rfl; constructor; rfl))); rfl; rfl; intro _) | (apply s_store; rfl; rfl; (repeat (first | exact Plc.hit | apply Plc.miss)); constructor; (focus ((simp only [setAt, List.set_cons_zero, List.set_cons_succ, Nat.zero_add, Nat.reduceAdd, Nat.reduceMul]); try rfl)); kernel_rfl; rfl) | (apply g_new; rfl; intro _) | apply s_st | apply st_go | (focus (first | (apply y_assign; rfl) | (apply y_load; rfl; (repeat (first | exact List.Mem.head _ | apply List.Mem.tail)); (repeat (first | exact Sub.nil | apply Sub.take | apply Sub.drop)); done) | (apply y_cell; rfl; (repeat (first | exact List.Mem.head _ | apply List.Mem.tail)); (repeat (first | exact At.hit | apply At.miss)); kernel_rfl; done) | (apply y_calls; rfl; rfl; rfl; (first | assumption | exact k8 _ _); done) | (apply y_rcal; rfl; rfl; rfl; (exact k8 _ _); (repeat (first | exact SeesAll.nil | (apply SeesAll.cons; (first | (focus (apply Sees.vw; (repeat (first | exact List.Mem.head _ | apply List.Mem.tail)); done)) | (focus (apply Sees.own; (repeat (first | exact List.Mem.head _ | apply List.Mem.tail)); done)) | exact Sees.nil | assumption)))); done) | (apply y_faddr; kernel_rfl; rfl) | (apply y_axaddr; rfl; rfl; (first | assumption | rfl | exact (show (0 : Int) = ((0 : Nat) : Int) from rfl) | exact (show (1 : Int) = ((1 : Nat) : Int) from rfl) | exact (show (2 : Int) = ((2 : Nat) : Int) from rfl) | exact (show (3 : Int) = ((3 : Nat) : Int) from rfl)); (first | assumption | omega | (focus (simp; done)) | (focus (simp; omega))); done))) | apply s_nil | apply w_seq | apply f_then | apply w_ret | (apply f_end; rfl; rfl; rfl; intro w hw; first | exact ans hw | (refine ans_b ?_ hw; assumption)) | (apply w_mixed_r rfl 1 [0, 2, 1, 3, 4, 5] [0, 0, 1, 1, 1, 2] _ ; kernel_rfl; kernel_rfl; exact List.Sublist.refl _; rfl) | (apply w_mixed_r rfl 2 [0, 1, 3, 4, 7, 8, 9, 10, 12, 13, 14, 15, 2, 5, 6, 11] [0, 0, 0, 0, 0, 0, 0, 0, 0, 0, 0, 0, 2, 2, 2, 2] _ ; kernel_rfl; kernel_rfl; exact List.Sublist.refl _; rfl) | (apply g_st1; rfl; intro W0) | (apply g_st; rfl; intro W0) | apply g_done | (apply w_reg_l; rfl) | exact rfl)
  · unfold compA or3 orL
    generalize c3 (W a2 : Nat) (W b2 : Nat) = x
    generalize c3 (hiA a2 (D a0 a1)) (hiA b2 (D b0 b1)) = y
    generalize c3 (loA a2 (D a0 a1)) (loA b2 (D b0 b1)) = z
    simp only [orL]
    by_cases h1 : x = 0 <;> by_cases h2 : y = 0 <;> by_cases h3 : z = 0 <;> simp [h1, h2, h3]
theorem u_xor (a b : Nat) (ha : a < 18446744073709551616) (hb : b < 18446744073709551616) : u64 ((a ^^^ b : Nat) : Int) := by
  have : a ^^^ b < 18446744073709551616 := Nat.xor_lt_two_pow (n := 64) ha hb
  constructor <;> omega
theorem common_s {a0 a1 b0 b1 : Int} (h : u64 a0 ∧ u64 a1) (h' : u64 b0 ∧ u64 b1) (a2 b2 : Bool) : Cal Try.prog 70 [.agg #[.int .u64 a0, .int .u64 a1, .bool a2], .agg #[.int .u64 b0, .int .u64 b1, .bool b2]] (.int .i64 (commonA a0 a1 a2 b0 b1 b2)) := by
  have k1 := read_s h a2
  have k2 := read_s h' b2
  have k3 := width_s a2
  unfold commonA
  by_cases hv : a2 = b2
  · subst hv
    rw [if_pos rfl]
    have hE : (a2 != a2) = false := by simp
    have hx := cmn_two a2 (D a0 a1) (D b0 b1) _ _ rfl rfl
    have e1 : cmn (fun i => (wd (fun i => decide (i < W a2) && D a0 a1 i)).testBit (63 - i)) (fun i => (wd (fun i => decide (i < W a2) && D b0 b1 i)).testBit (63 - i)) 64 = cmn (Dw a2 (D a0 a1)) (Dw a2 (D b0 b1)) 64 :=
      cmn_congr (fun i hi => by rw [hi_bits a2 _ hi, hi_bits a2 _ hi])
    have e2 : cmn (fun i => (wd (fun i => decide (64 + i < W a2) && D a0 a1 (64 + i))).testBit (63 - i)) (fun i => (wd (fun i => decide (64 + i < W a2) && D b0 b1 (64 + i))).testBit (63 - i)) 64 = cmn (fun i => Dw a2 (D a0 a1) (64 + i)) (fun i => Dw a2 (D b0 b1) (64 + i)) 64 :=
      cmn_congr (fun i hi => by rw [lo_bits a2 _ hi, lo_bits a2 _ hi])
    rw [← lead_xor (wd_lt _) (wd_lt _)] at e1 e2
    have l1 := cmn_le (Dw a2 (D a0 a1)) (Dw a2 (D b0 b1)) 64
    have l2 := cmn_le (fun i => Dw a2 (D a0 a1) (64 + i)) (fun i => Dw a2 (D b0 b1) (64 + i)) 64
    have g1 : Cal Try.prog 105 [.int .u64 (Go.bits .xor .u64 (hiA a2 (D a0 a1)) (hiA a2 (D b0 b1)))] (.int .i64 ((cmn (Dw a2 (D a0 a1)) (Dw a2 (D b0 b1)) 64 : Nat) : Int)) := by
      unfold hiA
      rw [xor64 (wd_lt _) (wd_lt _)]
      refine Cal.of_eq (lead_s (u_xor _ _ (wd_lt _) (wd_lt _))) ?_
      rw [Int.toNat_natCast, ← e1]
      have := blen_le (show (wd fun i => decide (i < W a2) && D a0 a1 i) ^^^ (wd fun i => decide (i < W a2) && D b0 b1 i) < 2 ^ 64 from Nat.xor_lt_two_pow (n := 64) (wd_lt _) (wd_lt _))
      refine congrArg (Value.int .i64) ?_
      omega
    have g2 : Cal Try.prog 105 [.int .u64 (Go.bits .xor .u64 (loA a2 (D a0 a1)) (loA a2 (D b0 b1)))] (.int .i64 ((cmn (fun i => Dw a2 (D a0 a1) (64 + i)) (fun i => Dw a2 (D b0 b1) (64 + i)) 64 : Nat) : Int)) := by
      unfold loA
      rw [xor64 (wd_lt _) (wd_lt _)]
      refine Cal.of_eq (lead_s (u_xor _ _ (wd_lt _) (wd_lt _))) ?_
      rw [Int.toNat_natCast, ← e2]
      have := blen_le (show (wd fun i => decide (64 + i < W a2) && D a0 a1 (64 + i)) ^^^ (wd fun i => decide (64 + i < W a2) && D b0 b1 (64 + i)) < 2 ^ 64 from Nat.xor_lt_two_pow (n := 64) (wd_lt _) (wd_lt _))
      refine congrArg (Value.int .i64) ?_
      omega
    clear e1 e2
    rw [← hx]
    clear hx
    generalize cmn (Dw a2 (D a0 a1)) (Dw a2 (D b0 b1)) 64 = n1 at *
    generalize cmn (fun i => Dw a2 (D a0 a1) (64 + i)) (fun i => Dw a2 (D b0 b1) (64 + i)) 64 = n2 at *
    by_cases c1 : n1 = 64
    · have hE2 : (((n1 : Nat) : Int) == 64) = true := by subst c1; rfl
      refine Cal.of_eq (v' := .int .i64 (mn2 (IntKind.i64.wrap (((n1 : Nat) : Int) + ((n2 : Nat) : Int))) ((W a2 : Nat) : Int))) ?_ (by rw [if_pos c1, i64w (by omega) (by omega)]; refine congrArg (Value.int .i64) ?_; unfold mn2; split <;> omega)
      clear c1 l1 l2
      refine Cal.mk fun Wo => enter (F := fun _ => False) Try.func70 rfl Try.ntmps70 rfl ?_
      repeat (first | (apply s_box; rfl; constructor; rfl; intro _) | (apply s_store; rfl; rfl; (repeat (first | exact Plc.hit | apply Plc.miss)); constructor; (focus ((simp only [setAt, List.set_cons_zero, List.set_cons_succ, Nat.zero_add, Nat.reduceAdd, Nat.reduceMul]); try rfl)); kernel_rfl; rfl) | (apply g_new; rfl; intro _) | apply s_st | apply st_go | (focus (first | (apply y_move; rfl) | (apply y_assign; rfl) | (apply y_load; rfl; (repeat (first | exact List.Mem.head _ | apply List.Mem.tail)); (repeat (first | exact Sub.nil | apply Sub.take | apply Sub.drop)); done) | (apply y_cell; rfl; (repeat (first | exact List.Mem.head _ | apply List.Mem.tail)); (repeat (first | exact At.hit | apply At.miss)); kernel_rfl; done) | (apply y_calls; rfl; rfl; rfl; (first | assumption); done) | (apply y_faddr; kernel_rfl; rfl) | (apply y_axaddr; rfl; rfl; (first | assumption | rfl | exact (show (0 : Int) = ((0 : Nat) : Int) from rfl) | exact (show (1 : Int) = ((1 : Nat) : Int) from rfl) | exact (show (2 : Int) = ((2 : Nat) : Int) from rfl) | exact (show (3 : Int) = ((3 : Nat) : Int) from rfl)); (first | assumption | omega | (focus (simp; done)) | (focus (simp; omega))); done) | (apply y_eq; rfl; rfl) | (apply y_add; rfl; rfl) | (apply y_bxor; rfl; rfl) | (apply y_bne; kernel_rfl; rfl; rfl) | (apply y_min2; rfl))) | apply s_nil | apply w_seq | apply f_then | apply w_skip | apply w_ret | (apply w_cond_tt; rfl; assumption) | (apply w_cond_ff; rfl; assumption) | (apply f_end; rfl; rfl; rfl; intro w hw; first | exact ans hw | (refine ans_b ?_ hw; assumption)) | (apply w_mixed_r rfl 3 [0, 2, 1, 3, 4, 5] [0, 0, 1, 1, 1, 2] _ ; kernel_rfl; kernel_rfl; exact List.Sublist.refl _; rfl) | (apply g_st; rfl; intro W0) | apply g_done | (apply w_reg_l; rfl) | exact rfl)
    · have hE2 : (((n1 : Nat) : Int) == 64) = false := by rw [beq_eq_false_iff_ne]; omega
      refine Cal.of_eq (v' := .int .i64 (mn2 ((n1 : Nat) : Int) ((W a2 : Nat) : Int))) ?_ (by rw [if_neg c1]; refine congrArg (Value.int .i64) ?_; unfold mn2; split <;> omega)
      clear c1 l1 l2
      refine Cal.mk fun Wo => enter (F := fun _ => False) Try.func70 rfl Try.ntmps70 rfl ?_
      repeat (first | (apply s_box; rfl; constructor; rfl; intro _) | (apply s_store; rfl; rfl; (repeat (first | exact Plc.hit | apply Plc.miss)); constructor; (focus ((simp only [setAt, List.set_cons_zero, List.set_cons_succ, Nat.zero_add, Nat.reduceAdd, Nat.reduceMul]); try rfl)); kernel_rfl; rfl) | (apply g_new; rfl; intro _) | apply s_st | apply st_go | (focus (first | (apply y_move; rfl) | (apply y_assign; rfl) | (apply y_load; rfl; (repeat (first | exact List.Mem.head _ | apply List.Mem.tail)); (repeat (first | exact Sub.nil | apply Sub.take | apply Sub.drop)); done) | (apply y_cell; rfl; (repeat (first | exact List.Mem.head _ | apply List.Mem.tail)); (repeat (first | exact At.hit | apply At.miss)); kernel_rfl; done) | (apply y_calls; rfl; rfl; rfl; (first | assumption); done) | (apply y_faddr; kernel_rfl; rfl) | (apply y_axaddr; rfl; rfl; (first | assumption | rfl | exact (show (0 : Int) = ((0 : Nat) : Int) from rfl) | exact (show (1 : Int) = ((1 : Nat) : Int) from rfl) | exact (show (2 : Int) = ((2 : Nat) : Int) from rfl) | exact (show (3 : Int) = ((3 : Nat) : Int) from rfl)); (first | assumption | omega | (focus (simp; done)) | (focus (simp; omega))); done) | (apply y_eq; rfl; rfl) | (apply y_bxor; rfl; rfl) | (apply y_bne; kernel_rfl; rfl; rfl) | (apply y_min2; rfl))) | apply s_nil | apply w_seq | apply f_then | apply w_skip | apply w_ret | (apply w_cond_ff; rfl; assumption) | (apply f_end; rfl; rfl; rfl; intro w hw; first | exact ans hw | (refine ans_b ?_ hw; assumption)) | (apply w_mixed_r rfl 3 [0, 2, 1, 3, 4, 5] [0, 0, 1, 1, 1, 2] _ ; kernel_rfl; kernel_rfl; exact List.Sublist.refl _; rfl) | (apply g_st; rfl; intro W0) | apply g_done | (apply w_reg_l; rfl) | exact rfl)
  · rw [if_neg hv]
    have hE : (a2 != b2) = true := by simpa using hv
    clear hv
    refine Cal.mk fun Wo => enter (F := fun _ => False) Try.func70 rfl Try.ntmps70 rfl ?_
    repeat (first | (apply s_box; rfl; constructor; rfl; intro _) | apply s_st | apply st_go | (focus (first | (apply y_assign; rfl) | (apply y_cell; rfl; (repeat (first | exact List.Mem.head _ | apply List.Mem.tail)); (repeat (first | exact At.hit | apply At.miss)); kernel_rfl; done) | (apply y_faddr; kernel_rfl; rfl) | (apply y_bne; kernel_rfl; rfl; rfl))) | apply s_nil | apply w_seq | apply f_then | apply f_ret | apply w_ret | (apply w_cond_tt; rfl; assumption) | (apply f_end; rfl; rfl; rfl; intro w hw; first | exact ans hw | (refine ans_b ?_ hw; assumption)) | (apply w_reg_l; rfl) | exact rfl)
def u8c (x : Int) : List Value := [.int .u8 x]
theorem fr4 (l : List Int) : frH l 4 = hiA false (byD l) ∧ frL l 4 = loA false (byD l) := by
  unfold frH frL hiA loA
  exact ⟨rfl, rfl⟩
theorem fr16 (l : List Int) : frH l 16 = hiA true (byD l) ∧ frL l 16 = loA true (byD l) := by
  unfold frH frL hiA loA
  exact ⟨rfl, rfl⟩
theorem from_l (l : List Int) (v6 : Bool) (hl : l.length = if v6 then 16 else 4) (h : ∀ i : Nat, i < l.length → 0 ≤ rd l i ∧ rd l i < 256) (A : Option Addr) (c : Nat) :
    RCal Try.prog 59 [.slice A l.length c] [.vw A c 1 (l.map u8c)] (.tuple #[.agg #[.int .u64 (frH l l.length), .int .u64 (frL l l.length), .bool v6], .int .i64 0]) := by
  have hl16 : l.length ≤ 16 := by cases v6 <;> simp_all
  have hb : (((l.length : Nat) : Int) == 16) = v6 := by cases v6 <;> simp_all
  have hc : (!v6 && (((l.length : Nat) : Int) != 4)) = false := by cases v6 <;> simp_all
  have k3 := fun x y => wof_s x y v6
  refine enter_r rfl Try.func59 rfl Try.ntmps59 rfl (fun Wo => ?_)
  rw [← hb] at hc k3 ⊢
  repeat (first | (apply s_alloc; rfl; intro _) | apply s_st | apply st_go | (apply st_if; rfl; intro h1; (try simp only [h1, gv_true, gv_tt])) | (focus (first | (apply y_move; rfl) | (apply y_assign; rfl) | (apply y_not; rfl) | (apply y_and; rfl; rfl; done) | (apply y_len; rfl) | (apply y_eq; rfl; rfl) | (apply y_ne; rfl; rfl))) | apply s_nil | apply w_seq | apply f_then | apply w_block | apply w_skip | (apply w_cond_ff; rfl; assumption) | (apply w_reg_l; rfl) | exact rfl)
  rename_i gr gw
  have z0 := frH_zero l
  have z1 := frL_under l 0 (by omega)
  refine w_loopm (fun k : Nat => [(22, .int .i64 ((k : Nat) : Int))]) (fun k => [.blk gw [.int .u64 (frH l k), .int .u64 (frL l k)] 156, .blk gr [.int .u64 0, .int .u64 0, .bool false] 34, .vw A c 1 (l.map u8c)]) (fun k => k ≤ l.length) (fun k => l.length - k) 0 (Nat.zero_le _) ?_ ?_ ?_
  · (repeat (first | exact Cov.nil | (apply Cov.cons; rfl) | (apply Cov.seen; rfl)))
  · rw [z0, z1]; (repeat (first | exact List.Sublist.refl _ | apply List.Sublist.cons_cons | apply List.Sublist.cons))
  · intro k hk R hR
    clear z0 z1
    by_cases hlt : k < l.length
    · have hE : decide (((k : Nat) : Int) < ((l.length : Nat) : Int)) = true := by simp; exact hlt
      have hrow := map_get (f := u8c) hlt
      have hrd : rd l (k : Nat) = l[k] := by simp [rd, hlt]
      have hb0 := h k hlt
      rw [hrd] at hb0
      have hB := hR (k + 1) hlt (by omega)
      have w8 : IntKind.i64.wrap (((k : Nat) : Int) * 8) = ((k : Nat) : Int) * 8 := i64w (by omega) (by omega)
      have t1 : (((k : Nat) : Int) * 8).tdiv 64 = ((k : Nat) : Int) * 8 / 64 := Int.tdiv_eq_ediv_of_nonneg (by omega)
      have t2 : (((k : Nat) : Int) * 8).tmod 64 = ((k : Nat) : Int) * 8 % 64 := Int.tmod_eq_emod_of_nonneg (by omega)
      have wx : IntKind.u64.wrap l[k] = l[k] := u64w hb0.1 (by omega)
      have hn : (((k + 1 : Nat)) : Int) = IntKind.i64.wrap (((k : Nat) : Int) + 1) := by rw [i64w (by omega) (by omega)]; rfl
      by_cases k8 : k < 8
      · have q1 : IntKind.i64.wrap ((IntKind.i64.wrap (((k : Nat) : Int) * 8)).tdiv 64) = ((0 : Nat) : Int) := by rw [w8, t1, show ((k : Nat) : Int) * 8 / 64 = 0 by omega]; decide
        have q2 : IntKind.u64.wrap (IntKind.i64.wrap (56 - (IntKind.i64.wrap (((k : Nat) : Int) * 8)).tmod 64)) = ((56 - 8 * k : Nat) : Int) := by rw [w8, t2, i64w (by omega) (by omega), u64w (by omega) (by omega)]; omega
        have hS : 0 ≤ IntKind.u64.wrap (IntKind.i64.wrap (56 - (IntKind.i64.wrap (((k : Nat) : Int) * 8)).tmod 64)) ∧ IntKind.u64.wrap (IntKind.i64.wrap (56 - (IntKind.i64.wrap (((k : Nat) : Int) * 8)).tmod 64)) ≤ IntKind.u64.bits := by rw [q2]; exact ⟨by omega, by show ((56 - 8 * k : Nat) : Int) ≤ 64; omega⟩
        have e : Go.bits .or .u64 (frH l k) (IntKind.u64.wrap (IntKind.u64.wrap l[k] * 2 ^ (IntKind.u64.wrap (IntKind.i64.wrap (56 - (IntKind.i64.wrap (((k : Nat) : Int) * 8)).tmod 64))).toNat)) = frH l (k + 1) := by
          rw [q2, Int.toNat_natCast, wx, shl_byte' _ k hb0.1 hb0.2 k8, ← hrd]
          exact stepH l k k8 (by rw [hrd]; exact hb0.1) (by rw [hrd]; exact hb0.2)
        rw [hn, ← e, show frL l (k + 1) = frL l k by rw [frL_under l (k + 1) (by omega), frL_under l k (by omega)]] at hB
        clear e q2 w8 t1 t2 wx hn hrd hb0 hR h k8 hb
        repeat (first | (apply s_store; rfl; rfl; (repeat (first | exact Plc.hit | apply Plc.miss)); constructor; (focus ((simp only [setAt, List.set_cons_zero, List.set_cons_succ, Nat.zero_add, Nat.reduceAdd, Nat.reduceMul]); try rfl)); kernel_rfl; rfl) | apply s_st | apply st_go | (focus (first | (apply y_move; rfl) | (apply y_assign; rfl) | (apply y_cell; rfl; (repeat (first | exact List.Mem.head _ | apply List.Mem.tail)); (repeat (first | exact At.hit | apply At.miss)); kernel_rfl; done) | (apply y_ecell; rfl; (first | (focus (apply Sees.vw; (repeat (first | exact List.Mem.head _ | apply List.Mem.tail)); done)) | (focus (apply Sees.own; (repeat (first | exact List.Mem.head _ | apply List.Mem.tail)); done)) | exact Sees.nil | assumption); (first | assumption | rfl); (repeat (first | exact At.hit | apply At.miss)); kernel_rfl; done) | (apply y_ixaddr; rfl; rfl; (first | (focus (apply Sees.vw; (repeat (first | exact List.Mem.head _ | apply List.Mem.tail)); done)) | (focus (apply Sees.own; (repeat (first | exact List.Mem.head _ | apply List.Mem.tail)); done)) | exact Sees.nil | assumption); (first | rfl | assumption | (focus (simp; done)) | (focus (simp; omega))); (first | assumption | rfl | exact (show (0 : Int) = ((0 : Nat) : Int) from rfl) | exact (show (1 : Int) = ((1 : Nat) : Int) from rfl) | exact (show (2 : Int) = ((2 : Nat) : Int) from rfl) | exact (show (3 : Int) = ((3 : Nat) : Int) from rfl)); (first | assumption | omega | (focus (simp; done)) | (focus (simp; omega))); done) | (apply y_axaddr; rfl; rfl; (first | assumption | rfl | exact (show (0 : Int) = ((0 : Nat) : Int) from rfl) | exact (show (1 : Int) = ((1 : Nat) : Int) from rfl) | exact (show (2 : Int) = ((2 : Nat) : Int) from rfl) | exact (show (3 : Int) = ((3 : Nat) : Int) from rfl)); (first | assumption | omega | (focus (simp; done)) | (focus (simp; omega))); done) | (apply y_lt; rfl; rfl) | (apply y_add; rfl; rfl) | (apply y_sub; rfl; rfl) | (apply y_mul; rfl; rfl) | (apply y_quo; rfl; rfl; (first | decide | assumption | omega); done) | (apply y_rem; rfl; rfl; (first | decide | assumption | omega); done) | (apply y_shl; rfl; rfl; (first | assumption | decide | (constructor <;> omega)); done) | (apply y_bor; rfl; rfl) | (apply y_conv; rfl; kernel_rfl; rfl))) | apply s_nil | apply w_seq | apply f_then | apply w_block | apply f_norm_block | (apply f_back; assumption; (repeat (first | exact Cov.nil | (apply Cov.cons; rfl) | (apply Cov.seen; rfl))); (focus ((repeat (first | exact List.Sublist.refl _ | apply List.Sublist.cons_cons | apply List.Sublist.cons)); done))) | apply w_skip | (apply w_cond_tt; rfl; assumption) | (apply w_reg_l; rfl) | exact rfl)
      · obtain ⟨j, rfl⟩ : ∃ j, k = 8 + j := ⟨k - 8, by omega⟩
        have j8 : j < 8 := by omega
        have q1 : IntKind.i64.wrap ((IntKind.i64.wrap (((8 + j : Nat) : Int) * 8)).tdiv 64) = ((1 : Nat) : Int) := by rw [w8, t1, show ((8 + j : Nat) : Int) * 8 / 64 = 1 by omega]; decide
        have q2 : IntKind.u64.wrap (IntKind.i64.wrap (56 - (IntKind.i64.wrap (((8 + j : Nat) : Int) * 8)).tmod 64)) = ((56 - 8 * j : Nat) : Int) := by rw [w8, t2, i64w (by omega) (by omega), u64w (by omega) (by omega)]; omega
        have hS : 0 ≤ IntKind.u64.wrap (IntKind.i64.wrap (56 - (IntKind.i64.wrap (((8 + j : Nat) : Int) * 8)).tmod 64)) ∧ IntKind.u64.wrap (IntKind.i64.wrap (56 - (IntKind.i64.wrap (((8 + j : Nat) : Int) * 8)).tmod 64)) ≤ IntKind.u64.bits := by rw [q2]; exact ⟨by omega, by show ((56 - 8 * j : Nat) : Int) ≤ 64; omega⟩
        have e : Go.bits .or .u64 (frL l (8 + j)) (IntKind.u64.wrap (IntKind.u64.wrap l[8 + j] * 2 ^ (IntKind.u64.wrap (IntKind.i64.wrap (56 - (IntKind.i64.wrap (((8 + j : Nat) : Int) * 8)).tmod 64))).toNat)) = frL l (8 + j + 1) := by
          rw [q2, Int.toNat_natCast, wx, shl_byte' _ j hb0.1 hb0.2 j8, ← hrd]
          exact stepL l j j8 (by rw [hrd]; exact hb0.1) (by rw [hrd]; exact hb0.2)
        rw [hn, ← e, frH_over l (8 + j) (by omega)] at hB
        clear e q2 w8 t1 t2 wx hn hrd hb0 hR h k8 hb
        repeat (first | (apply s_store; rfl; rfl; (repeat (first | exact Plc.hit | apply Plc.miss)); constructor; (focus ((simp only [setAt, List.set_cons_zero, List.set_cons_succ, Nat.zero_add, Nat.reduceAdd, Nat.reduceMul]); try rfl)); kernel_rfl; rfl) | apply s_st | apply st_go | (focus (first | (apply y_move; rfl) | (apply y_assign; rfl) | (apply y_cell; rfl; (repeat (first | exact List.Mem.head _ | apply List.Mem.tail)); (repeat (first | exact At.hit | apply At.miss)); kernel_rfl; done) | (apply y_ecell; rfl; (first | (focus (apply Sees.vw; (repeat (first | exact List.Mem.head _ | apply List.Mem.tail)); done)) | (focus (apply Sees.own; (repeat (first | exact List.Mem.head _ | apply List.Mem.tail)); done)) | exact Sees.nil | assumption); (first | assumption | rfl); (repeat (first | exact At.hit | apply At.miss)); kernel_rfl; done) | (apply y_ixaddr; rfl; rfl; (first | (focus (apply Sees.vw; (repeat (first | exact List.Mem.head _ | apply List.Mem.tail)); done)) | (focus (apply Sees.own; (repeat (first | exact List.Mem.head _ | apply List.Mem.tail)); done)) | exact Sees.nil | assumption); (first | rfl | assumption | (focus (simp; done)) | (focus (simp; omega))); (first | assumption | rfl | exact (show (0 : Int) = ((0 : Nat) : Int) from rfl) | exact (show (1 : Int) = ((1 : Nat) : Int) from rfl) | exact (show (2 : Int) = ((2 : Nat) : Int) from rfl) | exact (show (3 : Int) = ((3 : Nat) : Int) from rfl)); (first | assumption | omega | (focus (simp; done)) | (focus (simp; omega))); done) | (apply y_axaddr; rfl; rfl; (first | assumption | rfl | exact (show (0 : Int) = ((0 : Nat) : Int) from rfl) | exact (show (1 : Int) = ((1 : Nat) : Int) from rfl) | exact (show (2 : Int) = ((2 : Nat) : Int) from rfl) | exact (show (3 : Int) = ((3 : Nat) : Int) from rfl)); (first | assumption | omega | (focus (simp; done)) | (focus (simp; omega))); done) | (apply y_lt; rfl; rfl) | (apply y_add; rfl; rfl) | (apply y_sub; rfl; rfl) | (apply y_mul; rfl; rfl) | (apply y_quo; rfl; rfl; (first | decide | assumption | omega); done) | (apply y_rem; rfl; rfl; (first | decide | assumption | omega); done) | (apply y_shl; rfl; rfl; (first | assumption | decide | (constructor <;> omega)); done) | (apply y_bor; rfl; rfl) | (apply y_conv; rfl; kernel_rfl; rfl))) | apply s_nil | apply w_seq | apply f_then | apply w_block | apply f_norm_block | (apply f_back; assumption; (repeat (first | exact Cov.nil | (apply Cov.cons; rfl) | (apply Cov.seen; rfl))); (focus ((repeat (first | exact List.Sublist.refl _ | apply List.Sublist.cons_cons | apply List.Sublist.cons)); done))) | apply w_skip | (apply w_cond_tt; rfl; assumption) | (apply w_reg_l; rfl) | exact rfl)
    · have hE : decide (((k : Nat) : Int) < ((l.length : Nat) : Int)) = false := by simp; omega
      obtain rfl : k = l.length := by omega
      clear hR h
      repeat (first | (apply s_store; rfl; rfl; (repeat (first | exact Plc.hit | apply Plc.miss)); constructor; (focus ((simp only [setAt, List.set_cons_zero, List.set_cons_succ, Nat.zero_add, Nat.reduceAdd, Nat.reduceMul]); try rfl)); kernel_rfl; rfl) | apply s_st | apply st_go | (focus (first | (apply y_move; rfl) | (apply y_assign; rfl) | (apply y_load; rfl; (repeat (first | exact List.Mem.head _ | apply List.Mem.tail)); (repeat (first | exact Sub.nil | apply Sub.take | apply Sub.drop)); done) | (apply y_calls; rfl; rfl; rfl; (first | assumption | exact k3 _ _); done) | (apply y_lt; rfl; rfl))) | apply s_nil | apply w_seq | apply f_then | apply w_exit | apply f_out | apply f_exit_block | apply w_ret | (apply w_cond_ff; rfl; assumption) | (apply f_ends; rfl; rfl; (repeat (first | exact Res.nil | (apply Res.tmp; rfl) | (apply Res.agg; exact inferInstance; rfl; (repeat (first | exact List.Mem.head _ | apply List.Mem.tail)); (repeat (first | exact Sub.nil | apply Sub.take | apply Sub.drop))) | (apply Res.cell; kernel_rfl; rfl; (repeat (first | exact List.Mem.head _ | apply List.Mem.tail)); (repeat (first | exact At.hit | apply At.miss))))); intro w hw; first | exact ans hw | (refine ans_b ?_ hw; assumption)) | (apply w_reg_l; rfl) | exact rfl)
end Go.Proofs.Ytlmcfjadhahlpaa.Hand
