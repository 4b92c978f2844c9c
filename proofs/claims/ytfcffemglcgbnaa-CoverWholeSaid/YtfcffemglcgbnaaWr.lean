/-
  The walks of the references of addresses and prefixes.
-/
import Derived.Test.YtfcffemglcgbnaaWp
namespace Go.Proofs.Ytfcffemglcgbnaa.Hand
open Go.RowKit Go.Proofs.Ytfcffemglcgbnaa.Bits Go.Proofs.Ytfcffemglcgbnaa.Dig Go.Proofs.Ytfcffemglcgbnaa.Sq
set_option linter.unusedVariables false
set_option linter.unusedSimpArgs false
set_option maxRecDepth 100000
set_option maxHeartbeats 1000000
theorem bit_div {x : Int} (h : u64 x) (m : Nat) (hm : m < 64) : IntKind.i64.wrap (Go.bits .and .u64 (x / 2 ^ m) 1) = bitI (x.toNat.testBit m) := by
  obtain ⟨n, rfl⟩ : ∃ n : Nat, x = (n : Int) := ⟨x.toNat, by have := h.1; omega⟩
  have hn : n < 18446744073709551616 := by have := h.2; omega
  rw [show ((n : Int) / 2 ^ m) = ((n / 2 ^ m : Nat) : Int) by norm_cast, show (1 : Int) = ((1 : Nat) : Int) from rfl, and64 (Nat.lt_of_le_of_lt (Nat.div_le_self _ _) hn) (by decide), Int.toNat_natCast, Nat.and_one_is_mod, Nat.testBit_eq_decide_div_mod_eq, IntWalk.i64_in _ (by omega)]
  rcases Nat.mod_two_eq_zero_or_one (n / 2 ^ m) with e | e <;> rw [e] <;> rfl
theorem raw_s {a0 a1 : Int} (h : u64 a0 ∧ u64 a1) (a2 : Bool) (i : Nat) (hi : i < 128) : Cal Try.prog 147 [.agg #[.int .u64 a0, .int .u64 a1, .bool a2], .int .i64 (i : Int)] (.int .i64 (bitI (D a0 a1 i))) := by
  by_cases c : i < 64
  · have hw : IntKind.u64.wrap (IntKind.i64.wrap (63 - (i : Int))) = ((63 - i : Nat) : Int) := by rw [IntWalk.i64_in _ (by omega), wrap_u64]; omega
    have hs : 0 ≤ IntKind.u64.wrap (IntKind.i64.wrap (63 - (i : Int))) ∧ IntKind.u64.wrap (IntKind.i64.wrap (63 - (i : Int))) ≤ IntKind.u64.bits := by rw [hw]; constructor; omega; show _ ≤ (64 : Int); omega
    have hE : decide ((i : Int) < 64) = true := by simp; omega
    have e := bit_div h.1 (63 - i) (by omega)
    rw [← D_lo c, show (63 - i : Nat) = (IntKind.u64.wrap (IntKind.i64.wrap (63 - (i : Int)))).toNat by rw [hw]; rfl] at e
    rw [← e]
    refine Cal.mk fun Wo => enter (F := fun _ => False) Try.func147 rfl Try.ntmps147 rfl ?_
    repeat (first | (apply s_box; rfl; constructor; rfl; intro _) | apply s_st | apply st_go | (focus (first | (apply y_move; rfl) | (apply y_assign; rfl) | (apply y_cell; rfl; (repeat (first | exact List.Mem.head _ | apply List.Mem.tail)); (repeat (first | exact At.hit | apply At.miss)); kernel_rfl; done) | (apply y_faddr; kernel_rfl; rfl) | (apply y_lt; rfl; rfl) | (apply y_sub; rfl; rfl) | (apply y_shr; rfl; rfl; (first | assumption | decide | (constructor <;> omega)); done) | (apply y_band; rfl; rfl) | (apply y_conv; rfl; kernel_rfl; rfl))) | apply s_nil | apply w_seq | apply f_then | apply f_ret | apply w_ret | (apply w_cond_tt; rfl; assumption) | (apply f_end; rfl; rfl; rfl; intro w hw; first | exact ans hw | (refine ans_b ?_ hw; (focus ((repeat (first | assumption | rfl | exact beq_self_eq_true _ | exact bne_self_eq_false _ | apply bOrF | apply bAndT | apply bNotF | apply bNotT | (focus (apply decide_eq_true; omega)) | (focus (apply decide_eq_false; omega)) | (focus (apply bEqT; omega)) | (focus (apply bEqF; omega)) | (focus (apply bNeT; omega)) | (focus (apply bNeF; omega)) | (focus (apply bOrT1; first | assumption | (apply decide_eq_true; omega))) | (focus (apply bOrT2; first | assumption | (apply decide_eq_true; omega))) | (focus (apply bAndF1; first | assumption | (apply decide_eq_false; omega))) | (focus (apply bAndF2; first | assumption | (apply decide_eq_false; omega))))); done)))) | (apply w_reg_l; rfl) | exact rfl)
  · have hw : IntKind.u64.wrap (IntKind.i64.wrap (127 - (i : Int))) = ((127 - i : Nat) : Int) := by rw [IntWalk.i64_in _ (by omega), wrap_u64]; omega
    have hs : 0 ≤ IntKind.u64.wrap (IntKind.i64.wrap (127 - (i : Int))) ∧ IntKind.u64.wrap (IntKind.i64.wrap (127 - (i : Int))) ≤ IntKind.u64.bits := by rw [hw]; constructor; omega; show _ ≤ (64 : Int); omega
    have hE : decide ((i : Int) < 64) = false := by simp; omega
    have e := bit_div h.2 (127 - i) (by omega)
    have hD := D_hi (hi := a0) (lo := a1) (i := i - 64) (by omega)
    rw [show 64 + (i - 64) = i by omega, show 63 - (i - 64) = 127 - i by omega] at hD
    rw [← hD, show (127 - i : Nat) = (IntKind.u64.wrap (IntKind.i64.wrap (127 - (i : Int)))).toNat by rw [hw]; rfl] at e
    rw [← e]
    refine Cal.mk fun Wo => enter (F := fun _ => False) Try.func147 rfl Try.ntmps147 rfl ?_
    repeat (first | (apply s_box; rfl; constructor; rfl; intro _) | apply s_st | apply st_go | (focus (first | (apply y_move; rfl) | (apply y_assign; rfl) | (apply y_cell; rfl; (repeat (first | exact List.Mem.head _ | apply List.Mem.tail)); (repeat (first | exact At.hit | apply At.miss)); kernel_rfl; done) | (apply y_faddr; kernel_rfl; rfl) | (apply y_lt; rfl; rfl) | (apply y_sub; rfl; rfl) | (apply y_shr; rfl; rfl; (first | assumption | decide | (constructor <;> omega)); done) | (apply y_band; rfl; rfl) | (apply y_conv; rfl; kernel_rfl; rfl))) | apply s_nil | apply w_seq | apply f_then | apply w_skip | apply w_ret | (apply w_cond_ff; rfl; assumption) | (apply f_end; rfl; rfl; rfl; intro w hw; first | exact ans hw | (refine ans_b ?_ hw; (focus ((repeat (first | assumption | rfl | exact beq_self_eq_true _ | exact bne_self_eq_false _ | apply bOrF | apply bAndT | apply bNotF | apply bNotT | (focus (apply decide_eq_true; omega)) | (focus (apply decide_eq_false; omega)) | (focus (apply bEqT; omega)) | (focus (apply bEqF; omega)) | (focus (apply bNeT; omega)) | (focus (apply bNeF; omega)) | (focus (apply bOrT1; first | assumption | (apply decide_eq_true; omega))) | (focus (apply bOrT2; first | assumption | (apply decide_eq_true; omega))) | (focus (apply bAndF1; first | assumption | (apply decide_eq_false; omega))) | (focus (apply bAndF2; first | assumption | (apply decide_eq_false; omega))))); done)))) | (apply w_reg_l; rfl) | exact rfl)
theorem rwidth_s (v : Bool) : Cal Try.prog 138 [.bool v] (.int .i64 ((W v : Nat) : Int)) := by
  cases v with
  | true =>
    rw [W_t]
    refine Cal.mk fun Wo => enter (F := fun _ => False) Try.func138 rfl Try.ntmps138 rfl ?_
    repeat (first | apply s_st | apply st_go | (focus (first | (apply y_move; rfl) | (apply y_assign; rfl))) | apply s_nil | apply w_seq | apply f_then | apply f_ret | apply w_ret | refine w_cond_t rfl ?_ | (apply f_end; rfl; rfl; rfl; intro w hw; first | exact ans hw | (refine ans_b ?_ hw; (focus ((repeat (first | assumption | rfl | exact beq_self_eq_true _ | exact bne_self_eq_false _ | apply bOrF | apply bAndT | apply bNotF | apply bNotT | (focus (apply decide_eq_true; omega)) | (focus (apply decide_eq_false; omega)) | (focus (apply bEqT; omega)) | (focus (apply bEqF; omega)) | (focus (apply bNeT; omega)) | (focus (apply bNeF; omega)) | (focus (apply bOrT1; first | assumption | (apply decide_eq_true; omega))) | (focus (apply bOrT2; first | assumption | (apply decide_eq_true; omega))) | (focus (apply bAndF1; first | assumption | (apply decide_eq_false; omega))) | (focus (apply bAndF2; first | assumption | (apply decide_eq_false; omega))))); done)))) | (apply w_reg_l; rfl) | exact rfl)
  | false =>
    rw [W_f]
    refine Cal.mk fun Wo => enter (F := fun _ => False) Try.func138 rfl Try.ntmps138 rfl ?_
    repeat (first | apply s_st | apply st_go | (focus (first | (apply y_move; rfl) | (apply y_assign; rfl))) | apply s_nil | apply w_seq | apply f_then | apply w_skip | apply w_ret | refine w_cond_f rfl ?_ | (apply f_end; rfl; rfl; rfl; intro w hw; first | exact ans hw | (refine ans_b ?_ hw; (focus ((repeat (first | assumption | rfl | exact beq_self_eq_true _ | exact bne_self_eq_false _ | apply bOrF | apply bAndT | apply bNotF | apply bNotT | (focus (apply decide_eq_true; omega)) | (focus (apply decide_eq_false; omega)) | (focus (apply bEqT; omega)) | (focus (apply bEqF; omega)) | (focus (apply bNeT; omega)) | (focus (apply bNeF; omega)) | (focus (apply bOrT1; first | assumption | (apply decide_eq_true; omega))) | (focus (apply bOrT2; first | assumption | (apply decide_eq_true; omega))) | (focus (apply bAndF1; first | assumption | (apply decide_eq_false; omega))) | (focus (apply bAndF2; first | assumption | (apply decide_eq_false; omega))))); done)))) | (apply w_reg_l; rfl) | exact rfl)
theorem rbit_s {a0 a1 : Int} (h : u64 a0 ∧ u64 a1) (a2 : Bool) (i : Nat) (hi : i < W a2) : Cal Try.prog 121 [.agg #[.int .u64 a0, .int .u64 a1, .bool a2], .int .i64 (i : Int)] (.int .i64 (bitI (D a0 a1 i))) := by
  have hW := W_le a2
  have k1 := rwidth_s a2
  have k2 := raw_s h a2 i (by omega)
  have hE : (decide ((i : Int) < 0) || decide ((i : Int) ≥ ((W a2 : Nat) : Int))) = false := by simp; omega
  refine Cal.mk fun Wo => enter (F := fun _ => False) Try.func121 rfl Try.ntmps121 rfl ?_
  repeat (first | (apply s_box; rfl; constructor; rfl; intro _) | apply s_st | apply st_go | (apply st_on; rfl) | (focus (first | (apply y_move; rfl) | (apply y_assign; rfl) | (apply y_load; rfl; (repeat (first | exact List.Mem.head _ | apply List.Mem.tail)); (repeat (first | exact Sub.nil | apply Sub.take | apply Sub.drop)); done) | (apply y_cell; rfl; (repeat (first | exact List.Mem.head _ | apply List.Mem.tail)); (repeat (first | exact At.hit | apply At.miss)); kernel_rfl; done) | (apply y_calls; rfl; rfl; rfl; (first | assumption); done) | (apply y_or; rfl; rfl; done) | (apply y_faddr; kernel_rfl; rfl) | (apply y_lt; rfl; rfl) | (apply y_ge; rfl; rfl))) | apply s_nil | apply w_seq | apply f_then | apply w_skip | apply w_ret | (apply w_cond_ff; rfl; assumption) | (apply f_end; rfl; rfl; rfl; intro w hw; first | exact ans hw | (refine ans_b ?_ hw; (focus ((repeat (first | assumption | rfl | exact beq_self_eq_true _ | exact bne_self_eq_false _ | apply bOrF | apply bAndT | apply bNotF | apply bNotT | (focus (apply decide_eq_true; omega)) | (focus (apply decide_eq_false; omega)) | (focus (apply bEqT; omega)) | (focus (apply bEqF; omega)) | (focus (apply bNeT; omega)) | (focus (apply bNeF; omega)) | (focus (apply bOrT1; first | assumption | (apply decide_eq_true; omega))) | (focus (apply bOrT2; first | assumption | (apply decide_eq_true; omega))) | (focus (apply bAndF1; first | assumption | (apply decide_eq_false; omega))) | (focus (apply bAndF2; first | assumption | (apply decide_eq_false; omega))))); done)))) | (apply w_reg_l; rfl) | exact rfl)
theorem sane4 {a0 a1 : Int} (h : u64 a0 ∧ u64 a1) : sane a0 a1 false ↔ ∀ i, 32 ≤ i → i < 128 → D a0 a1 i = false := by
  constructor
  · intro hs i h1 h2
    exact sane_out hs (show W false ≤ i from h1)
  · intro k
    refine ⟨(hi_v6 (lo := a1) h.1).symm.trans ?_, (lo_v6 (hi := a0) h.2).symm.trans ?_⟩
    · unfold hiA
      rw [wd_congr (d := fun i => decide (i < W true) && D a0 a1 i) (e := fun i => decide (i < W false) && D a0 a1 i) fun i hi => ?_]
      rw [W_t, W_f, decide_eq_true (show i < 128 by omega), Bool.true_and]
      by_cases c : i < 32
      · rw [decide_eq_true c, Bool.true_and]
      · rw [k i (by omega) (by omega), Bool.and_false]
    · unfold loA
      rw [wd_congr (d := fun i => decide (64 + i < W true) && D a0 a1 (64 + i)) (e := fun i => decide (64 + i < W false) && D a0 a1 (64 + i)) fun i hi => ?_]
      rw [k (64 + i) (by omega) (by omega), Bool.and_false, Bool.and_false]
theorem i64_next (i : Nat) (h : i < 1000) : (((i + 1 : Nat) : Nat) : Int) = IntKind.i64.wrap ((i : Int) + 1) := by rw [IntWalk.i64_in _ (by omega)]; rfl
theorem rsane_s {a0 a1 : Int} (h : u64 a0 ∧ u64 a1) (a2 : Bool) : Cal Try.prog 137 [.agg #[.int .u64 a0, .int .u64 a1, .bool a2]] (.bool (decide (sane a0 a1 a2))) := by
  cases a2 with
  | true =>
    rw [decide_eq_true (show sane a0 a1 true from ⟨(hi_v6 h.1).symm, (lo_v6 h.2).symm⟩)]
    refine Cal.mk fun Wo => enter (F := fun _ => False) Try.func137 rfl Try.ntmps137 rfl ?_
    repeat (first | (apply s_box; rfl; constructor; rfl; intro _) | apply s_st | apply st_go | (focus (first | (apply y_assign; rfl))) | apply s_nil | apply w_seq | apply f_then | apply w_block | (apply w_reg_l; rfl) | exact rfl)
    refine w_loop0 (fun i : Nat => [(3, .int .i64 (i : Int))]) (fun i => True) (fun i => 0) 32 trivial ?_ ?_
    · (repeat (first | exact Cov.nil | (apply Cov.cons; rfl) | (apply Cov.seen; rfl)))
    · intro i _ R _
      have hE : (decide ((i : Int) < 128) && !true) = false := by simp
      repeat (first | apply s_st | apply st_go | (apply st_if; rfl; intro h1; (try simp only [h1, gv_true, gv_tt])) | (focus (first | (apply y_move; rfl) | (apply y_assign; rfl) | (apply y_not; rfl) | (apply y_cell; rfl; (repeat (first | exact List.Mem.head _ | apply List.Mem.tail)); (repeat (first | exact At.hit | apply At.miss)); kernel_rfl; done) | (apply y_and; rfl; rfl; done) | (apply y_faddr; kernel_rfl; rfl) | (apply y_lt; rfl; rfl))) | apply s_nil | apply w_seq | apply f_then | apply w_exit | apply f_out | apply f_exit_block | apply w_ret | (apply w_cond_ff; rfl; assumption) | (apply f_end; rfl; rfl; rfl; intro w hw; first | exact ans hw | (refine ans_b ?_ hw; (focus ((repeat (first | assumption | rfl | exact beq_self_eq_true _ | exact bne_self_eq_false _ | apply bOrF | apply bAndT | apply bNotF | apply bNotT | (focus (apply decide_eq_true; omega)) | (focus (apply decide_eq_false; omega)) | (focus (apply bEqT; omega)) | (focus (apply bEqF; omega)) | (focus (apply bNeT; omega)) | (focus (apply bNeF; omega)) | (focus (apply bOrT1; first | assumption | (apply decide_eq_true; omega))) | (focus (apply bOrT2; first | assumption | (apply decide_eq_true; omega))) | (focus (apply bAndF1; first | assumption | (apply decide_eq_false; omega))) | (focus (apply bAndF2; first | assumption | (apply decide_eq_false; omega))))); done)))) | (apply w_reg_l; rfl) | exact rfl)
  | false =>
    by_cases hs : sane a0 a1 false
    · rw [decide_eq_true hs]
      rw [sane4 h] at hs
      refine Cal.mk fun Wo => enter (F := fun _ => False) Try.func137 rfl Try.ntmps137 rfl ?_
      repeat (first | (apply s_box; rfl; constructor; rfl; intro _) | apply s_st | apply st_go | (focus (first | (apply y_assign; rfl))) | apply s_nil | apply w_seq | apply f_then | apply w_block | (apply w_reg_l; rfl) | exact rfl)
      refine w_loop0 (fun i : Nat => [(3, .int .i64 (i : Int))]) (fun i => 32 ≤ i) (fun i => 128 - i) 32 (Nat.le_refl _) ?_ ?_
      · (repeat (first | exact Cov.nil | (apply Cov.cons; rfl) | (apply Cov.seen; rfl)))
      · intro i hi R hR
        by_cases c : i < 128
        · have hE : (decide ((i : Int) < 128) && !false) = true := by simp; omega
          have k := raw_s h false i c
          rw [hs i hi c] at k
          have hB := hR (i + 1) (by omega) (by show 128 - (i + 1) < 128 - i; omega)
          rw [i64_next i (by omega)] at hB
          have hE2 : (bitI false != 0) = false := by decide
          clear hR
          repeat (first | apply s_st | apply st_go | (apply st_one; rfl; (focus ((repeat (first | assumption | rfl | exact beq_self_eq_true _ | exact bne_self_eq_false _ | apply bOrF | apply bAndT | apply bNotF | apply bNotT | (focus (apply decide_eq_true; omega)) | (focus (apply decide_eq_false; omega)) | (focus (apply bEqT; omega)) | (focus (apply bEqF; omega)) | (focus (apply bNeT; omega)) | (focus (apply bNeF; omega)) | (focus (apply bOrT1; first | assumption | (apply decide_eq_true; omega))) | (focus (apply bOrT2; first | assumption | (apply decide_eq_true; omega))) | (focus (apply bAndF1; first | assumption | (apply decide_eq_false; omega))) | (focus (apply bAndF2; first | assumption | (apply decide_eq_false; omega))))); done))) | (focus (first | (apply y_move; rfl) | (apply y_assign; rfl) | (apply y_not; rfl) | (apply y_load; rfl; (repeat (first | exact List.Mem.head _ | apply List.Mem.tail)); (repeat (first | exact Sub.nil | apply Sub.take | apply Sub.drop)); done) | (apply y_cell; rfl; (repeat (first | exact List.Mem.head _ | apply List.Mem.tail)); (repeat (first | exact At.hit | apply At.miss)); kernel_rfl; done) | (apply y_calls; rfl; rfl; rfl; (first | assumption); done) | (apply y_andp; rfl; rfl; done) | (apply y_faddr; kernel_rfl; rfl) | (apply y_ne; rfl; rfl) | (apply y_lt; rfl; rfl) | (apply y_add; rfl; rfl))) | apply s_nil | apply w_seq | apply f_then | apply w_block | apply f_norm_block | (apply f_back; assumption; (repeat (first | exact Cov.nil | (apply Cov.cons; rfl) | (apply Cov.seen; rfl))); (focus ((repeat (first | exact List.Sublist.refl _ | apply List.Sublist.cons_cons | apply List.Sublist.cons)); done))) | apply w_skip | refine w_cond_f rfl ?_ | (apply w_cond_tt; rfl; assumption) | (apply w_reg_l; rfl) | exact rfl)
        · have hE : (decide ((i : Int) < 128) && !false) = false := by simp; omega
          clear hR
          repeat (first | apply s_st | apply st_go | (apply st_offF; rfl; (focus ((repeat (first | assumption | rfl | exact beq_self_eq_true _ | exact bne_self_eq_false _ | apply bOrF | apply bAndT | apply bNotF | apply bNotT | (focus (apply decide_eq_true; omega)) | (focus (apply decide_eq_false; omega)) | (focus (apply bEqT; omega)) | (focus (apply bEqF; omega)) | (focus (apply bNeT; omega)) | (focus (apply bNeF; omega)) | (focus (apply bOrT1; first | assumption | (apply decide_eq_true; omega))) | (focus (apply bOrT2; first | assumption | (apply decide_eq_true; omega))) | (focus (apply bAndF1; first | assumption | (apply decide_eq_false; omega))) | (focus (apply bAndF2; first | assumption | (apply decide_eq_false; omega))))); done))) | (focus (first | (apply y_move; rfl) | (apply y_assign; rfl) | (apply y_and_fe; rfl; (focus ((repeat (first | assumption | rfl | exact beq_self_eq_true _ | exact bne_self_eq_false _ | apply bOrF | apply bAndT | apply bNotF | apply bNotT | (focus (apply decide_eq_true; omega)) | (focus (apply decide_eq_false; omega)) | (focus (apply bEqT; omega)) | (focus (apply bEqF; omega)) | (focus (apply bNeT; omega)) | (focus (apply bNeF; omega)) | (focus (apply bOrT1; first | assumption | (apply decide_eq_true; omega))) | (focus (apply bOrT2; first | assumption | (apply decide_eq_true; omega))) | (focus (apply bAndF1; first | assumption | (apply decide_eq_false; omega))) | (focus (apply bAndF2; first | assumption | (apply decide_eq_false; omega))))); done)); done) | (apply y_lt; rfl; rfl))) | apply s_nil | apply w_seq | apply f_then | apply w_exit | apply f_out | apply f_exit_block | apply w_ret | refine w_cond_f rfl ?_ | (apply f_end; rfl; rfl; rfl; intro w hw; first | exact ans hw | (refine ans_b ?_ hw; (focus ((repeat (first | assumption | rfl | exact beq_self_eq_true _ | exact bne_self_eq_false _ | apply bOrF | apply bAndT | apply bNotF | apply bNotT | (focus (apply decide_eq_true; omega)) | (focus (apply decide_eq_false; omega)) | (focus (apply bEqT; omega)) | (focus (apply bEqF; omega)) | (focus (apply bNeT; omega)) | (focus (apply bNeF; omega)) | (focus (apply bOrT1; first | assumption | (apply decide_eq_true; omega))) | (focus (apply bOrT2; first | assumption | (apply decide_eq_true; omega))) | (focus (apply bAndF1; first | assumption | (apply decide_eq_false; omega))) | (focus (apply bAndF2; first | assumption | (apply decide_eq_false; omega))))); done)))) | (apply w_reg_l; rfl) | exact rfl)
    · rw [decide_eq_false hs]
      rw [sane4 h] at hs
      refine Cal.mk fun Wo => enter (F := fun _ => False) Try.func137 rfl Try.ntmps137 rfl ?_
      repeat (first | (apply s_box; rfl; constructor; rfl; intro _) | apply s_st | apply st_go | (focus (first | (apply y_assign; rfl))) | apply s_nil | apply w_seq | apply f_then | apply w_block | (apply w_reg_l; rfl) | exact rfl)
      refine w_loop0 (fun i : Nat => [(3, .int .i64 (i : Int))]) (fun i => 32 ≤ i ∧ ∀ j, 32 ≤ j → j < i → D a0 a1 j = false) (fun i => 128 - i) 32 ⟨Nat.le_refl _, fun j h1 h2 => absurd h1 (by omega)⟩ ?_ ?_
      · (repeat (first | exact Cov.nil | (apply Cov.cons; rfl) | (apply Cov.seen; rfl)))
      · intro i hi R hR
        by_cases c : i < 128
        · have hE : (decide ((i : Int) < 128) && !false) = true := by simp; omega
          have k := raw_s h false i c
          cases hd : D a0 a1 i with
          | false =>
            rw [hd] at k
            have hB := hR (i + 1) ⟨by omega, fun j h1 h2 => by
              by_cases e : j = i
              · rw [e, hd]
              · exact hi.2 j h1 (by omega)⟩ (by show 128 - (i + 1) < 128 - i; omega)
            rw [i64_next i (by omega)] at hB
            have hE2 : (bitI false != 0) = false := by decide
            clear hR
            repeat (first | apply s_st | apply st_go | (apply st_one; rfl; (focus ((repeat (first | assumption | rfl | exact beq_self_eq_true _ | exact bne_self_eq_false _ | apply bOrF | apply bAndT | apply bNotF | apply bNotT | (focus (apply decide_eq_true; omega)) | (focus (apply decide_eq_false; omega)) | (focus (apply bEqT; omega)) | (focus (apply bEqF; omega)) | (focus (apply bNeT; omega)) | (focus (apply bNeF; omega)) | (focus (apply bOrT1; first | assumption | (apply decide_eq_true; omega))) | (focus (apply bOrT2; first | assumption | (apply decide_eq_true; omega))) | (focus (apply bAndF1; first | assumption | (apply decide_eq_false; omega))) | (focus (apply bAndF2; first | assumption | (apply decide_eq_false; omega))))); done))) | (focus (first | (apply y_move; rfl) | (apply y_assign; rfl) | (apply y_not; rfl) | (apply y_load; rfl; (repeat (first | exact List.Mem.head _ | apply List.Mem.tail)); (repeat (first | exact Sub.nil | apply Sub.take | apply Sub.drop)); done) | (apply y_cell; rfl; (repeat (first | exact List.Mem.head _ | apply List.Mem.tail)); (repeat (first | exact At.hit | apply At.miss)); kernel_rfl; done) | (apply y_calls; rfl; rfl; rfl; (first | assumption); done) | (apply y_andp; rfl; rfl; done) | (apply y_faddr; kernel_rfl; rfl) | (apply y_ne; rfl; rfl) | (apply y_lt; rfl; rfl) | (apply y_add; rfl; rfl))) | apply s_nil | apply w_seq | apply f_then | apply w_block | apply f_norm_block | (apply f_back; assumption; (repeat (first | exact Cov.nil | (apply Cov.cons; rfl) | (apply Cov.seen; rfl))); (focus ((repeat (first | exact List.Sublist.refl _ | apply List.Sublist.cons_cons | apply List.Sublist.cons)); done))) | apply w_skip | refine w_cond_f rfl ?_ | (apply w_cond_tt; rfl; assumption) | (apply w_reg_l; rfl) | exact rfl)
          | true =>
            rw [hd] at k
            have hE2 : (bitI true != 0) = true := by decide
            clear hR
            repeat (first | apply s_st | apply st_go | (apply st_one; rfl; (focus ((repeat (first | assumption | rfl | exact beq_self_eq_true _ | exact bne_self_eq_false _ | apply bOrF | apply bAndT | apply bNotF | apply bNotT | (focus (apply decide_eq_true; omega)) | (focus (apply decide_eq_false; omega)) | (focus (apply bEqT; omega)) | (focus (apply bEqF; omega)) | (focus (apply bNeT; omega)) | (focus (apply bNeF; omega)) | (focus (apply bOrT1; first | assumption | (apply decide_eq_true; omega))) | (focus (apply bOrT2; first | assumption | (apply decide_eq_true; omega))) | (focus (apply bAndF1; first | assumption | (apply decide_eq_false; omega))) | (focus (apply bAndF2; first | assumption | (apply decide_eq_false; omega))))); done))) | (focus (first | (apply y_move; rfl) | (apply y_assign; rfl) | (apply y_not; rfl) | (apply y_load; rfl; (repeat (first | exact List.Mem.head _ | apply List.Mem.tail)); (repeat (first | exact Sub.nil | apply Sub.take | apply Sub.drop)); done) | (apply y_cell; rfl; (repeat (first | exact List.Mem.head _ | apply List.Mem.tail)); (repeat (first | exact At.hit | apply At.miss)); kernel_rfl; done) | (apply y_calls; rfl; rfl; rfl; (first | assumption); done) | (apply y_andp; rfl; rfl; done) | (apply y_faddr; kernel_rfl; rfl) | (apply y_ne; rfl; rfl) | (apply y_lt; rfl; rfl))) | apply s_nil | apply w_seq | apply f_then | apply w_block | apply f_ret | apply f_ret_block | apply w_skip | apply w_ret | refine w_cond_t rfl ?_ | (apply w_cond_tt; rfl; assumption) | (apply f_end; rfl; rfl; rfl; intro w hw; first | exact ans hw | (refine ans_b ?_ hw; (focus ((repeat (first | assumption | rfl | exact beq_self_eq_true _ | exact bne_self_eq_false _ | apply bOrF | apply bAndT | apply bNotF | apply bNotT | (focus (apply decide_eq_true; omega)) | (focus (apply decide_eq_false; omega)) | (focus (apply bEqT; omega)) | (focus (apply bEqF; omega)) | (focus (apply bNeT; omega)) | (focus (apply bNeF; omega)) | (focus (apply bOrT1; first | assumption | (apply decide_eq_true; omega))) | (focus (apply bOrT2; first | assumption | (apply decide_eq_true; omega))) | (focus (apply bAndF1; first | assumption | (apply decide_eq_false; omega))) | (focus (apply bAndF2; first | assumption | (apply decide_eq_false; omega))))); done)))) | (apply w_reg_l; rfl) | exact rfl)
        · exact absurd (fun j h1 h2 => hi.2 j h1 (by omega)) hs
theorem rcommon_s {a0 a1 b0 b1 : Int} (h : u64 a0 ∧ u64 a1) (h' : u64 b0 ∧ u64 b1) (a2 b2 : Bool) : Cal Try.prog 155 [.agg #[.int .u64 a0, .int .u64 a1, .bool a2], .agg #[.int .u64 b0, .int .u64 b1, .bool b2]] (.int .i64 (commonA a0 a1 a2 b0 b1 b2)) := by
  have hW := W_le a2
  unfold commonA
  by_cases hv : a2 = b2
  · subst hv
    rw [if_pos rfl]
    have hl := cmn_le (D a0 a1) (D b0 b1) (W a2)
    have hal := cmn_alike (D a0 a1) (D b0 b1) (W a2)
    have hen := cmn_end (D a0 a1) (D b0 b1) (W a2)
    generalize cmn (D a0 a1) (D b0 b1) (W a2) = K at *
    have kw := rwidth_s a2
    refine Cal.mk fun Wo => enter (F := fun _ => False) Try.func155 rfl Try.ntmps155 rfl ?_
    repeat (first | (apply s_box; rfl; constructor; rfl; intro _) | apply s_st | apply st_go | (focus (first | (apply y_assign; rfl))) | apply s_nil | apply w_seq | apply f_then | apply w_block | (apply w_reg_l; rfl) | exact rfl)
    refine w_loop0 (fun i : Nat => [(5, .int .i64 (i : Int))]) (fun i => i ≤ K) (fun i => K - i) 0 (Nat.zero_le _) ?_ ?_
    · (repeat (first | exact Cov.nil | (apply Cov.cons; rfl) | (apply Cov.seen; rfl)))
    · intro i hi R hR
      by_cases c : i < K
      · have k1 := raw_s h a2 i (by omega)
        have k2 := raw_s h' a2 i (by omega)
        have hE : (((a2 == a2) && decide ((i : Int) < ((W a2 : Nat) : Int))) && (bitI (D a0 a1 i) == bitI (D b0 b1 i))) = true := by rw [hal i c]; simp; omega
        have hB := hR (i + 1) c (by show K - (i + 1) < K - i; omega)
        rw [i64_next i (by omega)] at hB
        clear hR
        repeat (first | apply s_st | apply q_st | apply st_go | (apply st_one; rfl; (focus ((repeat (first | assumption | rfl | exact beq_self_eq_true _ | exact bne_self_eq_false _ | apply bOrF | apply bAndT | apply bNotF | apply bNotT | (focus (apply decide_eq_true; omega)) | (focus (apply decide_eq_false; omega)) | (focus (apply bEqT; omega)) | (focus (apply bEqF; omega)) | (focus (apply bNeT; omega)) | (focus (apply bNeF; omega)) | (focus (apply bOrT1; first | assumption | (apply decide_eq_true; omega))) | (focus (apply bOrT2; first | assumption | (apply decide_eq_true; omega))) | (focus (apply bAndF1; first | assumption | (apply decide_eq_false; omega))) | (focus (apply bAndF2; first | assumption | (apply decide_eq_false; omega))))); done))) | (focus (first | (apply y_move; rfl) | (apply y_assign; rfl) | (apply y_load; rfl; (repeat (first | exact List.Mem.head _ | apply List.Mem.tail)); (repeat (first | exact Sub.nil | apply Sub.take | apply Sub.drop)); done) | (apply y_cell; rfl; (repeat (first | exact List.Mem.head _ | apply List.Mem.tail)); (repeat (first | exact At.hit | apply At.miss)); kernel_rfl; done) | (apply y_calls; rfl; rfl; rfl; (first | assumption); done) | (apply y_andp; rfl; rfl; done) | (apply y_faddr; kernel_rfl; rfl) | (apply y_eq; rfl; rfl) | (apply y_lt; rfl; rfl) | (apply y_add; rfl; rfl) | (apply y_beq; kernel_rfl; rfl; rfl))) | apply q_nil | apply s_nil | apply w_seq | apply f_then | apply w_block | apply f_norm_block | (apply f_back; assumption; (repeat (first | exact Cov.nil | (apply Cov.cons; rfl) | (apply Cov.seen; rfl))); (focus ((repeat (first | exact List.Sublist.refl _ | apply List.Sublist.cons_cons | apply List.Sublist.cons)); done))) | apply w_skip | (apply w_cond_tt; rfl; assumption) | (apply w_draw_l; rfl; kernel_rfl; rfl; kernel_rfl) | (apply w_reg_l; rfl) | exact rfl)
      · obtain rfl : i = K := by omega
        clear hR
        by_cases cw : i < W a2
        · have k1 := raw_s h a2 i (by omega)
          have k2 := raw_s h' a2 i (by omega)
          have hE : (((a2 == a2) && decide ((i : Int) < ((W a2 : Nat) : Int))) && (bitI (D a0 a1 i) == bitI (D b0 b1 i))) = false := by
            have := hen cw
            revert this
            generalize D a0 a1 i = p
            generalize D b0 b1 i = q
            cases p <;> cases q <;> simp [bitI]
          repeat (first | apply s_st | apply q_st | apply st_go | (apply st_one; rfl; (focus ((repeat (first | assumption | rfl | exact beq_self_eq_true _ | exact bne_self_eq_false _ | apply bOrF | apply bAndT | apply bNotF | apply bNotT | (focus (apply decide_eq_true; omega)) | (focus (apply decide_eq_false; omega)) | (focus (apply bEqT; omega)) | (focus (apply bEqF; omega)) | (focus (apply bNeT; omega)) | (focus (apply bNeF; omega)) | (focus (apply bOrT1; first | assumption | (apply decide_eq_true; omega))) | (focus (apply bOrT2; first | assumption | (apply decide_eq_true; omega))) | (focus (apply bAndF1; first | assumption | (apply decide_eq_false; omega))) | (focus (apply bAndF2; first | assumption | (apply decide_eq_false; omega))))); done))) | (focus (first | (apply y_move; rfl) | (apply y_assign; rfl) | (apply y_load; rfl; (repeat (first | exact List.Mem.head _ | apply List.Mem.tail)); (repeat (first | exact Sub.nil | apply Sub.take | apply Sub.drop)); done) | (apply y_cell; rfl; (repeat (first | exact List.Mem.head _ | apply List.Mem.tail)); (repeat (first | exact At.hit | apply At.miss)); kernel_rfl; done) | (apply y_calls; rfl; rfl; rfl; (first | assumption); done) | (apply y_andp; rfl; rfl; done) | (apply y_faddr; kernel_rfl; rfl) | (apply y_eq; rfl; rfl) | (apply y_lt; rfl; rfl) | (apply y_beq; kernel_rfl; rfl; rfl))) | apply q_nil | apply s_nil | apply w_seq | apply f_then | apply w_exit | apply f_out | apply f_exit_block | apply w_ret | (apply w_cond_ff; rfl; assumption) | (apply f_end; rfl; rfl; rfl; intro w hw; first | exact ans hw | (refine ans_b ?_ hw; (focus ((repeat (first | assumption | rfl | exact beq_self_eq_true _ | exact bne_self_eq_false _ | apply bOrF | apply bAndT | apply bNotF | apply bNotT | (focus (apply decide_eq_true; omega)) | (focus (apply decide_eq_false; omega)) | (focus (apply bEqT; omega)) | (focus (apply bEqF; omega)) | (focus (apply bNeT; omega)) | (focus (apply bNeF; omega)) | (focus (apply bOrT1; first | assumption | (apply decide_eq_true; omega))) | (focus (apply bOrT2; first | assumption | (apply decide_eq_true; omega))) | (focus (apply bAndF1; first | assumption | (apply decide_eq_false; omega))) | (focus (apply bAndF2; first | assumption | (apply decide_eq_false; omega))))); done)))) | (apply w_draw_l; rfl; kernel_rfl; rfl; kernel_rfl) | (apply w_reg_l; rfl) | exact rfl)
        · have hG : ((a2 == a2) && decide ((i : Int) < ((W a2 : Nat) : Int))) = false := by simp; omega
          repeat (first | apply s_st | apply q_st | apply st_go | (apply st_offe; rfl; assumption; rfl) | (apply st_one; rfl; (focus ((repeat (first | assumption | rfl | exact beq_self_eq_true _ | exact bne_self_eq_false _ | apply bOrF | apply bAndT | apply bNotF | apply bNotT | (focus (apply decide_eq_true; omega)) | (focus (apply decide_eq_false; omega)) | (focus (apply bEqT; omega)) | (focus (apply bEqF; omega)) | (focus (apply bNeT; omega)) | (focus (apply bNeF; omega)) | (focus (apply bOrT1; first | assumption | (apply decide_eq_true; omega))) | (focus (apply bOrT2; first | assumption | (apply decide_eq_true; omega))) | (focus (apply bAndF1; first | assumption | (apply decide_eq_false; omega))) | (focus (apply bAndF2; first | assumption | (apply decide_eq_false; omega))))); done))) | (focus (first | (apply y_move; rfl) | (apply y_assign; rfl) | (apply y_cell; rfl; (repeat (first | exact List.Mem.head _ | apply List.Mem.tail)); (repeat (first | exact At.hit | apply At.miss)); kernel_rfl; done) | (apply y_calls; rfl; rfl; rfl; (first | assumption); done) | (apply y_andp; rfl; rfl; done) | (apply y_and_fe; rfl; assumption; done) | (apply y_faddr; kernel_rfl; rfl) | (apply y_lt; rfl; rfl) | (apply y_beq; kernel_rfl; rfl; rfl))) | apply q_nil | apply s_nil | apply w_seq | apply f_then | apply w_exit | apply f_out | apply f_exit_block | apply w_ret | refine w_cond_f rfl ?_ | (apply f_end; rfl; rfl; rfl; intro w hw; first | exact ans hw | (refine ans_b ?_ hw; (focus ((repeat (first | assumption | rfl | exact beq_self_eq_true _ | exact bne_self_eq_false _ | apply bOrF | apply bAndT | apply bNotF | apply bNotT | (focus (apply decide_eq_true; omega)) | (focus (apply decide_eq_false; omega)) | (focus (apply bEqT; omega)) | (focus (apply bEqF; omega)) | (focus (apply bNeT; omega)) | (focus (apply bNeF; omega)) | (focus (apply bOrT1; first | assumption | (apply decide_eq_true; omega))) | (focus (apply bOrT2; first | assumption | (apply decide_eq_true; omega))) | (focus (apply bAndF1; first | assumption | (apply decide_eq_false; omega))) | (focus (apply bAndF2; first | assumption | (apply decide_eq_false; omega))))); done)))) | (apply w_draw_l; rfl; kernel_rfl; rfl; kernel_rfl) | (apply w_reg_l; rfl) | exact rfl)
  · rw [if_neg hv]
    have hG : (a2 == b2) = false := beq_eq_false_iff_ne.mpr hv
    refine Cal.mk fun Wo => enter (F := fun _ => False) Try.func155 rfl Try.ntmps155 rfl ?_
    repeat (first | (apply s_box; rfl; constructor; rfl; intro _) | apply s_st | apply st_go | (focus (first | (apply y_assign; rfl))) | apply s_nil | apply w_seq | apply f_then | apply w_block | (apply w_reg_l; rfl) | exact rfl)
    refine w_loop0 (fun i : Nat => [(5, .int .i64 (0 : Int))]) (fun i => True) (fun i => 0) 0 trivial ?_ ?_
    · (repeat (first | exact Cov.nil | (apply Cov.cons; rfl) | (apply Cov.seen; rfl)))
    · intro i _ R _
      repeat (first | apply s_st | apply q_st | apply st_go | (apply st_off; rfl) | (apply st_offe; rfl; assumption; rfl) | (focus (first | (apply y_move; rfl) | (apply y_assign; rfl) | (apply y_cell; rfl; (repeat (first | exact List.Mem.head _ | apply List.Mem.tail)); (repeat (first | exact At.hit | apply At.miss)); kernel_rfl; done) | (apply y_and_f; rfl; done) | (apply y_and_fe; rfl; assumption; done) | (apply y_faddr; kernel_rfl; rfl) | (apply y_beq; kernel_rfl; rfl; rfl))) | apply q_nil | apply s_nil | apply w_seq | apply f_then | apply w_exit | apply f_out | apply f_exit_block | apply w_ret | refine w_cond_f rfl ?_ | (apply f_end; rfl; rfl; rfl; intro w hw; first | exact ans hw | (refine ans_b ?_ hw; (focus ((repeat (first | assumption | rfl | exact beq_self_eq_true _ | exact bne_self_eq_false _ | apply bOrF | apply bAndT | apply bNotF | apply bNotT | (focus (apply decide_eq_true; omega)) | (focus (apply decide_eq_false; omega)) | (focus (apply bEqT; omega)) | (focus (apply bEqF; omega)) | (focus (apply bNeT; omega)) | (focus (apply bNeF; omega)) | (focus (apply bOrT1; first | assumption | (apply decide_eq_true; omega))) | (focus (apply bOrT2; first | assumption | (apply decide_eq_true; omega))) | (focus (apply bAndF1; first | assumption | (apply decide_eq_false; omega))) | (focus (apply bAndF2; first | assumption | (apply decide_eq_false; omega))))); done)))) | (apply w_draw_l; rfl; kernel_rfl; rfl; kernel_rfl) | (apply w_reg_l; rfl) | exact rfl)
theorem rcompare_s {a0 a1 b0 b1 : Int} (h : u64 a0 ∧ u64 a1) (h' : u64 b0 ∧ u64 b1) (a2 b2 : Bool) : Cal Try.prog 154 [.agg #[.int .u64 a0, .int .u64 a1, .bool a2], .agg #[.int .u64 b0, .int .u64 b1, .bool b2]] (.int .i64 (compA a0 a1 a2 b0 b1 b2)) := by
  by_cases hv : a2 = b2
  · subst hv
    have hW := W_le a2
    have k1 := rcommon_s h h' a2 a2
    have k2 := rwidth_s a2
    rw [show commonA a0 a1 a2 b0 b1 a2 = ((cmn (D a0 a1) (D b0 b1) (W a2) : Nat) : Int) by unfold commonA; rw [if_pos rfl]] at k1
    have hE : (a2 != a2) = false := by simp
    have hl := cmn_le (D a0 a1) (D b0 b1) (W a2)
    rw [comp_same]
    generalize cmn (D a0 a1) (D b0 b1) (W a2) = K at *
    by_cases c : K = W a2
    · rw [if_pos c]
      have hE2 : (((K : Nat) : Int) == ((W a2 : Nat) : Int)) = true := by simp; omega
      refine Cal.mk fun Wo => enter (F := fun _ => False) Try.func154 rfl Try.ntmps154 rfl ?_
      repeat (first | (apply s_box; rfl; constructor; rfl; intro _) | apply s_st | apply st_go | (focus (first | (apply y_move; rfl) | (apply y_assign; rfl) | (apply y_load; rfl; (repeat (first | exact List.Mem.head _ | apply List.Mem.tail)); (repeat (first | exact Sub.nil | apply Sub.take | apply Sub.drop)); done) | (apply y_cell; rfl; (repeat (first | exact List.Mem.head _ | apply List.Mem.tail)); (repeat (first | exact At.hit | apply At.miss)); kernel_rfl; done) | (apply y_calls; rfl; rfl; rfl; (first | assumption); done) | (apply y_faddr; kernel_rfl; rfl) | (apply y_eq; rfl; rfl) | (apply y_bne; kernel_rfl; rfl; rfl))) | apply s_nil | apply w_seq | apply f_then | apply f_ret | apply w_skip | apply w_ret | (apply w_cond_tt; rfl; assumption) | (apply w_cond_ff; rfl; assumption) | (apply f_end; rfl; rfl; rfl; intro w hw; first | exact ans hw | (refine ans_b ?_ hw; (focus ((repeat (first | assumption | rfl | exact beq_self_eq_true _ | exact bne_self_eq_false _ | apply bOrF | apply bAndT | apply bNotF | apply bNotT | (focus (apply decide_eq_true; omega)) | (focus (apply decide_eq_false; omega)) | (focus (apply bEqT; omega)) | (focus (apply bEqF; omega)) | (focus (apply bNeT; omega)) | (focus (apply bNeF; omega)) | (focus (apply bOrT1; first | assumption | (apply decide_eq_true; omega))) | (focus (apply bOrT2; first | assumption | (apply decide_eq_true; omega))) | (focus (apply bAndF1; first | assumption | (apply decide_eq_false; omega))) | (focus (apply bAndF2; first | assumption | (apply decide_eq_false; omega))))); done)))) | (apply w_reg_l; rfl) | exact rfl)
    · rw [if_neg c]
      have hE2 : (((K : Nat) : Int) == ((W a2 : Nat) : Int)) = false := by simp; omega
      have k3 := raw_s h a2 K (by omega)
      have k4 := raw_s h' a2 K (by omega)
      have e : IntKind.i64.wrap (bitI (D a0 a1 K) - bitI (D b0 b1 K)) = bitI (D a0 a1 K) - bitI (D b0 b1 K) := by
        generalize D a0 a1 K = p
        generalize D b0 b1 K = q
        cases p <;> cases q <;> decide
      rw [← e]
      refine Cal.mk fun Wo => enter (F := fun _ => False) Try.func154 rfl Try.ntmps154 rfl ?_
      repeat (first | (apply s_box; rfl; constructor; rfl; intro _) | apply s_st | apply q_st | apply st_go | (focus (first | (apply y_move; rfl) | (apply y_assign; rfl) | (apply y_load; rfl; (repeat (first | exact List.Mem.head _ | apply List.Mem.tail)); (repeat (first | exact Sub.nil | apply Sub.take | apply Sub.drop)); done) | (apply y_cell; rfl; (repeat (first | exact List.Mem.head _ | apply List.Mem.tail)); (repeat (first | exact At.hit | apply At.miss)); kernel_rfl; done) | (apply y_calls; rfl; rfl; rfl; (first | assumption); done) | (apply y_faddr; kernel_rfl; rfl) | (apply y_eq; rfl; rfl) | (apply y_sub; rfl; rfl) | (apply y_bne; kernel_rfl; rfl; rfl))) | apply q_nil | apply s_nil | apply w_seq | apply f_then | apply w_skip | apply w_ret | (apply w_cond_ff; rfl; assumption) | (apply f_end; rfl; rfl; rfl; intro w hw; first | exact ans hw | (refine ans_b ?_ hw; (focus ((repeat (first | assumption | rfl | exact beq_self_eq_true _ | exact bne_self_eq_false _ | apply bOrF | apply bAndT | apply bNotF | apply bNotT | (focus (apply decide_eq_true; omega)) | (focus (apply decide_eq_false; omega)) | (focus (apply bEqT; omega)) | (focus (apply bEqF; omega)) | (focus (apply bNeT; omega)) | (focus (apply bNeF; omega)) | (focus (apply bOrT1; first | assumption | (apply decide_eq_true; omega))) | (focus (apply bOrT2; first | assumption | (apply decide_eq_true; omega))) | (focus (apply bAndF1; first | assumption | (apply decide_eq_false; omega))) | (focus (apply bAndF2; first | assumption | (apply decide_eq_false; omega))))); done)))) | (apply w_draw_l; rfl; kernel_rfl; rfl; kernel_rfl) | (apply w_reg_l; rfl) | exact rfl)
  · rw [comp_diff _ _ _ _ _ _ hv]
    have hE : (a2 != b2) = true := bne_iff_ne.mpr hv
    cases b2 with
    | true =>
      refine Cal.mk fun Wo => enter (F := fun _ => False) Try.func154 rfl Try.ntmps154 rfl ?_
      repeat (first | (apply s_box; rfl; constructor; rfl; intro _) | apply s_st | apply st_go | (focus (first | (apply y_assign; rfl) | (apply y_cell; rfl; (repeat (first | exact List.Mem.head _ | apply List.Mem.tail)); (repeat (first | exact At.hit | apply At.miss)); kernel_rfl; done) | (apply y_faddr; kernel_rfl; rfl) | (apply y_bne; kernel_rfl; rfl; rfl))) | apply s_nil | apply w_seq | apply f_then | apply f_ret | apply w_ret | refine w_cond_t rfl ?_ | (apply w_cond_tt; rfl; assumption) | (apply f_end; rfl; rfl; rfl; intro w hw; first | exact ans hw | (refine ans_b ?_ hw; (focus ((repeat (first | assumption | rfl | exact beq_self_eq_true _ | exact bne_self_eq_false _ | apply bOrF | apply bAndT | apply bNotF | apply bNotT | (focus (apply decide_eq_true; omega)) | (focus (apply decide_eq_false; omega)) | (focus (apply bEqT; omega)) | (focus (apply bEqF; omega)) | (focus (apply bNeT; omega)) | (focus (apply bNeF; omega)) | (focus (apply bOrT1; first | assumption | (apply decide_eq_true; omega))) | (focus (apply bOrT2; first | assumption | (apply decide_eq_true; omega))) | (focus (apply bAndF1; first | assumption | (apply decide_eq_false; omega))) | (focus (apply bAndF2; first | assumption | (apply decide_eq_false; omega))))); done)))) | (apply w_reg_l; rfl) | exact rfl)
    | false =>
      refine Cal.mk fun Wo => enter (F := fun _ => False) Try.func154 rfl Try.ntmps154 rfl ?_
      repeat (first | (apply s_box; rfl; constructor; rfl; intro _) | apply s_st | apply st_go | (focus (first | (apply y_assign; rfl) | (apply y_cell; rfl; (repeat (first | exact List.Mem.head _ | apply List.Mem.tail)); (repeat (first | exact At.hit | apply At.miss)); kernel_rfl; done) | (apply y_faddr; kernel_rfl; rfl) | (apply y_bne; kernel_rfl; rfl; rfl))) | apply s_nil | apply w_seq | apply f_then | apply f_ret | apply w_skip | apply w_ret | refine w_cond_f rfl ?_ | (apply w_cond_tt; rfl; assumption) | (apply f_end; rfl; rfl; rfl; intro w hw; first | exact ans hw | (refine ans_b ?_ hw; (focus ((repeat (first | assumption | rfl | exact beq_self_eq_true _ | exact bne_self_eq_false _ | apply bOrF | apply bAndT | apply bNotF | apply bNotT | (focus (apply decide_eq_true; omega)) | (focus (apply decide_eq_false; omega)) | (focus (apply bEqT; omega)) | (focus (apply bEqF; omega)) | (focus (apply bNeT; omega)) | (focus (apply bNeF; omega)) | (focus (apply bOrT1; first | assumption | (apply decide_eq_true; omega))) | (focus (apply bOrT2; first | assumption | (apply decide_eq_true; omega))) | (focus (apply bAndF1; first | assumption | (apply decide_eq_false; omega))) | (focus (apply bAndF2; first | assumption | (apply decide_eq_false; omega))))); done)))) | (apply w_reg_l; rfl) | exact rfl)
theorem saneB_iff {a0 a1 : Int} {v : Bool} {x : Int} : saneB a0 a1 v x = true ↔ sane a0 a1 v ∧ 0 ≤ x ∧ x ≤ ((W v : Nat) : Int) ∧ ∀ i : Nat, x ≤ (i : Int) → i < W v → D a0 a1 i = false := by
  constructor
  · intro h
    obtain ⟨c, hc, rfl, h0, h1⟩ := saneB_ex h
    refine ⟨?_, by omega, by omega, fun i h2 h3 => ?_⟩
    · have := sane_mk v (cutd (D a0 a1) c)
      rwa [← h0, ← h1] at this
    · have e0 := D_cut v (D a0 a1) c i h3
      rw [← h0, ← h1] at e0
      rw [e0, cutd_ge (by omega)]
  · rintro ⟨hs, h0, h1, h2⟩
    obtain ⟨c, rfl⟩ : ∃ c : Nat, x = (c : Int) := ⟨x.toNat, by omega⟩
    unfold saneB eqOf
    have e : ∀ i, i < W v → cutd (D a0 a1) c i = D a0 a1 i := fun i hi => by
      by_cases k : i < c
      · rw [cutd_lt k]
      · rw [cutd_ge (by omega), h2 i (by omega) hi]
    rw [clampW_in (by omega), hi_congr e, lo_congr e, ← hs.1, ← hs.2]
    simp
theorem r2sane_s {a0 a1 : Int} (h : u64 a0 ∧ u64 a1) (a2 : Bool) (a3 : Int) : Cal Try.prog 107 [.agg #[.int .u64 a0, .int .u64 a1, .bool a2, .int .i64 a3]] (.bool (saneB a0 a1 a2 a3)) := by
  have hW := W_le a2
  have k1 := rsane_s h a2
  have k2 := rwidth_s a2
  by_cases hE0 : ((!decide (sane a0 a1 a2) || decide (a3 < 0)) || decide (a3 > ((W a2 : Nat) : Int))) = true
  · rw [show saneB a0 a1 a2 a3 = false from Bool.eq_false_iff.mpr fun k => by
      rw [saneB_iff] at k
      simp only [Bool.or_eq_true, Bool.not_eq_true', decide_eq_true_iff, decide_eq_false_iff_not] at hE0
      rcases hE0 with (e | e) | e
      · exact e k.1
      · omega
      · omega]
    refine Cal.mk fun Wo => enter (F := fun _ => False) Try.func107 rfl Try.ntmps107 rfl ?_
    repeat (first | (apply s_box; rfl; constructor; rfl; intro _) | apply s_st | apply q_st | apply st_go | (apply st_if; rfl; intro h1; (try simp only [h1, gv_true, gv_tt])) | (focus (first | (apply y_move; rfl) | (apply y_assign; rfl) | (apply y_not; rfl) | (apply y_load; rfl; (repeat (first | exact List.Mem.head _ | apply List.Mem.tail)); (repeat (first | exact Sub.nil | apply Sub.take | apply Sub.drop)); done) | (apply y_cell; rfl; (repeat (first | exact List.Mem.head _ | apply List.Mem.tail)); (repeat (first | exact At.hit | apply At.miss)); kernel_rfl; done) | (apply y_calls; rfl; rfl; rfl; (first | assumption); done) | (apply y_or; rfl; rfl; done) | (apply y_faddr; kernel_rfl; rfl) | (apply y_lt; rfl; rfl) | (apply y_gt; rfl; rfl))) | apply q_nil | apply s_nil | apply w_seq | apply f_then | apply f_ret | apply w_ret | (apply w_cond_tt; rfl; assumption) | (apply f_end; rfl; rfl; rfl; intro w hw; first | exact ans hw | (refine ans_b ?_ hw; (focus ((repeat (first | assumption | rfl | exact beq_self_eq_true _ | exact bne_self_eq_false _ | apply bOrF | apply bAndT | apply bNotF | apply bNotT | (focus (apply decide_eq_true; omega)) | (focus (apply decide_eq_false; omega)) | (focus (apply bEqT; omega)) | (focus (apply bEqF; omega)) | (focus (apply bNeT; omega)) | (focus (apply bNeF; omega)) | (focus (apply bOrT1; first | assumption | (apply decide_eq_true; omega))) | (focus (apply bOrT2; first | assumption | (apply decide_eq_true; omega))) | (focus (apply bAndF1; first | assumption | (apply decide_eq_false; omega))) | (focus (apply bAndF2; first | assumption | (apply decide_eq_false; omega))))); done)))) | (apply w_draw_l; rfl; kernel_rfl; rfl; kernel_rfl) | (apply w_reg_l; rfl) | exact rfl)
  · have hE : ((!decide (sane a0 a1 a2) || decide (a3 < 0)) || decide (a3 > ((W a2 : Nat) : Int))) = false := Bool.eq_false_iff.mpr hE0
    have hE' := hE
    simp only [Bool.or_eq_false_iff, Bool.not_eq_false', decide_eq_true_iff, decide_eq_false_iff_not] at hE'
    obtain ⟨⟨hs, h0⟩, h1⟩ := hE'
    clear hE0
    obtain ⟨c, rfl⟩ : ∃ c : Nat, a3 = (c : Int) := ⟨a3.toNat, by omega⟩
    by_cases hq : saneB a0 a1 a2 c = true
    · rw [hq]
      rw [saneB_iff] at hq
      refine Cal.mk fun Wo => enter (F := fun _ => False) Try.func107 rfl Try.ntmps107 rfl ?_
      repeat (first | (apply s_box; rfl; constructor; rfl; intro _) | apply s_st | apply q_st | apply st_go | (apply st_one; rfl; (focus ((repeat (first | assumption | rfl | exact beq_self_eq_true _ | exact bne_self_eq_false _ | apply bOrF | apply bAndT | apply bNotF | apply bNotT | (focus (apply decide_eq_true; omega)) | (focus (apply decide_eq_false; omega)) | (focus (apply bEqT; omega)) | (focus (apply bEqF; omega)) | (focus (apply bNeT; omega)) | (focus (apply bNeF; omega)) | (focus (apply bOrT1; first | assumption | (apply decide_eq_true; omega))) | (focus (apply bOrT2; first | assumption | (apply decide_eq_true; omega))) | (focus (apply bAndF1; first | assumption | (apply decide_eq_false; omega))) | (focus (apply bAndF2; first | assumption | (apply decide_eq_false; omega))))); done))) | (focus (first | (apply y_move; rfl) | (apply y_assign; rfl) | (apply y_not; rfl) | (apply y_load; rfl; (repeat (first | exact List.Mem.head _ | apply List.Mem.tail)); (repeat (first | exact Sub.nil | apply Sub.take | apply Sub.drop)); done) | (apply y_cell; rfl; (repeat (first | exact List.Mem.head _ | apply List.Mem.tail)); (repeat (first | exact At.hit | apply At.miss)); kernel_rfl; done) | (apply y_calls; rfl; rfl; rfl; (first | assumption); done) | (apply y_orp; rfl; rfl; done) | (apply y_faddr; kernel_rfl; rfl) | (apply y_lt; rfl; rfl) | (apply y_gt; rfl; rfl))) | apply q_nil | apply s_nil | apply w_seq | apply f_then | apply w_block | apply w_skip | (apply w_cond_ff; rfl; assumption) | (apply w_draw_l; rfl; kernel_rfl; rfl; kernel_rfl) | (apply w_reg_l; rfl) | exact rfl)
      refine w_loop0 (fun i : Nat => [(3, .int .i64 (i : Int))]) (fun i => c ≤ i) (fun i => W a2 - i) c (Nat.le_refl _) ?_ ?_
      · (repeat (first | exact Cov.nil | (apply Cov.cons; rfl) | (apply Cov.seen; rfl)))
      · intro i hi R hR
        by_cases k : i < W a2
        · have k3 := rbit_s h a2 i k
          rw [hq.2.2.2 i (by omega) k] at k3
          have hE2 : decide ((i : Int) < ((W a2 : Nat) : Int)) = true := by simp; omega
          have hE3 : (bitI false != 0) = false := by decide
          have hB := hR (i + 1) (by omega) (by show W a2 - (i + 1) < W a2 - i; omega)
          rw [i64_next i (by omega)] at hB
          clear hR
          repeat (first | apply s_st | apply st_go | (focus (first | (apply y_move; rfl) | (apply y_assign; rfl) | (apply y_load; rfl; (repeat (first | exact List.Mem.head _ | apply List.Mem.tail)); (repeat (first | exact Sub.nil | apply Sub.take | apply Sub.drop)); done) | (apply y_cell; rfl; (repeat (first | exact List.Mem.head _ | apply List.Mem.tail)); (repeat (first | exact At.hit | apply At.miss)); kernel_rfl; done) | (apply y_calls; rfl; rfl; rfl; (first | assumption); done) | (apply y_faddr; kernel_rfl; rfl) | (apply y_ne; rfl; rfl) | (apply y_lt; rfl; rfl) | (apply y_add; rfl; rfl))) | apply s_nil | apply w_seq | apply f_then | apply w_block | apply f_norm_block | (apply f_back; assumption; (repeat (first | exact Cov.nil | (apply Cov.cons; rfl) | (apply Cov.seen; rfl))); (focus ((repeat (first | exact List.Sublist.refl _ | apply List.Sublist.cons_cons | apply List.Sublist.cons)); done))) | apply w_skip | refine w_cond_f rfl ?_ | (apply w_cond_tt; rfl; assumption) | (apply w_reg_l; rfl) | exact rfl)
        · have hE2 : decide ((i : Int) < ((W a2 : Nat) : Int)) = false := by simp; omega
          clear hR
          repeat (first | apply s_st | apply st_go | (focus (first | (apply y_move; rfl) | (apply y_assign; rfl) | (apply y_cell; rfl; (repeat (first | exact List.Mem.head _ | apply List.Mem.tail)); (repeat (first | exact At.hit | apply At.miss)); kernel_rfl; done) | (apply y_calls; rfl; rfl; rfl; (first | assumption); done) | (apply y_faddr; kernel_rfl; rfl) | (apply y_lt; rfl; rfl))) | apply s_nil | apply w_seq | apply f_then | apply w_exit | apply f_out | apply f_exit_block | apply w_ret | (apply w_cond_ff; rfl; assumption) | (apply f_end; rfl; rfl; rfl; intro w hw; first | exact ans hw | (refine ans_b ?_ hw; (focus ((repeat (first | assumption | rfl | exact beq_self_eq_true _ | exact bne_self_eq_false _ | apply bOrF | apply bAndT | apply bNotF | apply bNotT | (focus (apply decide_eq_true; omega)) | (focus (apply decide_eq_false; omega)) | (focus (apply bEqT; omega)) | (focus (apply bEqF; omega)) | (focus (apply bNeT; omega)) | (focus (apply bNeF; omega)) | (focus (apply bOrT1; first | assumption | (apply decide_eq_true; omega))) | (focus (apply bOrT2; first | assumption | (apply decide_eq_true; omega))) | (focus (apply bAndF1; first | assumption | (apply decide_eq_false; omega))) | (focus (apply bAndF2; first | assumption | (apply decide_eq_false; omega))))); done)))) | (apply w_reg_l; rfl) | exact rfl)
    · rw [Bool.not_eq_true] at hq
      rw [hq]
      have hq : ¬ ∀ i : Nat, (c : Int) ≤ (i : Int) → i < W a2 → D a0 a1 i = false := fun k => by
        rw [saneB_iff.mpr ⟨hs, by omega, by omega, k⟩] at hq; cases hq
      refine Cal.mk fun Wo => enter (F := fun _ => False) Try.func107 rfl Try.ntmps107 rfl ?_
      repeat (first | (apply s_box; rfl; constructor; rfl; intro _) | apply s_st | apply q_st | apply st_go | (apply st_one; rfl; (focus ((repeat (first | assumption | rfl | exact beq_self_eq_true _ | exact bne_self_eq_false _ | apply bOrF | apply bAndT | apply bNotF | apply bNotT | (focus (apply decide_eq_true; omega)) | (focus (apply decide_eq_false; omega)) | (focus (apply bEqT; omega)) | (focus (apply bEqF; omega)) | (focus (apply bNeT; omega)) | (focus (apply bNeF; omega)) | (focus (apply bOrT1; first | assumption | (apply decide_eq_true; omega))) | (focus (apply bOrT2; first | assumption | (apply decide_eq_true; omega))) | (focus (apply bAndF1; first | assumption | (apply decide_eq_false; omega))) | (focus (apply bAndF2; first | assumption | (apply decide_eq_false; omega))))); done))) | (focus (first | (apply y_move; rfl) | (apply y_assign; rfl) | (apply y_not; rfl) | (apply y_load; rfl; (repeat (first | exact List.Mem.head _ | apply List.Mem.tail)); (repeat (first | exact Sub.nil | apply Sub.take | apply Sub.drop)); done) | (apply y_cell; rfl; (repeat (first | exact List.Mem.head _ | apply List.Mem.tail)); (repeat (first | exact At.hit | apply At.miss)); kernel_rfl; done) | (apply y_calls; rfl; rfl; rfl; (first | assumption); done) | (apply y_orp; rfl; rfl; done) | (apply y_faddr; kernel_rfl; rfl) | (apply y_lt; rfl; rfl) | (apply y_gt; rfl; rfl))) | apply q_nil | apply s_nil | apply w_seq | apply f_then | apply w_block | apply w_skip | (apply w_cond_ff; rfl; assumption) | (apply w_draw_l; rfl; kernel_rfl; rfl; kernel_rfl) | (apply w_reg_l; rfl) | exact rfl)
      refine w_loop0 (fun i : Nat => [(3, .int .i64 (i : Int))]) (fun i => c ≤ i ∧ ∀ j, c ≤ j → j < i → D a0 a1 j = false) (fun i => W a2 - i) c ⟨Nat.le_refl _, fun j h1 h2 => absurd h1 (by omega)⟩ ?_ ?_
      · (repeat (first | exact Cov.nil | (apply Cov.cons; rfl) | (apply Cov.seen; rfl)))
      · intro i hi R hR
        by_cases k : i < W a2
        · have k3 := rbit_s h a2 i k
          have hE2 : decide ((i : Int) < ((W a2 : Nat) : Int)) = true := by simp; omega
          cases hd : D a0 a1 i with
          | false =>
            rw [hd] at k3
            have hB := hR (i + 1) ⟨by omega, fun j h1 h2 => by
              by_cases e : j = i
              · rw [e, hd]
              · exact hi.2 j h1 (by omega)⟩ (by show W a2 - (i + 1) < W a2 - i; omega)
            rw [i64_next i (by omega)] at hB
            have hE3 : (bitI false != 0) = false := by decide
            clear hR
            repeat (first | apply s_st | apply st_go | (focus (first | (apply y_move; rfl) | (apply y_assign; rfl) | (apply y_load; rfl; (repeat (first | exact List.Mem.head _ | apply List.Mem.tail)); (repeat (first | exact Sub.nil | apply Sub.take | apply Sub.drop)); done) | (apply y_cell; rfl; (repeat (first | exact List.Mem.head _ | apply List.Mem.tail)); (repeat (first | exact At.hit | apply At.miss)); kernel_rfl; done) | (apply y_calls; rfl; rfl; rfl; (first | assumption); done) | (apply y_faddr; kernel_rfl; rfl) | (apply y_ne; rfl; rfl) | (apply y_lt; rfl; rfl) | (apply y_add; rfl; rfl))) | apply s_nil | apply w_seq | apply f_then | apply w_block | apply f_norm_block | (apply f_back; assumption; (repeat (first | exact Cov.nil | (apply Cov.cons; rfl) | (apply Cov.seen; rfl))); (focus ((repeat (first | exact List.Sublist.refl _ | apply List.Sublist.cons_cons | apply List.Sublist.cons)); done))) | apply w_skip | refine w_cond_f rfl ?_ | (apply w_cond_tt; rfl; assumption) | (apply w_reg_l; rfl) | exact rfl)
          | true =>
            rw [hd] at k3
            have hE3 : (bitI true != 0) = true := by decide
            clear hR
            repeat (first | apply s_st | apply st_go | (focus (first | (apply y_move; rfl) | (apply y_assign; rfl) | (apply y_load; rfl; (repeat (first | exact List.Mem.head _ | apply List.Mem.tail)); (repeat (first | exact Sub.nil | apply Sub.take | apply Sub.drop)); done) | (apply y_cell; rfl; (repeat (first | exact List.Mem.head _ | apply List.Mem.tail)); (repeat (first | exact At.hit | apply At.miss)); kernel_rfl; done) | (apply y_calls; rfl; rfl; rfl; (first | assumption); done) | (apply y_faddr; kernel_rfl; rfl) | (apply y_ne; rfl; rfl) | (apply y_lt; rfl; rfl))) | apply s_nil | apply w_seq | apply f_then | apply w_block | apply f_ret | apply f_ret_block | apply w_skip | apply w_ret | refine w_cond_t rfl ?_ | (apply w_cond_tt; rfl; assumption) | (apply f_end; rfl; rfl; rfl; intro w hw; first | exact ans hw | (refine ans_b ?_ hw; (focus ((repeat (first | assumption | rfl | exact beq_self_eq_true _ | exact bne_self_eq_false _ | apply bOrF | apply bAndT | apply bNotF | apply bNotT | (focus (apply decide_eq_true; omega)) | (focus (apply decide_eq_false; omega)) | (focus (apply bEqT; omega)) | (focus (apply bEqF; omega)) | (focus (apply bNeT; omega)) | (focus (apply bNeF; omega)) | (focus (apply bOrT1; first | assumption | (apply decide_eq_true; omega))) | (focus (apply bOrT2; first | assumption | (apply decide_eq_true; omega))) | (focus (apply bAndF1; first | assumption | (apply decide_eq_false; omega))) | (focus (apply bAndF2; first | assumption | (apply decide_eq_false; omega))))); done)))) | (apply w_reg_l; rfl) | exact rfl)
        · exact absurd (fun j h1 h2 => hi.2 j (by omega) (by omega)) hq
theorem r2contains_s {a0 a1 b0 b1 : Int} (h : u64 a0 ∧ u64 a1) (h' : u64 b0 ∧ u64 b1) (a2 : Bool) (a3 : Int) (b2 : Bool) : Cal Try.prog 88 [.agg #[.int .u64 a0, .int .u64 a1, .bool a2, .int .i64 a3], .agg #[.int .u64 b0, .int .u64 b1, .bool b2]] (.bool (contB a0 a1 a2 a3 b0 b1 b2)) := by
  have hW := W_le a2
  have k1 := r2sane_s h a2 a3
  by_cases hE0 : (!saneB a0 a1 a2 a3 || b2 != a2) = true
  · rw [show contB a0 a1 a2 a3 b0 b1 b2 = false from Bool.eq_false_iff.mpr fun k => by
      unfold contB eqOf at k
      simp only [Bool.and_eq_true, beq_iff_eq] at k
      rw [k.1, k.2.1.2.2] at hE0
      simp at hE0]
    refine Cal.mk fun Wo => enter (F := fun _ => False) Try.func88 rfl Try.ntmps88 rfl ?_
    repeat (first | (apply s_box; rfl; constructor; rfl; intro _) | apply s_st | apply st_go | (apply st_if; rfl; intro h1; (try simp only [h1, gv_true, gv_tt])) | (focus (first | (apply y_move; rfl) | (apply y_assign; rfl) | (apply y_not; rfl) | (apply y_load; rfl; (repeat (first | exact List.Mem.head _ | apply List.Mem.tail)); (repeat (first | exact Sub.nil | apply Sub.take | apply Sub.drop)); done) | (apply y_cell; rfl; (repeat (first | exact List.Mem.head _ | apply List.Mem.tail)); (repeat (first | exact At.hit | apply At.miss)); kernel_rfl; done) | (apply y_calls; rfl; rfl; rfl; (first | assumption); done) | (apply y_or; rfl; rfl; done) | (apply y_faddr; kernel_rfl; rfl) | (apply y_bne; kernel_rfl; rfl; rfl))) | apply s_nil | apply w_seq | apply f_then | apply f_ret | apply w_ret | (apply w_cond_tt; rfl; assumption) | (apply f_end; rfl; rfl; rfl; intro w hw; first | exact ans hw | (refine ans_b ?_ hw; (focus ((repeat (first | assumption | rfl | exact beq_self_eq_true _ | exact bne_self_eq_false _ | apply bOrF | apply bAndT | apply bNotF | apply bNotT | (focus (apply decide_eq_true; omega)) | (focus (apply decide_eq_false; omega)) | (focus (apply bEqT; omega)) | (focus (apply bEqF; omega)) | (focus (apply bNeT; omega)) | (focus (apply bNeF; omega)) | (focus (apply bOrT1; first | assumption | (apply decide_eq_true; omega))) | (focus (apply bOrT2; first | assumption | (apply decide_eq_true; omega))) | (focus (apply bAndF1; first | assumption | (apply decide_eq_false; omega))) | (focus (apply bAndF2; first | assumption | (apply decide_eq_false; omega))))); done)))) | (apply w_reg_l; rfl) | exact rfl)
  · have hE : (!saneB a0 a1 a2 a3 || b2 != a2) = false := Bool.eq_false_iff.mpr hE0
    have hE' := hE
    simp only [Bool.or_eq_false_iff, Bool.not_eq_false', bne_eq_false_iff_eq] at hE'
    obtain ⟨hs, rfl⟩ := hE'
    clear hE0
    obtain ⟨c, hc, hn, p0, p1⟩ := saneB_ex hs
    have hcon : contB a0 a1 b2 a3 b0 b1 b2 = conD b2 (D a0 a1) c b2 (D b0 b1) := by
      have := contB_pk b2 (D a0 a1) c hc b0 b1 b2
      rwa [← p0, ← p1, ← hn] at this
    rw [hcon]
    by_cases hq : conD b2 (D a0 a1) c b2 (D b0 b1) = true
    · rw [hq]
      have hq := (conD_true.mp hq).2
      refine Cal.mk fun Wo => enter (F := fun _ => False) Try.func88 rfl Try.ntmps88 rfl ?_
      repeat (first | (apply s_box; rfl; constructor; rfl; intro _) | apply s_st | apply st_go | (apply st_one; rfl; (focus ((repeat (first | assumption | rfl | exact beq_self_eq_true _ | exact bne_self_eq_false _ | apply bOrF | apply bAndT | apply bNotF | apply bNotT | (focus (apply decide_eq_true; omega)) | (focus (apply decide_eq_false; omega)) | (focus (apply bEqT; omega)) | (focus (apply bEqF; omega)) | (focus (apply bNeT; omega)) | (focus (apply bNeF; omega)) | (focus (apply bOrT1; first | assumption | (apply decide_eq_true; omega))) | (focus (apply bOrT2; first | assumption | (apply decide_eq_true; omega))) | (focus (apply bAndF1; first | assumption | (apply decide_eq_false; omega))) | (focus (apply bAndF2; first | assumption | (apply decide_eq_false; omega))))); done))) | (focus (first | (apply y_move; rfl) | (apply y_assign; rfl) | (apply y_not; rfl) | (apply y_load; rfl; (repeat (first | exact List.Mem.head _ | apply List.Mem.tail)); (repeat (first | exact Sub.nil | apply Sub.take | apply Sub.drop)); done) | (apply y_cell; rfl; (repeat (first | exact List.Mem.head _ | apply List.Mem.tail)); (repeat (first | exact At.hit | apply At.miss)); kernel_rfl; done) | (apply y_calls; rfl; rfl; rfl; (first | assumption); done) | (apply y_orp; rfl; rfl; done) | (apply y_faddr; kernel_rfl; rfl) | (apply y_bne; kernel_rfl; rfl; rfl))) | apply s_nil | apply w_seq | apply f_then | apply w_block | apply w_skip | (apply w_cond_ff; rfl; assumption) | (apply w_reg_l; rfl) | exact rfl)
      refine w_loop0 (fun i : Nat => [(5, .int .i64 (i : Int))]) (fun i => i ≤ c) (fun i => c - i) 0 (Nat.zero_le _) ?_ ?_
      · (repeat (first | exact Cov.nil | (apply Cov.cons; rfl) | (apply Cov.seen; rfl)))
      · intro i hi R hR
        by_cases k : i < c
        · have k3 := rbit_s h b2 i (by omega)
          have k4 := rbit_s h' b2 i (by omega)
          have hE2 : decide ((i : Int) < a3) = true := by simp; omega
          have hE3 : (bitI (D b0 b1 i) != bitI (D a0 a1 i)) = false := by rw [hq i k]; simp
          have hB := hR (i + 1) (by omega) (by show c - (i + 1) < c - i; omega)
          rw [i64_next i (by omega)] at hB
          clear hR
          repeat (first | apply s_st | apply q_st | apply st_go | (focus (first | (apply y_move; rfl) | (apply y_assign; rfl) | (apply y_load; rfl; (repeat (first | exact List.Mem.head _ | apply List.Mem.tail)); (repeat (first | exact Sub.nil | apply Sub.take | apply Sub.drop)); done) | (apply y_cell; rfl; (repeat (first | exact List.Mem.head _ | apply List.Mem.tail)); (repeat (first | exact At.hit | apply At.miss)); kernel_rfl; done) | (apply y_calls; rfl; rfl; rfl; (first | assumption); done) | (apply y_faddr; kernel_rfl; rfl) | (apply y_ne; rfl; rfl) | (apply y_lt; rfl; rfl) | (apply y_add; rfl; rfl))) | apply q_nil | apply s_nil | apply w_seq | apply f_then | apply w_block | apply f_norm_block | (apply f_back; assumption; (repeat (first | exact Cov.nil | (apply Cov.cons; rfl) | (apply Cov.seen; rfl))); (focus ((repeat (first | exact List.Sublist.refl _ | apply List.Sublist.cons_cons | apply List.Sublist.cons)); done))) | apply w_skip | (apply w_cond_tt; rfl; assumption) | (apply w_cond_ff; rfl; assumption) | (apply w_draw_l; rfl; kernel_rfl; rfl; kernel_rfl) | (apply w_reg_l; rfl) | exact rfl)
        · have hE2 : decide ((i : Int) < a3) = false := by simp; omega
          clear hR
          repeat (first | apply s_st | apply st_go | (focus (first | (apply y_move; rfl) | (apply y_assign; rfl) | (apply y_cell; rfl; (repeat (first | exact List.Mem.head _ | apply List.Mem.tail)); (repeat (first | exact At.hit | apply At.miss)); kernel_rfl; done) | (apply y_faddr; kernel_rfl; rfl) | (apply y_lt; rfl; rfl))) | apply s_nil | apply w_seq | apply f_then | apply w_exit | apply f_out | apply f_exit_block | apply w_ret | (apply w_cond_ff; rfl; assumption) | (apply f_end; rfl; rfl; rfl; intro w hw; first | exact ans hw | (refine ans_b ?_ hw; (focus ((repeat (first | assumption | rfl | exact beq_self_eq_true _ | exact bne_self_eq_false _ | apply bOrF | apply bAndT | apply bNotF | apply bNotT | (focus (apply decide_eq_true; omega)) | (focus (apply decide_eq_false; omega)) | (focus (apply bEqT; omega)) | (focus (apply bEqF; omega)) | (focus (apply bNeT; omega)) | (focus (apply bNeF; omega)) | (focus (apply bOrT1; first | assumption | (apply decide_eq_true; omega))) | (focus (apply bOrT2; first | assumption | (apply decide_eq_true; omega))) | (focus (apply bAndF1; first | assumption | (apply decide_eq_false; omega))) | (focus (apply bAndF2; first | assumption | (apply decide_eq_false; omega))))); done)))) | (apply w_reg_l; rfl) | exact rfl)
    · rw [Bool.not_eq_true] at hq
      rw [hq]
      have hq : ¬ ∀ i, i < c → D a0 a1 i = D b0 b1 i := fun k => by
        rw [conD_true.mpr ⟨rfl, k⟩] at hq; cases hq
      refine Cal.mk fun Wo => enter (F := fun _ => False) Try.func88 rfl Try.ntmps88 rfl ?_
      repeat (first | (apply s_box; rfl; constructor; rfl; intro _) | apply s_st | apply st_go | (apply st_one; rfl; (focus ((repeat (first | assumption | rfl | exact beq_self_eq_true _ | exact bne_self_eq_false _ | apply bOrF | apply bAndT | apply bNotF | apply bNotT | (focus (apply decide_eq_true; omega)) | (focus (apply decide_eq_false; omega)) | (focus (apply bEqT; omega)) | (focus (apply bEqF; omega)) | (focus (apply bNeT; omega)) | (focus (apply bNeF; omega)) | (focus (apply bOrT1; first | assumption | (apply decide_eq_true; omega))) | (focus (apply bOrT2; first | assumption | (apply decide_eq_true; omega))) | (focus (apply bAndF1; first | assumption | (apply decide_eq_false; omega))) | (focus (apply bAndF2; first | assumption | (apply decide_eq_false; omega))))); done))) | (focus (first | (apply y_move; rfl) | (apply y_assign; rfl) | (apply y_not; rfl) | (apply y_load; rfl; (repeat (first | exact List.Mem.head _ | apply List.Mem.tail)); (repeat (first | exact Sub.nil | apply Sub.take | apply Sub.drop)); done) | (apply y_cell; rfl; (repeat (first | exact List.Mem.head _ | apply List.Mem.tail)); (repeat (first | exact At.hit | apply At.miss)); kernel_rfl; done) | (apply y_calls; rfl; rfl; rfl; (first | assumption); done) | (apply y_orp; rfl; rfl; done) | (apply y_faddr; kernel_rfl; rfl) | (apply y_bne; kernel_rfl; rfl; rfl))) | apply s_nil | apply w_seq | apply f_then | apply w_block | apply w_skip | (apply w_cond_ff; rfl; assumption) | (apply w_reg_l; rfl) | exact rfl)
      refine w_loop0 (fun i : Nat => [(5, .int .i64 (i : Int))]) (fun i => i ≤ c ∧ ∀ j, j < i → D a0 a1 j = D b0 b1 j) (fun i => c - i) 0 ⟨Nat.zero_le _, fun j h => absurd h (Nat.not_lt_zero _)⟩ ?_ ?_
      · (repeat (first | exact Cov.nil | (apply Cov.cons; rfl) | (apply Cov.seen; rfl)))
      · intro i hi R hR
        by_cases k : i < c
        · have k3 := rbit_s h b2 i (by omega)
          have k4 := rbit_s h' b2 i (by omega)
          have hE2 : decide ((i : Int) < a3) = true := by simp; omega
          by_cases hd : D a0 a1 i = D b0 b1 i
          · have hE3 : (bitI (D b0 b1 i) != bitI (D a0 a1 i)) = false := by rw [hd]; simp
            have hB := hR (i + 1) ⟨by omega, fun j h1 => by
              by_cases e : j = i
              · rw [e, hd]
              · exact hi.2 j (by omega)⟩ (by show c - (i + 1) < c - i; omega)
            rw [i64_next i (by omega)] at hB
            clear hR
            repeat (first | apply s_st | apply q_st | apply st_go | (focus (first | (apply y_move; rfl) | (apply y_assign; rfl) | (apply y_load; rfl; (repeat (first | exact List.Mem.head _ | apply List.Mem.tail)); (repeat (first | exact Sub.nil | apply Sub.take | apply Sub.drop)); done) | (apply y_cell; rfl; (repeat (first | exact List.Mem.head _ | apply List.Mem.tail)); (repeat (first | exact At.hit | apply At.miss)); kernel_rfl; done) | (apply y_calls; rfl; rfl; rfl; (first | assumption); done) | (apply y_faddr; kernel_rfl; rfl) | (apply y_ne; rfl; rfl) | (apply y_lt; rfl; rfl) | (apply y_add; rfl; rfl))) | apply q_nil | apply s_nil | apply w_seq | apply f_then | apply w_block | apply f_norm_block | (apply f_back; assumption; (repeat (first | exact Cov.nil | (apply Cov.cons; rfl) | (apply Cov.seen; rfl))); (focus ((repeat (first | exact List.Sublist.refl _ | apply List.Sublist.cons_cons | apply List.Sublist.cons)); done))) | apply w_skip | (apply w_cond_tt; rfl; assumption) | (apply w_cond_ff; rfl; assumption) | (apply w_draw_l; rfl; kernel_rfl; rfl; kernel_rfl) | (apply w_reg_l; rfl) | exact rfl)
          · have hE3 : (bitI (D b0 b1 i) != bitI (D a0 a1 i)) = true := by
              revert hd
              generalize D a0 a1 i = p
              generalize D b0 b1 i = q
              cases p <;> cases q <;> simp [bitI]
            clear hR
            repeat (first | apply s_st | apply q_st | apply st_go | (focus (first | (apply y_move; rfl) | (apply y_assign; rfl) | (apply y_load; rfl; (repeat (first | exact List.Mem.head _ | apply List.Mem.tail)); (repeat (first | exact Sub.nil | apply Sub.take | apply Sub.drop)); done) | (apply y_cell; rfl; (repeat (first | exact List.Mem.head _ | apply List.Mem.tail)); (repeat (first | exact At.hit | apply At.miss)); kernel_rfl; done) | (apply y_calls; rfl; rfl; rfl; (first | assumption); done) | (apply y_faddr; kernel_rfl; rfl) | (apply y_ne; rfl; rfl) | (apply y_lt; rfl; rfl))) | apply q_nil | apply s_nil | apply w_seq | apply f_then | apply w_block | apply f_ret | apply f_ret_block | apply w_skip | apply w_ret | (apply w_cond_tt; rfl; assumption) | (apply f_end; rfl; rfl; rfl; intro w hw; first | exact ans hw | (refine ans_b ?_ hw; (focus ((repeat (first | assumption | rfl | exact beq_self_eq_true _ | exact bne_self_eq_false _ | apply bOrF | apply bAndT | apply bNotF | apply bNotT | (focus (apply decide_eq_true; omega)) | (focus (apply decide_eq_false; omega)) | (focus (apply bEqT; omega)) | (focus (apply bEqF; omega)) | (focus (apply bNeT; omega)) | (focus (apply bNeF; omega)) | (focus (apply bOrT1; first | assumption | (apply decide_eq_true; omega))) | (focus (apply bOrT2; first | assumption | (apply decide_eq_true; omega))) | (focus (apply bAndF1; first | assumption | (apply decide_eq_false; omega))) | (focus (apply bAndF2; first | assumption | (apply decide_eq_false; omega))))); done)))) | (apply w_draw_l; rfl; kernel_rfl; rfl; kernel_rfl) | (apply w_reg_l; rfl) | exact rfl)
        · exact absurd (fun j h1 => hi.2 j (by omega)) hq
theorem r2covers_s {a0 a1 b0 b1 : Int} (h : u64 a0 ∧ u64 a1) (h' : u64 b0 ∧ u64 b1) (a2 : Bool) (a3 : Int) (b2 : Bool) (b3 : Int) : Cal Try.prog 164 [.agg #[.int .u64 a0, .int .u64 a1, .bool a2, .int .i64 a3], .agg #[.int .u64 b0, .int .u64 b1, .bool b2, .int .i64 b3]] (.bool (covB a0 a1 a2 a3 b0 b1 b2 b3)) := by
  have k1 := r2sane_s h' b2 b3
  have k2 := r2contains_s h h' a2 a3 b2
  rw [show covB a0 a1 a2 a3 b0 b1 b2 b3 = ((saneB b0 b1 b2 b3 && decide (b3 ≥ a3)) && contB a0 a1 a2 a3 b0 b1 b2) by unfold covB; rw [Bool.and_comm (decide (a3 ≤ b3))]]
  refine Cal.mk fun Wo => enter (F := fun _ => False) Try.func164 rfl Try.ntmps164 rfl ?_
  repeat (first | (apply s_box; rfl; constructor; rfl; intro _) | apply s_st | apply st_go | (apply st_if; rfl; intro h1; (try simp only [h1, gv_true, gv_tt])) | (focus (first | (apply y_move; rfl) | (apply y_assign; rfl) | (apply y_load; rfl; (repeat (first | exact List.Mem.head _ | apply List.Mem.tail)); (repeat (first | exact Sub.nil | apply Sub.take | apply Sub.drop)); done) | (apply y_cell; rfl; (repeat (first | exact List.Mem.head _ | apply List.Mem.tail)); (repeat (first | exact At.hit | apply At.miss)); kernel_rfl; done) | (apply y_calls; rfl; rfl; rfl; (first | assumption); done) | (apply y_and; rfl; rfl; done) | (apply y_faddr; kernel_rfl; rfl) | (apply y_ge; rfl; rfl))) | apply s_nil | apply w_seq | apply f_then | apply w_ret | (apply f_end; rfl; rfl; rfl; intro w hw; first | exact ans hw | (refine ans_b ?_ hw; (focus ((repeat (first | assumption | rfl | exact beq_self_eq_true _ | exact bne_self_eq_false _ | apply bOrF | apply bAndT | apply bNotF | apply bNotT | (focus (apply decide_eq_true; omega)) | (focus (apply decide_eq_false; omega)) | (focus (apply bEqT; omega)) | (focus (apply bEqF; omega)) | (focus (apply bNeT; omega)) | (focus (apply bNeF; omega)) | (focus (apply bOrT1; first | assumption | (apply decide_eq_true; omega))) | (focus (apply bOrT2; first | assumption | (apply decide_eq_true; omega))) | (focus (apply bAndF1; first | assumption | (apply decide_eq_false; omega))) | (focus (apply bAndF2; first | assumption | (apply decide_eq_false; omega))))); done)))) | (apply w_reg_l; rfl) | exact rfl)
theorem covB_sane {a0 a1 b0 b1 : Int} {a2 : Bool} {a3 : Int} {b2 : Bool} {b3 : Int} (h : covB a0 a1 a2 a3 b0 b1 b2 b3 = true) : saneB a0 a1 a2 a3 = true ∧ saneB b0 b1 b2 b3 = true := by
  unfold covB contB at h
  simp only [Bool.and_eq_true] at h
  exact ⟨h.2.1, h.1.2⟩
theorem r2inside_s {a0 a1 b0 b1 : Int} (h : u64 a0 ∧ u64 a1) (h' : u64 b0 ∧ u64 b1) (a2 : Bool) (a3 : Int) (b2 : Bool) (b3 : Int) : Cal Try.prog 156 [.agg #[.int .u64 a0, .int .u64 a1, .bool a2, .int .i64 a3], .agg #[.int .u64 b0, .int .u64 b1, .bool b2, .int .i64 b3]] (.bool (insB a0 a1 a2 a3 b0 b1 b2 b3)) := by
  have k1 := r2covers_s h h' a2 a3 b2 b3
  rw [show insB a0 a1 a2 a3 b0 b1 b2 b3 = (covB a0 a1 a2 a3 b0 b1 b2 b3 && decide (b3 > a3)) by
    unfold insB
    cases hc : covB a0 a1 a2 a3 b0 b1 b2 b3 with
    | false => simp
    | true =>
      have hs := covB_sane hc
      obtain ⟨n1, l1, e1, p1, q1⟩ := saneB_ex hs.1
      obtain ⟨n2, l2, e2, p2, q2⟩ := saneB_ex hs.2
      have k := eqP_pk a2 (D a0 a1) n1 l1 b2 (D b0 b1) n2 l2
      have k' := covB_pk a2 (D a0 a1) n1 l1 b2 (D b0 b1) n2 l2
      rw [← p1, ← q1, ← p2, ← q2, ← e1, ← e2] at k k'
      rw [k'] at hc
      simp only [Bool.and_eq_true, decide_eq_true_iff] at hc
      rw [k, hc.2]
      rw [Bool.and_true, Bool.and_true, Bool.true_and, Bool.eq_iff_iff]
      simp only [Bool.not_eq_true', decide_eq_false_iff_not, decide_eq_true_iff]
      omega]
  refine Cal.mk fun Wo => enter (F := fun _ => False) Try.func156 rfl Try.ntmps156 rfl ?_
  repeat (first | (apply s_box; rfl; constructor; rfl; intro _) | apply s_st | apply st_go | (apply st_if; rfl; intro h1; (try simp only [h1, gv_true, gv_tt])) | (focus (first | (apply y_move; rfl) | (apply y_assign; rfl) | (apply y_load; rfl; (repeat (first | exact List.Mem.head _ | apply List.Mem.tail)); (repeat (first | exact Sub.nil | apply Sub.take | apply Sub.drop)); done) | (apply y_cell; rfl; (repeat (first | exact List.Mem.head _ | apply List.Mem.tail)); (repeat (first | exact At.hit | apply At.miss)); kernel_rfl; done) | (apply y_calls; rfl; rfl; rfl; (first | assumption); done) | (apply y_and; rfl; rfl; done) | (apply y_faddr; kernel_rfl; rfl) | (apply y_gt; rfl; rfl))) | apply s_nil | apply w_seq | apply f_then | apply w_ret | (apply f_end; rfl; rfl; rfl; intro w hw; first | exact ans hw | (refine ans_b ?_ hw; (focus ((repeat (first | assumption | rfl | exact beq_self_eq_true _ | exact bne_self_eq_false _ | apply bOrF | apply bAndT | apply bNotF | apply bNotT | (focus (apply decide_eq_true; omega)) | (focus (apply decide_eq_false; omega)) | (focus (apply bEqT; omega)) | (focus (apply bEqF; omega)) | (focus (apply bNeT; omega)) | (focus (apply bNeF; omega)) | (focus (apply bOrT1; first | assumption | (apply decide_eq_true; omega))) | (focus (apply bOrT2; first | assumption | (apply decide_eq_true; omega))) | (focus (apply bAndF1; first | assumption | (apply decide_eq_false; omega))) | (focus (apply bAndF2; first | assumption | (apply decide_eq_false; omega))))); done)))) | (apply w_reg_l; rfl) | exact rfl)
def digs (d : Nat → Bool) (n : Nat) : List Int := (List.range n).map fun i => bitI (d i)
theorem digs_len (d : Nat → Bool) (n : Nat) : (digs d n).length = n := by simp [digs]
theorem digs_succ (d : Nat → Bool) (n : Nat) : digs d n ++ [bitI (d n)] = digs d (n + 1) := by simp [digs, List.range_succ]
theorem or_bit (d : Nat → Bool) (b : Bool) (i : Nat) (hi : i < 64) (h : d i = b) : Go.bits .or .u64 ((wd (fun j => decide (j < i) && d j) : Nat) : Int) (IntKind.u64.wrap (IntKind.u64.wrap (bitI b) * 2 ^ (63 - i))) = ((wd (fun j => decide (j < i + 1) && d j) : Nat) : Int) := by
  have hp : 2 ^ (63 - i) < 18446744073709551616 := Nat.lt_of_le_of_lt (Nat.pow_le_pow_right (n := 2) (by decide) (by omega : 63 - i ≤ 63)) (by decide)
  cases b with
  | false =>
    rw [show IntKind.u64.wrap (IntKind.u64.wrap (bitI false) * 2 ^ (63 - i)) = ((0 : Nat) : Int) by simp [bitI, wrap_u64], or64 (wd_lt _) (by decide), Nat.or_zero]
    rw [wd_congr (e := fun j => decide (j < i + 1) && d j)]
    intro j hj
    by_cases c : j = i
    · subst c; simp [h]
    · rw [show decide (j < i + 1) = decide (j < i) by rw [decide_eq_decide]; omega]
  | true =>
    rw [show IntKind.u64.wrap (IntKind.u64.wrap (bitI true) * 2 ^ (63 - i)) = ((2 ^ (63 - i) : Nat) : Int) by rw [show IntKind.u64.wrap (bitI true) = 1 from by decide, Int.one_mul, show ((2 : Int) ^ (63 - i)) = ((2 ^ (63 - i) : Nat) : Int) by simp]; exact cast64 hp, or64 (wd_lt _) hp]
    refine congrArg Nat.cast (word_ext (Nat.or_lt_two_pow (n := 64) (wd_lt _) hp) (wd_lt _) (fun j hj => ?_))
    rw [Nat.testBit_or, testBit_wd, testBit_wd, Nat.testBit_two_pow]
    by_cases c : j = 63 - i
    · subst c
      rw [show 63 - (63 - i) = i by omega, h]
      simp; omega
    · rw [show decide (63 - i = j) = false from decide_eq_false (by omega), show decide (63 - j < i + 1) = decide (63 - j < i) by rw [decide_eq_decide]; omega]
      simp
theorem digs_get (d : Nat → Bool) {n i : Nat} (h : i < n) : ((digs d n).map i64c)[i]? = some (i64c (bitI (d i))) := by simp [digs, h]
theorem digs_map_succ (d : Nat → Bool) (n : Nat) : (digs d n).map i64c ++ [[.int .i64 (bitI (d n))]] = (digs d (n + 1)).map i64c := by
  rw [← digs_succ, List.map_append]; rfl
theorem rdigits_s {a0 a1 : Int} (h : u64 a0 ∧ u64 a1) (a2 : Bool) : Tri Try.prog 157 [.agg #[.int .u64 a0, .int .u64 a1, .bool a2]] [] (RetS fun A c => (.slice A (W a2) c, [.own A c 1 ((digs (D a0 a1) (W a2)).map i64c) 3])) := by
  have hW := W_le a2
  have k1 := rwidth_s a2
  refine enter_t Try.func157 rfl Try.ntmps157 rfl (fun Wo Fo fro => ?_)
  repeat (first | (apply s_box; rfl; constructor; rfl; intro _) | apply s_st | apply st_go | (focus (first | (apply y_assign; rfl))) | apply s_nil | apply w_seq | apply f_then | apply w_block | (apply w_reg_l; rfl) | exact rfl)
  rename_i g
  refine w_nilown (k := 1) (t := 3) ?_
  refine w_loopm (fun s : Nat × Option Addr × Nat => [(4, .int .i64 ((s.1 : Nat) : Int)), (3, .slice s.2.1 s.1 s.2.2)]) (fun s => .own s.2.1 s.2.2 1 ((digs (D a0 a1) s.1).map i64c) 3 :: .blk g [.int .u64 a0, .int .u64 a1, .bool a2] 25 :: fro) (fun s => s.1 ≤ W a2) (fun s => W a2 - s.1) (0, none, 0) (Nat.zero_le _) ?_ ?_ ?_
  · (repeat (first | exact Cov.nil | (apply Cov.cons; rfl) | (apply Cov.seen; rfl)))
  · (repeat (first | exact List.Sublist.refl _ | apply List.Sublist.cons_cons | apply List.Sublist.cons))
  · rintro ⟨k, A, c⟩ hk R hR
    dsimp only at hk hR ⊢
    have hl : ((digs (D a0 a1) k).map i64c).length = k := by simp [digs_len]
    have hl2 : (digs (D a0 a1) k).length = k := digs_len _ _
    have hl' := hl.symm
    by_cases hlt : k < W a2
    · have hE : decide (((k : Nat) : Int) < ((W a2 : Nat) : Int)) = true := by simp; exact hlt
      have k2 := raw_s h a2 k (by omega)
      have hB := fun A' c' => hR (k + 1, A', c') hlt (by show W a2 - (k + 1) < W a2 - k; omega)
      dsimp only at hB
      rw [← digs_map_succ, i64_next k (by omega)] at hB
      clear hR
      repeat (first | (apply s_bslice; (repeat (first | exact PRows.nil | (apply PRows.cons; rfl; constructor; rfl))); rfl; rfl; intro _) | (apply s_append; rfl; rfl; (repeat (first | exact Plc.hit | apply Plc.miss)); (first | (focus (apply Sees.vw; (repeat (first | exact List.Mem.head _ | apply List.Mem.tail)); done)) | (focus (apply Sees.own; (repeat (first | exact List.Mem.head _ | apply List.Mem.tail)); done)) | exact Sees.nil | assumption); (first | rfl | assumption | (focus (simp; done)) | (focus (simp; omega))); (first | rfl | assumption | (focus (simp; done)) | (focus (simp; omega))); (first | assumption | omega | (focus (simp; done)) | (focus (simp; omega))); kernel_rfl; rfl; intro _ _) | apply s_st | apply st_go | (focus (first | (apply y_move; rfl) | (apply y_assign; rfl) | (apply y_load; rfl; (repeat (first | exact List.Mem.head _ | apply List.Mem.tail)); (repeat (first | exact Sub.nil | apply Sub.take | apply Sub.drop)); done) | (apply y_cell; rfl; (repeat (first | exact List.Mem.head _ | apply List.Mem.tail)); (repeat (first | exact At.hit | apply At.miss)); kernel_rfl; done) | (apply y_calls; rfl; rfl; rfl; (first | assumption); done) | (apply y_faddr; kernel_rfl; rfl) | (apply y_lt; rfl; rfl) | (apply y_add; rfl; rfl))) | apply s_nil | apply w_seq | apply f_then | apply w_block | apply f_norm_block | (apply f_backs; assumption; (repeat (first | exact Cov.nil | (apply Cov.cons; rfl) | (apply Cov.seen; rfl))); (focus ((repeat (first | exact List.Sublist.refl _ | apply List.Sublist.cons_cons | apply List.Sublist.cons)); done))) | apply w_skip | (apply w_cond_tt; rfl; assumption) | (apply w_reg_l; rfl) | exact rfl)
    · have hE : decide (((k : Nat) : Int) < ((W a2 : Nat) : Int)) = false := by simp; omega
      obtain rfl : k = W a2 := by omega
      clear hR
      repeat (first | apply s_st | apply st_go | (focus (first | (apply y_move; rfl) | (apply y_assign; rfl) | (apply y_cell; rfl; (repeat (first | exact List.Mem.head _ | apply List.Mem.tail)); (repeat (first | exact At.hit | apply At.miss)); kernel_rfl; done) | (apply y_calls; rfl; rfl; rfl; (first | assumption); done) | (apply y_faddr; kernel_rfl; rfl) | (apply y_lt; rfl; rfl))) | apply s_nil | apply w_seq | apply f_then | apply w_exit | apply f_out | apply f_exit_block | apply w_ret | (apply w_cond_ff; rfl; assumption) | (apply f_end; rfl; rfl; rfl; intro w hw; first | exact ans hw | (refine ans_b ?_ hw; (focus ((repeat (first | assumption | rfl | exact beq_self_eq_true _ | exact bne_self_eq_false _ | apply bOrF | apply bAndT | apply bNotF | apply bNotT | (focus (apply decide_eq_true; omega)) | (focus (apply decide_eq_false; omega)) | (focus (apply bEqT; omega)) | (focus (apply bEqF; omega)) | (focus (apply bNeT; omega)) | (focus (apply bNeF; omega)) | (focus (apply bOrT1; first | assumption | (apply decide_eq_true; omega))) | (focus (apply bOrT2; first | assumption | (apply decide_eq_true; omega))) | (focus (apply bAndF1; first | assumption | (apply decide_eq_false; omega))) | (focus (apply bAndF2; first | assumption | (apply decide_eq_false; omega))))); done))) | (apply t_endS1 hw; rfl; (focus ((repeat (first | exact List.Sublist.refl _ | apply List.Sublist.cons_cons | apply List.Sublist.cons)); done))) | (apply t_endU hw; rfl; (focus ((repeat (first | exact List.Sublist.refl _ | apply List.Sublist.cons_cons | apply List.Sublist.cons)); done))) | (apply t_endX1 hw; rfl; (focus ((repeat (first | exact List.Sublist.refl _ | apply List.Sublist.cons_cons | apply List.Sublist.cons)); done))) | (refine t_end ⟨rfl, rfl⟩ ?_ w hw; (focus ((repeat (first | exact List.Sublist.refl _ | apply List.Sublist.cons_cons | apply List.Sublist.cons)); done))) | (apply t_endUT hw; rfl; (focus ((repeat (first | exact Tk.nil | (apply Tk.see; (first | (focus (apply VSees.vw; (repeat (first | exact List.Mem.head _ | apply List.Mem.tail)); done)) | exact VSees.nil | assumption)) | (apply Tk.see; exact VSees.nil) | (apply Tk.take; (repeat (first | exact Plc.hit | apply Plc.miss))))); done)); (focus ((repeat (first | exact List.Sublist.refl _ | apply List.Sublist.cons_cons | apply List.Sublist.cons)); done))) | (apply t_endXT hw; rfl; (repeat (first | exact Tk.nil | (apply Tk.see; (first | (focus (apply VSees.vw; (repeat (first | exact List.Mem.head _ | apply List.Mem.tail)); done)) | exact VSees.nil | assumption)) | (apply Tk.see; exact VSees.nil) | (apply Tk.take; (repeat (first | exact Plc.hit | apply Plc.miss))))); (focus ((repeat (first | exact List.Sublist.refl _ | apply List.Sublist.cons_cons | apply List.Sublist.cons)); done)))) | (apply w_reg_l; rfl) | exact rfl)
theorem wd_zero (f : Nat → Bool) : ((wd (fun j => decide (j < 0) && f j) : Nat) : Int) = 0 := by
  have := wd_lt (fun j => decide (j < 0) && f j)
  rw [word_ext (b := 0) this (by decide) (fun j hj => by rw [testBit_wd]; simp)]; rfl
noncomputable def upW (f : Nat → Bool) (i : Nat) : Int := (wd (fun j => decide (j < i) && f j) : Nat)
theorem upW_hi (v : Bool) (d : Nat → Bool) : upW d (W v) = hiA v d := by unfold upW hiA; rfl
theorem upW_lo (v : Bool) (d : Nat → Bool) : upW (fun j => d (64 + j)) (W v - 64) = loA v d := by
  unfold upW loA
  rw [wd_congr (e := fun i => decide (64 + i < W v) && d (64 + i))]
  intro j hj
  rw [show decide (j < W v - 64) = decide (64 + j < W v) by rw [decide_eq_decide]; omega]
theorem upW_step (d : Nat → Bool) (i : Nat) (hi : i < 64) : Go.bits .or .u64 (upW d i) (IntKind.u64.wrap (IntKind.u64.wrap (bitI (d i)) * 2 ^ (63 - i))) = upW d (i + 1) := by
  exact or_bit d (d i) i hi rfl
theorem upW_over (d : Nat → Bool) (i : Nat) (hi : 64 ≤ i) : upW d (i + 1) = upW d i := by
  unfold upW
  rw [wd_congr (e := fun j => decide (j < i) && d j)]
  intro j hj
  rw [show decide (j < i + 1) = decide (j < i) by rw [decide_eq_decide]; omega]
theorem rof_s (d : Nat → Bool) (v : Bool) (A : Option Addr) (c : Nat) : RCal Try.prog 158 [.slice A (W v) c] [.vw A c 1 ((digs d (W v)).map i64c)] (.agg #[.int .u64 (hiA v d), .int .u64 (loA v d), .bool v]) := by
  have hW := W_le v
  have hb : (((W v : Nat) : Int) == 128) = v := by cases v <;> rfl
  have hl : ((digs d (W v)).map i64c).length = W v := by simp [digs_len]
  have hl' := hl.symm
  refine RCal.of_eq (v' := .agg #[.int .u64 (upW d (W v)), .int .u64 (upW (fun j => d (64 + j)) (W v - 64)), .bool (((W v : Nat) : Int) == 128)]) ?_ (by rw [upW_hi, upW_lo, hb])
  refine enter_r rfl Try.func158 rfl Try.ntmps158 rfl (fun Wo => ?_)
  repeat (first | (apply s_alloc; rfl; intro _) | (apply s_store; rfl; rfl; (repeat (first | exact Plc.hit | apply Plc.miss)); constructor; (focus ((simp only [setAt, List.set_cons_zero, List.set_cons_succ, Nat.zero_add, Nat.reduceAdd, Nat.reduceMul]); try rfl)); kernel_rfl; rfl) | apply s_st | apply st_go | (focus (first | (apply y_move; rfl) | (apply y_assign; rfl) | (apply y_len; rfl) | (apply y_eq; rfl; rfl) | (apply y_build; kernel_rfl; (repeat (first | exact Bld.nil | (apply Bld.cons; exact inferInstance; rfl; constructor; kernel_rfl; (focus ((simp only [setAt, List.set_cons_zero, List.set_cons_succ, Nat.zero_add, Nat.reduceAdd, Nat.reduceMul]); try rfl))))); done))) | apply s_nil | apply w_seq | apply f_then | apply w_block | (apply w_reg_l; rfl) | exact rfl)
  rename_i gr gw
  have z0 : upW d 0 = 0 := wd_zero d
  have z1 : upW (fun j => d (64 + j)) (0 - 64) = 0 := wd_zero _
  refine w_loopm (fun k : Nat => [(4, .int .i64 ((k : Nat) : Int))]) (fun k => [.blk gw [.int .u64 (upW d k), .int .u64 (upW (fun j => d (64 + j)) (k - 64)), .bool (((W v : Nat) : Int) == 128)] 25, .blk gr [.int .u64 0, .int .u64 0, .bool false] 25, .vw A c 1 ((digs d (W v)).map i64c)]) (fun k => k ≤ W v) (fun k => W v - k) 0 (Nat.zero_le _) ?_ ?_ ?_
  · (repeat (first | exact Cov.nil | (apply Cov.cons; rfl) | (apply Cov.seen; rfl)))
  · rw [z0, z1]; (repeat (first | exact List.Sublist.refl _ | apply List.Sublist.cons_cons | apply List.Sublist.cons))
  · intro k hk R hR
    clear z0 z1
    by_cases hlt : k < W v
    · have hE : decide (((k : Nat) : Int) < ((W v : Nat) : Int)) = true := by simp; exact hlt
      have hrow := digs_get d hlt
      have hB := hR (k + 1) hlt (by omega)
      have hn : (((k + 1 : Nat)) : Int) = IntKind.i64.wrap (((k : Nat) : Int) + 1) := by rw [i64w (by omega) (by omega)]; rfl
      by_cases k6 : k < 64
      · have hE2 : decide (((k : Nat) : Int) < 64) = true := by simp; omega
        have q : IntKind.u64.wrap (IntKind.i64.wrap (63 - ((k : Nat) : Int))) = ((63 - k : Nat) : Int) := by rw [i64w (by omega) (by omega), u64w (by omega) (by omega)]; omega
        have hS : 0 ≤ IntKind.u64.wrap (IntKind.i64.wrap (63 - ((k : Nat) : Int))) ∧ IntKind.u64.wrap (IntKind.i64.wrap (63 - ((k : Nat) : Int))) ≤ IntKind.u64.bits := by rw [q]; exact ⟨by omega, by show ((63 - k : Nat) : Int) ≤ 64; omega⟩
        have e : Go.bits .or .u64 (upW d k) (IntKind.u64.wrap (IntKind.u64.wrap (bitI (d k)) * 2 ^ (IntKind.u64.wrap (IntKind.i64.wrap (63 - ((k : Nat) : Int)))).toNat)) = upW d (k + 1) := by
          rw [q, Int.toNat_natCast]; exact upW_step d k k6
        rw [hn, ← e, show k + 1 - 64 = k - 64 by omega] at hB
        clear e q hn hR k6 hb
        repeat (first | (apply s_store; rfl; rfl; (repeat (first | exact Plc.hit | apply Plc.miss)); constructor; (focus ((simp only [setAt, List.set_cons_zero, List.set_cons_succ, Nat.zero_add, Nat.reduceAdd, Nat.reduceMul]); try rfl)); kernel_rfl; rfl) | apply s_st | apply st_go | (focus (first | (apply y_move; rfl) | (apply y_assign; rfl) | (apply y_cell; rfl; (repeat (first | exact List.Mem.head _ | apply List.Mem.tail)); (repeat (first | exact At.hit | apply At.miss)); kernel_rfl; done) | (apply y_ecell; rfl; (first | (focus (apply Sees.vw; (repeat (first | exact List.Mem.head _ | apply List.Mem.tail)); done)) | (focus (apply Sees.own; (repeat (first | exact List.Mem.head _ | apply List.Mem.tail)); done)) | exact Sees.nil | assumption); (first | assumption | rfl); (repeat (first | exact At.hit | apply At.miss)); kernel_rfl; done) | (apply y_faddr; kernel_rfl; rfl) | (apply y_ixaddr; rfl; rfl; (first | (focus (apply Sees.vw; (repeat (first | exact List.Mem.head _ | apply List.Mem.tail)); done)) | (focus (apply Sees.own; (repeat (first | exact List.Mem.head _ | apply List.Mem.tail)); done)) | exact Sees.nil | assumption); (first | rfl | assumption | (focus (simp; done)) | (focus (simp; omega))); (first | assumption | rfl | exact (show (0 : Int) = ((0 : Nat) : Int) from rfl) | exact (show (1 : Int) = ((1 : Nat) : Int) from rfl) | exact (show (2 : Int) = ((2 : Nat) : Int) from rfl) | exact (show (3 : Int) = ((3 : Nat) : Int) from rfl)); (first | assumption | omega | (focus (simp; done)) | (focus (simp; omega))); done) | (apply y_len; rfl) | (apply y_lt; rfl; rfl) | (apply y_add; rfl; rfl) | (apply y_sub; rfl; rfl) | (apply y_shl; rfl; rfl; (first | assumption | decide | (constructor <;> omega)); done) | (apply y_bor; rfl; rfl) | (apply y_conv; rfl; kernel_rfl; rfl))) | apply s_nil | apply w_seq | apply f_then | apply w_block | apply f_norm_block | (apply f_back; assumption; (repeat (first | exact Cov.nil | (apply Cov.cons; rfl) | (apply Cov.seen; rfl))); (focus ((repeat (first | exact List.Sublist.refl _ | apply List.Sublist.cons_cons | apply List.Sublist.cons)); done))) | apply w_skip | (apply w_cond_tt; rfl; assumption) | (apply w_mixed_r rfl 6 [0, 1, 2, 3, 4, 5, 6, 7, 8, 9, 10] [0, 0, 0, 0, 0, 0, 0, 2, 2, 2, 2] _ ; kernel_rfl; kernel_rfl; exact List.Sublist.refl _; rfl) | (apply g_st1; rfl; intro W0) | (apply g_st; rfl; intro W0) | apply g_done | (apply w_reg_l; rfl) | exact rfl)
      · have hE2 : decide (((k : Nat) : Int) < 64) = false := by simp; omega
        have q : IntKind.u64.wrap (IntKind.i64.wrap (127 - ((k : Nat) : Int))) = ((63 - (k - 64) : Nat) : Int) := by rw [i64w (by omega) (by omega), u64w (by omega) (by omega)]; omega
        have hS : 0 ≤ IntKind.u64.wrap (IntKind.i64.wrap (127 - ((k : Nat) : Int))) ∧ IntKind.u64.wrap (IntKind.i64.wrap (127 - ((k : Nat) : Int))) ≤ IntKind.u64.bits := by rw [q]; exact ⟨by omega, by show ((63 - (k - 64) : Nat) : Int) ≤ 64; omega⟩
        have e : Go.bits .or .u64 (upW (fun j => d (64 + j)) (k - 64)) (IntKind.u64.wrap (IntKind.u64.wrap (bitI (d k)) * 2 ^ (IntKind.u64.wrap (IntKind.i64.wrap (127 - ((k : Nat) : Int)))).toNat)) = upW (fun j => d (64 + j)) (k + 1 - 64) := by
          rw [q, Int.toNat_natCast]
          have := upW_step (fun j => d (64 + j)) (k - 64) (by omega)
          rw [show k + 1 - 64 = k - 64 + 1 by omega]
          rw [show 64 + (k - 64) = k by omega] at this
          exact this
        rw [hn, ← e, upW_over d k (by omega)] at hB
        clear e q hn hR k6 hb
        repeat (first | (apply s_store; rfl; rfl; (repeat (first | exact Plc.hit | apply Plc.miss)); constructor; (focus ((simp only [setAt, List.set_cons_zero, List.set_cons_succ, Nat.zero_add, Nat.reduceAdd, Nat.reduceMul]); try rfl)); kernel_rfl; rfl) | apply s_st | apply st_go | (focus (first | (apply y_move; rfl) | (apply y_assign; rfl) | (apply y_cell; rfl; (repeat (first | exact List.Mem.head _ | apply List.Mem.tail)); (repeat (first | exact At.hit | apply At.miss)); kernel_rfl; done) | (apply y_ecell; rfl; (first | (focus (apply Sees.vw; (repeat (first | exact List.Mem.head _ | apply List.Mem.tail)); done)) | (focus (apply Sees.own; (repeat (first | exact List.Mem.head _ | apply List.Mem.tail)); done)) | exact Sees.nil | assumption); (first | assumption | rfl); (repeat (first | exact At.hit | apply At.miss)); kernel_rfl; done) | (apply y_faddr; kernel_rfl; rfl) | (apply y_ixaddr; rfl; rfl; (first | (focus (apply Sees.vw; (repeat (first | exact List.Mem.head _ | apply List.Mem.tail)); done)) | (focus (apply Sees.own; (repeat (first | exact List.Mem.head _ | apply List.Mem.tail)); done)) | exact Sees.nil | assumption); (first | rfl | assumption | (focus (simp; done)) | (focus (simp; omega))); (first | assumption | rfl | exact (show (0 : Int) = ((0 : Nat) : Int) from rfl) | exact (show (1 : Int) = ((1 : Nat) : Int) from rfl) | exact (show (2 : Int) = ((2 : Nat) : Int) from rfl) | exact (show (3 : Int) = ((3 : Nat) : Int) from rfl)); (first | assumption | omega | (focus (simp; done)) | (focus (simp; omega))); done) | (apply y_len; rfl) | (apply y_lt; rfl; rfl) | (apply y_add; rfl; rfl) | (apply y_sub; rfl; rfl) | (apply y_shl; rfl; rfl; (first | assumption | decide | (constructor <;> omega)); done) | (apply y_bor; rfl; rfl) | (apply y_conv; rfl; kernel_rfl; rfl))) | apply s_nil | apply w_seq | apply f_then | apply w_block | apply f_norm_block | (apply f_back; assumption; (repeat (first | exact Cov.nil | (apply Cov.cons; rfl) | (apply Cov.seen; rfl))); (focus ((repeat (first | exact List.Sublist.refl _ | apply List.Sublist.cons_cons | apply List.Sublist.cons)); done))) | apply w_skip | (apply w_cond_tt; rfl; assumption) | (apply w_cond_ff; rfl; assumption) | (apply w_mixed_r rfl 7 [0, 1, 2, 3, 4, 5, 6, 7, 8, 9, 10] [0, 0, 0, 0, 0, 0, 0, 2, 2, 2, 2] _ ; kernel_rfl; kernel_rfl; exact List.Sublist.refl _; rfl) | (apply g_st1; rfl; intro W0) | (apply g_st; rfl; intro W0) | apply g_done | (apply w_reg_l; rfl) | exact rfl)
    · have hE : decide (((k : Nat) : Int) < ((W v : Nat) : Int)) = false := by simp; omega
      obtain rfl : k = W v := by omega
      clear hR
      repeat (first | (apply s_store; rfl; rfl; (repeat (first | exact Plc.hit | apply Plc.miss)); constructor; (focus ((simp only [setAt, List.set_cons_zero, List.set_cons_succ, Nat.zero_add, Nat.reduceAdd, Nat.reduceMul]); try rfl)); kernel_rfl; rfl) | apply s_st | apply st_go | (focus (first | (apply y_move; rfl) | (apply y_load; rfl; (repeat (first | exact List.Mem.head _ | apply List.Mem.tail)); (repeat (first | exact Sub.nil | apply Sub.take | apply Sub.drop)); done) | (apply y_len; rfl) | (apply y_lt; rfl; rfl))) | apply s_nil | apply w_seq | apply f_then | apply w_exit | apply f_out | apply f_exit_block | apply w_ret | (apply w_cond_ff; rfl; assumption) | (apply f_ends1; rfl; rfl; (repeat (first | exact Res.nil | (apply Res.tmp; rfl) | (apply Res.agg; exact inferInstance; rfl; (repeat (first | exact List.Mem.head _ | apply List.Mem.tail)); (repeat (first | exact Sub.nil | apply Sub.take | apply Sub.drop))) | (apply Res.cell; kernel_rfl; rfl; (repeat (first | exact List.Mem.head _ | apply List.Mem.tail)); (repeat (first | exact At.hit | apply At.miss))))); intro w hw; first | exact ans hw | (refine ans_b ?_ hw; (focus ((repeat (first | assumption | rfl | exact beq_self_eq_true _ | exact bne_self_eq_false _ | apply bOrF | apply bAndT | apply bNotF | apply bNotT | (focus (apply decide_eq_true; omega)) | (focus (apply decide_eq_false; omega)) | (focus (apply bEqT; omega)) | (focus (apply bEqF; omega)) | (focus (apply bNeT; omega)) | (focus (apply bNeF; omega)) | (focus (apply bOrT1; first | assumption | (apply decide_eq_true; omega))) | (focus (apply bOrT2; first | assumption | (apply decide_eq_true; omega))) | (focus (apply bAndF1; first | assumption | (apply decide_eq_false; omega))) | (focus (apply bAndF2; first | assumption | (apply decide_eq_false; omega))))); done)))) | (apply w_reg_l; rfl) | exact rfl)
end Go.Proofs.Ytfcffemglcgbnaa.Hand
