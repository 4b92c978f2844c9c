/-
  Package prefix's functions that give prefixes, walked by symbolic steps, told by digits.
-/
import Derived.Test.YtbaeaiiohkfieaaPreS
namespace Go.Proofs.Ytbaeaiiohkfieaa.Hand
open Go.RowKit Go.Proofs.YtbaeaiiohkfieaaW.PrintWords Go.Proofs.YtbaeaiiohkfieaaW.PrintLast Go.Proofs.Ytbaeaiiohkfieaa.Bits Go.Proofs.Ytbaeaiiohkfieaa.Dig Go.Proofs.Ytbaeaiiohkfieaa.Sq
set_option linter.unusedVariables false
set_option linter.unusedSimpArgs false
set_option maxRecDepth 100000
set_option maxHeartbeats 4000000

/-! ### Plain laws -/
/-- With another digit at c. -/
def putd (d : Nat → Bool) (c : Nat) (b : Bool) (j : Nat) : Bool := if j = c then b else d j
theorem cut_put (d : Nat → Bool) (c : Nat) (b : Bool) : (fun j : Nat => if (j : Int) = ((c : Nat) : Int) then b else cutd d c j) = cutd (putd d c b) (c + 1) := funext fun j => by
  unfold cutd putd
  by_cases h : j = c
  · subst h; simp
  · rw [if_neg (by omega), if_neg h, show decide (j < c + 1) = decide (j < c) by rw [decide_eq_decide]; omega]
theorem setv_next (b : Bool) : setv (IntKind.i64.wrap (bitI b + 1)) = !b := by cases b <;> decide
theorem wrap_nat (x : Int) (h0 : -9223372036854775808 ≤ x) (h : x < 9223372036854775808) : IntKind.i64.wrap x = x := by rw [IntWalk.i64_in _ (by omega)]
theorem eqOf_pk (v : Bool) (d : Nat → Bool) (c : Nat) (hc : c ≤ W v) (b0 b1 : Int) (u : Bool) : eqOf (hiA v (cutd d c)) (loA v (cutd d c)) v c b0 b1 u = conD v d c u (D b0 b1) := eq_pk v d c hc u (D b0 b1)
theorem conD_cut (v : Bool) (d : Nat → Bool) (c : Nat) (hc : c ≤ W v) (u : Bool) (e : Nat → Bool) (m : Nat) (h : c ≤ m) : conD v d c u (D (hiA u (cutd e m)) (loA u (cutd e m))) = conD v d c u e :=
  conD_congr fun hv i hi => by subst hv; rw [D_cut v e m i (by omega), cutd_lt (by omega)]
theorem saneB_pk (v : Bool) (d : Nat → Bool) (c : Nat) (hc : c ≤ W v) : saneB (hiA v (cutd d c)) (loA v (cutd d c)) v c = true := by
  unfold saneB
  rw [eqOf_pk v d c hc, conD_cut v d c hc v d c (Nat.le_refl _), conD_self]
theorem contB_pk (v : Bool) (d : Nat → Bool) (c : Nat) (hc : c ≤ W v) (b0 b1 : Int) (u : Bool) : contB (hiA v (cutd d c)) (loA v (cutd d c)) v c b0 b1 u = conD v d c u (D b0 b1) := by
  unfold contB
  rw [saneB_pk v d c hc, eqOf_pk v d c hc, Bool.true_and]
theorem covB_pk (v : Bool) (d : Nat → Bool) (c : Nat) (hc : c ≤ W v) (u : Bool) (e : Nat → Bool) (m : Nat) (hm : m ≤ W u) : covB (hiA v (cutd d c)) (loA v (cutd d c)) v c (hiA u (cutd e m)) (loA u (cutd e m)) u m = (decide (c ≤ m) && conD v d c u e) := by
  unfold covB
  rw [saneB_pk u e m hm, contB_pk v d c hc, Bool.and_true, show decide ((c : Int) ≤ (m : Int)) = decide (c ≤ m) by rw [decide_eq_decide]; omega]
  by_cases h : c ≤ m
  · rw [conD_cut v d c hc u e m h]
  · rw [decide_eq_false h, Bool.false_and, Bool.false_and]
theorem eqP_pk (v : Bool) (d : Nat → Bool) (c : Nat) (hc : c ≤ W v) (u : Bool) (e : Nat → Bool) (m : Nat) (hm : m ≤ W u) : eqP (hiA v (cutd d c)) (loA v (cutd d c)) v c (hiA u (cutd e m)) (loA u (cutd e m)) u m = (decide (c = m) && conD v d c u e) := by
  unfold eqP
  rw [Bool.eq_iff_iff]
  simp only [Bool.and_eq_true, beq_iff_eq, decide_eq_true_iff, conD_true]
  constructor
  · rintro ⟨⟨h1, h2, rfl⟩, h3⟩
    obtain rfl : c = m := by omega
    refine ⟨rfl, rfl, fun i hi => ?_⟩
    have := mk_inj h1 h2 i (by omega)
    rwa [cutd_lt hi, cutd_lt hi] at this
  · rintro ⟨rfl, rfl, h⟩
    have k : ∀ i, i < W v → cutd d c i = cutd e c i := fun i _ => by
      by_cases hi : i < c
      · rw [cutd_lt hi, cutd_lt hi, h i hi]
      · rw [cutd_ge (by omega), cutd_ge (by omega)]
    exact ⟨⟨hi_congr k, lo_congr k, rfl⟩, rfl⟩
/-- What may be is some address's first digits. -/
theorem saneB_ex {a0 a1 : Int} {v : Bool} {n : Int} (h : saneB a0 a1 v n = true) : ∃ c : Nat, c ≤ W v ∧ n = c ∧ a0 = hiA v (cutd (D a0 a1) c) ∧ a1 = loA v (cutd (D a0 a1) c) := by
  unfold saneB eqOf at h
  simp only [Bool.and_eq_true, beq_iff_eq, and_true] at h
  exact ⟨clampW v n, clampW_le v n, h.2, h.1.1, h.1.2⟩
theorem of_pk (v : Bool) (d : Nat → Bool) (c k : Nat) (hk : k ≤ c) (hc : c ≤ W v) {x : Int} (hx : x = ((k : Nat) : Int)) : Cal Try.prog 23 [.agg #[.int .u64 (hiA v (cutd d c)), .int .u64 (loA v (cutd d c)), .bool v], .int .i64 x] (.agg #[.int .u64 (hiA v (cutd d k)), .int .u64 (loA v (cutd d k)), .bool v, .int .i64 ((k : Nat) : Int)]) := by
  subst hx
  have h := of_s (u_mk v (cutd d c)) v (k : Int)
  have e := cut_cut v d c k hk
  rw [clampW_in (show k ≤ W v by omega), e.1, e.2] at h
  exact h
theorem sane_pk (v : Bool) (d : Nat → Bool) (c : Nat) (hc : c ≤ W v) : Cal Try.prog 32 [.agg #[.int .u64 (hiA v (cutd d c)), .int .u64 (loA v (cutd d c)), .bool v, .int .i64 ((c : Nat) : Int)]] (.bool true) := by
  have h := sane_s (u_mk v (cutd d c)) v (c : Int)
  rw [saneB_pk v d c hc] at h
  exact h
theorem sane_yes {a0 a1 : Int} (ha : u64 a0 ∧ u64 a1) {a2 : Bool} {a3 : Int} (h : saneB a0 a1 a2 a3 = true) : Cal Try.prog 32 [.agg #[.int .u64 a0, .int .u64 a1, .bool a2, .int .i64 a3]] (.bool true) := by
  have := sane_s ha a2 a3
  rwa [h] at this
theorem sane_not {a0 a1 : Int} (ha : u64 a0 ∧ u64 a1) {a2 : Bool} {a3 : Int} (h : saneB a0 a1 a2 a3 = false) : Cal Try.prog 32 [.agg #[.int .u64 a0, .int .u64 a1, .bool a2, .int .i64 a3]] (.bool false) := by
  have := sane_s ha a2 a3
  rwa [h] at this

/-! ### The walks -/
theorem parent_pk (v : Bool) (d : Nat → Bool) (c : Nat) (hc : c + 1 ≤ W v) : Cal Try.prog 24 [.agg #[.int .u64 (hiA v (cutd d (c + 1))), .int .u64 (loA v (cutd d (c + 1))), .bool v, .int .i64 (((c + 1) : Nat) : Int)]] (.tuple #[.agg #[.int .u64 (hiA v (cutd d c)), .int .u64 (loA v (cutd d c)), .bool v, .int .i64 ((c : Nat) : Int)], .bool true]) := by
  have hW := W_le v
  refine Cal.mk fun Wo => enter (F := fun _ => False) Try.func24 rfl Try.ntmps24 rfl ?_
  have k1 := sane_pk v d (c + 1) hc
  have k2 := of_pk v d (c + 1) c (by omega) hc (x := IntKind.i64.wrap (((c + 1 : Nat) : Int) - 1)) (by rw [wrap_nat _ (by omega) (by omega)]; omega)
  have hE : (decide (((c + 1 : Nat) : Int) ≤ 0) || !true) = false := by simp <;> omega
  repeat (first
    | (apply s_box; rfl; constructor; rfl; intro _)
    | (apply s_alloc; rfl; intro _)
    | (apply s_bslice; rfl; assumption; rfl; intro _)
    | (apply s_store; rfl; rfl; (repeat (first | exact List.Mem.head _ | apply List.Mem.tail)); constructor; (focus ((simp only [setAt, List.set_cons_zero, List.set_cons_succ, Nat.zero_add, Nat.reduceAdd]); try rfl)); (repeat (first | exact MUpd.hit | apply MUpd.miss)); kernel_rfl; rfl)
    | (apply g_new; rfl; intro _)
    | apply s_st
    | apply q_st
    | apply st_go
    | (apply st_off; rfl)
    | (apply st_on; rfl)
    | (apply st_if4; rfl; intro h1 h2 h3 h4; (try simp only [h1, h2, h3, h4, gv_true, gv_tt]); (try simp only [h1, h2, h3, h4, gv_true, gv_tt, Bool.true_and]))
    | (apply st_if3; rfl; intro h1 h2 h3; (try simp only [h1, h2, h3, gv_true, gv_tt]); (try simp only [h1, h2, h3, gv_true, gv_tt, Bool.true_and]))
    | (apply st_if2; rfl; intro h1 h2; (try simp only [h1, h2, gv_true, gv_tt]))
    | (apply st_if; rfl; intro h1; (try simp only [h1, gv_true, gv_tt]))
    | (focus (first | (apply y_move; rfl; done) | (apply y_assign; rfl; done) | (apply y_not; rfl; done) | (apply y_load; rfl; (repeat (first | exact List.Mem.head _ | apply List.Mem.tail)); (repeat (first | exact Sub.nil | apply Sub.take | apply Sub.drop)); done) | (apply y_cell; rfl; (repeat (first | exact List.Mem.head _ | apply List.Mem.tail)); (repeat (first | exact At.hit | apply At.miss)); kernel_rfl; done) | (apply y_calls; rfl; rfl; rfl; assumption; done) | (apply y_scal; rfl; rfl; rfl; (repeat (first | exact List.Mem.head _ | apply List.Mem.tail)); assumption; done) | (apply y_and; rfl; rfl; done) | (apply y_or; rfl; rfl; done) | (apply y_and_f; rfl; done) | (apply y_or_t; rfl; done) | (apply y_extract; rfl; (repeat (first | exact At.hit | apply At.miss)); done) | (apply y_fagg; rfl; (repeat (first | exact Sub.nil | apply Sub.take | apply Sub.drop)); done) | (apply y_fcell; kernel_rfl; rfl; (repeat (first | exact At.hit | apply At.miss)); done) | (apply y_faddr; kernel_rfl; rfl; done) | (apply y_eq; rfl; rfl; done) | (apply y_ne; rfl; rfl; done) | (apply y_lt; rfl; rfl; done) | (apply y_le; rfl; rfl; done) | (apply y_gt; rfl; rfl; done) | (apply y_ge; rfl; rfl; done) | (apply y_add; rfl; rfl; done) | (apply y_sub; rfl; rfl; done) | (apply y_nes; rfl; rfl; kernel_rfl; exact inferInstance; done) | (apply y_eqs; rfl; rfl; kernel_rfl; exact inferInstance; done) | (apply y_beq; kernel_rfl; rfl; rfl; done) | (apply y_bne; kernel_rfl; rfl; rfl; done) | (apply y_min2; rfl; done) | (apply y_min3; rfl; done) | (apply y_max2; rfl; done) | (apply y_build; kernel_rfl; (repeat (first | exact Bld.nil | (apply Bld.cons; exact inferInstance; rfl; constructor; kernel_rfl; (focus ((simp only [setAt, List.set_cons_zero, List.set_cons_succ, Nat.zero_add, Nat.reduceAdd]); try rfl))))); done)))
    | refine q_nil ?_
    | refine s_nil ?_
    | refine w_seq ?_
    | refine f_then ?_
    | refine f_ret ?_
    | refine f_ret_block ?_
    | refine w_skip ?_
    | refine w_ret ?_
    | refine w_cond_f rfl ?_
    | refine w_cond_t rfl ?_
    | (apply w_cond_tt; rfl; assumption)
    | (apply w_cond_ff; rfl; assumption)
    | (apply f_end; rfl; rfl; intro w hw; first | exact ans hw | exact ans_b (by assumption) hw)
    | (apply f_ends; rfl; (repeat (first | exact Res.nil | (apply Res.tmp; rfl) | (apply Res.agg; exact inferInstance; rfl; (repeat (first | exact List.Mem.head _ | apply List.Mem.tail)); (repeat (first | exact Sub.nil | apply Sub.take | apply Sub.drop))) | (apply Res.cell; kernel_rfl; rfl; (repeat (first | exact List.Mem.head _ | apply List.Mem.tail)); (repeat (first | exact At.hit | apply At.miss))))); intro w hw; exact ans hw)
    | (apply f_ends1; rfl; (repeat (first | exact Res.nil | (apply Res.tmp; rfl) | (apply Res.agg; exact inferInstance; rfl; (repeat (first | exact List.Mem.head _ | apply List.Mem.tail)); (repeat (first | exact Sub.nil | apply Sub.take | apply Sub.drop))) | (apply Res.cell; kernel_rfl; rfl; (repeat (first | exact List.Mem.head _ | apply List.Mem.tail)); (repeat (first | exact At.hit | apply At.miss))))); intro w hw; exact ans hw)
    | (apply w_draw_l; kernel_rfl; rfl; kernel_rfl)
    | (apply w_mixed_l; kernel_rfl; kernel_rfl)
    | (apply g_st; intro W0)
    | refine g_done ?_
    | refine w_reg_l ?_
    | exact rfl)
theorem parent_no {a0 a1 : Int} (ha : u64 a0 ∧ u64 a1) (a2 : Bool) (a3 : Int) (h : (decide (a3 ≤ 0) || !saneB a0 a1 a2 a3) = true) : Cal Try.prog 24 [.agg #[.int .u64 a0, .int .u64 a1, .bool a2, .int .i64 a3]] (.tuple #[.agg #[.int .u64 0, .int .u64 0, .bool false, .int .i64 0], .bool false]) := by
  refine Cal.mk fun Wo => enter (F := fun _ => False) Try.func24 rfl Try.ntmps24 rfl ?_
  have k1 := sane_s ha a2 a3
  repeat (first
    | (apply s_box; rfl; constructor; rfl; intro _)
    | (apply s_alloc; rfl; intro _)
    | (apply s_bslice; rfl; assumption; rfl; intro _)
    | (apply s_store; rfl; rfl; (repeat (first | exact List.Mem.head _ | apply List.Mem.tail)); constructor; (focus ((simp only [setAt, List.set_cons_zero, List.set_cons_succ, Nat.zero_add, Nat.reduceAdd]); try rfl)); (repeat (first | exact MUpd.hit | apply MUpd.miss)); kernel_rfl; rfl)
    | (apply g_new; rfl; intro _)
    | apply s_st
    | apply q_st
    | apply st_go
    | (apply st_off; rfl)
    | (apply st_on; rfl)
    | (apply st_if4; rfl; intro h1 h2 h3 h4; (try simp only [h1, h2, h3, h4, gv_true, gv_tt]); (try simp only [h1, h2, h3, h4, gv_true, gv_tt, Bool.true_and]))
    | (apply st_if3; rfl; intro h1 h2 h3; (try simp only [h1, h2, h3, gv_true, gv_tt]); (try simp only [h1, h2, h3, gv_true, gv_tt, Bool.true_and]))
    | (apply st_if2; rfl; intro h1 h2; (try simp only [h1, h2, gv_true, gv_tt]))
    | (apply st_if; rfl; intro h1; (try simp only [h1, gv_true, gv_tt]))
    | (focus (first | (apply y_move; rfl; done) | (apply y_assign; rfl; done) | (apply y_not; rfl; done) | (apply y_load; rfl; (repeat (first | exact List.Mem.head _ | apply List.Mem.tail)); (repeat (first | exact Sub.nil | apply Sub.take | apply Sub.drop)); done) | (apply y_cell; rfl; (repeat (first | exact List.Mem.head _ | apply List.Mem.tail)); (repeat (first | exact At.hit | apply At.miss)); kernel_rfl; done) | (apply y_calls; rfl; rfl; rfl; assumption; done) | (apply y_scal; rfl; rfl; rfl; (repeat (first | exact List.Mem.head _ | apply List.Mem.tail)); assumption; done) | (apply y_and; rfl; rfl; done) | (apply y_or; rfl; rfl; done) | (apply y_and_f; rfl; done) | (apply y_or_t; rfl; done) | (apply y_extract; rfl; (repeat (first | exact At.hit | apply At.miss)); done) | (apply y_fagg; rfl; (repeat (first | exact Sub.nil | apply Sub.take | apply Sub.drop)); done) | (apply y_fcell; kernel_rfl; rfl; (repeat (first | exact At.hit | apply At.miss)); done) | (apply y_faddr; kernel_rfl; rfl; done) | (apply y_eq; rfl; rfl; done) | (apply y_ne; rfl; rfl; done) | (apply y_lt; rfl; rfl; done) | (apply y_le; rfl; rfl; done) | (apply y_gt; rfl; rfl; done) | (apply y_ge; rfl; rfl; done) | (apply y_add; rfl; rfl; done) | (apply y_sub; rfl; rfl; done) | (apply y_nes; rfl; rfl; kernel_rfl; exact inferInstance; done) | (apply y_eqs; rfl; rfl; kernel_rfl; exact inferInstance; done) | (apply y_beq; kernel_rfl; rfl; rfl; done) | (apply y_bne; kernel_rfl; rfl; rfl; done) | (apply y_min2; rfl; done) | (apply y_min3; rfl; done) | (apply y_max2; rfl; done) | (apply y_build; kernel_rfl; (repeat (first | exact Bld.nil | (apply Bld.cons; exact inferInstance; rfl; constructor; kernel_rfl; (focus ((simp only [setAt, List.set_cons_zero, List.set_cons_succ, Nat.zero_add, Nat.reduceAdd]); try rfl))))); done)))
    | refine q_nil ?_
    | refine s_nil ?_
    | refine w_seq ?_
    | refine f_then ?_
    | refine f_ret ?_
    | refine f_ret_block ?_
    | refine w_skip ?_
    | refine w_ret ?_
    | refine w_cond_f rfl ?_
    | refine w_cond_t rfl ?_
    | (apply w_cond_tt; rfl; assumption)
    | (apply w_cond_ff; rfl; assumption)
    | (apply f_end; rfl; rfl; intro w hw; first | exact ans hw | exact ans_b (by assumption) hw)
    | (apply f_ends; rfl; (repeat (first | exact Res.nil | (apply Res.tmp; rfl) | (apply Res.agg; exact inferInstance; rfl; (repeat (first | exact List.Mem.head _ | apply List.Mem.tail)); (repeat (first | exact Sub.nil | apply Sub.take | apply Sub.drop))) | (apply Res.cell; kernel_rfl; rfl; (repeat (first | exact List.Mem.head _ | apply List.Mem.tail)); (repeat (first | exact At.hit | apply At.miss))))); intro w hw; exact ans hw)
    | (apply f_ends1; rfl; (repeat (first | exact Res.nil | (apply Res.tmp; rfl) | (apply Res.agg; exact inferInstance; rfl; (repeat (first | exact List.Mem.head _ | apply List.Mem.tail)); (repeat (first | exact Sub.nil | apply Sub.take | apply Sub.drop))) | (apply Res.cell; kernel_rfl; rfl; (repeat (first | exact List.Mem.head _ | apply List.Mem.tail)); (repeat (first | exact At.hit | apply At.miss))))); intro w hw; exact ans hw)
    | (apply w_draw_l; kernel_rfl; rfl; kernel_rfl)
    | (apply w_mixed_l; kernel_rfl; kernel_rfl)
    | (apply g_st; intro W0)
    | refine g_done ?_
    | refine w_reg_l ?_
    | exact rfl)
theorem child_pk (v : Bool) (d : Nat → Bool) (c : Nat) (hc : c < W v) (b : Int) : Cal Try.prog 36 [.agg #[.int .u64 (hiA v (cutd d c)), .int .u64 (loA v (cutd d c)), .bool v, .int .i64 ((c : Nat) : Int)], .int .i64 b] (.tuple #[.agg #[.int .u64 (hiA v (cutd (putd d c (setv b)) (c + 1))), .int .u64 (loA v (cutd (putd d c (setv b)) (c + 1))), .bool v, .int .i64 (((c + 1) : Nat) : Int)], .bool true]) := by
  have hW := W_le v
  refine Cal.mk fun Wo => enter (F := fun _ => False) Try.func36 rfl Try.ntmps36 rfl ?_
  have k1 := sane_pk v d c (by omega)
  have k2 := width_s v
  have k3 := set_s v (cutd d c) (c : Int) b
  rw [cut_put] at k3
  have hE : ((!true) || ((c : Int) == ((W v : Nat) : Int))) = false := by simp <;> omega
  have hw : IntKind.i64.wrap ((c : Int) + 1) = ((c + 1 : Nat) : Int) := by rw [wrap_nat _ (by omega) (by omega)]; rfl
  rw [← hw]
  repeat (first
    | (apply s_box; rfl; constructor; rfl; intro _)
    | (apply s_alloc; rfl; intro _)
    | (apply s_bslice; rfl; assumption; rfl; intro _)
    | (apply s_store; rfl; rfl; (repeat (first | exact List.Mem.head _ | apply List.Mem.tail)); constructor; (focus ((simp only [setAt, List.set_cons_zero, List.set_cons_succ, Nat.zero_add, Nat.reduceAdd]); try rfl)); (repeat (first | exact MUpd.hit | apply MUpd.miss)); kernel_rfl; rfl)
    | (apply g_new; rfl; intro _)
    | apply s_st
    | apply q_st
    | apply st_go
    | (apply st_off; rfl)
    | (apply st_on; rfl)
    | (apply st_if4; rfl; intro h1 h2 h3 h4; (try simp only [h1, h2, h3, h4, gv_true, gv_tt]); (try simp only [h1, h2, h3, h4, gv_true, gv_tt, Bool.true_and]))
    | (apply st_if3; rfl; intro h1 h2 h3; (try simp only [h1, h2, h3, gv_true, gv_tt]); (try simp only [h1, h2, h3, gv_true, gv_tt, Bool.true_and]))
    | (apply st_if2; rfl; intro h1 h2; (try simp only [h1, h2, gv_true, gv_tt]))
    | (apply st_if; rfl; intro h1; (try simp only [h1, gv_true, gv_tt]))
    | (focus (first | (apply y_move; rfl; done) | (apply y_assign; rfl; done) | (apply y_not; rfl; done) | (apply y_load; rfl; (repeat (first | exact List.Mem.head _ | apply List.Mem.tail)); (repeat (first | exact Sub.nil | apply Sub.take | apply Sub.drop)); done) | (apply y_cell; rfl; (repeat (first | exact List.Mem.head _ | apply List.Mem.tail)); (repeat (first | exact At.hit | apply At.miss)); kernel_rfl; done) | (apply y_calls; rfl; rfl; rfl; assumption; done) | (apply y_scal; rfl; rfl; rfl; (repeat (first | exact List.Mem.head _ | apply List.Mem.tail)); assumption; done) | (apply y_and; rfl; rfl; done) | (apply y_or; rfl; rfl; done) | (apply y_and_f; rfl; done) | (apply y_or_t; rfl; done) | (apply y_extract; rfl; (repeat (first | exact At.hit | apply At.miss)); done) | (apply y_fagg; rfl; (repeat (first | exact Sub.nil | apply Sub.take | apply Sub.drop)); done) | (apply y_fcell; kernel_rfl; rfl; (repeat (first | exact At.hit | apply At.miss)); done) | (apply y_faddr; kernel_rfl; rfl; done) | (apply y_eq; rfl; rfl; done) | (apply y_ne; rfl; rfl; done) | (apply y_lt; rfl; rfl; done) | (apply y_le; rfl; rfl; done) | (apply y_gt; rfl; rfl; done) | (apply y_ge; rfl; rfl; done) | (apply y_add; rfl; rfl; done) | (apply y_sub; rfl; rfl; done) | (apply y_nes; rfl; rfl; kernel_rfl; exact inferInstance; done) | (apply y_eqs; rfl; rfl; kernel_rfl; exact inferInstance; done) | (apply y_beq; kernel_rfl; rfl; rfl; done) | (apply y_bne; kernel_rfl; rfl; rfl; done) | (apply y_min2; rfl; done) | (apply y_min3; rfl; done) | (apply y_max2; rfl; done) | (apply y_build; kernel_rfl; (repeat (first | exact Bld.nil | (apply Bld.cons; exact inferInstance; rfl; constructor; kernel_rfl; (focus ((simp only [setAt, List.set_cons_zero, List.set_cons_succ, Nat.zero_add, Nat.reduceAdd]); try rfl))))); done)))
    | refine q_nil ?_
    | refine s_nil ?_
    | refine w_seq ?_
    | refine f_then ?_
    | refine f_ret ?_
    | refine f_ret_block ?_
    | refine w_skip ?_
    | refine w_ret ?_
    | refine w_cond_f rfl ?_
    | refine w_cond_t rfl ?_
    | (apply w_cond_tt; rfl; assumption)
    | (apply w_cond_ff; rfl; assumption)
    | (apply f_end; rfl; rfl; intro w hw; first | exact ans hw | exact ans_b (by assumption) hw)
    | (apply f_ends; rfl; (repeat (first | exact Res.nil | (apply Res.tmp; rfl) | (apply Res.agg; exact inferInstance; rfl; (repeat (first | exact List.Mem.head _ | apply List.Mem.tail)); (repeat (first | exact Sub.nil | apply Sub.take | apply Sub.drop))) | (apply Res.cell; kernel_rfl; rfl; (repeat (first | exact List.Mem.head _ | apply List.Mem.tail)); (repeat (first | exact At.hit | apply At.miss))))); intro w hw; exact ans hw)
    | (apply f_ends1; rfl; (repeat (first | exact Res.nil | (apply Res.tmp; rfl) | (apply Res.agg; exact inferInstance; rfl; (repeat (first | exact List.Mem.head _ | apply List.Mem.tail)); (repeat (first | exact Sub.nil | apply Sub.take | apply Sub.drop))) | (apply Res.cell; kernel_rfl; rfl; (repeat (first | exact List.Mem.head _ | apply List.Mem.tail)); (repeat (first | exact At.hit | apply At.miss))))); intro w hw; exact ans hw)
    | (apply w_draw_l; kernel_rfl; rfl; kernel_rfl)
    | (apply w_mixed_l; kernel_rfl; kernel_rfl)
    | (apply g_st; intro W0)
    | refine g_done ?_
    | refine w_reg_l ?_
    | exact rfl)
theorem child_full (v : Bool) (d : Nat → Bool) (b : Int) : Cal Try.prog 36 [.agg #[.int .u64 (hiA v (cutd d (W v))), .int .u64 (loA v (cutd d (W v))), .bool v, .int .i64 (((W v) : Nat) : Int)], .int .i64 b] (.tuple #[.agg #[.int .u64 0, .int .u64 0, .bool false, .int .i64 0], .bool false]) := by
  refine Cal.mk fun Wo => enter (F := fun _ => False) Try.func36 rfl Try.ntmps36 rfl ?_
  have k1 := sane_pk v d (W v) (Nat.le_refl _)
  have k2 := width_s v
  have hE : ((!true) || (((W v : Nat) : Int) == ((W v : Nat) : Int))) = true := by simp
  repeat (first
    | (apply s_box; rfl; constructor; rfl; intro _)
    | (apply s_alloc; rfl; intro _)
    | (apply s_bslice; rfl; assumption; rfl; intro _)
    | (apply s_store; rfl; rfl; (repeat (first | exact List.Mem.head _ | apply List.Mem.tail)); constructor; (focus ((simp only [setAt, List.set_cons_zero, List.set_cons_succ, Nat.zero_add, Nat.reduceAdd]); try rfl)); (repeat (first | exact MUpd.hit | apply MUpd.miss)); kernel_rfl; rfl)
    | (apply g_new; rfl; intro _)
    | apply s_st
    | apply q_st
    | apply st_go
    | (apply st_off; rfl)
    | (apply st_on; rfl)
    | (apply st_if4; rfl; intro h1 h2 h3 h4; (try simp only [h1, h2, h3, h4, gv_true, gv_tt]); (try simp only [h1, h2, h3, h4, gv_true, gv_tt, Bool.true_and]))
    | (apply st_if3; rfl; intro h1 h2 h3; (try simp only [h1, h2, h3, gv_true, gv_tt]); (try simp only [h1, h2, h3, gv_true, gv_tt, Bool.true_and]))
    | (apply st_if2; rfl; intro h1 h2; (try simp only [h1, h2, gv_true, gv_tt]))
    | (apply st_if; rfl; intro h1; (try simp only [h1, gv_true, gv_tt]))
    | (focus (first | (apply y_move; rfl; done) | (apply y_assign; rfl; done) | (apply y_not; rfl; done) | (apply y_load; rfl; (repeat (first | exact List.Mem.head _ | apply List.Mem.tail)); (repeat (first | exact Sub.nil | apply Sub.take | apply Sub.drop)); done) | (apply y_cell; rfl; (repeat (first | exact List.Mem.head _ | apply List.Mem.tail)); (repeat (first | exact At.hit | apply At.miss)); kernel_rfl; done) | (apply y_calls; rfl; rfl; rfl; assumption; done) | (apply y_scal; rfl; rfl; rfl; (repeat (first | exact List.Mem.head _ | apply List.Mem.tail)); assumption; done) | (apply y_and; rfl; rfl; done) | (apply y_or; rfl; rfl; done) | (apply y_and_f; rfl; done) | (apply y_or_t; rfl; done) | (apply y_extract; rfl; (repeat (first | exact At.hit | apply At.miss)); done) | (apply y_fagg; rfl; (repeat (first | exact Sub.nil | apply Sub.take | apply Sub.drop)); done) | (apply y_fcell; kernel_rfl; rfl; (repeat (first | exact At.hit | apply At.miss)); done) | (apply y_faddr; kernel_rfl; rfl; done) | (apply y_eq; rfl; rfl; done) | (apply y_ne; rfl; rfl; done) | (apply y_lt; rfl; rfl; done) | (apply y_le; rfl; rfl; done) | (apply y_gt; rfl; rfl; done) | (apply y_ge; rfl; rfl; done) | (apply y_add; rfl; rfl; done) | (apply y_sub; rfl; rfl; done) | (apply y_nes; rfl; rfl; kernel_rfl; exact inferInstance; done) | (apply y_eqs; rfl; rfl; kernel_rfl; exact inferInstance; done) | (apply y_beq; kernel_rfl; rfl; rfl; done) | (apply y_bne; kernel_rfl; rfl; rfl; done) | (apply y_min2; rfl; done) | (apply y_min3; rfl; done) | (apply y_max2; rfl; done) | (apply y_build; kernel_rfl; (repeat (first | exact Bld.nil | (apply Bld.cons; exact inferInstance; rfl; constructor; kernel_rfl; (focus ((simp only [setAt, List.set_cons_zero, List.set_cons_succ, Nat.zero_add, Nat.reduceAdd]); try rfl))))); done)))
    | refine q_nil ?_
    | refine s_nil ?_
    | refine w_seq ?_
    | refine f_then ?_
    | refine f_ret ?_
    | refine f_ret_block ?_
    | refine w_skip ?_
    | refine w_ret ?_
    | refine w_cond_f rfl ?_
    | refine w_cond_t rfl ?_
    | (apply w_cond_tt; rfl; assumption)
    | (apply w_cond_ff; rfl; assumption)
    | (apply f_end; rfl; rfl; intro w hw; first | exact ans hw | exact ans_b (by assumption) hw)
    | (apply f_ends; rfl; (repeat (first | exact Res.nil | (apply Res.tmp; rfl) | (apply Res.agg; exact inferInstance; rfl; (repeat (first | exact List.Mem.head _ | apply List.Mem.tail)); (repeat (first | exact Sub.nil | apply Sub.take | apply Sub.drop))) | (apply Res.cell; kernel_rfl; rfl; (repeat (first | exact List.Mem.head _ | apply List.Mem.tail)); (repeat (first | exact At.hit | apply At.miss))))); intro w hw; exact ans hw)
    | (apply f_ends1; rfl; (repeat (first | exact Res.nil | (apply Res.tmp; rfl) | (apply Res.agg; exact inferInstance; rfl; (repeat (first | exact List.Mem.head _ | apply List.Mem.tail)); (repeat (first | exact Sub.nil | apply Sub.take | apply Sub.drop))) | (apply Res.cell; kernel_rfl; rfl; (repeat (first | exact List.Mem.head _ | apply List.Mem.tail)); (repeat (first | exact At.hit | apply At.miss))))); intro w hw; exact ans hw)
    | (apply w_draw_l; kernel_rfl; rfl; kernel_rfl)
    | (apply w_mixed_l; kernel_rfl; kernel_rfl)
    | (apply g_st; intro W0)
    | refine g_done ?_
    | refine w_reg_l ?_
    | exact rfl)
theorem sibling_pk (v : Bool) (d : Nat → Bool) (c : Nat) (hc : c + 1 ≤ W v) : Cal Try.prog 45 [.agg #[.int .u64 (hiA v (cutd d (c + 1))), .int .u64 (loA v (cutd d (c + 1))), .bool v, .int .i64 (((c + 1) : Nat) : Int)]] (.tuple #[.agg #[.int .u64 (hiA v (cutd (putd d c (!d c)) (c + 1))), .int .u64 (loA v (cutd (putd d c (!d c)) (c + 1))), .bool v, .int .i64 (((c + 1) : Nat) : Int)], .bool true]) := by
  refine Cal.mk fun Wo => enter (F := fun _ => False) Try.func45 rfl Try.ntmps45 rfl ?_
  have k1 := parent_pk v d c hc
  have k2 := bit_s (u_mk v (cutd d (c + 1))) v (c : Int)
  rw [bitA_mk, decide_eq_true (show c < W v by omega), Bool.true_and, cutd_lt (show c < c + 1 by omega)] at k2
  have k3 := child_pk v d c (by omega) (IntKind.i64.wrap (bitI (d c) + 1))
  rw [setv_next] at k3
  repeat (first
    | (apply s_box; rfl; constructor; rfl; intro _)
    | (apply s_alloc; rfl; intro _)
    | (apply s_bslice; rfl; assumption; rfl; intro _)
    | (apply s_store; rfl; rfl; (repeat (first | exact List.Mem.head _ | apply List.Mem.tail)); constructor; (focus ((simp only [setAt, List.set_cons_zero, List.set_cons_succ, Nat.zero_add, Nat.reduceAdd]); try rfl)); (repeat (first | exact MUpd.hit | apply MUpd.miss)); kernel_rfl; rfl)
    | (apply g_new; rfl; intro _)
    | apply s_st
    | apply q_st
    | apply st_go
    | (apply st_off; rfl)
    | (apply st_on; rfl)
    | (apply st_if4; rfl; intro h1 h2 h3 h4; (try simp only [h1, h2, h3, h4, gv_true, gv_tt]); (try simp only [h1, h2, h3, h4, gv_true, gv_tt, Bool.true_and]))
    | (apply st_if3; rfl; intro h1 h2 h3; (try simp only [h1, h2, h3, gv_true, gv_tt]); (try simp only [h1, h2, h3, gv_true, gv_tt, Bool.true_and]))
    | (apply st_if2; rfl; intro h1 h2; (try simp only [h1, h2, gv_true, gv_tt]))
    | (apply st_if; rfl; intro h1; (try simp only [h1, gv_true, gv_tt]))
    | (focus (first | (apply y_move; rfl; done) | (apply y_assign; rfl; done) | (apply y_not; rfl; done) | (apply y_load; rfl; (repeat (first | exact List.Mem.head _ | apply List.Mem.tail)); (repeat (first | exact Sub.nil | apply Sub.take | apply Sub.drop)); done) | (apply y_cell; rfl; (repeat (first | exact List.Mem.head _ | apply List.Mem.tail)); (repeat (first | exact At.hit | apply At.miss)); kernel_rfl; done) | (apply y_calls; rfl; rfl; rfl; assumption; done) | (apply y_scal; rfl; rfl; rfl; (repeat (first | exact List.Mem.head _ | apply List.Mem.tail)); assumption; done) | (apply y_and; rfl; rfl; done) | (apply y_or; rfl; rfl; done) | (apply y_and_f; rfl; done) | (apply y_or_t; rfl; done) | (apply y_extract; rfl; (repeat (first | exact At.hit | apply At.miss)); done) | (apply y_fagg; rfl; (repeat (first | exact Sub.nil | apply Sub.take | apply Sub.drop)); done) | (apply y_fcell; kernel_rfl; rfl; (repeat (first | exact At.hit | apply At.miss)); done) | (apply y_faddr; kernel_rfl; rfl; done) | (apply y_eq; rfl; rfl; done) | (apply y_ne; rfl; rfl; done) | (apply y_lt; rfl; rfl; done) | (apply y_le; rfl; rfl; done) | (apply y_gt; rfl; rfl; done) | (apply y_ge; rfl; rfl; done) | (apply y_add; rfl; rfl; done) | (apply y_sub; rfl; rfl; done) | (apply y_nes; rfl; rfl; kernel_rfl; exact inferInstance; done) | (apply y_eqs; rfl; rfl; kernel_rfl; exact inferInstance; done) | (apply y_beq; kernel_rfl; rfl; rfl; done) | (apply y_bne; kernel_rfl; rfl; rfl; done) | (apply y_min2; rfl; done) | (apply y_min3; rfl; done) | (apply y_max2; rfl; done) | (apply y_build; kernel_rfl; (repeat (first | exact Bld.nil | (apply Bld.cons; exact inferInstance; rfl; constructor; kernel_rfl; (focus ((simp only [setAt, List.set_cons_zero, List.set_cons_succ, Nat.zero_add, Nat.reduceAdd]); try rfl))))); done)))
    | refine q_nil ?_
    | refine s_nil ?_
    | refine w_seq ?_
    | refine f_then ?_
    | refine f_ret ?_
    | refine f_ret_block ?_
    | refine w_skip ?_
    | refine w_ret ?_
    | refine w_cond_f rfl ?_
    | refine w_cond_t rfl ?_
    | (apply w_cond_tt; rfl; assumption)
    | (apply w_cond_ff; rfl; assumption)
    | (apply f_end; rfl; rfl; intro w hw; first | exact ans hw | exact ans_b (by assumption) hw)
    | (apply f_ends; rfl; (repeat (first | exact Res.nil | (apply Res.tmp; rfl) | (apply Res.agg; exact inferInstance; rfl; (repeat (first | exact List.Mem.head _ | apply List.Mem.tail)); (repeat (first | exact Sub.nil | apply Sub.take | apply Sub.drop))) | (apply Res.cell; kernel_rfl; rfl; (repeat (first | exact List.Mem.head _ | apply List.Mem.tail)); (repeat (first | exact At.hit | apply At.miss))))); intro w hw; exact ans hw)
    | (apply f_ends1; rfl; (repeat (first | exact Res.nil | (apply Res.tmp; rfl) | (apply Res.agg; exact inferInstance; rfl; (repeat (first | exact List.Mem.head _ | apply List.Mem.tail)); (repeat (first | exact Sub.nil | apply Sub.take | apply Sub.drop))) | (apply Res.cell; kernel_rfl; rfl; (repeat (first | exact List.Mem.head _ | apply List.Mem.tail)); (repeat (first | exact At.hit | apply At.miss))))); intro w hw; exact ans hw)
    | (apply w_draw_l; kernel_rfl; rfl; kernel_rfl)
    | (apply w_mixed_l; kernel_rfl; kernel_rfl)
    | (apply g_st; intro W0)
    | refine g_done ?_
    | refine w_reg_l ?_
    | exact rfl)
theorem mn2_nat (a b : Nat) : mn2 (a : Int) (b : Int) = ((min a b : Nat) : Int) := by unfold mn2; split <;> omega
theorem join_pk (v : Bool) (d : Nat → Bool) (c : Nat) (hc : c ≤ W v) (e : Nat → Bool) (m : Nat) (hm : m ≤ W v) (k : Nat) (hk : k = min (min c m) (cmn (cutd d c) (cutd e m) (W v))) : Cal Try.prog 35 [.agg #[.int .u64 (hiA v (cutd d c)), .int .u64 (loA v (cutd d c)), .bool v, .int .i64 ((c : Nat) : Int)], .agg #[.int .u64 (hiA v (cutd e m)), .int .u64 (loA v (cutd e m)), .bool v, .int .i64 ((m : Nat) : Int)]] (.tuple #[.agg #[.int .u64 (hiA v (cutd d k)), .int .u64 (loA v (cutd d k)), .bool v, .int .i64 ((k : Nat) : Int)], .bool true]) := by
  refine Cal.mk fun Wo => enter (F := fun _ => False) Try.func35 rfl Try.ntmps35 rfl ?_
  have k1 := sane_pk v d c hc
  have k2 := sane_pk v e m hm
  have k3 := common_s (u_mk v (cutd d c)) (u_mk v (cutd e m)) v v
  have hcm : commonA (hiA v (cutd d c)) (loA v (cutd d c)) v (hiA v (cutd e m)) (loA v (cutd e m)) v = ((cmn (cutd d c) (cutd e m) (W v) : Nat) : Int) := by
    unfold commonA
    rw [if_pos rfl]
    exact congrArg _ (cmn_congr fun i hi => by rw [D_mk, D_mk, decide_eq_true hi, Bool.true_and, Bool.true_and])
  rw [hcm] at k3
  have k4 := of_pk v d c k (by omega) hc (x := mn2 (mn2 (c : Int) (m : Int)) ((cmn (cutd d c) (cutd e m) (W v) : Nat) : Int)) (by rw [mn2_nat, mn2_nat, hk])
  have hE : (((v != v) || !true) || !true) = false := by simp
  repeat (first
    | (apply s_box; rfl; constructor; rfl; intro _)
    | (apply s_alloc; rfl; intro _)
    | (apply s_bslice; rfl; assumption; rfl; intro _)
    | (apply s_store; rfl; rfl; (repeat (first | exact List.Mem.head _ | apply List.Mem.tail)); constructor; (focus ((simp only [setAt, List.set_cons_zero, List.set_cons_succ, Nat.zero_add, Nat.reduceAdd]); try rfl)); (repeat (first | exact MUpd.hit | apply MUpd.miss)); kernel_rfl; rfl)
    | (apply g_new; rfl; intro _)
    | apply s_st
    | apply q_st
    | apply st_go
    | (apply st_off; rfl)
    | (apply st_on; rfl)
    | (apply st_if4; rfl; intro h1 h2 h3 h4; (try simp only [h1, h2, h3, h4, gv_true, gv_tt]); (try simp only [h1, h2, h3, h4, gv_true, gv_tt, Bool.true_and]))
    | (apply st_if3; rfl; intro h1 h2 h3; (try simp only [h1, h2, h3, gv_true, gv_tt]); (try simp only [h1, h2, h3, gv_true, gv_tt, Bool.true_and]))
    | (apply st_if2; rfl; intro h1 h2; (try simp only [h1, h2, gv_true, gv_tt]))
    | (apply st_if; rfl; intro h1; (try simp only [h1, gv_true, gv_tt]))
    | (focus (first | (apply y_move; rfl; done) | (apply y_assign; rfl; done) | (apply y_not; rfl; done) | (apply y_load; rfl; (repeat (first | exact List.Mem.head _ | apply List.Mem.tail)); (repeat (first | exact Sub.nil | apply Sub.take | apply Sub.drop)); done) | (apply y_cell; rfl; (repeat (first | exact List.Mem.head _ | apply List.Mem.tail)); (repeat (first | exact At.hit | apply At.miss)); kernel_rfl; done) | (apply y_calls; rfl; rfl; rfl; assumption; done) | (apply y_scal; rfl; rfl; rfl; (repeat (first | exact List.Mem.head _ | apply List.Mem.tail)); assumption; done) | (apply y_and; rfl; rfl; done) | (apply y_or; rfl; rfl; done) | (apply y_and_f; rfl; done) | (apply y_or_t; rfl; done) | (apply y_extract; rfl; (repeat (first | exact At.hit | apply At.miss)); done) | (apply y_fagg; rfl; (repeat (first | exact Sub.nil | apply Sub.take | apply Sub.drop)); done) | (apply y_fcell; kernel_rfl; rfl; (repeat (first | exact At.hit | apply At.miss)); done) | (apply y_faddr; kernel_rfl; rfl; done) | (apply y_eq; rfl; rfl; done) | (apply y_ne; rfl; rfl; done) | (apply y_lt; rfl; rfl; done) | (apply y_le; rfl; rfl; done) | (apply y_gt; rfl; rfl; done) | (apply y_ge; rfl; rfl; done) | (apply y_add; rfl; rfl; done) | (apply y_sub; rfl; rfl; done) | (apply y_nes; rfl; rfl; kernel_rfl; exact inferInstance; done) | (apply y_eqs; rfl; rfl; kernel_rfl; exact inferInstance; done) | (apply y_beq; kernel_rfl; rfl; rfl; done) | (apply y_bne; kernel_rfl; rfl; rfl; done) | (apply y_min2; rfl; done) | (apply y_min3; rfl; done) | (apply y_max2; rfl; done) | (apply y_build; kernel_rfl; (repeat (first | exact Bld.nil | (apply Bld.cons; exact inferInstance; rfl; constructor; kernel_rfl; (focus ((simp only [setAt, List.set_cons_zero, List.set_cons_succ, Nat.zero_add, Nat.reduceAdd]); try rfl))))); done)))
    | refine q_nil ?_
    | refine s_nil ?_
    | refine w_seq ?_
    | refine f_then ?_
    | refine f_ret ?_
    | refine f_ret_block ?_
    | refine w_skip ?_
    | refine w_ret ?_
    | refine w_cond_f rfl ?_
    | refine w_cond_t rfl ?_
    | (apply w_cond_tt; rfl; assumption)
    | (apply w_cond_ff; rfl; assumption)
    | (apply f_end; rfl; rfl; intro w hw; first | exact ans hw | exact ans_b (by assumption) hw)
    | (apply f_ends; rfl; (repeat (first | exact Res.nil | (apply Res.tmp; rfl) | (apply Res.agg; exact inferInstance; rfl; (repeat (first | exact List.Mem.head _ | apply List.Mem.tail)); (repeat (first | exact Sub.nil | apply Sub.take | apply Sub.drop))) | (apply Res.cell; kernel_rfl; rfl; (repeat (first | exact List.Mem.head _ | apply List.Mem.tail)); (repeat (first | exact At.hit | apply At.miss))))); intro w hw; exact ans hw)
    | (apply f_ends1; rfl; (repeat (first | exact Res.nil | (apply Res.tmp; rfl) | (apply Res.agg; exact inferInstance; rfl; (repeat (first | exact List.Mem.head _ | apply List.Mem.tail)); (repeat (first | exact Sub.nil | apply Sub.take | apply Sub.drop))) | (apply Res.cell; kernel_rfl; rfl; (repeat (first | exact List.Mem.head _ | apply List.Mem.tail)); (repeat (first | exact At.hit | apply At.miss))))); intro w hw; exact ans hw)
    | (apply w_draw_l; kernel_rfl; rfl; kernel_rfl)
    | (apply w_mixed_l; kernel_rfl; kernel_rfl)
    | (apply g_st; intro W0)
    | refine g_done ?_
    | refine w_reg_l ?_
    | exact rfl)
theorem join_no {a0 a1 b0 b1 : Int} (ha : u64 a0 ∧ u64 a1) (hb : u64 b0 ∧ u64 b1) (a2 : Bool) (a3 : Int) (b2 : Bool) (b3 : Int) (h : (((a2 != b2) || !saneB a0 a1 a2 a3) || !saneB b0 b1 b2 b3) = true) :
    Cal Try.prog 35 [.agg #[.int .u64 a0, .int .u64 a1, .bool a2, .int .i64 a3], .agg #[.int .u64 b0, .int .u64 b1, .bool b2, .int .i64 b3]] (.tuple #[.agg #[.int .u64 0, .int .u64 0, .bool false, .int .i64 0], .bool false]) := by
  refine Cal.mk fun Wo => enter (F := fun _ => False) Try.func35 rfl Try.ntmps35 rfl ?_
  have k1 := sane_s ha a2 a3
  have k2 := sane_s hb b2 b3
  repeat (first
    | (apply s_box; rfl; constructor; rfl; intro _)
    | (apply s_alloc; rfl; intro _)
    | (apply s_bslice; rfl; assumption; rfl; intro _)
    | (apply s_store; rfl; rfl; (repeat (first | exact List.Mem.head _ | apply List.Mem.tail)); constructor; (focus ((simp only [setAt, List.set_cons_zero, List.set_cons_succ, Nat.zero_add, Nat.reduceAdd]); try rfl)); (repeat (first | exact MUpd.hit | apply MUpd.miss)); kernel_rfl; rfl)
    | (apply g_new; rfl; intro _)
    | apply s_st
    | apply q_st
    | apply st_go
    | (apply st_off; rfl)
    | (apply st_on; rfl)
    | (apply st_if4; rfl; intro h1 h2 h3 h4; (try simp only [h1, h2, h3, h4, gv_true, gv_tt]); (try simp only [h1, h2, h3, h4, gv_true, gv_tt, Bool.true_and]))
    | (apply st_if3; rfl; intro h1 h2 h3; (try simp only [h1, h2, h3, gv_true, gv_tt]); (try simp only [h1, h2, h3, gv_true, gv_tt, Bool.true_and]))
    | (apply st_if2; rfl; intro h1 h2; (try simp only [h1, h2, gv_true, gv_tt]))
    | (apply st_if; rfl; intro h1; (try simp only [h1, gv_true, gv_tt]))
    | (focus (first | (apply y_move; rfl; done) | (apply y_assign; rfl; done) | (apply y_not; rfl; done) | (apply y_load; rfl; (repeat (first | exact List.Mem.head _ | apply List.Mem.tail)); (repeat (first | exact Sub.nil | apply Sub.take | apply Sub.drop)); done) | (apply y_cell; rfl; (repeat (first | exact List.Mem.head _ | apply List.Mem.tail)); (repeat (first | exact At.hit | apply At.miss)); kernel_rfl; done) | (apply y_calls; rfl; rfl; rfl; assumption; done) | (apply y_scal; rfl; rfl; rfl; (repeat (first | exact List.Mem.head _ | apply List.Mem.tail)); assumption; done) | (apply y_and; rfl; rfl; done) | (apply y_or; rfl; rfl; done) | (apply y_and_f; rfl; done) | (apply y_or_t; rfl; done) | (apply y_extract; rfl; (repeat (first | exact At.hit | apply At.miss)); done) | (apply y_fagg; rfl; (repeat (first | exact Sub.nil | apply Sub.take | apply Sub.drop)); done) | (apply y_fcell; kernel_rfl; rfl; (repeat (first | exact At.hit | apply At.miss)); done) | (apply y_faddr; kernel_rfl; rfl; done) | (apply y_eq; rfl; rfl; done) | (apply y_ne; rfl; rfl; done) | (apply y_lt; rfl; rfl; done) | (apply y_le; rfl; rfl; done) | (apply y_gt; rfl; rfl; done) | (apply y_ge; rfl; rfl; done) | (apply y_add; rfl; rfl; done) | (apply y_sub; rfl; rfl; done) | (apply y_nes; rfl; rfl; kernel_rfl; exact inferInstance; done) | (apply y_eqs; rfl; rfl; kernel_rfl; exact inferInstance; done) | (apply y_beq; kernel_rfl; rfl; rfl; done) | (apply y_bne; kernel_rfl; rfl; rfl; done) | (apply y_min2; rfl; done) | (apply y_min3; rfl; done) | (apply y_max2; rfl; done) | (apply y_build; kernel_rfl; (repeat (first | exact Bld.nil | (apply Bld.cons; exact inferInstance; rfl; constructor; kernel_rfl; (focus ((simp only [setAt, List.set_cons_zero, List.set_cons_succ, Nat.zero_add, Nat.reduceAdd]); try rfl))))); done)))
    | refine q_nil ?_
    | refine s_nil ?_
    | refine w_seq ?_
    | refine f_then ?_
    | refine f_ret ?_
    | refine f_ret_block ?_
    | refine w_skip ?_
    | refine w_ret ?_
    | refine w_cond_f rfl ?_
    | refine w_cond_t rfl ?_
    | (apply w_cond_tt; rfl; assumption)
    | (apply w_cond_ff; rfl; assumption)
    | (apply f_end; rfl; rfl; intro w hw; first | exact ans hw | exact ans_b (by assumption) hw)
    | (apply f_ends; rfl; (repeat (first | exact Res.nil | (apply Res.tmp; rfl) | (apply Res.agg; exact inferInstance; rfl; (repeat (first | exact List.Mem.head _ | apply List.Mem.tail)); (repeat (first | exact Sub.nil | apply Sub.take | apply Sub.drop))) | (apply Res.cell; kernel_rfl; rfl; (repeat (first | exact List.Mem.head _ | apply List.Mem.tail)); (repeat (first | exact At.hit | apply At.miss))))); intro w hw; exact ans hw)
    | (apply f_ends1; rfl; (repeat (first | exact Res.nil | (apply Res.tmp; rfl) | (apply Res.agg; exact inferInstance; rfl; (repeat (first | exact List.Mem.head _ | apply List.Mem.tail)); (repeat (first | exact Sub.nil | apply Sub.take | apply Sub.drop))) | (apply Res.cell; kernel_rfl; rfl; (repeat (first | exact List.Mem.head _ | apply List.Mem.tail)); (repeat (first | exact At.hit | apply At.miss))))); intro w hw; exact ans hw)
    | (apply w_draw_l; kernel_rfl; rfl; kernel_rfl)
    | (apply w_mixed_l; kernel_rfl; kernel_rfl)
    | (apply g_st; intro W0)
    | refine g_done ?_
    | refine w_reg_l ?_
    | exact rfl)
end Go.Proofs.Ytbaeaiiohkfieaa.Hand
