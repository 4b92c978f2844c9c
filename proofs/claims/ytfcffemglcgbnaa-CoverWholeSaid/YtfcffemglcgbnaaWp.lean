/-
  The walks of package prefix.
-/
import Derived.Test.YtfcffemglcgbnaaWa
namespace Go.Proofs.Ytfcffemglcgbnaa.Hand
open Go.RowKit Go.Proofs.Ytfcffemglcgbnaa.Bits Go.Proofs.Ytfcffemglcgbnaa.Dig Go.Proofs.Ytfcffemglcgbnaa.Sq
set_option linter.unusedVariables false
set_option linter.unusedSimpArgs false
set_option maxRecDepth 100000
set_option maxHeartbeats 1000000
theorem u_mk (v6 : Bool) (d : Nat → Bool) : u64 (hiA v6 d) ∧ u64 (loA v6 d) := ⟨u_hiA v6 d, u_loA v6 d⟩
theorem bitA_at (hi lo : Int) (v6 : Bool) (i : Nat) : bitA hi lo v6 i = (decide (i < W v6) && D hi lo i) := by
  unfold bitA isI
  rw [Int.toNat_natCast]
  congr 1
  rw [decide_eq_decide]; omega
theorem set_s (v : Bool) (d : Nat → Bool) (i b : Int) : Cal Try.prog 141 [.agg #[.int .u64 (hiA v d), .int .u64 (loA v d), .bool v], .int .i64 i, .int .i64 b] (.agg #[.int .u64 (hiA v fun j => if (j : Int) = i then setv b else d j), .int .u64 (loA v fun j => if (j : Int) = i then setv b else d j), .bool v]) := by
  have e : ∀ j, j < W v → setA (hiA v d) (loA v d) v i b j = (fun j : Nat => if (j : Int) = i then setv b else d j) j := fun j hj => by
    unfold setA
    split
    · unfold setD
      dsimp only
      split
      · rfl
      · rw [D_mk]; simp [hj]
    · rename_i h
      have hne : ¬ ((j : Int) = i) := by
        intro e; subst e
        exact h (by unfold isI; simp; exact hj)
      dsimp only
      rw [if_neg hne, D_mk]; simp [hj]
  have h := set_as (u_mk v d) v i b
  rw [hi_congr e, lo_congr e] at h
  exact h
theorem of_s {a0 a1 : Int} (h : u64 a0 ∧ u64 a1) (a2 : Bool) (n : Int) : Cal Try.prog 19 [.agg #[.int .u64 a0, .int .u64 a1, .bool a2], .int .i64 n] (.agg #[.int .u64 (hiA a2 (cutd (D a0 a1) (clampW a2 n))), .int .u64 (loA a2 (cutd (D a0 a1) (clampW a2 n))), .bool a2, .int .i64 (((clampW a2 n) : Nat) : Int)]) := by
  have k1 := width_s a2
  have k2 := mask_s h a2 ((clampW a2 n : Nat) : Int)
  rw [maskA_cut] at k2
  have e : mx2 0 (mn2 n ((W a2 : Nat) : Int)) = ((clampW a2 n : Nat) : Int) := clampW_eq a2 n
  rw [← e] at k2
  refine Cal.of_eq (v' := .agg #[.int .u64 (hiA a2 (cutd (D a0 a1) (clampW a2 n))), .int .u64 (loA a2 (cutd (D a0 a1) (clampW a2 n))), .bool a2, .int .i64 (mx2 0 (mn2 n ((W a2 : Nat) : Int)))]) ?_ (by rw [e])
  clear e
  refine Cal.mk fun Wo => enter (F := fun _ => False) Try.func19 rfl Try.ntmps19 rfl ?_
  repeat (first | (apply s_box; rfl; constructor; rfl; intro _) | (apply s_alloc; rfl; intro _) | (apply s_store; rfl; rfl; (repeat (first | exact Plc.hit | apply Plc.miss)); constructor; (focus ((simp only [setAt, List.set_cons_zero, List.set_cons_succ, Nat.zero_add, Nat.reduceAdd, Nat.reduceMul]); try rfl)); kernel_rfl; rfl) | apply s_st | apply st_go | (focus (first | (apply y_move; rfl) | (apply y_assign; rfl) | (apply y_load; rfl; (repeat (first | exact List.Mem.head _ | apply List.Mem.tail)); (repeat (first | exact Sub.nil | apply Sub.take | apply Sub.drop)); done) | (apply y_cell; rfl; (repeat (first | exact List.Mem.head _ | apply List.Mem.tail)); (repeat (first | exact At.hit | apply At.miss)); kernel_rfl; done) | (apply y_calls; rfl; rfl; rfl; (first | assumption); done) | (apply y_faddr; kernel_rfl; rfl) | (apply y_min2; rfl) | (apply y_max2; rfl) | (apply y_build; kernel_rfl; (repeat (first | exact Bld.nil | (apply Bld.cons; exact inferInstance; rfl; constructor; kernel_rfl; (focus ((simp only [setAt, List.set_cons_zero, List.set_cons_succ, Nat.zero_add, Nat.reduceAdd, Nat.reduceMul]); try rfl))))); done))) | apply s_nil | apply w_seq | apply f_then | apply w_ret | (apply f_ends1; rfl; rfl; (repeat (first | exact Res.nil | (apply Res.tmp; rfl) | (apply Res.agg; exact inferInstance; rfl; (repeat (first | exact List.Mem.head _ | apply List.Mem.tail)); (repeat (first | exact Sub.nil | apply Sub.take | apply Sub.drop))) | (apply Res.cell; kernel_rfl; rfl; (repeat (first | exact List.Mem.head _ | apply List.Mem.tail)); (repeat (first | exact At.hit | apply At.miss))))); intro w hw; first | exact ans hw | (refine ans_b ?_ hw; (focus ((repeat (first | assumption | rfl | exact beq_self_eq_true _ | exact bne_self_eq_false _ | apply bOrF | apply bAndT | apply bNotF | apply bNotT | (focus (apply decide_eq_true; omega)) | (focus (apply decide_eq_false; omega)) | (focus (apply bEqT; omega)) | (focus (apply bEqF; omega)) | (focus (apply bNeT; omega)) | (focus (apply bNeF; omega)) | (focus (apply bOrT1; first | assumption | (apply decide_eq_true; omega))) | (focus (apply bOrT2; first | assumption | (apply decide_eq_true; omega))) | (focus (apply bAndF1; first | assumption | (apply decide_eq_false; omega))) | (focus (apply bAndF2; first | assumption | (apply decide_eq_false; omega))))); done)))) | (apply w_reg_l; rfl) | exact rfl)
noncomputable def eqOf (a0 a1 : Int) (a2 : Bool) (a3 b0 b1 : Int) (b2 : Bool) : Bool := (a0 == hiA b2 (cutd (D b0 b1) (clampW b2 a3)) && (a1 == loA b2 (cutd (D b0 b1) (clampW b2 a3)) && a2 == b2)) && a3 == ((clampW b2 a3 : Nat) : Int)
noncomputable def saneB (a0 a1 : Int) (a2 : Bool) (a3 : Int) : Bool := eqOf a0 a1 a2 a3 a0 a1 a2
noncomputable def contB (a0 a1 : Int) (a2 : Bool) (a3 b0 b1 : Int) (b2 : Bool) : Bool := saneB a0 a1 a2 a3 && eqOf a0 a1 a2 a3 b0 b1 b2
noncomputable def covB (a0 a1 : Int) (a2 : Bool) (a3 b0 b1 : Int) (b2 : Bool) (b3 : Int) : Bool := (decide (a3 ≤ b3) && saneB b0 b1 b2 b3) && contB a0 a1 a2 a3 b0 b1 b2
def eqP (a0 a1 : Int) (a2 : Bool) (a3 b0 b1 : Int) (b2 : Bool) (b3 : Int) : Bool := (a0 == b0 && (a1 == b1 && a2 == b2)) && a3 == b3
noncomputable def insB (a0 a1 : Int) (a2 : Bool) (a3 b0 b1 : Int) (b2 : Bool) (b3 : Int) : Bool := (!eqP a0 a1 a2 a3 b0 b1 b2 b3) && covB a0 a1 a2 a3 b0 b1 b2 b3
theorem sane_s {a0 a1 : Int} (ha : u64 a0 ∧ u64 a1) (a2 : Bool) (a3 : Int) : Cal Try.prog 30 [.agg #[.int .u64 a0, .int .u64 a1, .bool a2, .int .i64 a3]] (.bool (saneB a0 a1 a2 a3)) := by
  refine Cal.mk fun Wo => enter (F := fun _ => False) Try.func30 rfl Try.ntmps30 rfl ?_
  have k1 := of_s ha a2 a3
  repeat (first | (apply s_box; rfl; constructor; rfl; intro _) | apply s_st | apply q_st | apply st_go | (focus (first | (apply y_assign; rfl) | (apply y_load; rfl; (repeat (first | exact List.Mem.head _ | apply List.Mem.tail)); (repeat (first | exact Sub.nil | apply Sub.take | apply Sub.drop)); done) | (apply y_cell; rfl; (repeat (first | exact List.Mem.head _ | apply List.Mem.tail)); (repeat (first | exact At.hit | apply At.miss)); kernel_rfl; done) | (apply y_calls; rfl; rfl; rfl; (first | assumption); done) | (apply y_faddr; kernel_rfl; rfl) | (apply y_eqs; rfl; rfl; kernel_rfl; exact inferInstance))) | apply q_nil | apply s_nil | apply w_seq | apply f_then | apply w_ret | (apply f_end; rfl; rfl; rfl; intro w hw; first | exact ans hw | (refine ans_b ?_ hw; (focus ((repeat (first | assumption | rfl | exact beq_self_eq_true _ | exact bne_self_eq_false _ | apply bOrF | apply bAndT | apply bNotF | apply bNotT | (focus (apply decide_eq_true; omega)) | (focus (apply decide_eq_false; omega)) | (focus (apply bEqT; omega)) | (focus (apply bEqF; omega)) | (focus (apply bNeT; omega)) | (focus (apply bNeF; omega)) | (focus (apply bOrT1; first | assumption | (apply decide_eq_true; omega))) | (focus (apply bOrT2; first | assumption | (apply decide_eq_true; omega))) | (focus (apply bAndF1; first | assumption | (apply decide_eq_false; omega))) | (focus (apply bAndF2; first | assumption | (apply decide_eq_false; omega))))); done)))) | (apply w_draw_l; rfl; kernel_rfl; rfl; kernel_rfl) | (apply w_reg_l; rfl) | exact rfl)
theorem contains_s {a0 a1 b0 b1 : Int} (ha : u64 a0 ∧ u64 a1) (hb : u64 b0 ∧ u64 b1) (a2 : Bool) (a3 : Int) (b2 : Bool) : Cal Try.prog 51 [.agg #[.int .u64 a0, .int .u64 a1, .bool a2, .int .i64 a3], .agg #[.int .u64 b0, .int .u64 b1, .bool b2]] (.bool (contB a0 a1 a2 a3 b0 b1 b2)) := by
  refine Cal.mk fun Wo => enter (F := fun _ => False) Try.func51 rfl Try.ntmps51 rfl ?_
  have k1 := sane_s ha a2 a3
  have k2 := of_s hb b2 a3
  repeat (first | (apply s_box; rfl; constructor; rfl; intro _) | apply s_st | apply q_st | apply st_go | (apply st_if; rfl; intro h1; (try simp only [h1, gv_true, gv_tt])) | (focus (first | (apply y_move; rfl) | (apply y_assign; rfl) | (apply y_load; rfl; (repeat (first | exact List.Mem.head _ | apply List.Mem.tail)); (repeat (first | exact Sub.nil | apply Sub.take | apply Sub.drop)); done) | (apply y_cell; rfl; (repeat (first | exact List.Mem.head _ | apply List.Mem.tail)); (repeat (first | exact At.hit | apply At.miss)); kernel_rfl; done) | (apply y_calls; rfl; rfl; rfl; (first | assumption); done) | (apply y_and; rfl; rfl; done) | (apply y_faddr; kernel_rfl; rfl) | (apply y_eqs; rfl; rfl; kernel_rfl; exact inferInstance))) | apply q_nil | apply s_nil | apply w_seq | apply f_then | apply w_ret | (apply f_end; rfl; rfl; rfl; intro w hw; first | exact ans hw | (refine ans_b ?_ hw; (focus ((repeat (first | assumption | rfl | exact beq_self_eq_true _ | exact bne_self_eq_false _ | apply bOrF | apply bAndT | apply bNotF | apply bNotT | (focus (apply decide_eq_true; omega)) | (focus (apply decide_eq_false; omega)) | (focus (apply bEqT; omega)) | (focus (apply bEqF; omega)) | (focus (apply bNeT; omega)) | (focus (apply bNeF; omega)) | (focus (apply bOrT1; first | assumption | (apply decide_eq_true; omega))) | (focus (apply bOrT2; first | assumption | (apply decide_eq_true; omega))) | (focus (apply bAndF1; first | assumption | (apply decide_eq_false; omega))) | (focus (apply bAndF2; first | assumption | (apply decide_eq_false; omega))))); done)))) | (apply w_draw_l; rfl; kernel_rfl; rfl; kernel_rfl) | (apply w_reg_l; rfl) | exact rfl)
theorem covers_s {a0 a1 b0 b1 : Int} (ha : u64 a0 ∧ u64 a1) (hb : u64 b0 ∧ u64 b1) (a2 : Bool) (a3 : Int) (b2 : Bool) (b3 : Int) : Cal Try.prog 17 [.agg #[.int .u64 a0, .int .u64 a1, .bool a2, .int .i64 a3], .agg #[.int .u64 b0, .int .u64 b1, .bool b2, .int .i64 b3]] (.bool (covB a0 a1 a2 a3 b0 b1 b2 b3)) := by
  refine Cal.mk fun Wo => enter (F := fun _ => False) Try.func17 rfl Try.ntmps17 rfl ?_
  have k1 := sane_s hb b2 b3
  have k2 := contains_s ha hb a2 a3 b2
  repeat (first | (apply s_box; rfl; constructor; rfl; intro _) | apply s_st | apply st_go | (apply st_if; rfl; intro h1; (try simp only [h1, gv_true, gv_tt])) | (focus (first | (apply y_move; rfl) | (apply y_assign; rfl) | (apply y_load; rfl; (repeat (first | exact List.Mem.head _ | apply List.Mem.tail)); (repeat (first | exact Sub.nil | apply Sub.take | apply Sub.drop)); done) | (apply y_cell; rfl; (repeat (first | exact List.Mem.head _ | apply List.Mem.tail)); (repeat (first | exact At.hit | apply At.miss)); kernel_rfl; done) | (apply y_calls; rfl; rfl; rfl; (first | assumption); done) | (apply y_and; rfl; rfl; done) | (apply y_faddr; kernel_rfl; rfl) | (apply y_le; rfl; rfl))) | apply s_nil | apply w_seq | apply f_then | apply w_ret | (apply f_end; rfl; rfl; rfl; intro w hw; first | exact ans hw | (refine ans_b ?_ hw; (focus ((repeat (first | assumption | rfl | exact beq_self_eq_true _ | exact bne_self_eq_false _ | apply bOrF | apply bAndT | apply bNotF | apply bNotT | (focus (apply decide_eq_true; omega)) | (focus (apply decide_eq_false; omega)) | (focus (apply bEqT; omega)) | (focus (apply bEqF; omega)) | (focus (apply bNeT; omega)) | (focus (apply bNeF; omega)) | (focus (apply bOrT1; first | assumption | (apply decide_eq_true; omega))) | (focus (apply bOrT2; first | assumption | (apply decide_eq_true; omega))) | (focus (apply bAndF1; first | assumption | (apply decide_eq_false; omega))) | (focus (apply bAndF2; first | assumption | (apply decide_eq_false; omega))))); done)))) | (apply w_reg_l; rfl) | exact rfl)
def putd (d : Nat → Bool) (c : Nat) (b : Bool) (j : Nat) : Bool := if j = c then b else d j
theorem cut_put (d : Nat → Bool) (c : Nat) (b : Bool) : (fun j : Nat => if (j : Int) = ((c : Nat) : Int) then b else cutd d c j) = cutd (putd d c b) (c + 1) := funext fun j => by
  unfold cutd putd
  by_cases h : j = c
  · subst h; simp
  · rw [if_neg (by omega), if_neg h, show decide (j < c + 1) = decide (j < c) by rw [decide_eq_decide]; omega]
theorem wrap_nat (x : Int) (h0 : -9223372036854775808 ≤ x) (h : x < 9223372036854775808) : IntKind.i64.wrap x = x := by rw [IntWalk.i64_in _ (by omega)]
theorem eqOf_pk (v : Bool) (d : Nat → Bool) (c : Nat) (hc : c ≤ W v) (b0 b1 : Int) (u : Bool) : eqOf (hiA v (cutd d c)) (loA v (cutd d c)) v c b0 b1 u = conD v d c u (D b0 b1) := eq_pk v d c hc u (D b0 b1)
theorem conD_cut (v : Bool) (d : Nat → Bool) (c : Nat) (hc : c ≤ W v) (u : Bool) (e : Nat → Bool) (m : Nat) (h : c ≤ m) : conD v d c u (D (hiA u (cutd e m)) (loA u (cutd e m))) = conD v d c u e :=
  conD_congr fun hv i hi => by subst hv; rw [D_cut v e m i (by omega), cutd_lt (by omega)]
theorem saneB_pk (v : Bool) (d : Nat → Bool) (c : Nat) (hc : c ≤ W v) : saneB (hiA v (cutd d c)) (loA v (cutd d c)) v c = true := by
  unfold saneB
  rw [eqOf_pk v d c hc, conD_cut v d c hc v d c (Nat.le_refl _), conD_self]
theorem contB_pk (v : Bool) (d : Nat → Bool) (c : Nat) (hc : c ≤ W v) (b0 b1 : Int) (u : Bool) : contB (hiA v (cutd d c)) (loA v (cutd d c)) v c b0 b1 u = conD v d c u (D b0 b1) := by
  unfold contB
  rw [saneB_pk v d c hc, eqOf_pk v d c hc, Bool.true_and]
theorem covB_pk (v : Bool) (d : Nat → Bool) (c : Nat) (hc : c ≤ W v) (u : Bool) (e : Nat → Bool) (m : Nat) (hm : m ≤ W u) : covB (hiA v (cutd d c)) (loA v (cutd d c)) v c (hiA u (cutd e m)) (loA u (cutd e m)) u m = (decide (c ≤ m) && conD v d c u e) := by
  unfold covB
  rw [saneB_pk u e m hm, contB_pk v d c hc, Bool.and_true, show decide ((c : Int) ≤ (m : Int)) = decide (c ≤ m) by rw [decide_eq_decide]; omega]
  by_cases h : c ≤ m
  · rw [conD_cut v d c hc u e m h]
  · rw [decide_eq_false h, Bool.false_and, Bool.false_and]
theorem eqP_pk (v : Bool) (d : Nat → Bool) (c : Nat) (hc : c ≤ W v) (u : Bool) (e : Nat → Bool) (m : Nat) (hm : m ≤ W u) : eqP (hiA v (cutd d c)) (loA v (cutd d c)) v c (hiA u (cutd e m)) (loA u (cutd e m)) u m = (decide (c = m) && conD v d c u e) := by
  unfold eqP
  rw [Bool.eq_iff_iff]
  simp only [Bool.and_eq_true, beq_iff_eq, decide_eq_true_iff, conD_true]
  constructor
  · rintro ⟨⟨h1, h2, rfl⟩, h3⟩
    obtain rfl : c = m := by omega
    refine ⟨rfl, rfl, fun i hi => ?_⟩
    have := mk_inj h1 h2 i (by omega)
    rwa [cutd_lt hi, cutd_lt hi] at this
  · rintro ⟨rfl, rfl, h⟩
    have k : ∀ i, i < W v → cutd d c i = cutd e c i := fun i _ => by
      by_cases hi : i < c
      · rw [cutd_lt hi, cutd_lt hi, h i hi]
      · rw [cutd_ge (by omega), cutd_ge (by omega)]
    exact ⟨⟨hi_congr k, lo_congr k, rfl⟩, rfl⟩
theorem saneB_ex {a0 a1 : Int} {v : Bool} {n : Int} (h : saneB a0 a1 v n = true) : ∃ c : Nat, c ≤ W v ∧ n = c ∧ a0 = hiA v (cutd (D a0 a1) c) ∧ a1 = loA v (cutd (D a0 a1) c) := by
  unfold saneB eqOf at h
  simp only [Bool.and_eq_true, beq_iff_eq, and_true] at h
  exact ⟨clampW v n, clampW_le v n, h.2, h.1.1, h.1.2⟩
theorem sane_pk (v : Bool) (d : Nat → Bool) (c : Nat) (hc : c ≤ W v) : Cal Try.prog 30 [.agg #[.int .u64 (hiA v (cutd d c)), .int .u64 (loA v (cutd d c)), .bool v, .int .i64 ((c : Nat) : Int)]] (.bool true) := by
  have h := sane_s (u_mk v (cutd d c)) v (c : Int)
  rw [saneB_pk v d c hc] at h
  exact h

/-! ### The walks -/
theorem child_pk (v : Bool) (d : Nat → Bool) (c : Nat) (hc : c < W v) (b : Int) : Cal Try.prog 110 [.agg #[.int .u64 (hiA v (cutd d c)), .int .u64 (loA v (cutd d c)), .bool v, .int .i64 ((c : Nat) : Int)], .int .i64 b] (.tuple #[.agg #[.int .u64 (hiA v (cutd (putd d c (setv b)) (c + 1))), .int .u64 (loA v (cutd (putd d c (setv b)) (c + 1))), .bool v, .int .i64 (((c + 1) : Nat) : Int)], .bool true]) := by
  have hW := W_le v
  refine Cal.mk fun Wo => enter (F := fun _ => False) Try.func110 rfl Try.ntmps110 rfl ?_
  have k1 := sane_pk v d c (by omega)
  have k2 := width_s v
  have k3 := set_s v (cutd d c) (c : Int) b
  rw [cut_put] at k3
  have hE : ((!true) || ((c : Int) == ((W v : Nat) : Int))) = false := by simp <;> omega
  have hw : IntKind.i64.wrap ((c : Int) + 1) = ((c + 1 : Nat) : Int) := by rw [wrap_nat _ (by omega) (by omega)]; rfl
  rw [← hw]
  repeat (first | (apply s_box; rfl; constructor; rfl; intro _) | (apply s_alloc; rfl; intro _) | (apply s_store; rfl; rfl; (repeat (first | exact Plc.hit | apply Plc.miss)); constructor; (focus ((simp only [setAt, List.set_cons_zero, List.set_cons_succ, Nat.zero_add, Nat.reduceAdd, Nat.reduceMul]); try rfl)); kernel_rfl; rfl) | apply s_st | apply q_st | apply st_go | (apply st_on; rfl) | (focus (first | (apply y_move; rfl) | (apply y_assign; rfl) | (apply y_not; rfl) | (apply y_load; rfl; (repeat (first | exact List.Mem.head _ | apply List.Mem.tail)); (repeat (first | exact Sub.nil | apply Sub.take | apply Sub.drop)); done) | (apply y_cell; rfl; (repeat (first | exact List.Mem.head _ | apply List.Mem.tail)); (repeat (first | exact At.hit | apply At.miss)); kernel_rfl; done) | (apply y_calls; rfl; rfl; rfl; (first | assumption); done) | (apply y_or; rfl; rfl; done) | (apply y_faddr; kernel_rfl; rfl) | (apply y_eq; rfl; rfl) | (apply y_add; rfl; rfl) | (apply y_build; kernel_rfl; (repeat (first | exact Bld.nil | (apply Bld.cons; exact inferInstance; rfl; constructor; kernel_rfl; (focus ((simp only [setAt, List.set_cons_zero, List.set_cons_succ, Nat.zero_add, Nat.reduceAdd, Nat.reduceMul]); try rfl))))); done))) | apply q_nil | apply s_nil | apply w_seq | apply f_then | apply w_skip | apply w_ret | (apply w_cond_ff; rfl; assumption) | (apply f_ends; rfl; rfl; (repeat (first | exact Res.nil | (apply Res.tmp; rfl) | (apply Res.agg; exact inferInstance; rfl; (repeat (first | exact List.Mem.head _ | apply List.Mem.tail)); (repeat (first | exact Sub.nil | apply Sub.take | apply Sub.drop))) | (apply Res.cell; kernel_rfl; rfl; (repeat (first | exact List.Mem.head _ | apply List.Mem.tail)); (repeat (first | exact At.hit | apply At.miss))))); intro w hw; first | exact ans hw | (refine ans_b ?_ hw; (focus ((repeat (first | assumption | rfl | exact beq_self_eq_true _ | exact bne_self_eq_false _ | apply bOrF | apply bAndT | apply bNotF | apply bNotT | (focus (apply decide_eq_true; omega)) | (focus (apply decide_eq_false; omega)) | (focus (apply bEqT; omega)) | (focus (apply bEqF; omega)) | (focus (apply bNeT; omega)) | (focus (apply bNeF; omega)) | (focus (apply bOrT1; first | assumption | (apply decide_eq_true; omega))) | (focus (apply bOrT2; first | assumption | (apply decide_eq_true; omega))) | (focus (apply bAndF1; first | assumption | (apply decide_eq_false; omega))) | (focus (apply bAndF2; first | assumption | (apply decide_eq_false; omega))))); done)))) | (apply w_draw_l; rfl; kernel_rfl; rfl; kernel_rfl) | (apply w_mixed_r rfl 3 [0, 1, 2, 3, 4, 6, 7, 8, 5] [0, 0, 0, 0, 0, 0, 0, 0, 2] _ ; kernel_rfl; kernel_rfl; exact List.Sublist.refl _; rfl) | (apply g_st1; rfl; intro W0) | (apply g_st; rfl; intro W0) | apply g_done | (apply w_reg_l; rfl) | exact rfl)
noncomputable def pcompA (a0 a1 : Int) (a2 : Bool) (a3 b0 b1 : Int) (b2 : Bool) (b3 : Int) : Int := if compA a0 a1 a2 b0 b1 b2 = 0 then c3 a3 b3 else compA a0 a1 a2 b0 b1 b2
theorem from_s (l : List Int) (v6 : Bool) (hl : l.length = if v6 then 16 else 4) (h : ∀ i : Nat, i < l.length → 0 ≤ rd l i ∧ rd l i < 256) (A : Option Addr) (c : Nat) :
    RCal Try.prog 63 [.slice A l.length c] [.vw A c 1 (l.map u8c)] (.tuple #[.agg #[.int .u64 (hiA v6 (byD l)), .int .u64 (loA v6 (byD l)), .bool v6], .int .i64 0]) := by
  have h := from_l l v6 hl h A c
  cases v6 with
  | false =>
    have e : l.length = 4 := by simpa using hl
    rw [e] at h ⊢
    rw [(fr4 l).1, (fr4 l).2] at h
    exact h
  | true =>
    have e : l.length = 16 := by simpa using hl
    rw [e] at h ⊢
    rw [(fr16 l).1, (fr16 l).2] at h
    exact h
end Go.Proofs.Ytfcffemglcgbnaa.Hand
