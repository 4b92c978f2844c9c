/-
  PrefixOrder: prefixes stand in one order.
-/
import Derived.Test.YtbaeaiiohkfieaaPreU
namespace Go.Proofs.Ytbaeaiiohkfieaa.Sq
theorem y_neg {P : Program} {n : Nat} {C : World → Prop} {L : Slots} {dst : Option Nat} {pos : String} {ty : TypeId} {af : Array Edge} {gd : Option (Nat × Bool)} {x : Operand} {k : IntKind} {a : Int} {t : TypeId} (hx : opv L x = some (.int k a)) : Yld P n C L ⟨dst, .unOp .neg t x, ty, pos, af, gd⟩ (.int k (k.wrap (0 - a))) :=
  y_run fun ac ha w hw => by cases k <;> simp [execOp, ev ha hx, Op.unary, Op.intArith]
end Go.Proofs.Ytbaeaiiohkfieaa.Sq
namespace Go.Proofs.Ytbaeaiiohkfieaa.Hand
open Go.RowKit Go.Proofs.YtbaeaiiohkfieaaW.PrintWords Go.Proofs.YtbaeaiiohkfieaaW.PrintLast Go.Proofs.Ytbaeaiiohkfieaa.Bits Go.Proofs.Ytbaeaiiohkfieaa.Dig Go.Proofs.Ytbaeaiiohkfieaa.Sq
set_option linter.unusedVariables false
set_option linter.unusedSimpArgs false
set_option maxRecDepth 100000
set_option maxHeartbeats 4000000

/-! ### The walks -/
theorem pord_ok (a0 a1 : Int) (a2 : Bool) (a3 : Int) (b0 b1 : Int) (b2 : Bool) (b3 : Int) (c0 c1 : Int) (c2 : Bool) (c3 : Int) (x y z w t : Int) (u1 u2 s1 s2 : Bool)
    (g1 : Cal Try.prog 39 [.agg #[.int .u64 a0, .int .u64 a1, .bool a2, .int .i64 a3], .agg #[.int .u64 b0, .int .u64 b1, .bool b2, .int .i64 b3]] (.int .i64 x)) (g2 : Cal Try.prog 39 [.agg #[.int .u64 b0, .int .u64 b1, .bool b2, .int .i64 b3], .agg #[.int .u64 a0, .int .u64 a1, .bool a2, .int .i64 a3]] (.int .i64 y)) (g3 : Cal Try.prog 39 [.agg #[.int .u64 b0, .int .u64 b1, .bool b2, .int .i64 b3], .agg #[.int .u64 c0, .int .u64 c1, .bool c2, .int .i64 c3]] (.int .i64 z)) (g4 : Cal Try.prog 39 [.agg #[.int .u64 a0, .int .u64 a1, .bool a2, .int .i64 a3], .agg #[.int .u64 c0, .int .u64 c1, .bool c2, .int .i64 c3]] (.int .i64 w))
    (g5 : Cal Try.prog 33 [.agg #[.int .u64 a0, .int .u64 a1, .bool a2, .int .i64 a3], .agg #[.int .u64 b0, .int .u64 b1, .bool b2, .int .i64 b3]] (.bool u1)) (g6 : Cal Try.prog 34 [.agg #[.int .u64 a0, .int .u64 a1, .bool a2, .int .i64 a3], .agg #[.int .u64 b0, .int .u64 b1, .bool b2, .int .i64 b3]] (.bool u2)) (g7 : Cal Try.prog 29 [.agg #[.int .u64 a0, .int .u64 a1, .bool a2], .agg #[.int .u64 b0, .int .u64 b1, .bool b2]] (.int .i64 t))
    (h1 : Cal Try.prog 32 [.agg #[.int .u64 a0, .int .u64 a1, .bool a2, .int .i64 a3]] (.bool s1)) (h2 : Cal Try.prog 32 [.agg #[.int .u64 b0, .int .u64 b1, .bool b2, .int .i64 b3]] (.bool s2))
    (hE1 : (x != IntKind.i64.wrap (0 - y) || decide (x ≤ 0) && decide (z ≤ 0) && decide (w > 0)) = false)
    (hE2 : (u1 && decide (x > 0) || u2 && (x != t)) = false)
    (hF : (true && ((!s1 || !s2) || ((x == 0) == ((a0 == b0 && (a1 == b1 && a2 == b2)) && a3 == b3)))) = true) :
    Cal Try.prog 11 [.agg #[.int .u64 a0, .int .u64 a1, .bool a2, .int .i64 a3], .agg #[.int .u64 b0, .int .u64 b1, .bool b2, .int .i64 b3], .agg #[.int .u64 c0, .int .u64 c1, .bool c2, .int .i64 c3]] (.bool true) := by
  refine Cal.mk fun Wo => enter (F := fun _ => False) Try.func11 rfl Try.ntmps11 rfl ?_
  have k0 := awake02_s
  repeat (first
    | (apply s_box; rfl; constructor; rfl; intro _)
    | (apply s_alloc; rfl; intro _)
    | (apply s_bslice; rfl; assumption; rfl; intro _)
    | (apply s_store; rfl; rfl; (repeat (first | exact List.Mem.head _ | apply List.Mem.tail)); constructor; (focus ((simp only [setAt, List.set_cons_zero, List.set_cons_succ, Nat.zero_add, Nat.reduceAdd]); try rfl)); (repeat (first | exact MUpd.hit | apply MUpd.miss)); kernel_rfl; rfl)
    | (apply g_new; rfl; intro _)
    | apply s_st
    | apply q_st
    | apply st_go
    | (apply st_off; rfl)
    | (apply st_on; rfl)
    | (apply st_if4; rfl; intro h1 h2 h3 h4; (try simp only [h1, h2, h3, h4, gv_true, gv_tt]); (try simp only [h1, h2, h3, h4, gv_true, gv_tt, Bool.true_and]))
    | (apply st_if3; rfl; intro h1 h2 h3; (try simp only [h1, h2, h3, gv_true, gv_tt]); (try simp only [h1, h2, h3, gv_true, gv_tt, Bool.true_and]))
    | (apply st_if2; rfl; intro h1 h2; (try simp only [h1, h2, gv_true, gv_tt]))
    | (apply st_if; rfl; intro h1; (try simp only [h1, gv_true, gv_tt]))
    | (focus (first | (apply y_move; rfl; done) | (apply y_assign; rfl; done) | (apply y_not; rfl; done) | (apply y_neg; rfl; done) | (apply y_load; rfl; (repeat (first | exact List.Mem.head _ | apply List.Mem.tail)); (repeat (first | exact Sub.nil | apply Sub.take | apply Sub.drop)); done) | (apply y_cell; rfl; (repeat (first | exact List.Mem.head _ | apply List.Mem.tail)); (repeat (first | exact At.hit | apply At.miss)); kernel_rfl; done) | (apply y_calls; rfl; rfl; rfl; assumption; done) | (apply y_scal; rfl; rfl; rfl; (repeat (first | exact List.Mem.head _ | apply List.Mem.tail)); assumption; done) | (apply y_and; rfl; rfl; done) | (apply y_or; rfl; rfl; done) | (apply y_and_f; rfl; done) | (apply y_or_t; rfl; done) | (apply y_extract; rfl; (repeat (first | exact At.hit | apply At.miss)); done) | (apply y_fagg; rfl; (repeat (first | exact Sub.nil | apply Sub.take | apply Sub.drop)); done) | (apply y_fcell; kernel_rfl; rfl; (repeat (first | exact At.hit | apply At.miss)); done) | (apply y_faddr; kernel_rfl; rfl; done) | (apply y_eq; rfl; rfl; done) | (apply y_ne; rfl; rfl; done) | (apply y_lt; rfl; rfl; done) | (apply y_le; rfl; rfl; done) | (apply y_gt; rfl; rfl; done) | (apply y_ge; rfl; rfl; done) | (apply y_add; rfl; rfl; done) | (apply y_sub; rfl; rfl; done) | (apply y_nes; rfl; rfl; kernel_rfl; exact inferInstance; done) | (apply y_eqs; rfl; rfl; kernel_rfl; exact inferInstance; done) | (apply y_beq; kernel_rfl; rfl; rfl; done) | (apply y_bne; kernel_rfl; rfl; rfl; done) | (apply y_min2; rfl; done) | (apply y_min3; rfl; done) | (apply y_max2; rfl; done) | (apply y_build; kernel_rfl; (repeat (first | exact Bld.nil | (apply Bld.cons; exact inferInstance; rfl; constructor; kernel_rfl; (focus ((simp only [setAt, List.set_cons_zero, List.set_cons_succ, Nat.zero_add, Nat.reduceAdd]); try rfl))))); done)))
    | refine q_nil ?_
    | refine s_nil ?_
    | refine w_seq ?_
    | refine f_then ?_
    | refine f_ret ?_
    | refine f_ret_block ?_
    | refine w_skip ?_
    | refine w_ret ?_
    | refine w_cond_f rfl ?_
    | refine w_cond_t rfl ?_
    | (apply w_cond_tt; rfl; assumption)
    | (apply w_cond_ff; rfl; assumption)
    | (apply f_end; rfl; rfl; intro w hw; first | exact ans hw | exact ans_b (by assumption) hw)
    | (apply f_ends; rfl; (repeat (first | exact Res.nil | (apply Res.tmp; rfl) | (apply Res.agg; exact inferInstance; rfl; (repeat (first | exact List.Mem.head _ | apply List.Mem.tail)); (repeat (first | exact Sub.nil | apply Sub.take | apply Sub.drop))) | (apply Res.cell; kernel_rfl; rfl; (repeat (first | exact List.Mem.head _ | apply List.Mem.tail)); (repeat (first | exact At.hit | apply At.miss))))); intro w hw; exact ans hw)
    | (apply f_ends1; rfl; (repeat (first | exact Res.nil | (apply Res.tmp; rfl) | (apply Res.agg; exact inferInstance; rfl; (repeat (first | exact List.Mem.head _ | apply List.Mem.tail)); (repeat (first | exact Sub.nil | apply Sub.take | apply Sub.drop))) | (apply Res.cell; kernel_rfl; rfl; (repeat (first | exact List.Mem.head _ | apply List.Mem.tail)); (repeat (first | exact At.hit | apply At.miss))))); intro w hw; exact ans hw)
    | (apply w_draw_l; kernel_rfl; rfl; kernel_rfl)
    | (apply w_mixed_l; kernel_rfl; kernel_rfl)
    | (apply g_st; intro W0)
    | refine g_done ?_
    | refine w_reg_l ?_
    | exact rfl)
/-! ### The plain law -/
theorem c3_rng (a b : Int) : -1 ≤ c3 a b ∧ c3 a b ≤ 1 := by unfold c3; split <;> (try split) <;> omega
theorem comp_rng (a0 a1 : Int) (a2 : Bool) (b0 b1 : Int) (b2 : Bool) : -1 ≤ compA a0 a1 a2 b0 b1 b2 ∧ compA a0 a1 a2 b0 b1 b2 ≤ 1 := by
  by_cases h : a2 = b2
  · subst h; rw [comp_val]; exact c3_rng _ _
  · rw [comp_diff _ _ _ _ _ _ h]; split <;> decide
theorem comp_neg (a0 a1 : Int) (a2 : Bool) (b0 b1 : Int) (b2 : Bool) : compA a0 a1 a2 b0 b1 b2 = -compA b0 b1 b2 a0 a1 a2 := by
  by_cases h : a2 = b2
  · subst h; rw [comp_val, comp_val]; exact c3_neg _ _
  · rw [comp_diff _ _ _ _ _ _ h, comp_diff _ _ _ _ _ _ (fun e => h e.symm)]
    cases a2 <;> cases b2 <;> simp_all
theorem comp_trans (a0 a1 : Int) (a2 : Bool) (b0 b1 : Int) (b2 : Bool) (c0 c1 : Int) (c2 : Bool) (h1 : compA a0 a1 a2 b0 b1 b2 ≤ 0) (h2 : compA b0 b1 b2 c0 c1 c2 ≤ 0) : compA a0 a1 a2 c0 c1 c2 ≤ 0 := by
  by_cases ab : a2 = b2
  · subst ab
    by_cases bc : a2 = c2
    · subst bc
      rw [comp_val, c3_le] at *
      omega
    · rw [comp_diff _ _ _ _ _ _ bc] at h2 ⊢
      omega
  · rw [comp_diff _ _ _ _ _ _ ab] at h1
    by_cases bc : b2 = c2
    · subst bc
      rw [comp_diff _ _ _ _ _ _ ab]
      omega
    · rw [comp_diff _ _ _ _ _ _ bc] at h2
      cases a2 <;> cases b2 <;> cases c2 <;> simp_all
theorem comp_alike {a0 a1 : Int} {a2 : Bool} {b0 b1 : Int} {b2 : Bool} : compA a0 a1 a2 b0 b1 b2 = 0 ↔ a2 = b2 ∧ ∀ i, i < W a2 → D a0 a1 i = D b0 b1 i := by
  by_cases h : a2 = b2
  · subst h
    have ha := cmn_alike (D a0 a1) (D b0 b1) (W a2)
    have he := cmn_end (D a0 a1) (D b0 b1) (W a2)
    have hl := cmn_le (D a0 a1) (D b0 b1) (W a2)
    rw [comp_same]
    constructor
    · intro h
      refine ⟨rfl, ?_⟩
      generalize cmn (D a0 a1) (D b0 b1) (W a2) = K at *
      by_cases c : K = W a2
      · rw [c] at ha; exact ha
      · rw [if_neg c] at h
        have := he (by omega)
        exfalso
        revert h this
        generalize D a0 a1 K = p
        generalize D b0 b1 K = q
        revert p q
        decide
    · rintro ⟨-, h⟩
      rw [if_pos (cmn_all h)]
  · rw [comp_diff _ _ _ _ _ _ h]
    constructor
    · intro h'; exfalso; revert h'; split <;> decide
    · intro h'; exact absurd h'.1 h
theorem pc_neg (a0 a1 : Int) (a2 : Bool) (a3 : Int) (b0 b1 : Int) (b2 : Bool) (b3 : Int) : pcompA a0 a1 a2 a3 b0 b1 b2 b3 = -pcompA b0 b1 b2 b3 a0 a1 a2 a3 := by
  unfold pcompA or2
  rw [comp_neg a0 a1 a2 b0 b1 b2, c3_neg a3 b3]
  by_cases h : compA b0 b1 b2 a0 a1 a2 = 0
  · rw [if_pos h, if_pos (by omega)]
  · rw [if_neg h, if_neg (by omega)]
theorem pc_rng (a0 a1 : Int) (a2 : Bool) (a3 : Int) (b0 b1 : Int) (b2 : Bool) (b3 : Int) : -1 ≤ pcompA a0 a1 a2 a3 b0 b1 b2 b3 ∧ pcompA a0 a1 a2 a3 b0 b1 b2 b3 ≤ 1 := by
  unfold pcompA or2
  split
  · exact c3_rng _ _
  · exact comp_rng _ _ _ _ _ _
theorem pc_le {a0 a1 : Int} {a2 : Bool} {a3 b0 b1 : Int} {b2 : Bool} {b3 : Int} : pcompA a0 a1 a2 a3 b0 b1 b2 b3 ≤ 0 ↔ compA a0 a1 a2 b0 b1 b2 < 0 ∨ (compA a0 a1 a2 b0 b1 b2 = 0 ∧ a3 ≤ b3) := by
  unfold pcompA or2
  by_cases h : compA a0 a1 a2 b0 b1 b2 = 0
  · rw [if_pos h, c3_le]; omega
  · rw [if_neg h]; omega
theorem pc_trans {a0 a1 : Int} {a2 : Bool} {a3 b0 b1 : Int} {b2 : Bool} {b3 c0 c1 : Int} {c2 : Bool} {c3 : Int} (h1 : pcompA a0 a1 a2 a3 b0 b1 b2 b3 ≤ 0) (h2 : pcompA b0 b1 b2 b3 c0 c1 c2 c3 ≤ 0) : pcompA a0 a1 a2 a3 c0 c1 c2 c3 ≤ 0 := by
  rw [pc_le] at *
  have t1 := comp_trans a0 a1 a2 b0 b1 b2 c0 c1 c2 (by omega) (by omega)
  have n1 := comp_neg a0 a1 a2 c0 c1 c2
  have n2 := comp_neg a0 a1 a2 b0 b1 b2
  have n3 := comp_neg b0 b1 b2 c0 c1 c2
  by_cases h : compA a0 a1 a2 c0 c1 c2 = 0
  · have t2 := comp_trans b0 b1 b2 c0 c1 c2 a0 a1 a2 (by omega) (by omega)
    have t3 := comp_trans c0 c1 c2 a0 a1 a2 b0 b1 b2 (by omega) (by omega)
    omega
  · omega
theorem pord_first (a0 a1 : Int) (a2 : Bool) (a3 : Int) (b0 b1 : Int) (b2 : Bool) (b3 : Int) (c0 c1 : Int) (c2 : Bool) (c3 : Int) :
    (pcompA a0 a1 a2 a3 b0 b1 b2 b3 != IntKind.i64.wrap (0 - pcompA b0 b1 b2 b3 a0 a1 a2 a3) || decide (pcompA a0 a1 a2 a3 b0 b1 b2 b3 ≤ 0) && decide (pcompA b0 b1 b2 b3 c0 c1 c2 c3 ≤ 0) && decide (pcompA a0 a1 a2 a3 c0 c1 c2 c3 > 0)) = false := by
  have r := pc_rng b0 b1 b2 b3 a0 a1 a2 a3
  rw [wrap_nat _ (by omega) (by omega), pc_neg a0 a1 a2 a3 b0 b1 b2 b3, Int.zero_sub, bne_self_eq_false, Bool.false_or, ← pc_neg a0 a1 a2 a3 b0 b1 b2 b3, Bool.eq_false_iff]
  intro h
  simp only [Bool.and_eq_true, decide_eq_true_iff] at h
  have := pc_trans h.1.1 h.1.2
  omega
/-- What is so of two that may be. -/
theorem pord_pk (v : Bool) (d : Nat → Bool) (c : Nat) (hc : c ≤ W v) (u : Bool) (e : Nat → Bool) (m : Nat) (hm : m ≤ W u) :
    (covB (hiA v (cutd d c)) (loA v (cutd d c)) v c (hiA u (cutd e m)) (loA u (cutd e m)) u m && decide (pcompA (hiA v (cutd d c)) (loA v (cutd d c)) v c (hiA u (cutd e m)) (loA u (cutd e m)) u m > 0)
      || apaB (hiA v (cutd d c)) (loA v (cutd d c)) v c (hiA u (cutd e m)) (loA u (cutd e m)) u m && (pcompA (hiA v (cutd d c)) (loA v (cutd d c)) v c (hiA u (cutd e m)) (loA u (cutd e m)) u m != compA (hiA v (cutd d c)) (loA v (cutd d c)) v (hiA u (cutd e m)) (loA u (cutd e m)) u)) = false ∧
    ((pcompA (hiA v (cutd d c)) (loA v (cutd d c)) v c (hiA u (cutd e m)) (loA u (cutd e m)) u m == 0) == ((hiA v (cutd d c) == hiA u (cutd e m) && (loA v (cutd d c) == loA u (cutd e m) && v == u)) && (c : Int) == (m : Int))) = true := by
  have q := eqP_pk v d c hc u e m hm
  unfold eqP at q
  rw [q, apaB_pk v d c hc u e m hm, covB_pk v d c hc u e m hm]
  have hal : compA (hiA v (cutd d c)) (loA v (cutd d c)) v (hiA u (cutd e m)) (loA u (cutd e m)) u = 0 ↔ v = u ∧ ∀ i, i < W v → cutd d c i = cutd e m i := by
    rw [comp_alike]
    constructor
    · rintro ⟨h, k⟩
      subst h
      exact ⟨rfl, fun i hi => by have := k i hi; rwa [D_cut v d c i hi, D_cut v e m i hi] at this⟩
    · rintro ⟨h, k⟩
      subst h
      exact ⟨rfl, fun i hi => by rw [D_cut v d c i hi, D_cut v e m i hi]; exact k i hi⟩
  constructor
  · rw [Bool.or_eq_false_iff]
    constructor
    · rw [Bool.eq_false_iff]
      intro h
      simp only [Bool.and_eq_true, decide_eq_true_iff, conD_true] at h
      obtain ⟨⟨h1, rfl, h2⟩, h3⟩ := h
      have hle : compA (hiA v (cutd d c)) (loA v (cutd d c)) v (hiA v (cutd e m)) (loA v (cutd e m)) v ≤ 0 := by
        rw [comp_val, c3_le, va_D, va_D]
        refine va_mono fun i hi hd => ?_
        by_cases hk : i < c
        · rw [cutd_lt hk] at hd
          rw [cutd_lt (by omega), ← h2 i hk]; exact hd
        · rw [cutd_ge (by omega)] at hd; cases hd
      have := (pc_le (a0 := hiA v (cutd d c)) (a1 := loA v (cutd d c)) (a2 := v) (a3 := (c : Int)) (b0 := hiA v (cutd e m)) (b1 := loA v (cutd e m)) (b2 := v) (b3 := (m : Int))).mpr (by omega)
      omega
    · rw [Bool.eq_false_iff]
      intro h
      simp only [Bool.and_eq_true, Bool.not_eq_true', Bool.and_eq_false_iff, decide_eq_false_iff_not, bne_iff_ne] at h
      obtain ⟨⟨h1, h2⟩, h3⟩ := h
      by_cases hz : compA (hiA v (cutd d c)) (loA v (cutd d c)) v (hiA u (cutd e m)) (loA u (cutd e m)) u = 0
      · obtain ⟨rfl, hy⟩ := hal.mp hz
        by_cases hcm : c ≤ m
        · rcases h1 with h1 | h1
          · exact h1 hcm
          · rw [conD_true.mpr ⟨rfl, fun i hi => by have := hy i (by omega); rwa [cutd_lt hi, cutd_lt (by omega)] at this⟩] at h1; cases h1
        · rcases h2 with h2 | h2
          · omega
          · rw [conD_true.mpr ⟨rfl, fun i hi => by have := hy i (by omega); rw [cutd_lt (by omega), cutd_lt hi] at this; exact this.symm⟩] at h2; cases h2
      · refine h3 ?_
        unfold pcompA or2
        rw [if_neg hz]
  · rw [beq_iff_eq, Bool.eq_iff_iff, beq_iff_eq, Bool.and_eq_true, decide_eq_true_iff, conD_true]
    have hz : pcompA (hiA v (cutd d c)) (loA v (cutd d c)) v c (hiA u (cutd e m)) (loA u (cutd e m)) u m = 0 ↔ compA (hiA v (cutd d c)) (loA v (cutd d c)) v (hiA u (cutd e m)) (loA u (cutd e m)) u = 0 ∧ (c : Int) = (m : Int) := by
      unfold pcompA or2
      by_cases h : compA (hiA v (cutd d c)) (loA v (cutd d c)) v (hiA u (cutd e m)) (loA u (cutd e m)) u = 0
      · rw [if_pos h, c3_eq]; exact ⟨fun k => ⟨h, k⟩, fun k => k.2⟩
      · rw [if_neg h]; exact ⟨fun k => absurd k h, fun k => absurd k.1 h⟩
    rw [hz, hal]
    constructor
    · rintro ⟨⟨rfl, h1⟩, h2⟩
      obtain rfl : c = m := by omega
      exact ⟨rfl, rfl, fun i hi => by have := h1 i (by omega); rwa [cutd_lt hi, cutd_lt hi] at this⟩
    · rintro ⟨rfl, rfl, h⟩
      refine ⟨⟨rfl, fun i _ => ?_⟩, rfl⟩
      by_cases hi : i < c
      · rw [cutd_lt hi, cutd_lt hi, h i hi]
      · rw [cutd_ge (by omega), cutd_ge (by omega)]
theorem pord_all {a0 a1 b0 b1 c0 c1 : Int} (ha : u64 a0 ∧ u64 a1) (hb : u64 b0 ∧ u64 b1) (hc : u64 c0 ∧ u64 c1) (a2 : Bool) (a3 : Int) (b2 : Bool) (b3 : Int) (c2 : Bool) (c3 : Int) :
    Cal Try.prog 11 [.agg #[.int .u64 a0, .int .u64 a1, .bool a2, .int .i64 a3], .agg #[.int .u64 b0, .int .u64 b1, .bool b2, .int .i64 b3], .agg #[.int .u64 c0, .int .u64 c1, .bool c2, .int .i64 c3]] (.bool true) := by
  refine pord_ok _ _ _ _ _ _ _ _ _ _ _ _ _ _ _ _ _ _ _ _ _ (pcompare_s ha hb a2 a3 b2 b3) (pcompare_s hb ha b2 b3 a2 a3) (pcompare_s hb hc b2 b3 c2 c3) (pcompare_s ha hc a2 a3 c2 c3) (covers_s ha hb a2 a3 b2 b3) (apart_s ha hb a2 a3 b2 b3) (compare_s ha hb a2 b2) (sane_s ha a2 a3) (sane_s hb b2 b3) (pord_first _ _ _ _ _ _ _ _ _ _ _ _) ?_ ?_
  · cases h1 : saneB a0 a1 a2 a3 with
    | false => unfold covB contB apaB; rw [h1]; simp
    | true =>
      cases h2 : saneB b0 b1 b2 b3 with
      | false => unfold covB apaB; rw [h2]; simp
      | true =>
        obtain ⟨n1, l1, e1, p1, q1⟩ := saneB_ex h1
        obtain ⟨n2, l2, e2, p2, q2⟩ := saneB_ex h2
        have := (pord_pk a2 (D a0 a1) n1 l1 b2 (D b0 b1) n2 l2).1
        rwa [← p1, ← q1, ← p2, ← q2, ← e1, ← e2] at this
  · cases h1 : saneB a0 a1 a2 a3 with
    | false => rfl
    | true =>
      cases h2 : saneB b0 b1 b2 b3 with
      | false => rfl
      | true =>
        obtain ⟨n1, l1, e1, p1, q1⟩ := saneB_ex h1
        obtain ⟨n2, l2, e2, p2, q2⟩ := saneB_ex h2
        have := (pord_pk a2 (D a0 a1) n1 l1 b2 (D b0 b1) n2 l2).2
        rw [← p1, ← q1, ← p2, ← q2, ← e1, ← e2] at this
        rw [this]; rfl
theorem prefixOrder_walk (a0 a1 : Int) (a2 : Bool) (a3 : Int) (b0 b1 : Int) (b2 : Bool) (b3 : Int) (c0 c1 : Int) (c2 : Bool) (c3 : Int)
    (h1 : (Lit.int .u64 a0).wf = true) (h2 : (Lit.int .u64 a1).wf = true) (h3 : (Lit.int .i64 a3).wf = true)
    (h4 : (Lit.int .u64 b0).wf = true) (h5 : (Lit.int .u64 b1).wf = true) (h6 : (Lit.int .i64 b3).wf = true)
    (h7 : (Lit.int .u64 c0).wf = true) (h8 : (Lit.int .u64 c1).wf = true) (h9 : (Lit.int .i64 c3).wf = true) (W : World) :
    Calls Try.prog 11 #[.agg #[.int .u64 a0, .int .u64 a1, .bool a2, .int .i64 a3], .agg #[.int .u64 b0, .int .u64 b1, .bool b2, .int .i64 b3], .agg #[.int .u64 c0, .int .u64 c1, .bool c2, .int .i64 c3]] W fun e w' => e = .returned (.bool true) ∧ Below W.heap.size W w' :=
  (pord_all ⟨wf_u64 h1, wf_u64 h2⟩ ⟨wf_u64 h4, wf_u64 h5⟩ ⟨wf_u64 h7, wf_u64 h8⟩ a2 a3 b2 b3 c2 c3).out W
end Go.Proofs.Ytbaeaiiohkfieaa.Hand
