/-
  package addr: Next; plain laws on the address that is one more.
-/
import Derived.Test.YtfcffemglcgbnaaSt
import Derived.Test.YtfcffemglcgbnaaWp
import Derived.Laws.Externs
namespace Go.Proofs.Ytfcffemglcgbnaa.Hand
open Go.RowKit Go.Proofs.Ytfcffemglcgbnaa.Bits Go.Proofs.Ytfcffemglcgbnaa.Dig Go.Proofs.Ytfcffemglcgbnaa.Sq
set_option linter.unusedVariables false
set_option linter.unusedSimpArgs false
set_option maxRecDepth 100000
set_option maxHeartbeats 2000000
noncomputable def nextA (hi lo : Int) (v6 : Bool) : Int × Int × Bool × Bool :=
  if v6 then
    if loA true (D hi lo) + 1 < 18446744073709551616 then (hiA true (D hi lo), loA true (D hi lo) + 1, true, true)
    else if hiA true (D hi lo) + 1 < 18446744073709551616 then (hiA true (D hi lo) + 1, 0, true, true)
    else (hiA true (D hi lo), loA true (D hi lo), true, false)
  else if hiA false (D hi lo) + 4294967296 < 18446744073709551616 then (hiA false (D hi lo) + 4294967296, 0, false, true)
  else (hiA false (D hi lo), loA false (D hi lo), false, false)
theorem next_spec (hi lo : Int) (v6 : Bool) :
    (∃ k, k < W v6 ∧ D hi lo k = false ∧ (∀ i, k < i → i < W v6 → D hi lo i = true) ∧ nextA hi lo v6 = (hiA v6 (upD (D hi lo) k), loA v6 (upD (D hi lo) k), v6, true)) ∨
    ((∀ i, i < W v6 → D hi lo i = true) ∧ nextA hi lo v6 = (hiA v6 (D hi lo), loA v6 (D hi lo), v6, false)) := by
  generalize hd : D hi lo = d
  unfold nextA
  rw [hd]
  cases v6 with
  | true =>
    have hv := val6 d
    have ⟨a0, a1⟩ := u_hiA true d
    have ⟨b0, b1⟩ := u_loA true d
    rcases wdN_up d 128 with ⟨h1, h2⟩ | ⟨k, hk, h0, h1, h2⟩
    · refine .inr ⟨h1, ?_⟩
      have h3 : (2 : Nat) ^ 128 = 340282366920938463463374607431768211456 := by decide
      rw [h3] at h2
      rw [if_pos rfl, if_neg (by omega), if_neg (by omega)]
    · refine .inl ⟨k, hk, h0, h1, ?_⟩
      have hu := val6 (upD d k)
      have ⟨c0, c1⟩ := u_hiA true (upD d k)
      have ⟨e0, e1⟩ := u_loA true (upD d k)
      rw [h2] at hu
      push_cast at hu
      rw [hv] at hu
      clear hv h2
      rw [if_pos rfl]
      split
      · refine Prod.ext ?_ (Prod.ext ?_ rfl)
        · show hiA true d = hiA true (upD d k)
          omega
        · show loA true d + 1 = loA true (upD d k)
          omega
      · rw [if_pos (by omega)]
        refine Prod.ext ?_ (Prod.ext ?_ rfl)
        · show hiA true d + 1 = hiA true (upD d k)
          omega
        · show (0 : Int) = loA true (upD d k)
          omega
  | false =>
    have ⟨hv, hz⟩ := val4 d
    rcases wdN_up d 32 with ⟨h1, h2⟩ | ⟨k, hk, h0, h1, h2⟩
    · refine .inr ⟨h1, ?_⟩
      have h3 : (2 : Nat) ^ 32 = 4294967296 := by decide
      rw [h3] at h2
      rw [if_neg (by decide), if_neg (by omega)]
    · refine .inl ⟨k, hk, h0, h1, ?_⟩
      have ⟨hu, hy⟩ := val4 (upD d k)
      have ⟨c0, c1⟩ := u_hiA false (upD d k)
      rw [h2] at hu
      push_cast at hu
      rw [if_neg (by decide), if_pos (by omega)]
      refine Prod.ext ?_ (Prod.ext ?_ rfl)
      · show hiA false d + 4294967296 = hiA false (upD d k)
        omega
      · exact hy.symm
theorem add64_e (x y c s k : Int) (hx : 0 ≤ x) (hy : 0 ≤ y) (hc0 : 0 ≤ c) (hc : c ≤ 1) (hs : (x + y + c) % 18446744073709551616 = s) (hk : (x + y + c) / 18446744073709551616 = k) : Ext Try.prog 80 [.int .u64 x, .int .u64 y, .int .u64 c] (.tuple #[.int .u64 s, .int .u64 k]) := fun w => by
  show (callFunc 80 #[.int .u64 x, .int .u64 y, .int .u64 c]).run Try.prog w = _
  rw [run_callFunc_extern Try.func80 (by kernel_rfl) (by kernel_rfl) (by kernel_rfl) (e := add64Entry) (by kernel_rfl), run_add64 x y c hx hy hc0 hc, ← hs, ← hk]
  rfl
theorem next_s {a0 a1 : Int} (h : u64 a0 ∧ u64 a1) (a2 : Bool) : Cal Try.prog 35 [.agg #[.int .u64 a0, .int .u64 a1, .bool a2]] (.tuple #[.agg #[.int .u64 (nextA a0 a1 a2).1, .int .u64 (nextA a0 a1 a2).2.1, .bool a2], .bool (nextA a0 a1 a2).2.2.2]) := by
  have k1 := read_s h a2
  have k3 := fun x y => wof_s x y a2
  have ⟨b0, b1⟩ := u_hiA a2 (D a0 a1)
  have ⟨c0, c1⟩ := u_loA a2 (D a0 a1)
  unfold nextA
  cases a2 with
  | false =>
    rw [if_neg (show ¬ false = true by decide)]
    by_cases hlt : hiA false (D a0 a1) + 4294967296 < 18446744073709551616
    · rw [if_pos hlt]
      have k2 := add64_e (hiA false (D a0 a1)) 4294967296 0 (hiA false (D a0 a1) + 4294967296) 0 b0 (by decide) (by decide) (by decide) (by omega) (by omega)
      generalize hiA false (D a0 a1) = x at *
      generalize loA false (D a0 a1) = y at *
      clear b0 b1 c0 c1 hlt
      refine Cal.mk fun Wo => enter (F := fun _ => False) Try.func35 rfl Try.ntmps35 rfl ?_
      repeat (first | (apply s_box; rfl; constructor; rfl; intro _) | (apply s_alloc; rfl; intro _) | (apply s_store; rfl; rfl; (repeat (first | exact Plc.hit | apply Plc.miss)); constructor; (focus ((simp only [setAt, List.set_cons_zero, List.set_cons_succ, Nat.zero_add, Nat.reduceAdd, Nat.reduceMul]); try rfl)); kernel_rfl; rfl) | apply s_st | apply st_go | (focus (first | (apply y_move; rfl) | (apply y_assign; rfl) | (apply y_not; rfl) | (apply y_load; rfl; (repeat (first | exact List.Mem.head _ | apply List.Mem.tail)); (repeat (first | exact Sub.nil | apply Sub.take | apply Sub.drop)); done) | (apply y_cell; rfl; (repeat (first | exact List.Mem.head _ | apply List.Mem.tail)); (repeat (first | exact At.hit | apply At.miss)); kernel_rfl; done) | (apply y_calls; rfl; rfl; rfl; (first | assumption | exact k3 _ _); done) | (apply y_ext; rfl; assumption; done) | (apply y_extract; rfl; (repeat (first | exact At.hit | apply At.miss)); done) | (apply y_faddr; kernel_rfl; rfl) | (apply y_axaddr; rfl; rfl; (first | assumption | rfl | exact (show (0 : Int) = ((0 : Nat) : Int) from rfl) | exact (show (1 : Int) = ((1 : Nat) : Int) from rfl) | exact (show (2 : Int) = ((2 : Nat) : Int) from rfl) | exact (show (3 : Int) = ((3 : Nat) : Int) from rfl)); (first | assumption | omega | (focus (simp; done)) | (focus (simp; omega))); done) | (apply y_ne; rfl; rfl) | (apply y_abuild; (repeat (first | exact PRows.nil | (apply PRows.cons; rfl; constructor; rfl))); rfl; (focus ((simp only [List.flatten_cons, List.flatten_nil, List.length_cons, List.length_nil, Nat.zero_add, Nat.reduceAdd, Nat.reduceMul, List.drop_succ_cons, List.drop_zero, List.drop_nil, List.append_nil, List.cons_append, List.nil_append]); try rfl)); done))) | apply s_nil | apply w_seq | apply f_then | apply f_ret | apply w_skip | apply w_ret | refine w_cond_f rfl ?_ | refine w_cond_t rfl ?_ | (apply f_ends; rfl; rfl; (repeat (first | exact Res.nil | (apply Res.tmp; rfl) | (apply Res.agg; exact inferInstance; rfl; (repeat (first | exact List.Mem.head _ | apply List.Mem.tail)); (repeat (first | exact Sub.nil | apply Sub.take | apply Sub.drop))) | (apply Res.cell; kernel_rfl; rfl; (repeat (first | exact List.Mem.head _ | apply List.Mem.tail)); (repeat (first | exact At.hit | apply At.miss))))); intro w hw; first | exact ans hw | (refine ans_b ?_ hw; (focus ((repeat (first | assumption | rfl | exact beq_self_eq_true _ | exact bne_self_eq_false _ | apply bOrF | apply bAndT | apply bNotF | apply bNotT | (focus (apply decide_eq_true; omega)) | (focus (apply decide_eq_false; omega)) | (focus (apply bEqT; omega)) | (focus (apply bEqF; omega)) | (focus (apply bNeT; omega)) | (focus (apply bNeF; omega)) | (focus (apply bOrT1; first | assumption | (apply decide_eq_true; omega))) | (focus (apply bOrT2; first | assumption | (apply decide_eq_true; omega))) | (focus (apply bAndF1; first | assumption | (apply decide_eq_false; omega))) | (focus (apply bAndF2; first | assumption | (apply decide_eq_false; omega))))); done)))) | (apply w_reg_l; rfl) | exact rfl)
    · rw [if_neg hlt]
      have k2 := add64_e (hiA false (D a0 a1)) 4294967296 0 (hiA false (D a0 a1) + 4294967296 - 18446744073709551616) 1 b0 (by decide) (by decide) (by decide) (by omega) (by omega)
      generalize hiA false (D a0 a1) = x at *
      generalize loA false (D a0 a1) = y at *
      clear b0 b1 c0 c1 hlt
      refine Cal.mk fun Wo => enter (F := fun _ => False) Try.func35 rfl Try.ntmps35 rfl ?_
      repeat (first | (apply s_box; rfl; constructor; rfl; intro _) | (apply s_alloc; rfl; intro _) | (apply s_store; rfl; rfl; (repeat (first | exact Plc.hit | apply Plc.miss)); constructor; (focus ((simp only [setAt, List.set_cons_zero, List.set_cons_succ, Nat.zero_add, Nat.reduceAdd, Nat.reduceMul]); try rfl)); kernel_rfl; rfl) | apply s_st | apply st_go | (focus (first | (apply y_move; rfl) | (apply y_assign; rfl) | (apply y_not; rfl) | (apply y_load; rfl; (repeat (first | exact List.Mem.head _ | apply List.Mem.tail)); (repeat (first | exact Sub.nil | apply Sub.take | apply Sub.drop)); done) | (apply y_cell; rfl; (repeat (first | exact List.Mem.head _ | apply List.Mem.tail)); (repeat (first | exact At.hit | apply At.miss)); kernel_rfl; done) | (apply y_calls; rfl; rfl; rfl; (first | assumption | exact k3 _ _); done) | (apply y_ext; rfl; assumption; done) | (apply y_extract; rfl; (repeat (first | exact At.hit | apply At.miss)); done) | (apply y_faddr; kernel_rfl; rfl) | (apply y_axaddr; rfl; rfl; (first | assumption | rfl | exact (show (0 : Int) = ((0 : Nat) : Int) from rfl) | exact (show (1 : Int) = ((1 : Nat) : Int) from rfl) | exact (show (2 : Int) = ((2 : Nat) : Int) from rfl) | exact (show (3 : Int) = ((3 : Nat) : Int) from rfl)); (first | assumption | omega | (focus (simp; done)) | (focus (simp; omega))); done) | (apply y_ne; rfl; rfl))) | apply s_nil | apply w_seq | apply f_then | apply f_ret | apply w_ret | refine w_cond_t rfl ?_ | (apply f_ends; rfl; rfl; (repeat (first | exact Res.nil | (apply Res.tmp; rfl) | (apply Res.agg; exact inferInstance; rfl; (repeat (first | exact List.Mem.head _ | apply List.Mem.tail)); (repeat (first | exact Sub.nil | apply Sub.take | apply Sub.drop))) | (apply Res.cell; kernel_rfl; rfl; (repeat (first | exact List.Mem.head _ | apply List.Mem.tail)); (repeat (first | exact At.hit | apply At.miss))))); intro w hw; first | exact ans hw | (refine ans_b ?_ hw; (focus ((repeat (first | assumption | rfl | exact beq_self_eq_true _ | exact bne_self_eq_false _ | apply bOrF | apply bAndT | apply bNotF | apply bNotT | (focus (apply decide_eq_true; omega)) | (focus (apply decide_eq_false; omega)) | (focus (apply bEqT; omega)) | (focus (apply bEqF; omega)) | (focus (apply bNeT; omega)) | (focus (apply bNeF; omega)) | (focus (apply bOrT1; first | assumption | (apply decide_eq_true; omega))) | (focus (apply bOrT2; first | assumption | (apply decide_eq_true; omega))) | (focus (apply bAndF1; first | assumption | (apply decide_eq_false; omega))) | (focus (apply bAndF2; first | assumption | (apply decide_eq_false; omega))))); done)))) | (apply w_reg_l; rfl) | exact rfl)
  | true =>
    rw [if_pos rfl]
    by_cases hlt : loA true (D a0 a1) + 1 < 18446744073709551616
    · rw [if_pos hlt]
      have k2 := add64_e (loA true (D a0 a1)) 1 0 (loA true (D a0 a1) + 1) 0 c0 (by decide) (by decide) (by decide) (by omega) (by omega)
      have k4 := add64_e (hiA true (D a0 a1)) 0 0 (hiA true (D a0 a1)) 0 b0 (by decide) (by decide) (by decide) (by omega) (by omega)
      generalize hiA true (D a0 a1) = x at *
      generalize loA true (D a0 a1) = y at *
      clear b0 b1 c0 c1 hlt
      refine Cal.mk fun Wo => enter (F := fun _ => False) Try.func35 rfl Try.ntmps35 rfl ?_
      repeat (first | (apply s_box; rfl; constructor; rfl; intro _) | (apply s_alloc; rfl; intro _) | (apply s_store; rfl; rfl; (repeat (first | exact Plc.hit | apply Plc.miss)); constructor; (focus ((simp only [setAt, List.set_cons_zero, List.set_cons_succ, Nat.zero_add, Nat.reduceAdd, Nat.reduceMul]); try rfl)); kernel_rfl; rfl) | apply s_st | apply st_go | (focus (first | (apply y_move; rfl) | (apply y_assign; rfl) | (apply y_not; rfl) | (apply y_load; rfl; (repeat (first | exact List.Mem.head _ | apply List.Mem.tail)); (repeat (first | exact Sub.nil | apply Sub.take | apply Sub.drop)); done) | (apply y_cell; rfl; (repeat (first | exact List.Mem.head _ | apply List.Mem.tail)); (repeat (first | exact At.hit | apply At.miss)); kernel_rfl; done) | (apply y_calls; rfl; rfl; rfl; (first | assumption | exact k3 _ _); done) | (apply y_ext; rfl; assumption; done) | (apply y_extract; rfl; (repeat (first | exact At.hit | apply At.miss)); done) | (apply y_faddr; kernel_rfl; rfl) | (apply y_axaddr; rfl; rfl; (first | assumption | rfl | exact (show (0 : Int) = ((0 : Nat) : Int) from rfl) | exact (show (1 : Int) = ((1 : Nat) : Int) from rfl) | exact (show (2 : Int) = ((2 : Nat) : Int) from rfl) | exact (show (3 : Int) = ((3 : Nat) : Int) from rfl)); (first | assumption | omega | (focus (simp; done)) | (focus (simp; omega))); done) | (apply y_ne; rfl; rfl) | (apply y_abuild; (repeat (first | exact PRows.nil | (apply PRows.cons; rfl; constructor; rfl))); rfl; (focus ((simp only [List.flatten_cons, List.flatten_nil, List.length_cons, List.length_nil, Nat.zero_add, Nat.reduceAdd, Nat.reduceMul, List.drop_succ_cons, List.drop_zero, List.drop_nil, List.append_nil, List.cons_append, List.nil_append]); try rfl)); done))) | apply s_nil | apply w_seq | apply f_then | apply w_skip | apply w_ret | refine w_cond_f rfl ?_ | (apply f_ends; rfl; rfl; (repeat (first | exact Res.nil | (apply Res.tmp; rfl) | (apply Res.agg; exact inferInstance; rfl; (repeat (first | exact List.Mem.head _ | apply List.Mem.tail)); (repeat (first | exact Sub.nil | apply Sub.take | apply Sub.drop))) | (apply Res.cell; kernel_rfl; rfl; (repeat (first | exact List.Mem.head _ | apply List.Mem.tail)); (repeat (first | exact At.hit | apply At.miss))))); intro w hw; first | exact ans hw | (refine ans_b ?_ hw; (focus ((repeat (first | assumption | rfl | exact beq_self_eq_true _ | exact bne_self_eq_false _ | apply bOrF | apply bAndT | apply bNotF | apply bNotT | (focus (apply decide_eq_true; omega)) | (focus (apply decide_eq_false; omega)) | (focus (apply bEqT; omega)) | (focus (apply bEqF; omega)) | (focus (apply bNeT; omega)) | (focus (apply bNeF; omega)) | (focus (apply bOrT1; first | assumption | (apply decide_eq_true; omega))) | (focus (apply bOrT2; first | assumption | (apply decide_eq_true; omega))) | (focus (apply bAndF1; first | assumption | (apply decide_eq_false; omega))) | (focus (apply bAndF2; first | assumption | (apply decide_eq_false; omega))))); done)))) | (apply w_reg_l; rfl) | exact rfl)
    · rw [if_neg hlt]
      have hy : loA true (D a0 a1) = 18446744073709551615 := by omega
      have k2 := add64_e (loA true (D a0 a1)) 1 0 0 1 c0 (by decide) (by decide) (by decide) (by omega) (by omega)
      by_cases hl2 : hiA true (D a0 a1) + 1 < 18446744073709551616
      · rw [if_pos hl2]
        have k4 := add64_e (hiA true (D a0 a1)) 0 1 (hiA true (D a0 a1) + 1) 0 b0 (by decide) (by decide) (by decide) (by omega) (by omega)
        generalize hiA true (D a0 a1) = x at *
        generalize loA true (D a0 a1) = y at *
        clear b0 b1 c0 c1 hlt hl2 hy
        refine Cal.mk fun Wo => enter (F := fun _ => False) Try.func35 rfl Try.ntmps35 rfl ?_
        repeat (first | (apply s_box; rfl; constructor; rfl; intro _) | (apply s_alloc; rfl; intro _) | (apply s_store; rfl; rfl; (repeat (first | exact Plc.hit | apply Plc.miss)); constructor; (focus ((simp only [setAt, List.set_cons_zero, List.set_cons_succ, Nat.zero_add, Nat.reduceAdd, Nat.reduceMul]); try rfl)); kernel_rfl; rfl) | apply s_st | apply st_go | (focus (first | (apply y_move; rfl) | (apply y_assign; rfl) | (apply y_not; rfl) | (apply y_load; rfl; (repeat (first | exact List.Mem.head _ | apply List.Mem.tail)); (repeat (first | exact Sub.nil | apply Sub.take | apply Sub.drop)); done) | (apply y_cell; rfl; (repeat (first | exact List.Mem.head _ | apply List.Mem.tail)); (repeat (first | exact At.hit | apply At.miss)); kernel_rfl; done) | (apply y_calls; rfl; rfl; rfl; (first | assumption | exact k3 _ _); done) | (apply y_ext; rfl; assumption; done) | (apply y_extract; rfl; (repeat (first | exact At.hit | apply At.miss)); done) | (apply y_faddr; kernel_rfl; rfl) | (apply y_axaddr; rfl; rfl; (first | assumption | rfl | exact (show (0 : Int) = ((0 : Nat) : Int) from rfl) | exact (show (1 : Int) = ((1 : Nat) : Int) from rfl) | exact (show (2 : Int) = ((2 : Nat) : Int) from rfl) | exact (show (3 : Int) = ((3 : Nat) : Int) from rfl)); (first | assumption | omega | (focus (simp; done)) | (focus (simp; omega))); done) | (apply y_ne; rfl; rfl) | (apply y_abuild; (repeat (first | exact PRows.nil | (apply PRows.cons; rfl; constructor; rfl))); rfl; (focus ((simp only [List.flatten_cons, List.flatten_nil, List.length_cons, List.length_nil, Nat.zero_add, Nat.reduceAdd, Nat.reduceMul, List.drop_succ_cons, List.drop_zero, List.drop_nil, List.append_nil, List.cons_append, List.nil_append]); try rfl)); done))) | apply s_nil | apply w_seq | apply f_then | apply w_skip | apply w_ret | refine w_cond_f rfl ?_ | (apply f_ends; rfl; rfl; (repeat (first | exact Res.nil | (apply Res.tmp; rfl) | (apply Res.agg; exact inferInstance; rfl; (repeat (first | exact List.Mem.head _ | apply List.Mem.tail)); (repeat (first | exact Sub.nil | apply Sub.take | apply Sub.drop))) | (apply Res.cell; kernel_rfl; rfl; (repeat (first | exact List.Mem.head _ | apply List.Mem.tail)); (repeat (first | exact At.hit | apply At.miss))))); intro w hw; first | exact ans hw | (refine ans_b ?_ hw; (focus ((repeat (first | assumption | rfl | exact beq_self_eq_true _ | exact bne_self_eq_false _ | apply bOrF | apply bAndT | apply bNotF | apply bNotT | (focus (apply decide_eq_true; omega)) | (focus (apply decide_eq_false; omega)) | (focus (apply bEqT; omega)) | (focus (apply bEqF; omega)) | (focus (apply bNeT; omega)) | (focus (apply bNeF; omega)) | (focus (apply bOrT1; first | assumption | (apply decide_eq_true; omega))) | (focus (apply bOrT2; first | assumption | (apply decide_eq_true; omega))) | (focus (apply bAndF1; first | assumption | (apply decide_eq_false; omega))) | (focus (apply bAndF2; first | assumption | (apply decide_eq_false; omega))))); done)))) | (apply w_reg_l; rfl) | exact rfl)
      · rw [if_neg hl2]
        have k4 := add64_e (hiA true (D a0 a1)) 0 1 (hiA true (D a0 a1) + 1 - 18446744073709551616) 1 b0 (by decide) (by decide) (by decide) (by omega) (by omega)
        generalize hiA true (D a0 a1) = x at *
        generalize loA true (D a0 a1) = y at *
        clear b0 b1 c0 c1 hlt hl2 hy
        refine Cal.mk fun Wo => enter (F := fun _ => False) Try.func35 rfl Try.ntmps35 rfl ?_
        repeat (first | (apply s_box; rfl; constructor; rfl; intro _) | (apply s_alloc; rfl; intro _) | (apply s_store; rfl; rfl; (repeat (first | exact Plc.hit | apply Plc.miss)); constructor; (focus ((simp only [setAt, List.set_cons_zero, List.set_cons_succ, Nat.zero_add, Nat.reduceAdd, Nat.reduceMul]); try rfl)); kernel_rfl; rfl) | apply s_st | apply st_go | (focus (first | (apply y_move; rfl) | (apply y_assign; rfl) | (apply y_not; rfl) | (apply y_load; rfl; (repeat (first | exact List.Mem.head _ | apply List.Mem.tail)); (repeat (first | exact Sub.nil | apply Sub.take | apply Sub.drop)); done) | (apply y_cell; rfl; (repeat (first | exact List.Mem.head _ | apply List.Mem.tail)); (repeat (first | exact At.hit | apply At.miss)); kernel_rfl; done) | (apply y_calls; rfl; rfl; rfl; (first | assumption | exact k3 _ _); done) | (apply y_ext; rfl; assumption; done) | (apply y_extract; rfl; (repeat (first | exact At.hit | apply At.miss)); done) | (apply y_faddr; kernel_rfl; rfl) | (apply y_axaddr; rfl; rfl; (first | assumption | rfl | exact (show (0 : Int) = ((0 : Nat) : Int) from rfl) | exact (show (1 : Int) = ((1 : Nat) : Int) from rfl) | exact (show (2 : Int) = ((2 : Nat) : Int) from rfl) | exact (show (3 : Int) = ((3 : Nat) : Int) from rfl)); (first | assumption | omega | (focus (simp; done)) | (focus (simp; omega))); done) | (apply y_ne; rfl; rfl))) | apply s_nil | apply w_seq | apply f_then | apply f_ret | apply w_skip | apply w_ret | refine w_cond_f rfl ?_ | refine w_cond_t rfl ?_ | (apply f_ends; rfl; rfl; (repeat (first | exact Res.nil | (apply Res.tmp; rfl) | (apply Res.agg; exact inferInstance; rfl; (repeat (first | exact List.Mem.head _ | apply List.Mem.tail)); (repeat (first | exact Sub.nil | apply Sub.take | apply Sub.drop))) | (apply Res.cell; kernel_rfl; rfl; (repeat (first | exact List.Mem.head _ | apply List.Mem.tail)); (repeat (first | exact At.hit | apply At.miss))))); intro w hw; first | exact ans hw | (refine ans_b ?_ hw; (focus ((repeat (first | assumption | rfl | exact beq_self_eq_true _ | exact bne_self_eq_false _ | apply bOrF | apply bAndT | apply bNotF | apply bNotT | (focus (apply decide_eq_true; omega)) | (focus (apply decide_eq_false; omega)) | (focus (apply bEqT; omega)) | (focus (apply bEqF; omega)) | (focus (apply bNeT; omega)) | (focus (apply bNeF; omega)) | (focus (apply bOrT1; first | assumption | (apply decide_eq_true; omega))) | (focus (apply bOrT2; first | assumption | (apply decide_eq_true; omega))) | (focus (apply bAndF1; first | assumption | (apply decide_eq_false; omega))) | (focus (apply bAndF2; first | assumption | (apply decide_eq_false; omega))))); done)))) | (apply w_reg_l; rfl) | exact rfl)
end Go.Proofs.Ytfcffemglcgbnaa.Hand
