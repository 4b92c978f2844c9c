/-
  kedgelaw02.awake answers true, walked by symbolic steps.
-/
import Derived.Test.YtbaeaiiohkfieaaPreT
namespace Go.Proofs.Ytbaeaiiohkfieaa.Hand
open Go.RowKit Go.Proofs.YtbaeaiiohkfieaaW.PrintWords Go.Proofs.YtbaeaiiohkfieaaW.PrintLast Go.Proofs.Ytbaeaiiohkfieaa.Bits Go.Proofs.Ytbaeaiiohkfieaa.Dig Go.Proofs.Ytbaeaiiohkfieaa.Sq
set_option linter.unusedVariables false
set_option linter.unusedSimpArgs false
set_option maxRecDepth 100000
set_option maxHeartbeats 4000000
theorem reads_of_block {w : World} {g : Nat} {l : List Int} {t : TypeId} (hl : l.length ≤ 9223372036854775807) (h : w.heap[g]? = some (.cells (l.map (Value.int .u8)).toArray t (0, 0))) : (Kd.int .u8).C w (some ⟨g, 0, none⟩) l.length l :=
  ⟨rfl, hl, fun _ => ⟨_, rfl, fun j p hj => ⟨[.int .u8 p], rfl, rfl, fun i u hu => by
    cases i with
    | succ i => cases hu
    | zero =>
      cases hu
      have ha : (Addr.add ⟨g, 0, none⟩ (j * (Kd.int .u8).sz + 0)) = ⟨g, j, none⟩ := by
        have : (Kd.int .u8).sz = 1 := rfl
        rw [this, Nat.mul_one, Nat.add_zero, Addr.add_mid, Nat.zero_add]
      rw [ha, cell_of_row w g _ _ _ _ h]
      simp [hj]⟩⟩⟩
theorem from_s (l : List Int) (v6 : Bool) (t : TypeId) (hl : l.length = if v6 then 16 else 4) (h : ∀ i : Nat, i < l.length → 0 ≤ rd l i ∧ rd l i < 256) : SCal Try.prog 27 (l.map (Value.int .u8)) t l.length l.length (.tuple #[.agg #[.int .u64 (hiA v6 (byD l)), .int .u64 (loA v6 (byD l)), .bool v6], .int .i64 0]) :=
  SCal.mk fun g w hg => addr_From.calls _ _ l _ _ _ _ w (reads_of_block (by cases v6 <;> simp_all) hg) (Nat.le_refl _) (From_f l v6 hl h)
theorem awake02_s : Cal Try.prog 22 [] (.bool true) := by
  refine Cal.mk fun Wo => enter (F := fun _ => False) Try.func22 rfl Try.ntmps22 rfl ?_
  have b1 : BSl Try.prog 40 4 [(0, .int .u8 10), (1, .int .u8 0), (2, .int .u8 0), (3, .int .u8 0)] [.int .u8 10, .int .u8 0, .int .u8 0, .int .u8 0] 5 := BSl.mk fun w => by kernel_rfl
  have b2 : BSl Try.prog 40 4 [(0, .int .u8 10), (1, .int .u8 1), (2, .int .u8 0), (3, .int .u8 0)] [.int .u8 10, .int .u8 1, .int .u8 0, .int .u8 0] 5 := BSl.mk fun w => by kernel_rfl
  have b3 : BSl Try.prog 40 4 [(0, .int .u8 11), (1, .int .u8 0), (2, .int .u8 0), (3, .int .u8 0)] [.int .u8 11, .int .u8 0, .int .u8 0, .int .u8 0] 5 := BSl.mk fun w => by kernel_rfl
  have f1 := from_s [10, 0, 0, 0] false 5 rfl (by decide)
  have f2 := from_s [10, 1, 0, 0] false 5 rfl (by decide)
  have f3 := from_s [11, 0, 0, 0] false 5 rfl (by decide)
  simp only [List.map_cons, List.map_nil, List.length_cons, List.length_nil, Nat.zero_add, Nat.reduceAdd] at f1 f2 f3
  have mk : ∀ (l : List Int) (c : Nat) (hc : c ≤ 32), Cal Try.prog 23 [.agg #[.int .u64 (hiA false (byD l)), .int .u64 (loA false (byD l)), .bool false], .int .i64 ((c : Nat) : Int)] (.agg #[.int .u64 (hiA false (cutd (byD l) c)), .int .u64 (loA false (cutd (byD l) c)), .bool false, .int .i64 ((c : Nat) : Int)]) := fun l c hc => by
    have h := of_s (u_mk false (byD l)) false (c : Int)
    have e : ∀ i, i < W false → cutd (D (hiA false (byD l)) (loA false (byD l))) c i = cutd (byD l) c i := fun i hi => by unfold cutd; rw [D_mk, decide_eq_true hi, Bool.true_and]
    rw [clampW_in (show c ≤ W false by rw [W_f]; exact hc), hi_congr e, lo_congr e] at h
    exact h
  have k1 := mk [10, 0, 0, 0] 8 (by decide)
  have k2 := mk [10, 1, 0, 0] 16 (by decide)
  have k3 := mk [11, 0, 0, 0] 8 (by decide)
  clear mk
  have k4 := sibling_pk false (byD [10, 0, 0, 0]) 7 (by decide)
  have k5 := covers_s (u_mk false (cutd (byD [10, 0, 0, 0]) 8)) (u_mk false (cutd (byD [10, 1, 0, 0]) 16)) false ((8 : Nat) : Int) false ((16 : Nat) : Int)
  have k6 := sane_pk false (putd (byD [10, 0, 0, 0]) 7 (!byD [10, 0, 0, 0] 7)) 8 (by decide)
  rw [covB_pk false _ 8 (by decide) false _ 16 (by decide), show (decide (8 ≤ 16) && conD false (byD [10, 0, 0, 0]) 8 false (byD [10, 1, 0, 0])) = true by
    rw [Bool.and_eq_true, conD_true]
    exact ⟨by decide, rfl, by decide⟩] at k5
  rw [show (7 + 1 : Nat) = 8 from rfl] at k4
  have e1 : ∀ i, i < W false → cutd (putd (byD [10, 0, 0, 0]) 7 (!byD [10, 0, 0, 0] 7)) 8 i = cutd (byD [11, 0, 0, 0]) 8 i := by decide
  rw [hi_congr e1, lo_congr e1] at k4 k6
  have hF : ((((true && true) && ((hiA false (cutd (byD [11, 0, 0, 0]) 8) == hiA false (cutd (byD [11, 0, 0, 0]) 8) && (loA false (cutd (byD [11, 0, 0, 0]) 8) == loA false (cutd (byD [11, 0, 0, 0]) 8) && false == false)) && ((8 : Nat) : Int) == ((8 : Nat) : Int))) && true) && (((8 : Nat) : Int) == 8)) = true := by simp
  clear e1
  repeat (first
    | (apply s_box; rfl; constructor; rfl; intro _)
    | (apply s_alloc; rfl; intro _)
    | (apply s_bslice; rfl; assumption; rfl; intro _)
    | (apply s_store; rfl; rfl; (repeat (first | exact List.Mem.head _ | apply List.Mem.tail)); constructor; (focus ((simp only [setAt, List.set_cons_zero, List.set_cons_succ, Nat.zero_add, Nat.reduceAdd]); try rfl)); (repeat (first | exact MUpd.hit | apply MUpd.miss)); kernel_rfl; rfl)
    | (apply g_new; rfl; intro _)
    | apply s_st
    | apply q_st
    | apply st_go
    | (apply st_off; rfl)
    | (apply st_on; rfl)
    | (apply st_if4; rfl; intro h1 h2 h3 h4; (try simp only [h1, h2, h3, h4, gv_true, gv_tt]); (try simp only [h1, h2, h3, h4, gv_true, gv_tt, Bool.true_and]))
    | (apply st_if3; rfl; intro h1 h2 h3; (try simp only [h1, h2, h3, gv_true, gv_tt]); (try simp only [h1, h2, h3, gv_true, gv_tt, Bool.true_and]))
    | (apply st_if2; rfl; intro h1 h2; (try simp only [h1, h2, gv_true, gv_tt]))
    | (apply st_if; rfl; intro h1; (try simp only [h1, gv_true, gv_tt]))
    | (focus (first | (apply y_move; rfl; done) | (apply y_assign; rfl; done) | (apply y_not; rfl; done) | (apply y_load; rfl; (repeat (first | exact List.Mem.head _ | apply List.Mem.tail)); (repeat (first | exact Sub.nil | apply Sub.take | apply Sub.drop)); done) | (apply y_cell; rfl; (repeat (first | exact List.Mem.head _ | apply List.Mem.tail)); (repeat (first | exact At.hit | apply At.miss)); kernel_rfl; done) | (apply y_calls; rfl; rfl; rfl; assumption; done) | (apply y_scal; rfl; rfl; rfl; (repeat (first | exact List.Mem.head _ | apply List.Mem.tail)); assumption; done) | (apply y_and; rfl; rfl; done) | (apply y_or; rfl; rfl; done) | (apply y_and_f; rfl; done) | (apply y_or_t; rfl; done) | (apply y_extract; rfl; (repeat (first | exact At.hit | apply At.miss)); done) | (apply y_fagg; rfl; (repeat (first | exact Sub.nil | apply Sub.take | apply Sub.drop)); done) | (apply y_fcell; kernel_rfl; rfl; (repeat (first | exact At.hit | apply At.miss)); done) | (apply y_faddr; kernel_rfl; rfl; done) | (apply y_eq; rfl; rfl; done) | (apply y_ne; rfl; rfl; done) | (apply y_lt; rfl; rfl; done) | (apply y_le; rfl; rfl; done) | (apply y_gt; rfl; rfl; done) | (apply y_ge; rfl; rfl; done) | (apply y_add; rfl; rfl; done) | (apply y_sub; rfl; rfl; done) | (apply y_nes; rfl; rfl; kernel_rfl; exact inferInstance; done) | (apply y_eqs; rfl; rfl; kernel_rfl; exact inferInstance; done) | (apply y_beq; kernel_rfl; rfl; rfl; done) | (apply y_bne; kernel_rfl; rfl; rfl; done) | (apply y_min2; rfl; done) | (apply y_min3; rfl; done) | (apply y_max2; rfl; done) | (apply y_build; kernel_rfl; (repeat (first | exact Bld.nil | (apply Bld.cons; exact inferInstance; rfl; constructor; kernel_rfl; (focus ((simp only [setAt, List.set_cons_zero, List.set_cons_succ, Nat.zero_add, Nat.reduceAdd]); try rfl))))); done)))
    | refine q_nil ?_
    | refine s_nil ?_
    | refine w_seq ?_
    | refine f_then ?_
    | refine f_ret ?_
    | refine f_ret_block ?_
    | refine w_skip ?_
    | refine w_ret ?_
    | refine w_cond_f rfl ?_
    | refine w_cond_t rfl ?_
    | (apply w_cond_tt; rfl; assumption)
    | (apply w_cond_ff; rfl; assumption)
    | (apply f_end; rfl; rfl; intro w hw; first | exact ans hw | exact ans_b (by assumption) hw)
    | (apply f_ends; rfl; (repeat (first | exact Res.nil | (apply Res.tmp; rfl) | (apply Res.agg; exact inferInstance; rfl; (repeat (first | exact List.Mem.head _ | apply List.Mem.tail)); (repeat (first | exact Sub.nil | apply Sub.take | apply Sub.drop))) | (apply Res.cell; kernel_rfl; rfl; (repeat (first | exact List.Mem.head _ | apply List.Mem.tail)); (repeat (first | exact At.hit | apply At.miss))))); intro w hw; exact ans hw)
    | (apply f_ends1; rfl; (repeat (first | exact Res.nil | (apply Res.tmp; rfl) | (apply Res.agg; exact inferInstance; rfl; (repeat (first | exact List.Mem.head _ | apply List.Mem.tail)); (repeat (first | exact Sub.nil | apply Sub.take | apply Sub.drop))) | (apply Res.cell; kernel_rfl; rfl; (repeat (first | exact List.Mem.head _ | apply List.Mem.tail)); (repeat (first | exact At.hit | apply At.miss))))); intro w hw; exact ans hw)
    | (apply w_draw_l; kernel_rfl; rfl; kernel_rfl)
    | (apply w_mixed_l; kernel_rfl; kernel_rfl)
    | (apply g_st; intro W0)
    | refine g_done ?_
    | refine w_reg_l ?_
    | exact rfl)
end Go.Proofs.Ytbaeaiiohkfieaa.Hand
