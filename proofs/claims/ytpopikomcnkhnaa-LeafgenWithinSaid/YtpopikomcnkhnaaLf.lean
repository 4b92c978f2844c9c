/-
  LeafgenWithin.
-/
import Derived.Test.YtpopikomcnkhnaaLc
namespace Go.Proofs.Ytpopikomcnkhnaa.Hand
open Go.RowKit Go.Proofs.Ytpopikomcnkhnaa.Bits Go.Proofs.Ytpopikomcnkhnaa.Dig Go.Proofs.Ytpopikomcnkhnaa.Sq
set_option linter.unusedVariables false
set_option linter.unusedSimpArgs false
set_option maxRecDepth 100000
set_option maxHeartbeats 8000000
theorem child_x {p : Px} (hs : sanB p = true) (side : Int) : ∃ (c : Px) (has : Bool), Cal Try.prog 43 [p.val, .int .i64 side] (.tuple #[c.val, .bool has]) ∧ c.a.wf ∧ (has = true → cvB p c = true) := by
  obtain ⟨⟨v, k⟩, hk, rfl⟩ := sane_form hs
  dsimp only at hk
  rcases Nat.lt_or_ge k.length (W v) with h | h
  · refine ⟨pxK (v, k ++ [setv side]), true, child_k h side, pxK_wf _, fun _ => ?_⟩
    have hl : (k ++ [setv side]).length ≤ W v := by rw [List.length_append, List.length_singleton]; omega
    exact cov_key.2 ⟨hs, sanB_pxK hl, by rw [keyP_pxK hk, keyP_pxK hl], by rw [keyP_pxK hk, keyP_pxK hl]; exact List.prefix_append _ _⟩
  · exact ⟨⟨⟨0, 0, false⟩, 0⟩, false, child_f (by omega) side, ⟨⟨by decide, by decide⟩, by decide, by decide⟩, fun q => by cases q⟩
theorem leafgenWithin_s (l : List Pr) (hw : ∀ e ∈ l, e.p.a.wf) {x : Pr} (hx : x.p.a.wf) (side : Int) (A0 : Option Addr) (c0 : Nat) :
    RCal Try.prog 7 [.slice A0 l.length c0, .agg x.cells.toArray, .int .i64 side] [.vw A0 c0 5 (l.map Pr.cells)] (.bool true) := by
  have k0 := awake07_s
  by_cases hl : l.length ≤ 60
  · have k1 := filled_p l hw hl A0 c0
    have hti := fillN_ri l
    generalize fillN l = s at *
    obtain ⟨L, mo⟩ := s
    dsimp only at k1 hti
    have hg := hti.good
    have hL : L.length ≤ 100000 := by have := hti.len; omega
    clear hti hw
    have a1 := fun g bs => lgood_p (g := g) (L := L) (mo := mo) (N := 200) (H := 200) (bs := bs) hL hx
    cases hgd : goodN L x with
    | false =>
      rw [hgd] at a1
      dsimp only [Pr.cells] at a1 ⊢
      clear hgd hg
      refine enter_r rfl Try.func7 rfl Try.ntmps7 rfl (fun Wo => ?_)
      repeat (first | (apply s_box; rfl; constructor; rfl; intro _) | (apply s_trix; rfl; rfl; rfl; assumption; (repeat (first | exact Tk.nil | (apply Tk.see; (first | (focus (apply VSees.vw; (repeat (first | exact List.Mem.head _ | apply List.Mem.tail)); done)) | exact VSees.nil | assumption)) | (apply Tk.see; exact VSees.nil) | (apply Tk.take; (repeat (first | exact Plc.hit | apply Plc.miss))))); rfl; intro _; (try dsimp only [List.cons_append, List.nil_append])) | apply s_st | apply st_go | (focus (first | (apply y_move; rfl) | (apply y_assign; rfl) | (apply y_not; rfl) | (apply y_load; rfl; (repeat (first | exact List.Mem.head _ | apply List.Mem.tail)); (repeat (first | exact Sub.nil | apply Sub.take | apply Sub.drop)); done) | (apply y_calls; rfl; rfl; rfl; (first | assumption | exact a1 _); done) | (apply y_rcalq; rfl; rfl; rfl; (exact a1 _); (repeat (first | exact SeesAll.nil | (apply SeesAll.cons; (first | (focus (apply Sees.vw; (repeat (first | exact List.Mem.head _ | apply List.Mem.tail)); done)) | (focus (apply Sees.own; (repeat (first | exact List.Mem.head _ | apply List.Mem.tail)); done)) | exact Sees.nil | assumption)) | (apply SeesAll.mem; (repeat (first | exact List.Mem.head _ | apply List.Mem.tail))))); done) | (apply y_len; rfl) | (apply y_gt; rfl; rfl))) | apply s_nil | apply w_seq | apply f_then | apply f_ret | apply w_skip | apply w_ret | refine w_cond_t rfl ?_ | (apply w_cond_ff; rfl; (focus ((repeat (first | assumption | rfl | exact beq_self_eq_true _ | exact bne_self_eq_false _ | apply bOrF | apply bAndT | apply bNotF | apply bNotT | (focus (apply decide_eq_true; omega)) | (focus (apply decide_eq_false; omega)) | (focus (apply bEqT; omega)) | (focus (apply bEqF; omega)) | (focus (apply bNeT; omega)) | (focus (apply bNeF; omega)) | (focus (apply bOrT1; first | assumption | (apply decide_eq_true; omega))) | (focus (apply bOrT2; first | assumption | (apply decide_eq_true; omega))) | (focus (apply bAndF1; first | assumption | (apply decide_eq_false; omega))) | (focus (apply bAndF2; first | assumption | (apply decide_eq_false; omega))))); done))) | (apply f_end; rfl; rfl; rfl; intro w hw; first | exact ans hw | (refine ans_b ?_ hw; (focus ((repeat (first | assumption | rfl | exact beq_self_eq_true _ | exact bne_self_eq_false _ | apply bOrF | apply bAndT | apply bNotF | apply bNotT | (focus (apply decide_eq_true; omega)) | (focus (apply decide_eq_false; omega)) | (focus (apply bEqT; omega)) | (focus (apply bEqF; omega)) | (focus (apply bNeT; omega)) | (focus (apply bNeF; omega)) | (focus (apply bOrT1; first | assumption | (apply decide_eq_true; omega))) | (focus (apply bOrT2; first | assumption | (apply decide_eq_true; omega))) | (focus (apply bAndF1; first | assumption | (apply decide_eq_false; omega))) | (focus (apply bAndF2; first | assumption | (apply decide_eq_false; omega))))); done))) | (apply t_endS1 hw; rfl; (focus ((repeat (first | exact List.Sublist.refl _ | apply List.Sublist.cons_cons | apply List.Sublist.cons)); done))) | (apply t_endU hw; rfl; (focus ((repeat (first | exact List.Sublist.refl _ | apply List.Sublist.cons_cons | apply List.Sublist.cons)); done))) | (apply t_endX1 hw; rfl; (focus ((repeat (first | exact List.Sublist.refl _ | apply List.Sublist.cons_cons | apply List.Sublist.cons)); done))) | (refine t_end ⟨rfl, rfl⟩ ?_ w hw; (focus ((repeat (first | exact List.Sublist.refl _ | apply List.Sublist.cons_cons | apply List.Sublist.cons)); done))) | (apply t_endUT hw; rfl; (focus ((repeat (first | exact Tk.nil | (apply Tk.see; (first | (focus (apply VSees.vw; (repeat (first | exact List.Mem.head _ | apply List.Mem.tail)); done)) | exact VSees.nil | assumption)) | (apply Tk.see; exact VSees.nil) | (apply Tk.take; (repeat (first | exact Plc.hit | apply Plc.miss))))); done)); (focus ((repeat (first | exact List.Sublist.refl _ | apply List.Sublist.cons_cons | apply List.Sublist.cons)); done))) | (apply t_endXT hw; rfl; (repeat (first | exact Tk.nil | (apply Tk.see; (first | (focus (apply VSees.vw; (repeat (first | exact List.Mem.head _ | apply List.Mem.tail)); done)) | exact VSees.nil | assumption)) | (apply Tk.see; exact VSees.nil) | (apply Tk.take; (repeat (first | exact Plc.hit | apply Plc.miss))))); (focus ((repeat (first | exact List.Sublist.refl _ | apply List.Sublist.cons_cons | apply List.Sublist.cons)); done)))) | (apply w_reg_l; rfl) | exact rfl)
    | true =>
      rw [hgd] at a1
      unfold goodN at hgd
      simp only [Bool.and_eq_true, Bool.not_eq_true', beq_iff_eq] at hgd
      obtain ⟨⟨h1, h2⟩, h3⟩ := hgd
      have hs : sanB x.p = true := by
        unfold govN at h1
        split at h1
        · cases h1
        · rename_i e he
          exact (cov_key.1 (List.mem_filter.1 (List.mem_of_getElem? he)).2).2.1
      have hc := con_first hs
      have hgw := gov_con hg hc h3
      have hgb : govN L (blkP L x.p.a) = govN L x.p := (gov_con hg (blk_con L x.p.a) (blk_no L x.p.a)).trans hgw.symm
      have hcv : cvB (blkP L x.p.a) x.p = true := by
        obtain ⟨q1, q2, q3⟩ := con_ofP hc
        have := no_blk (L := L) (a := x.p.a) (c := x.p.n.toNat) (by rw [← q2]; exact h3)
        have h9 := ofP_cov this q1
        rw [← q2] at h9
        exact h9
      have a2 := fun g bs => leaf_p (g := g) (L := L) (mo := mo) (N := 200) (H := 200) (bs := bs) hL hx
      have a3 := cov_s (blk_wf L x.p.a) hx
      rw [hcv] at a3
      have a4 := sane_px hx
      rw [hs] at a4
      obtain ⟨c, has, a5, hcw, hcc⟩ := child_x hs side
      have a6 := fun g bs => lgood_p (g := g) (L := L) (mo := mo) (N := 200) (H := 200) (bs := bs) hL (x := ⟨c, x.v⟩) hcw
      have hE : (!has || goodN L ⟨c, x.v⟩) = true := by
        cases has with
        | false => rfl
        | true =>
          have hcv2 := hcc rfl
          have hcs := (cov_key.1 hcv2).2.1
          have hi2 := ins_down hcv2 h3
          have e1 := gov_con hg (con_first hcs) hi2
          have e2 := gov_con hg (con_of_cov hcv2 (con_first hcs)) h3
          unfold goodN
          dsimp only
          rw [e1, ← e2, h1, h2, hi2, beq_self_eq_true]
          rfl
      rw [leafX_t (by rw [hgb]; exact h1), hgb, h2] at a2
      generalize goodN L ⟨c, x.v⟩ = gc at *
      generalize blkP L x.p.a = p at *
      dsimp only [Pr.cells] at a1 a2 a6 ⊢
      clear hg h1 h2 h3 hgw hgb hcv hc hcc hL hcw hx
      refine enter_r rfl Try.func7 rfl Try.ntmps7 rfl (fun Wo => ?_)
      repeat (first | (apply s_box; rfl; constructor; rfl; intro _) | (apply s_alloc; rfl; intro _) | (apply s_store; rfl; rfl; (repeat (first | exact Plc.hit | apply Plc.miss)); constructor; (focus ((simp only [setAt, List.set_cons_zero, List.set_cons_succ, Nat.zero_add, Nat.reduceAdd, Nat.reduceMul]); try rfl)); kernel_rfl; rfl) | (apply s_trix; rfl; rfl; rfl; assumption; (repeat (first | exact Tk.nil | (apply Tk.see; (first | (focus (apply VSees.vw; (repeat (first | exact List.Mem.head _ | apply List.Mem.tail)); done)) | exact VSees.nil | assumption)) | (apply Tk.see; exact VSees.nil) | (apply Tk.take; (repeat (first | exact Plc.hit | apply Plc.miss))))); rfl; intro _; (try dsimp only [List.cons_append, List.nil_append])) | apply s_st | apply st_go | (apply st_on; rfl) | (apply st_one; rfl; (focus ((repeat (first | assumption | rfl | exact beq_self_eq_true _ | exact bne_self_eq_false _ | apply bOrF | apply bAndT | apply bNotF | apply bNotT | (focus (apply decide_eq_true; omega)) | (focus (apply decide_eq_false; omega)) | (focus (apply bEqT; omega)) | (focus (apply bEqF; omega)) | (focus (apply bNeT; omega)) | (focus (apply bNeF; omega)) | (focus (apply bOrT1; first | assumption | (apply decide_eq_true; omega))) | (focus (apply bOrT2; first | assumption | (apply decide_eq_true; omega))) | (focus (apply bAndF1; first | assumption | (apply decide_eq_false; omega))) | (focus (apply bAndF2; first | assumption | (apply decide_eq_false; omega))))); done))) | (apply st_if; rfl; intro h1; (try simp only [h1, gv_true, gv_tt])) | (focus (first | (apply y_move; rfl) | (apply y_assign; rfl) | (apply y_not; rfl) | (apply y_load; rfl; (repeat (first | exact List.Mem.head _ | apply List.Mem.tail)); (repeat (first | exact Sub.nil | apply Sub.take | apply Sub.drop)); done) | (apply y_cell; rfl; (repeat (first | exact List.Mem.head _ | apply List.Mem.tail)); (repeat (first | exact At.hit | apply At.miss)); kernel_rfl; done) | (apply y_calls; rfl; rfl; rfl; (first | assumption | exact a1 _ | exact a2 _ | exact a6 _); done) | (apply y_rcalq; rfl; rfl; rfl; (exact a1 _); (repeat (first | exact SeesAll.nil | (apply SeesAll.cons; (first | (focus (apply Sees.vw; (repeat (first | exact List.Mem.head _ | apply List.Mem.tail)); done)) | (focus (apply Sees.own; (repeat (first | exact List.Mem.head _ | apply List.Mem.tail)); done)) | exact Sees.nil | assumption)) | (apply SeesAll.mem; (repeat (first | exact List.Mem.head _ | apply List.Mem.tail))))); done) | (apply y_rcalq; rfl; rfl; rfl; (exact a2 _); (repeat (first | exact SeesAll.nil | (apply SeesAll.cons; (first | (focus (apply Sees.vw; (repeat (first | exact List.Mem.head _ | apply List.Mem.tail)); done)) | (focus (apply Sees.own; (repeat (first | exact List.Mem.head _ | apply List.Mem.tail)); done)) | exact Sees.nil | assumption)) | (apply SeesAll.mem; (repeat (first | exact List.Mem.head _ | apply List.Mem.tail))))); done) | (apply y_rcalq; rfl; rfl; rfl; (exact a6 _); (repeat (first | exact SeesAll.nil | (apply SeesAll.cons; (first | (focus (apply Sees.vw; (repeat (first | exact List.Mem.head _ | apply List.Mem.tail)); done)) | (focus (apply Sees.own; (repeat (first | exact List.Mem.head _ | apply List.Mem.tail)); done)) | exact Sees.nil | assumption)) | (apply SeesAll.mem; (repeat (first | exact List.Mem.head _ | apply List.Mem.tail))))); done) | (apply y_and; rfl; rfl; done) | (apply y_or; rfl; rfl; done) | (apply y_andp; rfl; rfl; done) | (apply y_extract; rfl; (repeat (first | exact At.hit | apply At.miss)); done) | (apply y_faddr; kernel_rfl; rfl) | (apply y_len; rfl) | (apply y_eq; rfl; rfl) | (apply y_gt; rfl; rfl) | (apply y_build; kernel_rfl; (repeat (first | exact Bld.nil | (apply Bld.cons; exact inferInstance; rfl; constructor; kernel_rfl; (focus ((simp only [setAt, List.set_cons_zero, List.set_cons_succ, Nat.zero_add, Nat.reduceAdd, Nat.reduceMul]); try rfl))))); done))) | apply s_nil | apply w_seq | apply f_then | apply w_skip | apply w_ret | refine w_cond_f rfl ?_ | (apply w_cond_ff; rfl; (focus ((repeat (first | assumption | rfl | exact beq_self_eq_true _ | exact bne_self_eq_false _ | apply bOrF | apply bAndT | apply bNotF | apply bNotT | (focus (apply decide_eq_true; omega)) | (focus (apply decide_eq_false; omega)) | (focus (apply bEqT; omega)) | (focus (apply bEqF; omega)) | (focus (apply bNeT; omega)) | (focus (apply bNeF; omega)) | (focus (apply bOrT1; first | assumption | (apply decide_eq_true; omega))) | (focus (apply bOrT2; first | assumption | (apply decide_eq_true; omega))) | (focus (apply bAndF1; first | assumption | (apply decide_eq_false; omega))) | (focus (apply bAndF2; first | assumption | (apply decide_eq_false; omega))))); done))) | (apply f_end; rfl; rfl; rfl; intro w hw; first | exact ans hw | (refine ans_b ?_ hw; (focus ((repeat (first | assumption | rfl | exact beq_self_eq_true _ | exact bne_self_eq_false _ | apply bOrF | apply bAndT | apply bNotF | apply bNotT | (focus (apply decide_eq_true; omega)) | (focus (apply decide_eq_false; omega)) | (focus (apply bEqT; omega)) | (focus (apply bEqF; omega)) | (focus (apply bNeT; omega)) | (focus (apply bNeF; omega)) | (focus (apply bOrT1; first | assumption | (apply decide_eq_true; omega))) | (focus (apply bOrT2; first | assumption | (apply decide_eq_true; omega))) | (focus (apply bAndF1; first | assumption | (apply decide_eq_false; omega))) | (focus (apply bAndF2; first | assumption | (apply decide_eq_false; omega))))); done))) | (apply t_endS1 hw; rfl; (focus ((repeat (first | exact List.Sublist.refl _ | apply List.Sublist.cons_cons | apply List.Sublist.cons)); done))) | (apply t_endU hw; rfl; (focus ((repeat (first | exact List.Sublist.refl _ | apply List.Sublist.cons_cons | apply List.Sublist.cons)); done))) | (apply t_endX1 hw; rfl; (focus ((repeat (first | exact List.Sublist.refl _ | apply List.Sublist.cons_cons | apply List.Sublist.cons)); done))) | (refine t_end ⟨rfl, rfl⟩ ?_ w hw; (focus ((repeat (first | exact List.Sublist.refl _ | apply List.Sublist.cons_cons | apply List.Sublist.cons)); done))) | (apply t_endUT hw; rfl; (focus ((repeat (first | exact Tk.nil | (apply Tk.see; (first | (focus (apply VSees.vw; (repeat (first | exact List.Mem.head _ | apply List.Mem.tail)); done)) | exact VSees.nil | assumption)) | (apply Tk.see; exact VSees.nil) | (apply Tk.take; (repeat (first | exact Plc.hit | apply Plc.miss))))); done)); (focus ((repeat (first | exact List.Sublist.refl _ | apply List.Sublist.cons_cons | apply List.Sublist.cons)); done))) | (apply t_endXT hw; rfl; (repeat (first | exact Tk.nil | (apply Tk.see; (first | (focus (apply VSees.vw; (repeat (first | exact List.Mem.head _ | apply List.Mem.tail)); done)) | exact VSees.nil | assumption)) | (apply Tk.see; exact VSees.nil) | (apply Tk.take; (repeat (first | exact Plc.hit | apply Plc.miss))))); (focus ((repeat (first | exact List.Sublist.refl _ | apply List.Sublist.cons_cons | apply List.Sublist.cons)); done)))) | (apply w_reg_l; rfl) | exact rfl)
  · dsimp only [Pr.cells]
    refine enter_r rfl Try.func7 rfl Try.ntmps7 rfl (fun Wo => ?_)
    repeat (first | (apply s_box; rfl; constructor; rfl; intro _) | apply s_st | apply st_go | (focus (first | (apply y_move; rfl) | (apply y_assign; rfl) | (apply y_calls; rfl; rfl; rfl; (first | assumption); done) | (apply y_len; rfl) | (apply y_gt; rfl; rfl))) | apply s_nil | apply w_seq | apply f_then | apply f_ret | apply w_ret | (apply w_cond_tt; rfl; (focus ((repeat (first | assumption | rfl | exact beq_self_eq_true _ | exact bne_self_eq_false _ | apply bOrF | apply bAndT | apply bNotF | apply bNotT | (focus (apply decide_eq_true; omega)) | (focus (apply decide_eq_false; omega)) | (focus (apply bEqT; omega)) | (focus (apply bEqF; omega)) | (focus (apply bNeT; omega)) | (focus (apply bNeF; omega)) | (focus (apply bOrT1; first | assumption | (apply decide_eq_true; omega))) | (focus (apply bOrT2; first | assumption | (apply decide_eq_true; omega))) | (focus (apply bAndF1; first | assumption | (apply decide_eq_false; omega))) | (focus (apply bAndF2; first | assumption | (apply decide_eq_false; omega))))); done))) | (apply f_end; rfl; rfl; rfl; intro w hw; first | exact ans hw | (refine ans_b ?_ hw; (focus ((repeat (first | assumption | rfl | exact beq_self_eq_true _ | exact bne_self_eq_false _ | apply bOrF | apply bAndT | apply bNotF | apply bNotT | (focus (apply decide_eq_true; omega)) | (focus (apply decide_eq_false; omega)) | (focus (apply bEqT; omega)) | (focus (apply bEqF; omega)) | (focus (apply bNeT; omega)) | (focus (apply bNeF; omega)) | (focus (apply bOrT1; first | assumption | (apply decide_eq_true; omega))) | (focus (apply bOrT2; first | assumption | (apply decide_eq_true; omega))) | (focus (apply bAndF1; first | assumption | (apply decide_eq_false; omega))) | (focus (apply bAndF2; first | assumption | (apply decide_eq_false; omega))))); done)))) | (apply w_reg_l; rfl) | exact rfl)
end Go.Proofs.Ytpopikomcnkhnaa.Hand
