/-
  QueuePicks.
-/
import Derived.Test.YtlmcfjadhahlpaaQp
import Derived.Test.YtlmcfjadhahlpaaQk
namespace Go.Proofs.Ytlmcfjadhahlpaa.Hand
open Go.RowKit Go.Proofs.Ytlmcfjadhahlpaa.Bits Go.Proofs.Ytlmcfjadhahlpaa.Dig Go.Proofs.Ytlmcfjadhahlpaa.Sq
set_option linter.unusedVariables false
set_option linter.unusedSimpArgs false
set_option maxRecDepth 100000
set_option maxHeartbeats 2000000
/-- What is left behind i picks, from behind or from the front. -/
def resid (l : List En) (back : Bool) (i : Nat) : List En := if back then l.take (l.length - i) else l.drop i
theorem resid_zero (l : List En) (back : Bool) : resid l back 0 = l := by cases back <;> simp [resid]
theorem resid_end (l : List En) (back : Bool) : resid l back l.length = [] := by cases back <;> simp [resid]
theorem resid_len (l : List En) (back : Bool) (i : Nat) : (resid l back i).length = l.length - i := by
  cases back
  · simp [resid]
  · simp only [resid, if_true, List.length_take]; omega
theorem resid_wf {l : List En} (hw : ∀ e ∈ l, e.wf) (back : Bool) (i : Nat) : ∀ e ∈ resid l back i, e.wf := by
  cases back
  · exact fun e he => hw e (List.mem_of_mem_drop he)
  · exact fun e he => hw e (List.mem_of_mem_take he)
theorem pick_front {l : List En} {b : Int} {i : Nat} (hi : i < l.length) (h : SaneQ (resid l false i) b) : pickN (resid l false i) b 0 = (resid l false (i + 1), b, l[i], true) := by
  have hlen := resid_len l false i
  unfold pickN
  have hg : (decide ((0 : Int) < 0) || decide ((0 : Int) ≥ (((resid l false i).length : Nat) : Int))) = false := by rw [hlen]; simp; omega
  rw [if_pos (bP_t h), hg, if_neg (by decide)]
  unfold resid
  simp only [Bool.false_eq_true, if_false, Int.toNat_zero]
  rw [List.drop_eq_getElem_cons hi]
  rfl
theorem pick_back {l : List En} {b : Int} {i : Nat} (hi : i < l.length) (h : SaneQ (resid l true i) b) {x : Int} (hx : x = ((l.length - 1 - i : Nat) : Int)) : pickN (resid l true i) b x = (resid l true (i + 1), b, l[l.length - 1 - i]'(by omega), true) := by
  have hlen := resid_len l true i
  subst hx
  unfold pickN
  have hg : (decide (((l.length - 1 - i : Nat) : Int) < 0) || decide (((l.length - 1 - i : Nat) : Int) ≥ (((resid l true i).length : Nat) : Int))) = false := by rw [hlen]; simp; omega
  rw [if_pos (bP_t h), hg, if_neg (by decide)]
  unfold resid
  simp only [if_true, Int.toNat_natCast]
  have e : l.length - i = (l.length - 1 - i) + 1 := by omega
  have e2 : l.length - (i + 1) = l.length - 1 - i := by omega
  rw [e2, List.getElem?_take_of_lt (by omega), List.getElem?_eq_getElem (by omega), List.eraseIdx_eq_take_drop_succ, List.take_take, Nat.min_eq_left (by omega), List.drop_eq_nil_of_le (by rw [List.length_take]; omega)]
  simp
theorem zero_D (i : Nat) : D 0 0 i = false := by unfold D; split <;> (try split) <;> simp
theorem zero_sane : sane 0 0 false := (sane4 ⟨by decide, by decide⟩).2 fun i _ _ => zero_D i
theorem zero_saneP : saneB 0 0 false 0 = true := saneB_iff.2 ⟨zero_sane, by decide, by decide, fun i _ _ => zero_D i⟩
theorem zero_fit : fitB ⟨0, 0, false⟩ ⟨⟨⟨0, 0, false⟩, 0⟩, 0⟩ = true := by
  unfold fitB goodB sanA sanB conB
  dsimp only
  rw [decide_eq_true zero_sane, zero_saneP]
  obtain ⟨c, h1, h2, h3, h4⟩ := saneB_ex zero_saneP
  obtain rfl : c = 0 := by omega
  have := contB_pk false (D 0 0) 0 (Nat.zero_le _) 0 0 false
  rw [← h3, ← h4] at this
  rw [show (0 : Int) = ((0 : Nat) : Int) from rfl] at this ⊢
  rw [this, conD_true.2 ⟨rfl, fun i hi => absurd hi (Nat.not_lt_zero _)⟩]
  decide
theorem queuePicks_s (l : List En) (hw : ∀ e ∈ l, e.wf) (b : Int) (back : Bool) (n : Int) (A0 : Option Addr) (c0 : Nat) :
    RCal Try.prog 4 [.agg #[.slice A0 l.length c0, .int .i64 b], .bool back, .int .i64 n] [.vw A0 c0 9 (l.map En.cells)] (.bool true) := by
  have k0 := awake14_s
  by_cases hl : l.length ≤ 60
  · have hE : decide (((l.length : Nat) : Int) > 60) = false := by simp; omega
    have hl1 : l.length ≤ 100000000 := by omega
    have o1 := fun A c => ours_s l hl1 b A c
    have o2 := fun A c => sane_q l hw hl1 b A c
    by_cases hs : SaneQ l b
    · rw [bP_t hs] at o2
      have hF : (decide (((l.length : Nat) : Int) > 60) || !true) = false := by rw [hE]; rfl
      refine enter_r rfl Try.func4 rfl Try.ntmps4 rfl (fun Wo => ?_)
      repeat (first | (apply s_box; rfl; constructor; rfl; intro _) | (apply s_alloc; rfl; intro _) | (apply s_store; rfl; rfl; (repeat (first | exact Plc.hit | apply Plc.miss)); constructor; (focus ((simp only [setAt, List.set_cons_zero, List.set_cons_succ, Nat.zero_add, Nat.reduceAdd, Nat.reduceMul]); try rfl)); kernel_rfl; rfl) | (apply s_tris; rfl; rfl; rfl; (exact o1 _ _); (repeat (first | exact Tk.nil | (apply Tk.see; (first | (focus (apply VSees.vw; (repeat (first | exact List.Mem.head _ | apply List.Mem.tail)); done)) | exact VSees.nil | assumption)) | (apply Tk.see; exact VSees.nil) | (apply Tk.take; (repeat (first | exact Plc.hit | apply Plc.miss))))); rfl; intro _ _; (try dsimp only [List.cons_append, List.nil_append])) | (apply s_trisw; rfl; rfl; rfl; (exact o1 _ _); (repeat (first | exact Tk.nil | (apply Tk.see; (first | (focus (apply VSees.vw; (repeat (first | exact List.Mem.head _ | apply List.Mem.tail)); done)) | exact VSees.nil | assumption)) | (apply Tk.see; exact VSees.nil) | (apply Tk.take; (repeat (first | exact Plc.hit | apply Plc.miss))))); (first | exact want_none rfl | (apply want_on; rfl; (first | rfl | assumption | (focus ((repeat (first | assumption | rfl | exact beq_self_eq_true _ | exact bne_self_eq_false _ | apply bOrF | apply bAndT | apply bNotF | apply bNotT | (focus (apply decide_eq_true; omega)) | (focus (apply decide_eq_false; omega)) | (focus (apply bEqT; omega)) | (focus (apply bEqF; omega)) | (focus (apply bNeT; omega)) | (focus (apply bNeF; omega)) | (focus (apply bOrT1; first | assumption | (apply decide_eq_true; omega))) | (focus (apply bOrT2; first | assumption | (apply decide_eq_true; omega))) | (focus (apply bAndF1; first | assumption | (apply decide_eq_false; omega))) | (focus (apply bAndF2; first | assumption | (apply decide_eq_false; omega))))); done))))); rfl; intro _ _; (try dsimp only [List.cons_append, List.nil_append])) | apply s_st | apply st_go | (apply st_one; rfl; assumption) | (focus (first | (apply y_move; rfl) | (apply y_assign; rfl) | (apply y_not; rfl) | (apply y_load; rfl; (repeat (first | exact List.Mem.head _ | apply List.Mem.tail)); (repeat (first | exact Sub.nil | apply Sub.take | apply Sub.drop)); done) | (apply y_cell; rfl; (repeat (first | exact List.Mem.head _ | apply List.Mem.tail)); (repeat (first | exact At.hit | apply At.miss)); kernel_rfl; done) | (apply y_calls; rfl; rfl; rfl; (first | assumption | exact o1 _ _ | exact o2 _ _); done) | (apply y_rcal; rfl; rfl; rfl; (exact o2 _ _); (repeat (first | exact SeesAll.nil | (apply SeesAll.cons; (first | (focus (apply Sees.vw; (repeat (first | exact List.Mem.head _ | apply List.Mem.tail)); done)) | (focus (apply Sees.own; (repeat (first | exact List.Mem.head _ | apply List.Mem.tail)); done)) | exact Sees.nil | assumption)))); done) | (apply y_orp; rfl; rfl; done) | (apply y_faddr; kernel_rfl; rfl) | (apply y_len; rfl) | (apply y_gt; rfl; rfl))) | apply s_nil | apply w_seq | apply f_then | apply w_block | apply w_skip | (apply w_cond_ff; rfl; assumption) | (apply w_reg_l; rfl) | exact rfl)
      rename_i g3 Ax cx A1 c1 g8
      refine w_view (A := A1) (c := c1) (k := 9) (rows := l.map En.cells) (VSees.vw (by (repeat (first | exact List.Mem.head _ | apply List.Mem.tail)))) ?_
      refine w_loopm (fun s : Nat × Option Addr × Nat => [(9, .int .i64 ((s.1 : Nat) : Int))]) (fun s => [.vw s.2.1 s.2.2 9 ((resid l back s.1).map En.cells), .blk g8 [.slice s.2.1 (resid l back s.1).length s.2.2, .int .i64 b] 26, .blk g3 [.slice A0 l.length c0, .int .i64 b] 30, .vw A0 c0 9 (l.map En.cells)]) (fun s => s.1 ≤ l.length ∧ SaneQ (resid l back s.1) b) (fun s => l.length - s.1) (0, A1, c1) ⟨Nat.zero_le _, by dsimp only; rw [resid_zero]; exact hs⟩ ?_ ?_ ?_
      · (repeat (first | exact Cov.nil | (apply Cov.cons; rfl) | (apply Cov.seen; rfl)))
      · rw [resid_zero]
        (repeat (first | exact List.Sublist.refl _ | apply List.Sublist.cons_cons | apply List.Sublist.cons))
      · rintro ⟨i, A, c⟩ ⟨hi, hq⟩ R hR
        dsimp only at hi hq hR ⊢
        have hlen := resid_len l back i
        have hL : (resid l back i).length ≤ 100000000 := by omega
        have hwr := resid_wf hw back i
        by_cases hlt : i < l.length
        · have hE2 : decide (((i : Nat) : Int) < ((l.length : Nat) : Int)) = true := by simp; exact hlt
          have hrow := map_get (f := En.cells) hlt
          have hwr2 := resid_wf hw back (i + 1)
          have hlen2 := resid_len l back (i + 1)
          have hL2 : (resid l back (i + 1)).length ≤ 100000000 := by omega
          have p1 := fun A c => sane_q (resid l back (i + 1)) hwr2 hL2 b A c
          cases back with
          | false =>
            have o3 := fun A c => pick_s (resid l false i) hwr hL b 0 A c
            have hS := pick_sane hq 0
            rw [pick_front hlt hq] at o3 hS
            rw [bP_t hS] at p1
            dsimp only [pres, En.cells] at o3 hS
            have hB := fun A c => hR (i + 1, A, c) ⟨hlt, hS⟩ (by dsimp only; omega)
            dsimp only at hB
            rw [← wrap_suc (i := i) (by omega)] at hB
            generalize resid l false (i + 1) = o' at o3 p1 hB
            generalize resid l false i = o at o3
            clear hR
            generalize l[i] = w at hrow o3
            have hH : (((!true || !eqA w.a w.a) || !eqX w.x w.x) || w.stale != w.stale) = false := by rw [eqA_iff.2 rfl, eqX_iff.2 rfl]; simp
            unfold eqX eqA at hH
            repeat (first | (apply s_alloc; rfl; intro _) | (apply s_store; rfl; rfl; (repeat (first | exact Plc.hit | apply Plc.miss)); constructor; (focus ((simp only [setAt, List.set_cons_zero, List.set_cons_succ, Nat.zero_add, Nat.reduceAdd, Nat.reduceMul]); try rfl)); kernel_rfl; rfl) | (apply s_tris; rfl; rfl; rfl; (exact o3 _ _); (repeat (first | exact Tk.nil | (apply Tk.see; (first | (focus (apply VSees.vw; (repeat (first | exact List.Mem.head _ | apply List.Mem.tail)); done)) | exact VSees.nil | assumption)) | (apply Tk.see; exact VSees.nil) | (apply Tk.take; (repeat (first | exact Plc.hit | apply Plc.miss))))); rfl; intro _ _; (try dsimp only [List.cons_append, List.nil_append])) | apply s_st | apply st_go | (apply st_on; rfl) | (apply st_one; rfl; assumption) | (apply st_one; rfl; (focus ((repeat (first | assumption | rfl | exact beq_self_eq_true _ | exact bne_self_eq_false _ | apply bOrF | apply bAndT | apply bNotF | apply bNotT | (focus (apply decide_eq_true; omega)) | (focus (apply decide_eq_false; omega)) | (focus (apply bEqT; omega)) | (focus (apply bEqF; omega)) | (focus (apply bNeT; omega)) | (focus (apply bNeF; omega)) | (focus (apply bOrT1; first | assumption | (apply decide_eq_true; omega))) | (focus (apply bOrT2; first | assumption | (apply decide_eq_true; omega))) | (focus (apply bAndF1; first | assumption | (apply decide_eq_false; omega))) | (focus (apply bAndF2; first | assumption | (apply decide_eq_false; omega))))); done))) | (focus (first | (apply y_move; rfl) | (apply y_assign; rfl) | (apply y_not; rfl) | (apply y_load; rfl; (repeat (first | exact List.Mem.head _ | apply List.Mem.tail)); (repeat (first | exact Sub.nil | apply Sub.take | apply Sub.drop)); done) | (apply y_cell; rfl; (repeat (first | exact List.Mem.head _ | apply List.Mem.tail)); (repeat (first | exact At.hit | apply At.miss)); kernel_rfl; done) | (apply y_eload; rfl; (first | (focus (apply Sees.vw; (repeat (first | exact List.Mem.head _ | apply List.Mem.tail)); done)) | (focus (apply Sees.own; (repeat (first | exact List.Mem.head _ | apply List.Mem.tail)); done)) | exact Sees.nil | assumption); (first | assumption | rfl); (repeat (first | exact Sub.nil | apply Sub.take | apply Sub.drop)); done) | (apply y_rcal; rfl; rfl; rfl; (exact p1 _ _); (repeat (first | exact SeesAll.nil | (apply SeesAll.cons; (first | (focus (apply Sees.vw; (repeat (first | exact List.Mem.head _ | apply List.Mem.tail)); done)) | (focus (apply Sees.own; (repeat (first | exact List.Mem.head _ | apply List.Mem.tail)); done)) | exact Sees.nil | assumption)))); done) | (apply y_or; rfl; rfl; done) | (apply y_orp; rfl; rfl; done) | (apply y_extract; rfl; (repeat (first | exact At.hit | apply At.miss)); done) | (apply y_faddr; kernel_rfl; rfl) | (apply y_ixaddr; rfl; rfl; (first | (focus (apply Sees.vw; (repeat (first | exact List.Mem.head _ | apply List.Mem.tail)); done)) | (focus (apply Sees.own; (repeat (first | exact List.Mem.head _ | apply List.Mem.tail)); done)) | exact Sees.nil | assumption); (first | rfl | assumption | (focus (simp; done)) | (focus (simp; omega))); (first | assumption | rfl | exact (show (0 : Int) = ((0 : Nat) : Int) from rfl) | exact (show (1 : Int) = ((1 : Nat) : Int) from rfl) | exact (show (2 : Int) = ((2 : Nat) : Int) from rfl) | exact (show (3 : Int) = ((3 : Nat) : Int) from rfl)); (first | assumption | omega | (focus (simp; done)) | (focus (simp; omega))); done) | (apply y_len; rfl) | (apply y_lt; rfl; rfl) | (apply y_add; rfl; rfl) | (apply y_nes; rfl; rfl; kernel_rfl; exact inferInstance) | (apply y_bne; kernel_rfl; rfl; rfl))) | apply s_nil | apply w_seq | apply f_then | apply w_block | apply f_norm_block | (apply f_backs; assumption; (repeat (first | exact Cov.nil | (apply Cov.cons; rfl) | (apply Cov.seen; rfl))); (focus ((repeat (first | exact List.Sublist.refl _ | apply List.Sublist.cons_cons | apply List.Sublist.cons)); done))) | apply w_skip | refine w_cond_f rfl ?_ | (apply w_cond_tt; rfl; assumption) | (apply w_cond_ff; rfl; (focus ((repeat (first | assumption | rfl | exact beq_self_eq_true _ | exact bne_self_eq_false _ | apply bOrF | apply bAndT | apply bNotF | apply bNotT | (focus (apply decide_eq_true; omega)) | (focus (apply decide_eq_false; omega)) | (focus (apply bEqT; omega)) | (focus (apply bEqF; omega)) | (focus (apply bNeT; omega)) | (focus (apply bNeF; omega)) | (focus (apply bOrT1; first | assumption | (apply decide_eq_true; omega))) | (focus (apply bOrT2; first | assumption | (apply decide_eq_true; omega))) | (focus (apply bAndF1; first | assumption | (apply decide_eq_false; omega))) | (focus (apply bAndF2; first | assumption | (apply decide_eq_false; omega))))); done))) | (apply w_reg_l; rfl) | exact rfl)
          | true =>
            have hx : IntKind.i64.wrap ((((resid l true i).length : Nat) : Int) - 1) = ((l.length - 1 - i : Nat) : Int) := by rw [hlen, IntWalk.i64_in _ (by omega)]; omega
            have hx2 : IntKind.i64.wrap (IntKind.i64.wrap (((l.length : Nat) : Int) - 1) - ((i : Nat) : Int)) = ((l.length - 1 - i : Nat) : Int) := by rw [IntWalk.i64_in (((l.length : Nat) : Int) - 1) (by omega), IntWalk.i64_in _ (by omega)]; omega
            have hrow2 := map_get (f := En.cells) (show l.length - 1 - i < l.length by omega)
            have o3 := fun A c => pick_s (resid l true i) hwr hL b (IntKind.i64.wrap ((((resid l true i).length : Nat) : Int) - 1)) A c
            have hS := pick_sane hq (IntKind.i64.wrap ((((resid l true i).length : Nat) : Int) - 1))
            rw [pick_back hlt hq hx] at o3 hS
            rw [bP_t hS] at p1
            dsimp only [pres, En.cells] at o3 hS
            have hB := fun A c => hR (i + 1, A, c) ⟨hlt, hS⟩ (by dsimp only; omega)
            dsimp only at hB
            rw [← wrap_suc (i := i) (by omega)] at hB
            generalize resid l true (i + 1) = o' at o3 p1 hB
            generalize resid l true i = o at o3 hx
            clear hR
            generalize l[i] = w0 at hrow
            generalize l[l.length - 1 - i] = w at hrow2 o3
            have hH : (((!true || !eqA w.a w.a) || !eqX w.x w.x) || w.stale != w.stale) = false := by rw [eqA_iff.2 rfl, eqX_iff.2 rfl]; simp
            unfold eqX eqA at hH
            repeat (first | (apply s_alloc; rfl; intro _) | (apply s_store; rfl; rfl; (repeat (first | exact Plc.hit | apply Plc.miss)); constructor; (focus ((simp only [setAt, List.set_cons_zero, List.set_cons_succ, Nat.zero_add, Nat.reduceAdd, Nat.reduceMul]); try rfl)); kernel_rfl; rfl) | (apply s_tris; rfl; rfl; rfl; (exact o3 _ _); (repeat (first | exact Tk.nil | (apply Tk.see; (first | (focus (apply VSees.vw; (repeat (first | exact List.Mem.head _ | apply List.Mem.tail)); done)) | exact VSees.nil | assumption)) | (apply Tk.see; exact VSees.nil) | (apply Tk.take; (repeat (first | exact Plc.hit | apply Plc.miss))))); rfl; intro _ _; (try dsimp only [List.cons_append, List.nil_append])) | apply s_st | apply st_go | (apply st_on; rfl) | (apply st_one; rfl; assumption) | (apply st_one; rfl; (focus ((repeat (first | assumption | rfl | exact beq_self_eq_true _ | exact bne_self_eq_false _ | apply bOrF | apply bAndT | apply bNotF | apply bNotT | (focus (apply decide_eq_true; omega)) | (focus (apply decide_eq_false; omega)) | (focus (apply bEqT; omega)) | (focus (apply bEqF; omega)) | (focus (apply bNeT; omega)) | (focus (apply bNeF; omega)) | (focus (apply bOrT1; first | assumption | (apply decide_eq_true; omega))) | (focus (apply bOrT2; first | assumption | (apply decide_eq_true; omega))) | (focus (apply bAndF1; first | assumption | (apply decide_eq_false; omega))) | (focus (apply bAndF2; first | assumption | (apply decide_eq_false; omega))))); done))) | (focus (first | (apply y_move; rfl) | (apply y_assign; rfl) | (apply y_not; rfl) | (apply y_load; rfl; (repeat (first | exact List.Mem.head _ | apply List.Mem.tail)); (repeat (first | exact Sub.nil | apply Sub.take | apply Sub.drop)); done) | (apply y_cell; rfl; (repeat (first | exact List.Mem.head _ | apply List.Mem.tail)); (repeat (first | exact At.hit | apply At.miss)); kernel_rfl; done) | (apply y_eload; rfl; (first | (focus (apply Sees.vw; (repeat (first | exact List.Mem.head _ | apply List.Mem.tail)); done)) | (focus (apply Sees.own; (repeat (first | exact List.Mem.head _ | apply List.Mem.tail)); done)) | exact Sees.nil | assumption); (first | assumption | rfl); (repeat (first | exact Sub.nil | apply Sub.take | apply Sub.drop)); done) | (apply y_rcal; rfl; rfl; rfl; (exact p1 _ _); (repeat (first | exact SeesAll.nil | (apply SeesAll.cons; (first | (focus (apply Sees.vw; (repeat (first | exact List.Mem.head _ | apply List.Mem.tail)); done)) | (focus (apply Sees.own; (repeat (first | exact List.Mem.head _ | apply List.Mem.tail)); done)) | exact Sees.nil | assumption)))); done) | (apply y_or; rfl; rfl; done) | (apply y_orp; rfl; rfl; done) | (apply y_extract; rfl; (repeat (first | exact At.hit | apply At.miss)); done) | (apply y_faddr; kernel_rfl; rfl) | (apply y_ixaddr; rfl; rfl; (first | (focus (apply Sees.vw; (repeat (first | exact List.Mem.head _ | apply List.Mem.tail)); done)) | (focus (apply Sees.own; (repeat (first | exact List.Mem.head _ | apply List.Mem.tail)); done)) | exact Sees.nil | assumption); (first | rfl | assumption | (focus (simp; done)) | (focus (simp; omega))); (first | assumption | rfl | exact (show (0 : Int) = ((0 : Nat) : Int) from rfl) | exact (show (1 : Int) = ((1 : Nat) : Int) from rfl) | exact (show (2 : Int) = ((2 : Nat) : Int) from rfl) | exact (show (3 : Int) = ((3 : Nat) : Int) from rfl)); (first | assumption | omega | (focus (simp; done)) | (focus (simp; omega))); done) | (apply y_len; rfl) | (apply y_lt; rfl; rfl) | (apply y_add; rfl; rfl) | (apply y_sub; rfl; rfl) | (apply y_nes; rfl; rfl; kernel_rfl; exact inferInstance) | (apply y_bne; kernel_rfl; rfl; rfl))) | apply s_nil | apply w_seq | apply f_then | apply w_block | apply f_norm_block | (apply f_backs; assumption; (repeat (first | exact Cov.nil | (apply Cov.cons; rfl) | (apply Cov.seen; rfl))); (focus ((repeat (first | exact List.Sublist.refl _ | apply List.Sublist.cons_cons | apply List.Sublist.cons)); done))) | apply w_skip | refine w_cond_t rfl ?_ | (apply w_cond_tt; rfl; assumption) | (apply w_cond_ff; rfl; (focus ((repeat (first | assumption | rfl | exact beq_self_eq_true _ | exact bne_self_eq_false _ | apply bOrF | apply bAndT | apply bNotF | apply bNotT | (focus (apply decide_eq_true; omega)) | (focus (apply decide_eq_false; omega)) | (focus (apply bEqT; omega)) | (focus (apply bEqF; omega)) | (focus (apply bNeT; omega)) | (focus (apply bNeF; omega)) | (focus (apply bOrT1; first | assumption | (apply decide_eq_true; omega))) | (focus (apply bOrT2; first | assumption | (apply decide_eq_true; omega))) | (focus (apply bAndF1; first | assumption | (apply decide_eq_false; omega))) | (focus (apply bAndF2; first | assumption | (apply decide_eq_false; omega))))); done))) | (apply w_reg_l; rfl) | exact rfl)
        · have hE2 : decide (((i : Nat) : Int) < ((l.length : Nat) : Int)) = false := by simp; omega
          obtain rfl : i = l.length := by omega
          rw [resid_end] at hq hwr
          clear hR
          rw [resid_end]
          have o3 := fun A c => pick_s [] hwr (by decide) b n A c
          have e3 : pickN [] b n = ([], b, zeroE, false) := by
            unfold pickN
            have hg : (decide (n < 0) || decide (n ≥ ((([] : List En).length : Nat) : Int))) = true := by simp; omega
            rw [if_pos (bP_t hq), hg, if_pos rfl]
          rw [e3] at o3
          have o4 := fun A c => offer_s [] hwr (by decide) b (a := ⟨0, 0, false⟩) (x := ⟨⟨⟨0, 0, false⟩, 0⟩, 0⟩) ⟨by decide, by decide⟩ ⟨by decide, by decide⟩ A c
          have e4 : (offerN [] b ⟨0, 0, false⟩ ⟨⟨⟨0, 0, false⟩, 0⟩, 0⟩).2.2 = if decide (b > 0) = true then 3 else 2 := by
            have hb := hq.b0
            unfold offerN
            rw [if_pos (bP_t hq), if_pos (show firN [] _ 0 = -1 from rfl), zero_fit]
            by_cases h0 : b = 0
            · subst h0; rfl
            · have : decide (b > 0) = true := by simp; omega
              have h2 : (decide ((([] : List En).length : Int) = b) || !true) = false := by simp; omega
              rw [this, h2, if_pos rfl, if_neg (by decide)]
          generalize offerN [] b ⟨0, 0, false⟩ ⟨⟨⟨0, 0, false⟩, 0⟩, 0⟩ = r at o4 e4
          obtain ⟨l9, b9, n9⟩ := r
          dsimp only [pres, qres, En.cells, zeroE] at o3 o4 e4
          have hJ : (((true && !false) && ((((0 : Nat)) : Int) == 0)) && ((n9 == 3) == decide (b > 0))) = true := by
            rw [e4]; cases decide (b > 0) <;> rfl
          repeat (first | (apply s_alloc; rfl; intro _) | (apply s_store; rfl; rfl; (repeat (first | exact Plc.hit | apply Plc.miss)); constructor; (focus ((simp only [setAt, List.set_cons_zero, List.set_cons_succ, Nat.zero_add, Nat.reduceAdd, Nat.reduceMul]); try rfl)); kernel_rfl; rfl) | (apply s_tris; rfl; rfl; rfl; (exact o3 _ _); (repeat (first | exact Tk.nil | (apply Tk.see; (first | (focus (apply VSees.vw; (repeat (first | exact List.Mem.head _ | apply List.Mem.tail)); done)) | exact VSees.nil | assumption)) | (apply Tk.see; exact VSees.nil) | (apply Tk.take; (repeat (first | exact Plc.hit | apply Plc.miss))))); rfl; intro _ _; (try dsimp only [List.cons_append, List.nil_append])) | (apply s_tris; rfl; rfl; rfl; (exact o4 _ _); (repeat (first | exact Tk.nil | (apply Tk.see; (first | (focus (apply VSees.vw; (repeat (first | exact List.Mem.head _ | apply List.Mem.tail)); done)) | exact VSees.nil | assumption)) | (apply Tk.see; exact VSees.nil) | (apply Tk.take; (repeat (first | exact Plc.hit | apply Plc.miss))))); rfl; intro _ _; (try dsimp only [List.cons_append, List.nil_append])) | apply s_st | apply st_go | (apply st_on; rfl) | (focus (first | (apply y_move; rfl) | (apply y_assign; rfl) | (apply y_not; rfl) | (apply y_load; rfl; (repeat (first | exact List.Mem.head _ | apply List.Mem.tail)); (repeat (first | exact Sub.nil | apply Sub.take | apply Sub.drop)); done) | (apply y_cell; rfl; (repeat (first | exact List.Mem.head _ | apply List.Mem.tail)); (repeat (first | exact At.hit | apply At.miss)); kernel_rfl; done) | (apply y_and; rfl; rfl; done) | (apply y_extract; rfl; (repeat (first | exact At.hit | apply At.miss)); done) | (apply y_faddr; kernel_rfl; rfl) | (apply y_len; rfl) | (apply y_eq; rfl; rfl) | (apply y_lt; rfl; rfl) | (apply y_gt; rfl; rfl) | (apply y_beq; kernel_rfl; rfl; rfl) | (apply y_build; kernel_rfl; (repeat (first | exact Bld.nil | (apply Bld.cons; exact inferInstance; rfl; constructor; kernel_rfl; (focus ((simp only [setAt, List.set_cons_zero, List.set_cons_succ, Nat.zero_add, Nat.reduceAdd, Nat.reduceMul]); try rfl))))); done))) | apply s_nil | apply w_seq | apply f_then | apply w_exit | apply f_out | apply f_exit_block | apply w_ret | (apply w_cond_ff; rfl; assumption) | (apply f_end; rfl; rfl; rfl; intro w hw; first | exact ans hw | (refine ans_b ?_ hw; (focus ((repeat (first | assumption | rfl | exact beq_self_eq_true _ | exact bne_self_eq_false _ | apply bOrF | apply bAndT | apply bNotF | apply bNotT | (focus (apply decide_eq_true; omega)) | (focus (apply decide_eq_false; omega)) | (focus (apply bEqT; omega)) | (focus (apply bEqF; omega)) | (focus (apply bNeT; omega)) | (focus (apply bNeF; omega)) | (focus (apply bOrT1; first | assumption | (apply decide_eq_true; omega))) | (focus (apply bOrT2; first | assumption | (apply decide_eq_true; omega))) | (focus (apply bAndF1; first | assumption | (apply decide_eq_false; omega))) | (focus (apply bAndF2; first | assumption | (apply decide_eq_false; omega))))); done))) | (apply t_endS1 hw; rfl; (focus ((repeat (first | exact List.Sublist.refl _ | apply List.Sublist.cons_cons | apply List.Sublist.cons)); done))) | (apply t_endX1 hw; rfl; (focus ((repeat (first | exact List.Sublist.refl _ | apply List.Sublist.cons_cons | apply List.Sublist.cons)); done))) | (refine t_end ⟨rfl, rfl⟩ ?_ w hw; (focus ((repeat (first | exact List.Sublist.refl _ | apply List.Sublist.cons_cons | apply List.Sublist.cons)); done)))) | (apply w_reg_l; rfl) | exact rfl)
    · rw [bP_f hs] at o2
      have hF : (decide (((l.length : Nat) : Int) > 60) || !false) = true := by simp
      refine enter_r rfl Try.func4 rfl Try.ntmps4 rfl (fun Wo => ?_)
      repeat (first | (apply s_box; rfl; constructor; rfl; intro _) | (apply s_trisw; rfl; rfl; rfl; (exact o1 _ _); (repeat (first | exact Tk.nil | (apply Tk.see; (first | (focus (apply VSees.vw; (repeat (first | exact List.Mem.head _ | apply List.Mem.tail)); done)) | exact VSees.nil | assumption)) | (apply Tk.see; exact VSees.nil) | (apply Tk.take; (repeat (first | exact Plc.hit | apply Plc.miss))))); (first | exact want_none rfl | (apply want_on; rfl; (first | rfl | assumption | (focus ((repeat (first | assumption | rfl | exact beq_self_eq_true _ | exact bne_self_eq_false _ | apply bOrF | apply bAndT | apply bNotF | apply bNotT | (focus (apply decide_eq_true; omega)) | (focus (apply decide_eq_false; omega)) | (focus (apply bEqT; omega)) | (focus (apply bEqF; omega)) | (focus (apply bNeT; omega)) | (focus (apply bNeF; omega)) | (focus (apply bOrT1; first | assumption | (apply decide_eq_true; omega))) | (focus (apply bOrT2; first | assumption | (apply decide_eq_true; omega))) | (focus (apply bAndF1; first | assumption | (apply decide_eq_false; omega))) | (focus (apply bAndF2; first | assumption | (apply decide_eq_false; omega))))); done))))); rfl; intro _ _; (try dsimp only [List.cons_append, List.nil_append])) | apply s_st | apply st_go | (apply st_one; rfl; assumption) | (focus (first | (apply y_move; rfl) | (apply y_assign; rfl) | (apply y_not; rfl) | (apply y_load; rfl; (repeat (first | exact List.Mem.head _ | apply List.Mem.tail)); (repeat (first | exact Sub.nil | apply Sub.take | apply Sub.drop)); done) | (apply y_cell; rfl; (repeat (first | exact List.Mem.head _ | apply List.Mem.tail)); (repeat (first | exact At.hit | apply At.miss)); kernel_rfl; done) | (apply y_calls; rfl; rfl; rfl; (first | assumption | exact o1 _ _ | exact o2 _ _); done) | (apply y_rcal; rfl; rfl; rfl; (exact o2 _ _); (repeat (first | exact SeesAll.nil | (apply SeesAll.cons; (first | (focus (apply Sees.vw; (repeat (first | exact List.Mem.head _ | apply List.Mem.tail)); done)) | (focus (apply Sees.own; (repeat (first | exact List.Mem.head _ | apply List.Mem.tail)); done)) | exact Sees.nil | assumption)))); done) | (apply y_orp; rfl; rfl; done) | (apply y_faddr; kernel_rfl; rfl) | (apply y_len; rfl) | (apply y_gt; rfl; rfl))) | apply s_nil | apply w_seq | apply f_then | apply f_ret | apply w_ret | (apply w_cond_tt; rfl; assumption) | (apply f_end; rfl; rfl; rfl; intro w hw; first | exact ans hw | (refine ans_b ?_ hw; (focus ((repeat (first | assumption | rfl | exact beq_self_eq_true _ | exact bne_self_eq_false _ | apply bOrF | apply bAndT | apply bNotF | apply bNotT | (focus (apply decide_eq_true; omega)) | (focus (apply decide_eq_false; omega)) | (focus (apply bEqT; omega)) | (focus (apply bEqF; omega)) | (focus (apply bNeT; omega)) | (focus (apply bNeF; omega)) | (focus (apply bOrT1; first | assumption | (apply decide_eq_true; omega))) | (focus (apply bOrT2; first | assumption | (apply decide_eq_true; omega))) | (focus (apply bAndF1; first | assumption | (apply decide_eq_false; omega))) | (focus (apply bAndF2; first | assumption | (apply decide_eq_false; omega))))); done))) | (apply t_endS1 hw; rfl; (focus ((repeat (first | exact List.Sublist.refl _ | apply List.Sublist.cons_cons | apply List.Sublist.cons)); done))) | (apply t_endX1 hw; rfl; (focus ((repeat (first | exact List.Sublist.refl _ | apply List.Sublist.cons_cons | apply List.Sublist.cons)); done))) | (refine t_end ⟨rfl, rfl⟩ ?_ w hw; (focus ((repeat (first | exact List.Sublist.refl _ | apply List.Sublist.cons_cons | apply List.Sublist.cons)); done)))) | (apply w_reg_l; rfl) | exact rfl)
  · have hE : decide (((l.length : Nat) : Int) > 60) = true := by simp; omega
    refine enter_r rfl Try.func4 rfl Try.ntmps4 rfl (fun Wo => ?_)
    repeat (first | (apply s_box; rfl; constructor; rfl; intro _) | apply s_st | apply st_go | (apply st_offe; rfl; assumption; rfl) | (focus (first | (apply y_move; rfl) | (apply y_assign; rfl) | (apply y_cell; rfl; (repeat (first | exact List.Mem.head _ | apply List.Mem.tail)); (repeat (first | exact At.hit | apply At.miss)); kernel_rfl; done) | (apply y_calls; rfl; rfl; rfl; (first | assumption); done) | (apply y_or_te; rfl; assumption; done) | (apply y_faddr; kernel_rfl; rfl) | (apply y_len; rfl) | (apply y_gt; rfl; rfl))) | apply s_nil | apply w_seq | apply f_then | apply f_ret | apply w_ret | refine w_cond_t rfl ?_ | (apply f_end; rfl; rfl; rfl; intro w hw; first | exact ans hw | (refine ans_b ?_ hw; (focus ((repeat (first | assumption | rfl | exact beq_self_eq_true _ | exact bne_self_eq_false _ | apply bOrF | apply bAndT | apply bNotF | apply bNotT | (focus (apply decide_eq_true; omega)) | (focus (apply decide_eq_false; omega)) | (focus (apply bEqT; omega)) | (focus (apply bEqF; omega)) | (focus (apply bNeT; omega)) | (focus (apply bNeF; omega)) | (focus (apply bOrT1; first | assumption | (apply decide_eq_true; omega))) | (focus (apply bOrT2; first | assumption | (apply decide_eq_true; omega))) | (focus (apply bAndF1; first | assumption | (apply decide_eq_false; omega))) | (focus (apply bAndF2; first | assumption | (apply decide_eq_false; omega))))); done)))) | (apply w_reg_l; rfl) | exact rfl)
end Go.Proofs.Ytlmcfjadhahlpaa.Hand
