/-
  LeafgenWidest.
-/
import Derived.Test.YtfcffemglcgbnaaLc
namespace Go.Proofs.Ytfcffemglcgbnaa.Hand
open Go.RowKit Go.Proofs.Ytfcffemglcgbnaa.Bits Go.Proofs.Ytfcffemglcgbnaa.Dig Go.Proofs.Ytfcffemglcgbnaa.Sq
set_option linter.unusedVariables false
set_option linter.unusedSimpArgs false
set_option maxRecDepth 100000
set_option maxHeartbeats 8000000
theorem clamp_i (v : Bool) (n : Int) : ((clampW v n : Nat) : Int) = max 0 (min n ((W v : Nat) : Int)) := by unfold clampW mxi mni; split <;> (try split) <;> omega
theorem wid_no {L : List Pr} {a : Ad} {n : Nat} (h : n ≤ W a.v6) : insN L (ofP a (widN L a n)) = false := (widD_spec (W a.v6 - n) n (by omega)).2.2.1
theorem leafgenWidest_s (l : List Pr) (hw : ∀ e ∈ l, e.p.a.wf) {a : Ad} (ha : a.wf) (n m : Int) (A0 : Option Addr) (c0 : Nat) :
    RCal Try.prog 3 [.slice A0 l.length c0, a.val, .int .i64 n, .int .i64 m] [.vw A0 c0 5 (l.map Pr.cells)] (.bool true) := by
  have k0 := awake07_s
  by_cases hl : l.length ≤ 60
  · have k1 := filled_p l hw hl A0 c0
    generalize fillN l = s at *
    obtain ⟨L, mo⟩ := s
    dsimp only at k1
    clear hw
    have a1 := fun g bs => widest_p (g := g) (L := L) (mo := mo) (N := 200) (H := 200) (bs := bs) ha (mn2 n m)
    have a2 := fun g bs => widest_p (g := g) (L := L) (mo := mo) (N := 200) (H := 200) (bs := bs) ha (mx2 n m)
    have a3 := fun g bs => widest_p (g := g) (L := L) (mo := mo) (N := 200) (H := 200) (bs := bs) ha 128
    have a4 : Cal Try.prog 19 [a.val, .int .i64 128] (wholeP a).val := by
      have h := of_s ha a.v6 128
      have e : clampW a.v6 128 = W a.v6 := by unfold clampW W; cases a.v6 <;> rfl
      rw [e] at h
      exact h
    have c1 := clamp_i a.v6 (mn2 n m)
    have c2 := clamp_i a.v6 (mx2 n m)
    have e3 : clampW a.v6 128 = W a.v6 := by unfold clampW W; cases a.v6 <;> rfl
    have hmn : mn2 n m ≤ mx2 n m := by unfold mn2 mx2; split <;> split <;> omega
    obtain ⟨n1, hn1e⟩ : ∃ n1, n1 = mn2 n m := ⟨_, rfl⟩
    obtain ⟨n2, hn2e⟩ : ∃ n2, n2 = mx2 n m := ⟨_, rfl⟩
    rw [← hn1e] at a1 c1 hmn
    rw [← hn2e] at a2 c2 hmn
    generalize clampW a.v6 n1 = x1 at *
    generalize clampW a.v6 n2 = x2 at *
    have hx1 : x1 ≤ W a.v6 := by omega
    have hx2 : x2 ≤ W a.v6 := by omega
    have hb := blk_le L a
    have w1 := wid_max (L := L) hx1
    have w2 := wid_max (L := L) hx2
    have i1 := wid_no (L := L) hx1
    have i2 := wid_no (L := L) hx2
    rw [e3, wid_max (Nat.le_refl _), Nat.max_eq_left hb, ofP_W] at a3
    have a5 := fun g bs => widest_p (g := g) (L := L) (mo := mo) (N := 200) (H := 200) (bs := bs) ha (((widN L a x1 : Nat)) : Int)
    have e5 : clampW a.v6 ((widN L a x1 : Nat) : Int) = widN L a x1 := by
      have := clamp_i a.v6 ((widN L a x1 : Nat) : Int)
      omega
    rw [e5, wid_max (n := widN L a x1) (by omega), Nat.max_eq_left (by omega)] at a5
    have a6 := cov_s (ofP_wf a (widN L a x1)) (ofP_wf a (widN L a x2))
    rw [ofP_cov (by omega) (by omega)] at a6
    have a7 := fun g bs => rins_p (g := g) (L := L) (mo := mo) (N := 200) (H := 200) (bs := bs) (ofP_wf a (widN L a x1))
    have a8 := fun g bs => rins_p (g := g) (L := L) (mo := mo) (N := 200) (H := 200) (bs := bs) (ofP_wf a (widN L a x2))
    rw [i1] at a7
    rw [i2] at a8
    have hn1 : (ofP a (widN L a x1)).n = ((widN L a x1 : Nat) : Int) := rfl
    have hn2 : (ofP a (widN L a x2)).n = ((widN L a x2 : Nat) : Int) := rfl
    have hnw : (wholeP a).n = ((W a.v6 : Nat) : Int) := rfl
    rw [← hn1] at a5
    have hE : decide ((ofP a (widN L a x2)).n ≥ mn2 n2 (wholeP a).n) = true := decide_eq_true (by
      rw [hn2, hnw]
      unfold mn2
      split <;> omega)
    generalize ofP a (widN L a x1) = p at *
    generalize ofP a (widN L a x2) = q at *
    generalize wholeP a = wp at *
    clear c1 c2 e3 hmn hx1 hx2 hb w1 w2 i1 i2 e5 hn1 hn2 hnw
    rw [hn1e] at a1
    rw [hn2e] at a2 hE
    clear hn1e hn2e
    refine enter_r rfl Try.func3 rfl Try.ntmps3 rfl (fun Wo => ?_)
    repeat (first | (apply s_box; rfl; constructor; rfl; intro _) | (apply s_alloc; rfl; intro _) | (apply s_store; rfl; rfl; (repeat (first | exact Plc.hit | apply Plc.miss)); constructor; (focus ((simp only [setAt, List.set_cons_zero, List.set_cons_succ, Nat.zero_add, Nat.reduceAdd, Nat.reduceMul]); try rfl)); kernel_rfl; rfl) | (apply s_trix; rfl; rfl; rfl; assumption; (repeat (first | exact Tk.nil | (apply Tk.see; (first | (focus (apply VSees.vw; (repeat (first | exact List.Mem.head _ | apply List.Mem.tail)); done)) | exact VSees.nil | assumption)) | (apply Tk.see; exact VSees.nil) | (apply Tk.take; (repeat (first | exact Plc.hit | apply Plc.miss))))); rfl; intro _; (try dsimp only [List.cons_append, List.nil_append])) | apply s_st | apply q_st | apply st_go | (apply st_on; rfl) | (apply st_one; rfl; (focus ((repeat (first | assumption | rfl | exact beq_self_eq_true _ | exact bne_self_eq_false _ | apply bOrF | apply bAndT | apply bNotF | apply bNotT | (focus (apply decide_eq_true; omega)) | (focus (apply decide_eq_false; omega)) | (focus (apply bEqT; omega)) | (focus (apply bEqF; omega)) | (focus (apply bNeT; omega)) | (focus (apply bNeF; omega)) | (focus (apply bOrT1; first | assumption | (apply decide_eq_true; omega))) | (focus (apply bOrT2; first | assumption | (apply decide_eq_true; omega))) | (focus (apply bAndF1; first | assumption | (apply decide_eq_false; omega))) | (focus (apply bAndF2; first | assumption | (apply decide_eq_false; omega))))); done))) | (focus (first | (apply y_move; rfl) | (apply y_assign; rfl) | (apply y_not; rfl) | (apply y_load; rfl; (repeat (first | exact List.Mem.head _ | apply List.Mem.tail)); (repeat (first | exact Sub.nil | apply Sub.take | apply Sub.drop)); done) | (apply y_cell; rfl; (repeat (first | exact List.Mem.head _ | apply List.Mem.tail)); (repeat (first | exact At.hit | apply At.miss)); kernel_rfl; done) | (apply y_calls; rfl; rfl; rfl; (first | assumption | exact a1 _ | exact a2 _ | exact a3 _ | exact a5 _ | exact a7 _ | exact a8 _); done) | (apply y_rcalq; rfl; rfl; rfl; (exact a1 _); (repeat (first | exact SeesAll.nil | (apply SeesAll.cons; (first | (focus (apply Sees.vw; (repeat (first | exact List.Mem.head _ | apply List.Mem.tail)); done)) | (focus (apply Sees.own; (repeat (first | exact List.Mem.head _ | apply List.Mem.tail)); done)) | exact Sees.nil | assumption)) | (apply SeesAll.mem; (repeat (first | exact List.Mem.head _ | apply List.Mem.tail))))); done) | (apply y_rcalq; rfl; rfl; rfl; (exact a2 _); (repeat (first | exact SeesAll.nil | (apply SeesAll.cons; (first | (focus (apply Sees.vw; (repeat (first | exact List.Mem.head _ | apply List.Mem.tail)); done)) | (focus (apply Sees.own; (repeat (first | exact List.Mem.head _ | apply List.Mem.tail)); done)) | exact Sees.nil | assumption)) | (apply SeesAll.mem; (repeat (first | exact List.Mem.head _ | apply List.Mem.tail))))); done) | (apply y_rcalq; rfl; rfl; rfl; (exact a3 _); (repeat (first | exact SeesAll.nil | (apply SeesAll.cons; (first | (focus (apply Sees.vw; (repeat (first | exact List.Mem.head _ | apply List.Mem.tail)); done)) | (focus (apply Sees.own; (repeat (first | exact List.Mem.head _ | apply List.Mem.tail)); done)) | exact Sees.nil | assumption)) | (apply SeesAll.mem; (repeat (first | exact List.Mem.head _ | apply List.Mem.tail))))); done) | (apply y_rcalq; rfl; rfl; rfl; (exact a5 _); (repeat (first | exact SeesAll.nil | (apply SeesAll.cons; (first | (focus (apply Sees.vw; (repeat (first | exact List.Mem.head _ | apply List.Mem.tail)); done)) | (focus (apply Sees.own; (repeat (first | exact List.Mem.head _ | apply List.Mem.tail)); done)) | exact Sees.nil | assumption)) | (apply SeesAll.mem; (repeat (first | exact List.Mem.head _ | apply List.Mem.tail))))); done) | (apply y_rcalq; rfl; rfl; rfl; (exact a7 _); (repeat (first | exact SeesAll.nil | (apply SeesAll.cons; (first | (focus (apply Sees.vw; (repeat (first | exact List.Mem.head _ | apply List.Mem.tail)); done)) | (focus (apply Sees.own; (repeat (first | exact List.Mem.head _ | apply List.Mem.tail)); done)) | exact Sees.nil | assumption)) | (apply SeesAll.mem; (repeat (first | exact List.Mem.head _ | apply List.Mem.tail))))); done) | (apply y_rcalq; rfl; rfl; rfl; (exact a8 _); (repeat (first | exact SeesAll.nil | (apply SeesAll.cons; (first | (focus (apply Sees.vw; (repeat (first | exact List.Mem.head _ | apply List.Mem.tail)); done)) | (focus (apply Sees.own; (repeat (first | exact List.Mem.head _ | apply List.Mem.tail)); done)) | exact Sees.nil | assumption)) | (apply SeesAll.mem; (repeat (first | exact List.Mem.head _ | apply List.Mem.tail))))); done) | (apply y_and; rfl; rfl; done) | (apply y_andp; rfl; rfl; done) | (apply y_fcell; kernel_rfl; rfl; (repeat (first | exact At.hit | apply At.miss)); done) | (apply y_faddr; kernel_rfl; rfl) | (apply y_len; rfl) | (apply y_gt; rfl; rfl) | (apply y_ge; rfl; rfl) | (apply y_eqs; rfl; rfl; kernel_rfl; exact inferInstance) | (apply y_min2; rfl) | (apply y_max2; rfl))) | apply q_nil | apply s_nil | apply w_seq | apply f_then | apply w_skip | apply w_ret | (apply w_cond_ff; rfl; (focus ((repeat (first | assumption | rfl | exact beq_self_eq_true _ | exact bne_self_eq_false _ | apply bOrF | apply bAndT | apply bNotF | apply bNotT | (focus (apply decide_eq_true; omega)) | (focus (apply decide_eq_false; omega)) | (focus (apply bEqT; omega)) | (focus (apply bEqF; omega)) | (focus (apply bNeT; omega)) | (focus (apply bNeF; omega)) | (focus (apply bOrT1; first | assumption | (apply decide_eq_true; omega))) | (focus (apply bOrT2; first | assumption | (apply decide_eq_true; omega))) | (focus (apply bAndF1; first | assumption | (apply decide_eq_false; omega))) | (focus (apply bAndF2; first | assumption | (apply decide_eq_false; omega))))); done))) | (apply f_end; rfl; rfl; rfl; intro w hw; first | exact ans hw | (refine ans_b ?_ hw; (focus ((repeat (first | assumption | rfl | exact beq_self_eq_true _ | exact bne_self_eq_false _ | apply bOrF | apply bAndT | apply bNotF | apply bNotT | (focus (apply decide_eq_true; omega)) | (focus (apply decide_eq_false; omega)) | (focus (apply bEqT; omega)) | (focus (apply bEqF; omega)) | (focus (apply bNeT; omega)) | (focus (apply bNeF; omega)) | (focus (apply bOrT1; first | assumption | (apply decide_eq_true; omega))) | (focus (apply bOrT2; first | assumption | (apply decide_eq_true; omega))) | (focus (apply bAndF1; first | assumption | (apply decide_eq_false; omega))) | (focus (apply bAndF2; first | assumption | (apply decide_eq_false; omega))))); done))) | (apply t_endS1 hw; rfl; (focus ((repeat (first | exact List.Sublist.refl _ | apply List.Sublist.cons_cons | apply List.Sublist.cons)); done))) | (apply t_endU hw; rfl; (focus ((repeat (first | exact List.Sublist.refl _ | apply List.Sublist.cons_cons | apply List.Sublist.cons)); done))) | (apply t_endX1 hw; rfl; (focus ((repeat (first | exact List.Sublist.refl _ | apply List.Sublist.cons_cons | apply List.Sublist.cons)); done))) | (refine t_end ⟨rfl, rfl⟩ ?_ w hw; (focus ((repeat (first | exact List.Sublist.refl _ | apply List.Sublist.cons_cons | apply List.Sublist.cons)); done))) | (apply t_endUT hw; rfl; (focus ((repeat (first | exact Tk.nil | (apply Tk.see; (first | (focus (apply VSees.vw; (repeat (first | exact List.Mem.head _ | apply List.Mem.tail)); done)) | exact VSees.nil | assumption)) | (apply Tk.see; exact VSees.nil) | (apply Tk.take; (repeat (first | exact Plc.hit | apply Plc.miss))))); done)); (focus ((repeat (first | exact List.Sublist.refl _ | apply List.Sublist.cons_cons | apply List.Sublist.cons)); done))) | (apply t_endXT hw; rfl; (repeat (first | exact Tk.nil | (apply Tk.see; (first | (focus (apply VSees.vw; (repeat (first | exact List.Mem.head _ | apply List.Mem.tail)); done)) | exact VSees.nil | assumption)) | (apply Tk.see; exact VSees.nil) | (apply Tk.take; (repeat (first | exact Plc.hit | apply Plc.miss))))); (focus ((repeat (first | exact List.Sublist.refl _ | apply List.Sublist.cons_cons | apply List.Sublist.cons)); done)))) | (apply w_draw_l; rfl; kernel_rfl; rfl; kernel_rfl) | (apply w_reg_l; rfl) | exact rfl)
  · refine enter_r rfl Try.func3 rfl Try.ntmps3 rfl (fun Wo => ?_)
    repeat (first | (apply s_box; rfl; constructor; rfl; intro _) | apply s_st | apply st_go | (focus (first | (apply y_move; rfl) | (apply y_assign; rfl) | (apply y_calls; rfl; rfl; rfl; (first | assumption); done) | (apply y_len; rfl) | (apply y_gt; rfl; rfl))) | apply s_nil | apply w_seq | apply f_then | apply f_ret | apply w_ret | (apply w_cond_tt; rfl; (focus ((repeat (first | assumption | rfl | exact beq_self_eq_true _ | exact bne_self_eq_false _ | apply bOrF | apply bAndT | apply bNotF | apply bNotT | (focus (apply decide_eq_true; omega)) | (focus (apply decide_eq_false; omega)) | (focus (apply bEqT; omega)) | (focus (apply bEqF; omega)) | (focus (apply bNeT; omega)) | (focus (apply bNeF; omega)) | (focus (apply bOrT1; first | assumption | (apply decide_eq_true; omega))) | (focus (apply bOrT2; first | assumption | (apply decide_eq_true; omega))) | (focus (apply bAndF1; first | assumption | (apply decide_eq_false; omega))) | (focus (apply bAndF2; first | assumption | (apply decide_eq_false; omega))))); done))) | (apply f_end; rfl; rfl; rfl; intro w hw; first | exact ans hw | (refine ans_b ?_ hw; (focus ((repeat (first | assumption | rfl | exact beq_self_eq_true _ | exact bne_self_eq_false _ | apply bOrF | apply bAndT | apply bNotF | apply bNotT | (focus (apply decide_eq_true; omega)) | (focus (apply decide_eq_false; omega)) | (focus (apply bEqT; omega)) | (focus (apply bEqF; omega)) | (focus (apply bNeT; omega)) | (focus (apply bNeF; omega)) | (focus (apply bOrT1; first | assumption | (apply decide_eq_true; omega))) | (focus (apply bOrT2; first | assumption | (apply decide_eq_true; omega))) | (focus (apply bAndF1; first | assumption | (apply decide_eq_false; omega))) | (focus (apply bAndF2; first | assumption | (apply decide_eq_false; omega))))); done)))) | (apply w_reg_l; rfl) | exact rfl)
end Go.Proofs.Ytfcffemglcgbnaa.Hand
