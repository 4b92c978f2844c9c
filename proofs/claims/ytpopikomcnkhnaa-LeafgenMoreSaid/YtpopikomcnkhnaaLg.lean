/-
  LeafgenMore.
-/
import Derived.Test.YtpopikomcnkhnaaLc
namespace Go.Proofs.Ytpopikomcnkhnaa.Hand
open Go.RowKit Go.Proofs.Ytpopikomcnkhnaa.Bits Go.Proofs.Ytpopikomcnkhnaa.Dig Go.Proofs.Ytpopikomcnkhnaa.Sq
set_option linter.unusedVariables false
set_option linter.unusedSimpArgs false
set_option maxRecDepth 100000
set_option maxHeartbeats 8000000
theorem ins_put {L : List Pr} (hg : GoodL L) {p : Px} (hs : sanB p = true) (v : Int) {q : Px} : insN (putG p v false L) q = true ↔ insN L q = true ∨ (p ≠ q ∧ cvB q p = true) := by
  obtain ⟨h1, h2⟩ := put_spec (v := v) hs hg
  rw [insE_iff, insE_iff]
  constructor
  · rintro ⟨e, he, hn, hc⟩
    rcases (h2 e).1 he with rfl | ⟨he, _⟩
    · exact .inr ⟨hn, hc⟩
    · exact .inl ⟨e, he, hn, hc⟩
  · rintro (⟨e, he, hn, hc⟩ | ⟨hn, hc⟩)
    · by_cases hp : e.p = p
      · exact ⟨⟨p, v⟩, (h2 _).2 (.inl rfl), by rw [← hp]; exact hn, by rw [← hp]; exact hc⟩
      · exact ⟨e, (h2 e).2 (.inr ⟨he, hp⟩), hn, hc⟩
    · exact ⟨⟨p, v⟩, (h2 _).2 (.inl rfl), hn, hc⟩
theorem blk_put {L : List Pr} (hg : GoodL L) {p : Px} (hs : sanB p = true) (v : Int) (a : Ad) : cvB (blkP L a) (blkP (putG p v false L) a) = true :=
  ofP_cov (no_blk (by
    cases h : insN L (ofP a (blkN (putG p v false L) a)) with
    | false => rfl
    | true =>
      have := blk_no (putG p v false L) a
      rw [show insN (putG p v false L) (blkP (putG p v false L) a) = true from (ins_put hg hs v).2 (.inl h)] at this
      cases this)) (blk_le _ _)
theorem blk_apart {L : List Pr} (hg : GoodL L) {p : Px} (hs : sanB p = true) (v : Int) {a : Ad} (h : apB (blkP L a) p = true) : blkP (putG p v false L) a = blkP L a ∧ leafX (putG p v false L) (blkP L a) = leafX L (blkP L a) := by
  rw [apB_cv (blk_sane L a) hs] at h
  simp only [Bool.and_eq_true, Bool.not_eq_true'] at h
  obtain ⟨n1, n2⟩ := h
  have hno : insN (putG p v false L) (blkP L a) = false := by
    cases h : insN (putG p v false L) (blkP L a) with
    | false => rfl
    | true =>
      rcases (ins_put hg hs v).1 h with h | ⟨_, h⟩
      · rw [blk_no] at h; cases h
      · rw [n1] at h; cases h
  have hle := no_blk (L := putG p v false L) (a := a) (c := blkN L a) hno
  have hb : blkP (putG p v false L) a = blkP L a := cv_anti (ofP_cov hle (blk_le L a)) (blk_put hg hs v a)
  refine ⟨hb, ?_⟩
  obtain ⟨h1, h2⟩ := put_spec (v := v) hs hg
  have ha : aboveN (putG p v false L) (blkP L a) = aboveN L (blkP L a) := GoodL.ext (h1.sub List.filter_sublist) (hg.sub List.filter_sublist) fun e => by
    unfold aboveN
    rw [List.mem_filter, List.mem_filter, h2]
    constructor
    · rintro ⟨rfl | ⟨he, _⟩, hc⟩
      · dsimp only at hc
        rw [n2] at hc; cases hc
      · exact ⟨he, hc⟩
    · rintro ⟨he, hc⟩
      exact ⟨.inr ⟨he, fun q => by rw [q, n2] at hc; cases hc⟩, hc⟩
  unfold leafX govN
  rw [ha]
theorem leafgenMore_s (l : List Pr) (hw : ∀ e ∈ l, e.p.a.wf) {x : Pr} (hx : x.p.a.wf) {a : Ad} (ha : a.wf) (A0 : Option Addr) (c0 : Nat) :
    RCal Try.prog 8 [.slice A0 l.length c0, .agg x.cells.toArray, a.val] [.vw A0 c0 5 (l.map Pr.cells)] (.bool true) := by
  have k0 := awake07_s
  by_cases hl : l.length ≤ 60
  · have k1 := filled_p l hw hl A0 c0
    have hti := fillN_ri l
    generalize fillN l = s at *
    obtain ⟨L, mo⟩ := s
    dsimp only at k1 hti
    have hg := hti.good
    have hlen := hti.len
    have hmo := hti.hi
    have hL : L.length ≤ 100000 := by omega
    have a1 := fun g bs => block_p (g := g) (L := L) (mo := mo) (N := 200) (H := 200) (bs := bs) ha
    have a2 := fun g bs => leaf_p (g := g) (L := L) (mo := mo) (N := 200) (H := 200) (bs := bs) hL ha
    have a3 := fun g bs => radd_p (g := g) (mo := mo) (H := 200) (bs := bs) hti.good hx hti.room (by omega) (by omega) x.v
    have a4 := apart_q (blk_wf L a) hx
    have hri := add_ri hti x.p x.v
    have hL' := hri.len
    clear hti hri hw
    have main : ∃ (L' : List Pr) (mo' e : Int), addN L mo 200 200 x.p x.v = (L', mo', e) ∧ L'.length ≤ 100000 ∧ cvB (blkP L a) (blkP L' a) = true ∧ (((e == 0 && apB (blkP L a) x.p) && (!eqPr (leafX L (blkP L a)).1 (leafX L' (blkP L' a)).1 || ((leafX L (blkP L a)).2 != (leafX L' (blkP L' a)).2))) = false) ∧ ((e == 0) || (eqPx (blkP L a) (blkP L' a) && eqPr (leafX L (blkP L a)).1 (leafX L' (blkP L' a)).1)) = true := by
      have hcs := cov_key.2 ⟨blk_sane L a, blk_sane L a, rfl, List.prefix_refl _⟩
      have hps : eqPr (leafX L (blkP L a)).1 (leafX L (blkP L a)).1 = true := eqPr_iff.2 rfl
      have same : ∀ e : Int, (((e == 0 && apB (blkP L a) x.p) && (!eqPr (leafX L (blkP L a)).1 (leafX L (blkP L a)).1 || ((leafX L (blkP L a)).2 != (leafX L (blkP L a)).2))) = false) ∧ ((e == 0) || (eqPx (blkP L a) (blkP L a) && eqPr (leafX L (blkP L a)).1 (leafX L (blkP L a)).1)) = true := fun e => by
        rw [hps, bne_self_eq_false, eqPx_self]
        exact ⟨by simp, by simp⟩
      unfold addN
      split
      · rename_i hs
        split
        · split
          · refine ⟨putG x.p x.v false L, mx2 mo (nodesN (putG x.p x.v false L)), 0, rfl, ?_, blk_put hg hs x.v a, ?_, rfl⟩
            · have := (putG_len (p := x.p) (v := x.v) L false).1
              omega
            · cases h : apB (blkP L a) x.p with
              | false => rfl
              | true =>
                obtain ⟨e1, e2⟩ := blk_apart hg hs x.v h
                rw [e1, e2]
                have := (same 0).1
                rw [h] at this
                exact this
          · exact ⟨L, mo, 3, rfl, hL, hcs, same 3⟩
        · exact ⟨L, mo, 4, rfl, hL, hcs, same 4⟩
      · exact ⟨L, mo, 1, rfl, hL, hcs, same 1⟩
    obtain ⟨L', mo', e, he, hL2, hcv, hE1, hE2⟩ := main
    rw [he] at a3
    have a5 := fun g bs => block_p (g := g) (L := L') (mo := mo') (N := 200) (H := 200) (bs := bs) ha
    have a6 := fun g bs => leaf_p (g := g) (L := L') (mo := mo') (N := 200) (H := 200) (bs := bs) hL2 ha
    have a7 := cov_s (blk_wf L a) (blk_wf L' a)
    rw [hcv] at a7
    clear he hcv hg hlen hmo hL hL' hL2 ha
    generalize leafX L (blkP L a) = y at *
    generalize leafX L' (blkP L' a) = z at *
    generalize apB (blkP L a) x.p = ap at *
    generalize blkP L a = p at *
    generalize blkP L' a = q at *
    obtain ⟨y, ok⟩ := y
    obtain ⟨z, also⟩ := z
    unfold eqPr eqPx at hE1 hE2
    dsimp only [Pr.cells] at a1 a2 a3 a5 a6 hE1 hE2 ⊢
    refine enter_r rfl Try.func8 rfl Try.ntmps8 rfl (fun Wo => ?_)
    repeat (first | (apply s_box; rfl; constructor; rfl; intro _) | (apply s_alloc; rfl; intro _) | (apply s_store; rfl; rfl; (repeat (first | exact Plc.hit | apply Plc.miss)); constructor; (focus ((simp only [setAt, List.set_cons_zero, List.set_cons_succ, Nat.zero_add, Nat.reduceAdd, Nat.reduceMul]); try rfl)); kernel_rfl; rfl) | (apply s_trix; rfl; rfl; rfl; assumption; (repeat (first | exact Tk.nil | (apply Tk.see; (first | (focus (apply VSees.vw; (repeat (first | exact List.Mem.head _ | apply List.Mem.tail)); done)) | exact VSees.nil | assumption)) | (apply Tk.see; exact VSees.nil) | (apply Tk.take; (repeat (first | exact Plc.hit | apply Plc.miss))))); rfl; intro _; (try dsimp only [List.cons_append, List.nil_append])) | (apply s_trixq; rfl; rfl; rfl; (exact a3 _); (repeat (first | exact Tk.nil | (apply Tk.see; (first | (focus (apply VSees.vw; (repeat (first | exact List.Mem.head _ | apply List.Mem.tail)); done)) | exact VSees.nil | assumption)) | (apply Tk.see; exact VSees.nil) | (apply Tk.take; (repeat (first | exact Plc.hit | apply Plc.miss))))); (first | exact want_none rfl | (apply want_on; rfl; (first | rfl | assumption | (focus ((repeat (first | assumption | rfl | exact beq_self_eq_true _ | exact bne_self_eq_false _ | apply bOrF | apply bAndT | apply bNotF | apply bNotT | (focus (apply decide_eq_true; omega)) | (focus (apply decide_eq_false; omega)) | (focus (apply bEqT; omega)) | (focus (apply bEqF; omega)) | (focus (apply bNeT; omega)) | (focus (apply bNeF; omega)) | (focus (apply bOrT1; first | assumption | (apply decide_eq_true; omega))) | (focus (apply bOrT2; first | assumption | (apply decide_eq_true; omega))) | (focus (apply bAndF1; first | assumption | (apply decide_eq_false; omega))) | (focus (apply bAndF2; first | assumption | (apply decide_eq_false; omega))))); done))))); rfl; intro _; (try dsimp only [List.cons_append, List.nil_append])) | apply s_st | apply st_go | (apply st_on; rfl) | (apply st_if2; rfl; intro h1 h2; (try simp only [h1, h2, gv_true, gv_tt])) | (apply st_if; rfl; intro h1; (try simp only [h1, gv_true, gv_tt])) | (focus (first | (apply y_move; rfl) | (apply y_assign; rfl) | (apply y_not; rfl) | (apply y_load; rfl; (repeat (first | exact List.Mem.head _ | apply List.Mem.tail)); (repeat (first | exact Sub.nil | apply Sub.take | apply Sub.drop)); done) | (apply y_cell; rfl; (repeat (first | exact List.Mem.head _ | apply List.Mem.tail)); (repeat (first | exact At.hit | apply At.miss)); kernel_rfl; done) | (apply y_calls; rfl; rfl; rfl; (first | assumption | exact a1 _ | exact a2 _ | exact a3 _ | exact a5 _ | exact a6 _); done) | (apply y_rcalq; rfl; rfl; rfl; (exact a1 _); (repeat (first | exact SeesAll.nil | (apply SeesAll.cons; (first | (focus (apply Sees.vw; (repeat (first | exact List.Mem.head _ | apply List.Mem.tail)); done)) | (focus (apply Sees.own; (repeat (first | exact List.Mem.head _ | apply List.Mem.tail)); done)) | exact Sees.nil | assumption)) | (apply SeesAll.mem; (repeat (first | exact List.Mem.head _ | apply List.Mem.tail))))); done) | (apply y_rcalq; rfl; rfl; rfl; (exact a2 _); (repeat (first | exact SeesAll.nil | (apply SeesAll.cons; (first | (focus (apply Sees.vw; (repeat (first | exact List.Mem.head _ | apply List.Mem.tail)); done)) | (focus (apply Sees.own; (repeat (first | exact List.Mem.head _ | apply List.Mem.tail)); done)) | exact Sees.nil | assumption)) | (apply SeesAll.mem; (repeat (first | exact List.Mem.head _ | apply List.Mem.tail))))); done) | (apply y_rcalq; rfl; rfl; rfl; (exact a5 _); (repeat (first | exact SeesAll.nil | (apply SeesAll.cons; (first | (focus (apply Sees.vw; (repeat (first | exact List.Mem.head _ | apply List.Mem.tail)); done)) | (focus (apply Sees.own; (repeat (first | exact List.Mem.head _ | apply List.Mem.tail)); done)) | exact Sees.nil | assumption)) | (apply SeesAll.mem; (repeat (first | exact List.Mem.head _ | apply List.Mem.tail))))); done) | (apply y_rcalq; rfl; rfl; rfl; (exact a6 _); (repeat (first | exact SeesAll.nil | (apply SeesAll.cons; (first | (focus (apply Sees.vw; (repeat (first | exact List.Mem.head _ | apply List.Mem.tail)); done)) | (focus (apply Sees.own; (repeat (first | exact List.Mem.head _ | apply List.Mem.tail)); done)) | exact Sees.nil | assumption)) | (apply SeesAll.mem; (repeat (first | exact List.Mem.head _ | apply List.Mem.tail))))); done) | (apply y_and; rfl; rfl; done) | (apply y_or; rfl; rfl; done) | (apply y_extract; rfl; (repeat (first | exact At.hit | apply At.miss)); done) | (apply y_faddr; kernel_rfl; rfl) | (apply y_len; rfl) | (apply y_eq; rfl; rfl) | (apply y_gt; rfl; rfl) | (apply y_nes; rfl; rfl; kernel_rfl; exact inferInstance) | (apply y_eqs; rfl; rfl; kernel_rfl; exact inferInstance) | (apply y_bne; kernel_rfl; rfl; rfl))) | apply s_nil | apply w_seq | apply f_then | apply w_skip | apply w_ret | (apply w_cond_ff; rfl; assumption) | (apply w_cond_ff; rfl; (focus ((repeat (first | assumption | rfl | exact beq_self_eq_true _ | exact bne_self_eq_false _ | apply bOrF | apply bAndT | apply bNotF | apply bNotT | (focus (apply decide_eq_true; omega)) | (focus (apply decide_eq_false; omega)) | (focus (apply bEqT; omega)) | (focus (apply bEqF; omega)) | (focus (apply bNeT; omega)) | (focus (apply bNeF; omega)) | (focus (apply bOrT1; first | assumption | (apply decide_eq_true; omega))) | (focus (apply bOrT2; first | assumption | (apply decide_eq_true; omega))) | (focus (apply bAndF1; first | assumption | (apply decide_eq_false; omega))) | (focus (apply bAndF2; first | assumption | (apply decide_eq_false; omega))))); done))) | (apply f_end; rfl; rfl; rfl; intro w hw; first | exact ans hw | (refine ans_b ?_ hw; (focus ((repeat (first | assumption | rfl | exact beq_self_eq_true _ | exact bne_self_eq_false _ | apply bOrF | apply bAndT | apply bNotF | apply bNotT | (focus (apply decide_eq_true; omega)) | (focus (apply decide_eq_false; omega)) | (focus (apply bEqT; omega)) | (focus (apply bEqF; omega)) | (focus (apply bNeT; omega)) | (focus (apply bNeF; omega)) | (focus (apply bOrT1; first | assumption | (apply decide_eq_true; omega))) | (focus (apply bOrT2; first | assumption | (apply decide_eq_true; omega))) | (focus (apply bAndF1; first | assumption | (apply decide_eq_false; omega))) | (focus (apply bAndF2; first | assumption | (apply decide_eq_false; omega))))); done))) | (apply t_endS1 hw; rfl; (focus ((repeat (first | exact List.Sublist.refl _ | apply List.Sublist.cons_cons | apply List.Sublist.cons)); done))) | (apply t_endU hw; rfl; (focus ((repeat (first | exact List.Sublist.refl _ | apply List.Sublist.cons_cons | apply List.Sublist.cons)); done))) | (apply t_endX1 hw; rfl; (focus ((repeat (first | exact List.Sublist.refl _ | apply List.Sublist.cons_cons | apply List.Sublist.cons)); done))) | (refine t_end ⟨rfl, rfl⟩ ?_ w hw; (focus ((repeat (first | exact List.Sublist.refl _ | apply List.Sublist.cons_cons | apply List.Sublist.cons)); done))) | (apply t_endUT hw; rfl; (focus ((repeat (first | exact Tk.nil | (apply Tk.see; (first | (focus (apply VSees.vw; (repeat (first | exact List.Mem.head _ | apply List.Mem.tail)); done)) | exact VSees.nil | assumption)) | (apply Tk.see; exact VSees.nil) | (apply Tk.take; (repeat (first | exact Plc.hit | apply Plc.miss))))); done)); (focus ((repeat (first | exact List.Sublist.refl _ | apply List.Sublist.cons_cons | apply List.Sublist.cons)); done))) | (apply t_endXT hw; rfl; (repeat (first | exact Tk.nil | (apply Tk.see; (first | (focus (apply VSees.vw; (repeat (first | exact List.Mem.head _ | apply List.Mem.tail)); done)) | exact VSees.nil | assumption)) | (apply Tk.see; exact VSees.nil) | (apply Tk.take; (repeat (first | exact Plc.hit | apply Plc.miss))))); (focus ((repeat (first | exact List.Sublist.refl _ | apply List.Sublist.cons_cons | apply List.Sublist.cons)); done)))) | (apply w_reg_l; rfl) | exact rfl)
  · dsimp only [Pr.cells]
    refine enter_r rfl Try.func8 rfl Try.ntmps8 rfl (fun Wo => ?_)
    repeat (first | (apply s_box; rfl; constructor; rfl; intro _) | apply s_st | apply st_go | (focus (first | (apply y_move; rfl) | (apply y_assign; rfl) | (apply y_calls; rfl; rfl; rfl; (first | assumption); done) | (apply y_len; rfl) | (apply y_gt; rfl; rfl))) | apply s_nil | apply w_seq | apply f_then | apply f_ret | apply w_ret | (apply w_cond_tt; rfl; (focus ((repeat (first | assumption | rfl | exact beq_self_eq_true _ | exact bne_self_eq_false _ | apply bOrF | apply bAndT | apply bNotF | apply bNotT | (focus (apply decide_eq_true; omega)) | (focus (apply decide_eq_false; omega)) | (focus (apply bEqT; omega)) | (focus (apply bEqF; omega)) | (focus (apply bNeT; omega)) | (focus (apply bNeF; omega)) | (focus (apply bOrT1; first | assumption | (apply decide_eq_true; omega))) | (focus (apply bOrT2; first | assumption | (apply decide_eq_true; omega))) | (focus (apply bAndF1; first | assumption | (apply decide_eq_false; omega))) | (focus (apply bAndF2; first | assumption | (apply decide_eq_false; omega))))); done))) | (apply f_end; rfl; rfl; rfl; intro w hw; first | exact ans hw | (refine ans_b ?_ hw; (focus ((repeat (first | assumption | rfl | exact beq_self_eq_true _ | exact bne_self_eq_false _ | apply bOrF | apply bAndT | apply bNotF | apply bNotT | (focus (apply decide_eq_true; omega)) | (focus (apply decide_eq_false; omega)) | (focus (apply bEqT; omega)) | (focus (apply bEqF; omega)) | (focus (apply bNeT; omega)) | (focus (apply bNeF; omega)) | (focus (apply bOrT1; first | assumption | (apply decide_eq_true; omega))) | (focus (apply bOrT2; first | assumption | (apply decide_eq_true; omega))) | (focus (apply bAndF1; first | assumption | (apply decide_eq_false; omega))) | (focus (apply bAndF2; first | assumption | (apply decide_eq_false; omega))))); done)))) | (apply w_reg_l; rfl) | exact rfl)
end Go.Proofs.Ytpopikomcnkhnaa.Hand
