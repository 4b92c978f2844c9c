/-
  The document's trie: Get, Inside, Longest, Pairs, Nodes, Del, Put.
-/
import Derived.Test.YtfcffemglcgbnaaTb
namespace Go.Proofs.Ytfcffemglcgbnaa.Hand
open Go.RowKit Go.Proofs.Ytfcffemglcgbnaa.Bits Go.Proofs.Ytfcffemglcgbnaa.Dig Go.Proofs.Ytfcffemglcgbnaa.Sq
set_option linter.unusedVariables false
set_option linter.unusedSimpArgs false
set_option maxRecDepth 100000
set_option maxHeartbeats 1000000
def getN : List Pr → Px → Int × Bool
  | [], _ => (0, false)
  | x :: L, p => if x.p = p then (x.v, true) else getN L p
noncomputable def insN (L : List Pr) (p : Px) : Bool := L.any fun e => inB p e.p
theorem insN_hit {p : Px} {L : List Pr} {k : Nat} (h : k < L.length) (hc : inB p L[k].p = true) : insN (L.drop k) p = true := by rw [List.drop_eq_getElem_cons h, insN, List.any_cons, hc]; rfl
theorem insN_miss {p : Px} {L : List Pr} {k : Nat} (h : k < L.length) (hc : inB p L[k].p = false) : insN (L.drop k) p = insN (L.drop (k + 1)) p := by rw [List.drop_eq_getElem_cons h, insN, List.any_cons, hc]; rfl
theorem rinside_s (L : List Pr) (hw : ∀ e ∈ L, e.p.a.wf) (hl : L.length ≤ 100000000) {p : Px} (hp : p.a.wf) (mo : Int) (A : Option Addr) (c : Nat) :
    RCal Try.prog 142 [.agg #[.slice A L.length c, .int .i64 mo], p.val] [.vw A c 5 (L.map Pr.cells)] (.bool (insN L p)) := by
  refine enter_r rfl Try.func142 rfl Try.ntmps142 rfl (fun Wo => ?_)
  repeat (first | (apply s_box; rfl; constructor; rfl; intro _) | apply s_st | apply st_go | (focus (first | (apply y_assign; rfl))) | apply s_nil | apply w_seq | apply f_then | apply w_block | (apply w_reg_l; rfl) | exact rfl)
  refine w_loop0 (fun i : Nat => [(5, .int .i64 ((i : Nat) : Int))]) (fun i => i ≤ L.length ∧ insN L p = insN (L.drop i) p) (fun i => L.length - i) 0 ⟨Nat.zero_le _, rfl⟩ ?_ ?_
  · (repeat (first | exact Cov.nil | (apply Cov.cons; rfl) | (apply Cov.seen; rfl)))
  · rintro i ⟨hi, he⟩ R hR
    by_cases hlt : i < L.length
    · have hrow := map_get (f := Pr.cells) hlt
      have k1 := r2ins_s hp (hw _ (List.getElem_mem hlt))
      cases hq : inB p L[i].p with
      | true =>
        rw [hq] at k1
        rw [he, insN_hit hlt hq]
        clear hR he hq
        repeat (first | apply s_st | apply q_st | apply st_go | (focus (first | (apply y_move; rfl) | (apply y_assign; rfl) | (apply y_load; rfl; (repeat (first | exact List.Mem.head _ | apply List.Mem.tail)); (repeat (first | exact Sub.nil | apply Sub.take | apply Sub.drop)); done) | (apply y_cell; rfl; (repeat (first | exact List.Mem.head _ | apply List.Mem.tail)); (repeat (first | exact At.hit | apply At.miss)); kernel_rfl; done) | (apply y_eload; rfl; (first | (focus (apply Sees.vw; (repeat (first | exact List.Mem.head _ | apply List.Mem.tail)); done)) | (focus (apply Sees.own; (repeat (first | exact List.Mem.head _ | apply List.Mem.tail)); done)) | exact Sees.nil | assumption); (first | assumption | rfl); (repeat (first | exact Sub.nil | apply Sub.take | apply Sub.drop)); done) | (apply y_calls; rfl; rfl; rfl; (first | assumption); done) | (apply y_efaddr; kernel_rfl; rfl) | (apply y_faddr; kernel_rfl; rfl) | (apply y_ixaddr; rfl; rfl; (first | (focus (apply Sees.vw; (repeat (first | exact List.Mem.head _ | apply List.Mem.tail)); done)) | (focus (apply Sees.own; (repeat (first | exact List.Mem.head _ | apply List.Mem.tail)); done)) | exact Sees.nil | assumption); (first | rfl | assumption | (focus (simp; done)) | (focus (simp; omega))); (first | assumption | rfl | exact (show (0 : Int) = ((0 : Nat) : Int) from rfl) | exact (show (1 : Int) = ((1 : Nat) : Int) from rfl) | exact (show (2 : Int) = ((2 : Nat) : Int) from rfl) | exact (show (3 : Int) = ((3 : Nat) : Int) from rfl)); (first | assumption | omega | (focus (simp; done)) | (focus (simp; omega))); done) | (apply y_len; rfl) | (apply y_lt; rfl; rfl))) | apply q_nil | apply s_nil | apply w_seq | apply f_then | apply w_block | apply f_ret | apply f_ret_block | apply w_skip | apply w_ret | refine w_cond_t rfl ?_ | (apply w_cond_tt; rfl; (focus ((repeat (first | assumption | rfl | exact beq_self_eq_true _ | exact bne_self_eq_false _ | apply bOrF | apply bAndT | apply bNotF | apply bNotT | (focus (apply decide_eq_true; omega)) | (focus (apply decide_eq_false; omega)) | (focus (apply bEqT; omega)) | (focus (apply bEqF; omega)) | (focus (apply bNeT; omega)) | (focus (apply bNeF; omega)) | (focus (apply bOrT1; first | assumption | (apply decide_eq_true; omega))) | (focus (apply bOrT2; first | assumption | (apply decide_eq_true; omega))) | (focus (apply bAndF1; first | assumption | (apply decide_eq_false; omega))) | (focus (apply bAndF2; first | assumption | (apply decide_eq_false; omega))))); done))) | (apply f_end; rfl; rfl; rfl; intro w hw; first | exact ans hw | (refine ans_b ?_ hw; (focus ((repeat (first | assumption | rfl | exact beq_self_eq_true _ | exact bne_self_eq_false _ | apply bOrF | apply bAndT | apply bNotF | apply bNotT | (focus (apply decide_eq_true; omega)) | (focus (apply decide_eq_false; omega)) | (focus (apply bEqT; omega)) | (focus (apply bEqF; omega)) | (focus (apply bNeT; omega)) | (focus (apply bNeF; omega)) | (focus (apply bOrT1; first | assumption | (apply decide_eq_true; omega))) | (focus (apply bOrT2; first | assumption | (apply decide_eq_true; omega))) | (focus (apply bAndF1; first | assumption | (apply decide_eq_false; omega))) | (focus (apply bAndF2; first | assumption | (apply decide_eq_false; omega))))); done)))) | (apply w_draw_l; rfl; kernel_rfl; rfl; kernel_rfl) | (apply w_reg_l; rfl) | exact rfl)
      | false =>
        rw [hq] at k1
        have hB := hR (i + 1) ⟨hlt, by rw [he, insN_miss hlt hq]⟩ (by omega)
        rw [← wrap_suc (by omega)] at hB
        clear hR he hq
        repeat (first | apply s_st | apply q_st | apply st_go | (focus (first | (apply y_move; rfl) | (apply y_assign; rfl) | (apply y_load; rfl; (repeat (first | exact List.Mem.head _ | apply List.Mem.tail)); (repeat (first | exact Sub.nil | apply Sub.take | apply Sub.drop)); done) | (apply y_cell; rfl; (repeat (first | exact List.Mem.head _ | apply List.Mem.tail)); (repeat (first | exact At.hit | apply At.miss)); kernel_rfl; done) | (apply y_eload; rfl; (first | (focus (apply Sees.vw; (repeat (first | exact List.Mem.head _ | apply List.Mem.tail)); done)) | (focus (apply Sees.own; (repeat (first | exact List.Mem.head _ | apply List.Mem.tail)); done)) | exact Sees.nil | assumption); (first | assumption | rfl); (repeat (first | exact Sub.nil | apply Sub.take | apply Sub.drop)); done) | (apply y_calls; rfl; rfl; rfl; (first | assumption); done) | (apply y_efaddr; kernel_rfl; rfl) | (apply y_faddr; kernel_rfl; rfl) | (apply y_ixaddr; rfl; rfl; (first | (focus (apply Sees.vw; (repeat (first | exact List.Mem.head _ | apply List.Mem.tail)); done)) | (focus (apply Sees.own; (repeat (first | exact List.Mem.head _ | apply List.Mem.tail)); done)) | exact Sees.nil | assumption); (first | rfl | assumption | (focus (simp; done)) | (focus (simp; omega))); (first | assumption | rfl | exact (show (0 : Int) = ((0 : Nat) : Int) from rfl) | exact (show (1 : Int) = ((1 : Nat) : Int) from rfl) | exact (show (2 : Int) = ((2 : Nat) : Int) from rfl) | exact (show (3 : Int) = ((3 : Nat) : Int) from rfl)); (first | assumption | omega | (focus (simp; done)) | (focus (simp; omega))); done) | (apply y_len; rfl) | (apply y_lt; rfl; rfl) | (apply y_add; rfl; rfl))) | apply q_nil | apply s_nil | apply w_seq | apply f_then | apply w_block | apply f_norm_block | (apply f_back; assumption; (repeat (first | exact Cov.nil | (apply Cov.cons; rfl) | (apply Cov.seen; rfl))); (focus ((repeat (first | exact List.Sublist.refl _ | apply List.Sublist.cons_cons | apply List.Sublist.cons)); done))) | apply w_skip | refine w_cond_f rfl ?_ | (apply w_cond_tt; rfl; (focus ((repeat (first | assumption | rfl | exact beq_self_eq_true _ | exact bne_self_eq_false _ | apply bOrF | apply bAndT | apply bNotF | apply bNotT | (focus (apply decide_eq_true; omega)) | (focus (apply decide_eq_false; omega)) | (focus (apply bEqT; omega)) | (focus (apply bEqF; omega)) | (focus (apply bNeT; omega)) | (focus (apply bNeF; omega)) | (focus (apply bOrT1; first | assumption | (apply decide_eq_true; omega))) | (focus (apply bOrT2; first | assumption | (apply decide_eq_true; omega))) | (focus (apply bAndF1; first | assumption | (apply decide_eq_false; omega))) | (focus (apply bAndF2; first | assumption | (apply decide_eq_false; omega))))); done))) | (apply w_draw_l; rfl; kernel_rfl; rfl; kernel_rfl) | (apply w_reg_l; rfl) | exact rfl)
    · have hv : insN L p = false := by rw [he, List.drop_eq_nil_of_le (by omega)]; rfl
      rw [hv]
      clear hR he hv
      repeat (first | apply s_st | apply st_go | (focus (first | (apply y_move; rfl) | (apply y_assign; rfl) | (apply y_cell; rfl; (repeat (first | exact List.Mem.head _ | apply List.Mem.tail)); (repeat (first | exact At.hit | apply At.miss)); kernel_rfl; done) | (apply y_faddr; kernel_rfl; rfl) | (apply y_len; rfl) | (apply y_lt; rfl; rfl))) | apply s_nil | apply w_seq | apply f_then | apply w_exit | apply f_out | apply f_exit_block | apply w_ret | (apply w_cond_ff; rfl; (focus ((repeat (first | assumption | rfl | exact beq_self_eq_true _ | exact bne_self_eq_false _ | apply bOrF | apply bAndT | apply bNotF | apply bNotT | (focus (apply decide_eq_true; omega)) | (focus (apply decide_eq_false; omega)) | (focus (apply bEqT; omega)) | (focus (apply bEqF; omega)) | (focus (apply bNeT; omega)) | (focus (apply bNeF; omega)) | (focus (apply bOrT1; first | assumption | (apply decide_eq_true; omega))) | (focus (apply bOrT2; first | assumption | (apply decide_eq_true; omega))) | (focus (apply bAndF1; first | assumption | (apply decide_eq_false; omega))) | (focus (apply bAndF2; first | assumption | (apply decide_eq_false; omega))))); done))) | (apply f_end; rfl; rfl; rfl; intro w hw; first | exact ans hw | (refine ans_b ?_ hw; (focus ((repeat (first | assumption | rfl | exact beq_self_eq_true _ | exact bne_self_eq_false _ | apply bOrF | apply bAndT | apply bNotF | apply bNotT | (focus (apply decide_eq_true; omega)) | (focus (apply decide_eq_false; omega)) | (focus (apply bEqT; omega)) | (focus (apply bEqF; omega)) | (focus (apply bNeT; omega)) | (focus (apply bNeF; omega)) | (focus (apply bOrT1; first | assumption | (apply decide_eq_true; omega))) | (focus (apply bOrT2; first | assumption | (apply decide_eq_true; omega))) | (focus (apply bAndF1; first | assumption | (apply decide_eq_false; omega))) | (focus (apply bAndF2; first | assumption | (apply decide_eq_false; omega))))); done)))) | (apply w_reg_l; rfl) | exact rfl)
def zeroPr : Pr := ⟨⟨⟨0, 0, false⟩, 0⟩, 0⟩
noncomputable def comP (p q : Px) : Int := mn2 (mn2 p.n q.n) (commonA p.a.hi p.a.lo p.a.v6 q.a.hi q.a.lo q.a.v6)
noncomputable def ndC (L : List Pr) (i : Nat) : Int := match L[i]? with
  | none => 0
  | some x => x.p.n - (match i with
    | 0 => 0
    | j + 1 => match L[j]? with
      | none => 0
      | some y => comP y.p x.p)
noncomputable def ndT (L : List Pr) : Nat → Int
  | 0 => 2
  | i + 1 => ndT L i + ndC L i
noncomputable def nodesN (L : List Pr) : Int := ndT L L.length
theorem comP_rng {p q : Px} (hp : sanB p = true) (hq : sanB q = true) : 0 ≤ comP p q ∧ comP p q ≤ q.n := by
  obtain ⟨c, hc, e1, _⟩ := sanB_pk hp
  obtain ⟨m, hm, f1, _⟩ := sanB_pk hq
  unfold comP mn2 commonA
  rw [e1, f1]
  constructor
  · split <;> split <;> (try split) <;> (try split) <;> omega
  · split <;> split <;> (try split) <;> (try split) <;> omega
theorem n_rng {p : Px} (hp : sanB p = true) : 0 ≤ p.n ∧ p.n ≤ 128 := by
  obtain ⟨c, hc, e1, _⟩ := sanB_pk hp
  have := W_le p.a.v6
  omega
theorem ndC_rng (L : List Pr) (hs : ∀ e ∈ L, sanB e.p = true) (i : Nat) : 0 ≤ ndC L i ∧ ndC L i ≤ 128 := by
  unfold ndC
  split
  · omega
  · rename_i x hx
    have h1 := n_rng (hs x (List.mem_of_getElem? hx))
    split
    · omega
    · split
      · omega
      · rename_i y hy
        have h2 := comP_rng (hs y (List.mem_of_getElem? hy)) (hs x (List.mem_of_getElem? hx))
        omega
theorem ndT_rng (L : List Pr) (hs : ∀ e ∈ L, sanB e.p = true) : ∀ i, 2 ≤ ndT L i ∧ ndT L i ≤ 2 + 128 * i
  | 0 => by unfold ndT; omega
  | i + 1 => by
    have := ndT_rng L hs i
    have := ndC_rng L hs i
    unfold ndT
    omega
theorem rnodes_s (L : List Pr) (hw : ∀ e ∈ L, e.p.a.wf) (hs : ∀ e ∈ L, sanB e.p = true) (hl : L.length ≤ 100000000) (mo : Int) (A : Option Addr) (c : Nat) :
    RCal Try.prog 140 [.agg #[.slice A L.length c, .int .i64 mo]] [.vw A c 5 (L.map Pr.cells)] (.int .i64 (nodesN L)) := by
  refine enter_r rfl Try.func140 rfl Try.ntmps140 rfl (fun Wo => ?_)
  repeat (first | (apply s_box; rfl; constructor; rfl; intro _) | apply s_st | apply st_go | (focus (first | (apply y_assign; rfl))) | apply s_nil | apply w_seq | apply f_then | apply w_block | (apply w_reg_l; rfl) | exact rfl)
  refine w_loop0 (fun i : Nat => [(4, .int .i64 ((i : Nat) : Int)), (3, .int .i64 (ndT L i))]) (fun i => i ≤ L.length) (fun i => L.length - i) 0 (Nat.zero_le _) ?_ ?_
  · (repeat (first | exact Cov.nil | (apply Cov.cons; rfl) | (apply Cov.seen; rfl)))
  · rintro i hi R hR
    by_cases hlt : i < L.length
    · have hrow := map_get (f := Pr.cells) hlt
      have hB := hR (i + 1) hlt (by omega)
      rw [← wrap_suc (by omega)] at hB
      have hg : L[i]? = some L[i] := List.getElem?_eq_getElem hlt
      have hx := n_rng (hs _ (List.getElem_mem hlt))
      have hr := ndT_rng L hs i
      cases i with
      | zero =>
        have hc : ndC L 0 = L[0].p.n - 0 := by unfold ndC; rw [hg]
        have e : ndT L (0 + 1) = IntKind.i64.wrap (ndT L 0 + L[0].p.n) := by rw [IntWalk.i64_in _ (by omega)]; show ndT L 0 + ndC L 0 = _; rw [hc]; omega
        rw [e] at hB
        clear hR
        repeat (first | apply s_st | apply st_go | (focus (first | (apply y_move; rfl) | (apply y_assign; rfl) | (apply y_cell; rfl; (repeat (first | exact List.Mem.head _ | apply List.Mem.tail)); (repeat (first | exact At.hit | apply At.miss)); kernel_rfl; done) | (apply y_ecell; rfl; (first | (focus (apply Sees.vw; (repeat (first | exact List.Mem.head _ | apply List.Mem.tail)); done)) | (focus (apply Sees.own; (repeat (first | exact List.Mem.head _ | apply List.Mem.tail)); done)) | exact Sees.nil | assumption); (first | assumption | rfl); (repeat (first | exact At.hit | apply At.miss)); kernel_rfl; done) | (apply y_efaddr; kernel_rfl; rfl) | (apply y_faddr; kernel_rfl; rfl) | (apply y_ixaddr; rfl; rfl; (first | (focus (apply Sees.vw; (repeat (first | exact List.Mem.head _ | apply List.Mem.tail)); done)) | (focus (apply Sees.own; (repeat (first | exact List.Mem.head _ | apply List.Mem.tail)); done)) | exact Sees.nil | assumption); (first | rfl | assumption | (focus (simp; done)) | (focus (simp; omega))); (first | assumption | rfl | exact (show (0 : Int) = ((0 : Nat) : Int) from rfl) | exact (show (1 : Int) = ((1 : Nat) : Int) from rfl) | exact (show (2 : Int) = ((2 : Nat) : Int) from rfl) | exact (show (3 : Int) = ((3 : Nat) : Int) from rfl)); (first | assumption | omega | (focus (simp; done)) | (focus (simp; omega))); done) | (apply y_len; rfl) | (apply y_lt; rfl; rfl) | (apply y_gt; rfl; rfl) | (apply y_add; rfl; rfl))) | apply s_nil | apply w_seq | apply f_then | apply w_block | apply f_norm_block | (apply f_back; assumption; (repeat (first | exact Cov.nil | (apply Cov.cons; rfl) | (apply Cov.seen; rfl))); (focus ((repeat (first | exact List.Sublist.refl _ | apply List.Sublist.cons_cons | apply List.Sublist.cons)); done))) | apply w_skip | refine w_cond_f rfl ?_ | (apply w_cond_tt; rfl; (focus ((repeat (first | assumption | rfl | exact beq_self_eq_true _ | exact bne_self_eq_false _ | apply bOrF | apply bAndT | apply bNotF | apply bNotT | (focus (apply decide_eq_true; omega)) | (focus (apply decide_eq_false; omega)) | (focus (apply bEqT; omega)) | (focus (apply bEqF; omega)) | (focus (apply bNeT; omega)) | (focus (apply bNeF; omega)) | (focus (apply bOrT1; first | assumption | (apply decide_eq_true; omega))) | (focus (apply bOrT2; first | assumption | (apply decide_eq_true; omega))) | (focus (apply bAndF1; first | assumption | (apply decide_eq_false; omega))) | (focus (apply bAndF2; first | assumption | (apply decide_eq_false; omega))))); done))) | (apply w_reg_l; rfl) | exact rfl)
      | succ j =>
        have hj : j < L.length := by omega
        have hrow2 := map_get (f := Pr.cells) hj
        have hgj : L[j]? = some L[j] := List.getElem?_eq_getElem hj
        have hc : ndC L (j + 1) = L[j + 1].p.n - comP L[j].p L[j + 1].p := by unfold ndC; rw [hg]; dsimp only; rw [hgj]
        have hcr := comP_rng (hs _ (List.getElem_mem hj)) (hs _ (List.getElem_mem hlt))
        have k1 := rcommon_s (hw _ (List.getElem_mem hj)) (hw _ (List.getElem_mem hlt)) L[j].p.a.v6 L[j + 1].p.a.v6
        have e : ndT L (j + 1 + 1) = IntKind.i64.wrap (IntKind.i64.wrap (ndT L (j + 1) + L[j + 1].p.n) - comP L[j].p L[j + 1].p) := by rw [IntWalk.i64_in (ndT L (j + 1) + L[j + 1].p.n) (by omega), IntWalk.i64_in _ (by omega)]; show ndT L (j + 1) + ndC L (j + 1) = _; rw [hc]; omega
        have hix : IntKind.i64.wrap (((j + 1 : Nat) : Int) - 1) = ((j : Nat) : Int) := by rw [IntWalk.i64_in _ (by omega)]; omega
        rw [e] at hB
        unfold comP at hB
        clear hR e hc
        repeat (first | (apply s_alloc; rfl; intro _) | (apply s_store; rfl; rfl; (repeat (first | exact Plc.hit | apply Plc.miss)); constructor; (focus ((simp only [setAt, List.set_cons_zero, List.set_cons_succ, Nat.zero_add, Nat.reduceAdd, Nat.reduceMul]); try rfl)); kernel_rfl; rfl) | apply s_st | apply q_st | apply st_go | (focus (first | (apply y_move; rfl) | (apply y_assign; rfl) | (apply y_load; rfl; (repeat (first | exact List.Mem.head _ | apply List.Mem.tail)); (repeat (first | exact Sub.nil | apply Sub.take | apply Sub.drop)); done) | (apply y_cell; rfl; (repeat (first | exact List.Mem.head _ | apply List.Mem.tail)); (repeat (first | exact At.hit | apply At.miss)); kernel_rfl; done) | (apply y_eload; rfl; (first | (focus (apply Sees.vw; (repeat (first | exact List.Mem.head _ | apply List.Mem.tail)); done)) | (focus (apply Sees.own; (repeat (first | exact List.Mem.head _ | apply List.Mem.tail)); done)) | exact Sees.nil | assumption); (first | assumption | rfl); (repeat (first | exact Sub.nil | apply Sub.take | apply Sub.drop)); done) | (apply y_ecell; rfl; (first | (focus (apply Sees.vw; (repeat (first | exact List.Mem.head _ | apply List.Mem.tail)); done)) | (focus (apply Sees.own; (repeat (first | exact List.Mem.head _ | apply List.Mem.tail)); done)) | exact Sees.nil | assumption); (first | assumption | rfl); (repeat (first | exact At.hit | apply At.miss)); kernel_rfl; done) | (apply y_calls; rfl; rfl; rfl; (first | assumption); done) | (apply y_efaddr; kernel_rfl; rfl) | (apply y_faddr; kernel_rfl; rfl) | (apply y_ixaddr; rfl; rfl; (first | (focus (apply Sees.vw; (repeat (first | exact List.Mem.head _ | apply List.Mem.tail)); done)) | (focus (apply Sees.own; (repeat (first | exact List.Mem.head _ | apply List.Mem.tail)); done)) | exact Sees.nil | assumption); (first | rfl | assumption | (focus (simp; done)) | (focus (simp; omega))); (first | assumption | rfl | exact (show (0 : Int) = ((0 : Nat) : Int) from rfl) | exact (show (1 : Int) = ((1 : Nat) : Int) from rfl) | exact (show (2 : Int) = ((2 : Nat) : Int) from rfl) | exact (show (3 : Int) = ((3 : Nat) : Int) from rfl)); (first | assumption | omega | (focus (simp; done)) | (focus (simp; omega))); done) | (apply y_len; rfl) | (apply y_lt; rfl; rfl) | (apply y_gt; rfl; rfl) | (apply y_add; rfl; rfl) | (apply y_sub; rfl; rfl) | (apply y_min3; rfl))) | apply q_nil | apply s_nil | apply w_seq | apply f_then | apply w_block | apply f_norm_block | (apply f_back; assumption; (repeat (first | exact Cov.nil | (apply Cov.cons; rfl) | (apply Cov.seen; rfl))); (focus ((repeat (first | exact List.Sublist.refl _ | apply List.Sublist.cons_cons | apply List.Sublist.cons)); done))) | apply w_skip | (apply w_cond_tt; rfl; (focus ((repeat (first | assumption | rfl | exact beq_self_eq_true _ | exact bne_self_eq_false _ | apply bOrF | apply bAndT | apply bNotF | apply bNotT | (focus (apply decide_eq_true; omega)) | (focus (apply decide_eq_false; omega)) | (focus (apply bEqT; omega)) | (focus (apply bEqF; omega)) | (focus (apply bNeT; omega)) | (focus (apply bNeF; omega)) | (focus (apply bOrT1; first | assumption | (apply decide_eq_true; omega))) | (focus (apply bOrT2; first | assumption | (apply decide_eq_true; omega))) | (focus (apply bAndF1; first | assumption | (apply decide_eq_false; omega))) | (focus (apply bAndF2; first | assumption | (apply decide_eq_false; omega))))); done))) | (apply w_draw_l; rfl; kernel_rfl; rfl; kernel_rfl) | (apply w_reg_l; rfl) | exact rfl)
    · obtain rfl : i = L.length := by omega
      clear hR
      repeat (first | apply s_st | apply st_go | (focus (first | (apply y_move; rfl) | (apply y_assign; rfl) | (apply y_cell; rfl; (repeat (first | exact List.Mem.head _ | apply List.Mem.tail)); (repeat (first | exact At.hit | apply At.miss)); kernel_rfl; done) | (apply y_faddr; kernel_rfl; rfl) | (apply y_len; rfl) | (apply y_lt; rfl; rfl))) | apply s_nil | apply w_seq | apply f_then | apply w_exit | apply f_out | apply f_exit_block | apply w_ret | (apply w_cond_ff; rfl; (focus ((repeat (first | assumption | rfl | exact beq_self_eq_true _ | exact bne_self_eq_false _ | apply bOrF | apply bAndT | apply bNotF | apply bNotT | (focus (apply decide_eq_true; omega)) | (focus (apply decide_eq_false; omega)) | (focus (apply bEqT; omega)) | (focus (apply bEqF; omega)) | (focus (apply bNeT; omega)) | (focus (apply bNeF; omega)) | (focus (apply bOrT1; first | assumption | (apply decide_eq_true; omega))) | (focus (apply bOrT2; first | assumption | (apply decide_eq_true; omega))) | (focus (apply bAndF1; first | assumption | (apply decide_eq_false; omega))) | (focus (apply bAndF2; first | assumption | (apply decide_eq_false; omega))))); done))) | (apply f_end; rfl; rfl; rfl; intro w hw; first | exact ans hw | (refine ans_b ?_ hw; (focus ((repeat (first | assumption | rfl | exact beq_self_eq_true _ | exact bne_self_eq_false _ | apply bOrF | apply bAndT | apply bNotF | apply bNotT | (focus (apply decide_eq_true; omega)) | (focus (apply decide_eq_false; omega)) | (focus (apply bEqT; omega)) | (focus (apply bEqF; omega)) | (focus (apply bNeT; omega)) | (focus (apply bNeF; omega)) | (focus (apply bOrT1; first | assumption | (apply decide_eq_true; omega))) | (focus (apply bOrT2; first | assumption | (apply decide_eq_true; omega))) | (focus (apply bAndF1; first | assumption | (apply decide_eq_false; omega))) | (focus (apply bAndF2; first | assumption | (apply decide_eq_false; omega))))); done)))) | (apply w_reg_l; rfl) | exact rfl)
end Go.Proofs.Ytfcffemglcgbnaa.Hand
