/-
  The queue: the searches over its entries.
-/
import Derived.Test.YtlmcfjadhahlpaaWr
namespace Go.Proofs.Ytlmcfjadhahlpaa.Hand
open Go.RowKit Go.Proofs.Ytlmcfjadhahlpaa.Sq
set_option linter.unusedVariables false
set_option linter.unusedSimpArgs false
set_option maxRecDepth 100000
set_option maxHeartbeats 1000000
noncomputable def conB (p : Px) (a : Ad) : Bool := contB p.a.hi p.a.lo p.a.v6 p.n a.hi a.lo a.v6
/-- The first entry whose block has an address. -/
noncomputable def firN : List En → Ad → Nat → Int
  | [], _, _ => -1
  | e :: l, a, i => if conB e.x.p a then (i : Int) else firN l a (i + 1)
theorem firN_hit {a : Ad} {l : List En} {i k : Nat} (h : k < l.length) (hc : conB l[k].x.p a = true) : firN (l.drop k) a i = i := by
  rw [List.drop_eq_getElem_cons h, firN, if_pos hc]
theorem firN_miss {a : Ad} {l : List En} {i k : Nat} (h : k < l.length) (hc : conB l[k].x.p a = false) : firN (l.drop k) a i = firN (l.drop (k + 1)) a (i + 1) := by
  rw [List.drop_eq_getElem_cons h, firN, hc]; rfl
theorem wrap_suc {i : Nat} (h : i ≤ 1000000000) : IntKind.i64.wrap (((i : Nat) : Int) + 1) = (((i + 1 : Nat)) : Int) := by
  rw [IntWalk.i64_in _ (by omega)]; omega
theorem rcon_s {p : Px} {a : Ad} (hp : p.a.wf) (ha : a.wf) : Cal Try.prog 81 [p.val, a.val] (.bool (conB p a)) := r2contains_s hp ha _ _ _
theorem con_s {p : Px} {a : Ad} (hp : p.a.wf) (ha : a.wf) : Cal Try.prog 31 [p.val, a.val] (.bool (conB p a)) := contains_s hp ha _ _ _
theorem rfirst_s {a : Ad} (ha : a.wf) (l : List En) (hw : ∀ e ∈ l, e.wf) (hl : l.length ≤ 100000000) (A : Option Addr) (c : Nat) :
    RCal Try.prog 63 [.slice A l.length c, a.val] [.vw A c 9 (l.map En.cells)] (.int .i64 (firN l a 0)) := by
  refine enter_r rfl Try.func63 rfl Try.ntmps63 rfl (fun Wo => ?_)
  repeat (first | (apply s_box; rfl; constructor; rfl; intro _) | apply s_st | apply st_go | (focus (first | (apply y_assign; rfl))) | apply s_nil | apply w_seq | apply f_then | apply w_block | (apply w_reg_l; rfl) | exact rfl)
  refine w_loop0 (fun i : Nat => [(5, .int .i64 ((i : Nat) : Int))]) (fun i => i ≤ l.length ∧ firN l a 0 = firN (l.drop i) a i) (fun i => l.length - i) 0 ⟨Nat.zero_le _, rfl⟩ ?_ ?_
  · (repeat (first | exact Cov.nil | (apply Cov.cons; rfl) | (apply Cov.seen; rfl)))
  · rintro i ⟨hi, he⟩ R hR
    by_cases hlt : i < l.length
    · have hE : decide (((i : Nat) : Int) < ((l.length : Nat) : Int)) = true := by simp; exact hlt
      have hrow := map_get (f := En.cells) hlt
      have hc := rcon_s (p := l[i].x.p) (hw _ (List.getElem_mem hlt)).2 ha
      cases hq : conB l[i].x.p a with
      | true =>
        rw [hq] at hc
        have hv : firN l a 0 = ((i : Nat) : Int) := by rw [he, firN_hit hlt hq]
        rw [hv]
        clear hR he hv
        repeat (first | apply s_st | apply q_st | apply st_go | (focus (first | (apply y_move; rfl) | (apply y_assign; rfl) | (apply y_load; rfl; (repeat (first | exact List.Mem.head _ | apply List.Mem.tail)); (repeat (first | exact Sub.nil | apply Sub.take | apply Sub.drop)); done) | (apply y_eload; rfl; (first | (focus (apply Sees.vw; (repeat (first | exact List.Mem.head _ | apply List.Mem.tail)); done)) | (focus (apply Sees.own; (repeat (first | exact List.Mem.head _ | apply List.Mem.tail)); done)) | exact Sees.nil | assumption); (first | assumption | rfl); (repeat (first | exact Sub.nil | apply Sub.take | apply Sub.drop)); done) | (apply y_calls; rfl; rfl; rfl; (first | assumption); done) | (apply y_efaddr; kernel_rfl; rfl) | (apply y_ixaddr; rfl; rfl; (first | (focus (apply Sees.vw; (repeat (first | exact List.Mem.head _ | apply List.Mem.tail)); done)) | (focus (apply Sees.own; (repeat (first | exact List.Mem.head _ | apply List.Mem.tail)); done)) | exact Sees.nil | assumption); (first | rfl | assumption | (focus (simp; done)) | (focus (simp; omega))); (first | assumption | rfl | exact (show (0 : Int) = ((0 : Nat) : Int) from rfl) | exact (show (1 : Int) = ((1 : Nat) : Int) from rfl) | exact (show (2 : Int) = ((2 : Nat) : Int) from rfl) | exact (show (3 : Int) = ((3 : Nat) : Int) from rfl)); (first | assumption | omega | (focus (simp; done)) | (focus (simp; omega))); done) | (apply y_len; rfl) | (apply y_lt; rfl; rfl))) | apply q_nil | apply s_nil | apply w_seq | apply f_then | apply w_block | apply f_ret | apply f_ret_block | apply w_skip | apply w_ret | refine w_cond_t rfl ?_ | (apply w_cond_tt; rfl; assumption) | (apply f_end; rfl; rfl; rfl; intro w hw; first | exact ans hw | (refine ans_b ?_ hw; (focus ((repeat (first | assumption | rfl | exact beq_self_eq_true _ | exact bne_self_eq_false _ | apply bOrF | apply bAndT | apply bNotF | apply bNotT | (focus (apply decide_eq_true; omega)) | (focus (apply decide_eq_false; omega)) | (focus (apply bEqT; omega)) | (focus (apply bEqF; omega)) | (focus (apply bNeT; omega)) | (focus (apply bNeF; omega)) | (focus (apply bOrT1; first | assumption | (apply decide_eq_true; omega))) | (focus (apply bOrT2; first | assumption | (apply decide_eq_true; omega))) | (focus (apply bAndF1; first | assumption | (apply decide_eq_false; omega))) | (focus (apply bAndF2; first | assumption | (apply decide_eq_false; omega))))); done)))) | (apply w_draw_l; rfl; kernel_rfl; rfl; kernel_rfl) | (apply w_reg_l; rfl) | exact rfl)
      | false =>
        rw [hq] at hc
        have hB := hR (i + 1) ⟨hlt, by rw [he, firN_miss hlt hq]⟩ (by omega)
        rw [← wrap_suc (by omega)] at hB
        clear hR he
        repeat (first | apply s_st | apply q_st | apply st_go | (focus (first | (apply y_move; rfl) | (apply y_assign; rfl) | (apply y_load; rfl; (repeat (first | exact List.Mem.head _ | apply List.Mem.tail)); (repeat (first | exact Sub.nil | apply Sub.take | apply Sub.drop)); done) | (apply y_eload; rfl; (first | (focus (apply Sees.vw; (repeat (first | exact List.Mem.head _ | apply List.Mem.tail)); done)) | (focus (apply Sees.own; (repeat (first | exact List.Mem.head _ | apply List.Mem.tail)); done)) | exact Sees.nil | assumption); (first | assumption | rfl); (repeat (first | exact Sub.nil | apply Sub.take | apply Sub.drop)); done) | (apply y_calls; rfl; rfl; rfl; (first | assumption); done) | (apply y_efaddr; kernel_rfl; rfl) | (apply y_ixaddr; rfl; rfl; (first | (focus (apply Sees.vw; (repeat (first | exact List.Mem.head _ | apply List.Mem.tail)); done)) | (focus (apply Sees.own; (repeat (first | exact List.Mem.head _ | apply List.Mem.tail)); done)) | exact Sees.nil | assumption); (first | rfl | assumption | (focus (simp; done)) | (focus (simp; omega))); (first | assumption | rfl | exact (show (0 : Int) = ((0 : Nat) : Int) from rfl) | exact (show (1 : Int) = ((1 : Nat) : Int) from rfl) | exact (show (2 : Int) = ((2 : Nat) : Int) from rfl) | exact (show (3 : Int) = ((3 : Nat) : Int) from rfl)); (first | assumption | omega | (focus (simp; done)) | (focus (simp; omega))); done) | (apply y_len; rfl) | (apply y_lt; rfl; rfl) | (apply y_add; rfl; rfl))) | apply q_nil | apply s_nil | apply w_seq | apply f_then | apply w_block | apply f_norm_block | (apply f_back; assumption; (repeat (first | exact Cov.nil | (apply Cov.cons; rfl) | (apply Cov.seen; rfl))); (focus ((repeat (first | exact List.Sublist.refl _ | apply List.Sublist.cons_cons | apply List.Sublist.cons)); done))) | apply w_skip | refine w_cond_f rfl ?_ | (apply w_cond_tt; rfl; assumption) | (apply w_draw_l; rfl; kernel_rfl; rfl; kernel_rfl) | (apply w_reg_l; rfl) | exact rfl)
    · have hE : decide (((i : Nat) : Int) < ((l.length : Nat) : Int)) = false := by simp; omega
      have hv : firN l a 0 = -1 := by rw [he, List.drop_eq_nil_of_le (by omega)]; rfl
      rw [hv]
      clear hR he hv
      repeat (first | apply s_st | apply st_go | (focus (first | (apply y_move; rfl) | (apply y_assign; rfl) | (apply y_len; rfl) | (apply y_lt; rfl; rfl))) | apply s_nil | apply w_seq | apply f_then | apply w_exit | apply f_out | apply f_exit_block | apply w_ret | (apply w_cond_ff; rfl; assumption) | (apply f_end; rfl; rfl; rfl; intro w hw; first | exact ans hw | (refine ans_b ?_ hw; (focus ((repeat (first | assumption | rfl | exact beq_self_eq_true _ | exact bne_self_eq_false _ | apply bOrF | apply bAndT | apply bNotF | apply bNotT | (focus (apply decide_eq_true; omega)) | (focus (apply decide_eq_false; omega)) | (focus (apply bEqT; omega)) | (focus (apply bEqF; omega)) | (focus (apply bNeT; omega)) | (focus (apply bNeF; omega)) | (focus (apply bOrT1; first | assumption | (apply decide_eq_true; omega))) | (focus (apply bOrT2; first | assumption | (apply decide_eq_true; omega))) | (focus (apply bAndF1; first | assumption | (apply decide_eq_false; omega))) | (focus (apply bAndF2; first | assumption | (apply decide_eq_false; omega))))); done)))) | (apply w_reg_l; rfl) | exact rfl)
/-- The entries whose blocks have an address. -/
noncomputable def hitsN : List En → Ad → Nat → List Nat
  | [], _, _ => []
  | e :: l, a, i => if conB e.x.p a then i :: hitsN l a (i + 1) else hitsN l a (i + 1)
theorem hits_first {a : Ad} : ∀ (l : List En) (i : Nat), (hitsN l a i = [] → firN l a i = -1) ∧ (∀ k r, hitsN l a i = k :: r → firN l a i = (k : Int))
  | [], i => ⟨fun _ => rfl, fun _ _ h => by cases h⟩
  | e :: l, i => by
    rw [hitsN, firN]
    by_cases h : conB e.x.p a = true
    · rw [if_pos h, if_pos h]
      exact ⟨fun h => (by cases h), fun k r h => by cases h; rfl⟩
    · rw [if_neg h, if_neg h]
      exact hits_first l (i + 1)
theorem hits_hit {a : Ad} {l : List En} {i k : Nat} (h : k < l.length) (hc : conB l[k].x.p a = true) : hitsN (l.drop k) a i = i :: hitsN (l.drop (k + 1)) a (i + 1) := by
  rw [List.drop_eq_getElem_cons h, hitsN, if_pos hc]
theorem hits_miss {a : Ad} {l : List En} {i k : Nat} (h : k < l.length) (hc : conB l[k].x.p a = false) : hitsN (l.drop k) a i = hitsN (l.drop (k + 1)) a (i + 1) := by
  rw [List.drop_eq_getElem_cons h, hitsN, hc]; rfl
theorem blocks_itr {a : Ad} (ha : a.wf) (l : List En) (hw : ∀ e ∈ l, e.wf) (hl : l.length ≤ 100000000) (A : Option Addr) (c g1 g2 : Nat) :
    Itr Try.prog 115 [.pointer (some ⟨g1, 0, none⟩), .pointer (some ⟨g2, 0, none⟩)] [.blk g1 [.slice A l.length c] 24, .blk g2 a.cells 34, .vw A c 9 (l.map En.cells)]
      (fun k : Nat => [.int .i64 ((k : Nat) : Int)]) (fun xs => xs = hitsN l a 0) (fun pre => ∃ z q r, pre = z ++ [q] ∧ z ++ q :: r = hitsN l a 0) (l.length + 1) := by
  unfold Itr
  intro lp J Jx hY m0 h0
  refine enter_t Try.func115 rfl Try.ntmps115 rfl (fun Wo Fo fro => ?_)
  simp only [List.cons_append, List.nil_append, List.append_assoc]
  repeat (first | apply s_st | apply st_go | (focus (first | (apply y_move; rfl) | (apply y_cell; rfl; (repeat (first | exact List.Mem.head _ | apply List.Mem.tail)); (repeat (first | exact At.hit | apply At.miss)); kernel_rfl; done) | (apply y_len; rfl))) | apply s_nil | apply w_seq | apply f_then | apply w_block | (apply w_reg_l; rfl) | exact rfl)
  refine w_loopm (fun s : Nat × List Nat × Mem => [(8, .int .i64 ((s.1 : Nat) : Int))]) (fun s => .blk g1 [.slice A l.length c] 24 :: .blk g2 a.cells 34 :: .vw A c 9 (l.map En.cells) :: (s.2.2 ++ fro)) (fun s => s.1 ≤ l.length ∧ s.2.1.length ≤ s.1 ∧ hitsN l a 0 = s.2.1 ++ hitsN (l.drop s.1) a s.1 ∧ J s.2.1 s.2.2) (fun s => l.length - s.1) (0, [], m0) ⟨Nat.zero_le _, Nat.le_refl _, rfl, h0⟩ ?_ ?_ ?_
  · (repeat (first | exact Cov.nil | (apply Cov.cons; rfl) | (apply Cov.seen; rfl)))
  · (repeat (first | exact List.Sublist.refl _ | apply List.Sublist.cons_cons | apply List.Sublist.cons))
  · rintro ⟨i, pre, mj⟩ ⟨hi, hpl, he, hJ⟩ R hR
    dsimp only at hi hpl he hJ ⊢
    by_cases hlt : i < l.length
    · have hE : decide (((i : Nat) : Int) < ((l.length : Nat) : Int)) = true := by simp; exact hlt
      have hrow := map_get (f := En.cells) hlt
      have hc := con_s (p := l[i].x.p) (hw _ (List.getElem_mem hlt)).2 ha
      cases hq : conB l[i].x.p a with
      | true =>
        rw [hq] at hc
        have hh := hits_hit (i := i) hlt hq
        repeat (first | (apply w_reg_y (id := 3) 8; rfl; (intro hq; obtain ⟨_, _, _, _, _, hq, _⟩ := hq; cases hq); rfl) | (apply s_alloc; rfl; intro _) | (apply s_store; rfl; rfl; (repeat (first | exact Plc.hit | apply Plc.miss)); constructor; (focus ((simp only [setAt, List.set_cons_zero, List.set_cons_succ, Nat.zero_add, Nat.reduceAdd, Nat.reduceMul]); try rfl)); kernel_rfl; rfl) | apply s_st | apply st_go | (apply st_on; rfl) | (focus (first | (apply y_move; rfl) | (apply y_assign; rfl) | (apply y_load; rfl; (repeat (first | exact List.Mem.head _ | apply List.Mem.tail)); (repeat (first | exact Sub.nil | apply Sub.take | apply Sub.drop)); done) | (apply y_eload; rfl; (first | (focus (apply Sees.vw; (repeat (first | exact List.Mem.head _ | apply List.Mem.tail)); done)) | (focus (apply Sees.own; (repeat (first | exact List.Mem.head _ | apply List.Mem.tail)); done)) | exact Sees.nil | assumption); (first | assumption | rfl); (repeat (first | exact Sub.nil | apply Sub.take | apply Sub.drop)); done) | (apply y_calls; rfl; rfl; rfl; (first | assumption); done) | (apply y_faddr; kernel_rfl; rfl) | (apply y_ixaddr; rfl; rfl; (first | (focus (apply Sees.vw; (repeat (first | exact List.Mem.head _ | apply List.Mem.tail)); done)) | (focus (apply Sees.own; (repeat (first | exact List.Mem.head _ | apply List.Mem.tail)); done)) | exact Sees.nil | assumption); (first | rfl | assumption | (focus (simp; done)) | (focus (simp; omega))); (first | assumption | rfl | exact (show (0 : Int) = ((0 : Nat) : Int) from rfl) | exact (show (1 : Int) = ((1 : Nat) : Int) from rfl) | exact (show (2 : Int) = ((2 : Nat) : Int) from rfl) | exact (show (3 : Int) = ((3 : Nat) : Int) from rfl)); (first | assumption | omega | (focus (simp; done)) | (focus (simp; omega))); done) | (apply y_lt; rfl; rfl))) | apply s_nil | apply w_seq | apply f_then | apply w_block | apply w_skip | (apply w_cond_tt; rfl; assumption) | (apply w_reg_l; rfl) | exact rfl)
        apply f_yield (z := i) (mJ := mj) (fr := fro) (pre := pre) (hY := hY) (hJ := hJ)
        · intro hq; obtain ⟨_, _, _, _, _, hq, _⟩ := hq; cases hq
        · rfl
        · exact .inr ⟨_, _, rfl, rfl⟩
        · rfl
        · rfl
        · omega
        · (repeat (first | exact Spl.nil | apply Spl.cons))
        · rfl
        · intro m' hJ'
          have hB := hR (i + 1, pre ++ [i], m') ⟨hlt, by dsimp only; rw [List.length_append]; simp; omega, by dsimp only; rw [he, hh, List.append_assoc]; rfl, hJ'⟩ (by dsimp only; omega)
          dsimp only at hB
          rw [← wrap_suc (by omega)] at hB
          simp only [List.cons_append, List.nil_append]
          clear hR he hJ
          repeat (first | apply s_st | apply st_go | (apply st_on; rfl) | (focus (first | (apply y_move; rfl) | (apply y_not; rfl) | (apply y_and; rfl; rfl; done) | (apply y_add; rfl; rfl))) | apply s_nil | apply f_then | apply f_norm_block | (apply f_back; assumption; (repeat (first | exact Cov.nil | (apply Cov.cons; rfl) | (apply Cov.seen; rfl))); (focus ((repeat (first | exact List.Sublist.refl _ | apply List.Sublist.cons_cons | apply List.Sublist.cons)); done))) | apply w_skip | refine w_cond_f rfl ?_ | apply f_norm_then | (apply w_reg_l; rfl) | exact rfl)
        · intro m' hJ'
          have hS : ∃ z q r, pre ++ [i] = z ++ [q] ∧ z ++ q :: r = hitsN l a 0 := ⟨pre, i, _, rfl, by rw [he, hh]⟩
          simp only [List.cons_append, List.nil_append]
          clear hR he hJ
          repeat (first | apply s_st | apply st_go | (apply st_on; rfl) | (focus (first | (apply y_not; rfl) | (apply y_and; rfl; rfl; done))) | apply s_nil | apply f_then | apply f_ret | apply f_ret_block | apply w_ret | refine w_cond_t rfl ?_ | (apply f_end0; rfl; rfl; intro w hw; first | (apply itr_all1 hw; assumption; assumption; (focus ((repeat (first | exact List.Sublist.refl _ | apply List.Sublist.cons_cons | apply List.Sublist.cons)); done))) | (apply itr_stop1 hw; assumption; assumption; (focus ((repeat (first | exact List.Sublist.refl _ | apply List.Sublist.cons_cons | apply List.Sublist.cons)); done))) | exact ans hw | (refine ans_b ?_ hw; (focus ((repeat (first | assumption | rfl | exact beq_self_eq_true _ | exact bne_self_eq_false _ | apply bOrF | apply bAndT | apply bNotF | apply bNotT | (focus (apply decide_eq_true; omega)) | (focus (apply decide_eq_false; omega)) | (focus (apply bEqT; omega)) | (focus (apply bEqF; omega)) | (focus (apply bNeT; omega)) | (focus (apply bNeF; omega)) | (focus (apply bOrT1; first | assumption | (apply decide_eq_true; omega))) | (focus (apply bOrT2; first | assumption | (apply decide_eq_true; omega))) | (focus (apply bAndF1; first | assumption | (apply decide_eq_false; omega))) | (focus (apply bAndF2; first | assumption | (apply decide_eq_false; omega))))); done))) | (apply t_endS1 hw; rfl; (focus ((repeat (first | exact List.Sublist.refl _ | apply List.Sublist.cons_cons | apply List.Sublist.cons)); done))) | (apply t_endX1 hw; rfl; (focus ((repeat (first | exact List.Sublist.refl _ | apply List.Sublist.cons_cons | apply List.Sublist.cons)); done))) | (refine t_end ⟨rfl, rfl⟩ ?_ w hw; (focus ((repeat (first | exact List.Sublist.refl _ | apply List.Sublist.cons_cons | apply List.Sublist.cons)); done)))) | apply f_norm_then | exact rfl)
      | false =>
        rw [hq] at hc
        have hB := hR (i + 1, pre, mj) ⟨hlt, by dsimp only; omega, by dsimp only; rw [he, hits_miss hlt hq], hJ⟩ (by dsimp only; omega)
        dsimp only at hB
        rw [← wrap_suc (by omega)] at hB
        clear hR he
        repeat (first | (apply s_alloc; rfl; intro _) | (apply s_store; rfl; rfl; (repeat (first | exact Plc.hit | apply Plc.miss)); constructor; (focus ((simp only [setAt, List.set_cons_zero, List.set_cons_succ, Nat.zero_add, Nat.reduceAdd, Nat.reduceMul]); try rfl)); kernel_rfl; rfl) | apply s_st | apply st_go | (apply st_off; rfl) | (focus (first | (apply y_move; rfl) | (apply y_assign; rfl) | (apply y_load; rfl; (repeat (first | exact List.Mem.head _ | apply List.Mem.tail)); (repeat (first | exact Sub.nil | apply Sub.take | apply Sub.drop)); done) | (apply y_eload; rfl; (first | (focus (apply Sees.vw; (repeat (first | exact List.Mem.head _ | apply List.Mem.tail)); done)) | (focus (apply Sees.own; (repeat (first | exact List.Mem.head _ | apply List.Mem.tail)); done)) | exact Sees.nil | assumption); (first | assumption | rfl); (repeat (first | exact Sub.nil | apply Sub.take | apply Sub.drop)); done) | (apply y_calls; rfl; rfl; rfl; (first | assumption); done) | (apply y_and_f; rfl; done) | (apply y_faddr; kernel_rfl; rfl) | (apply y_ixaddr; rfl; rfl; (first | (focus (apply Sees.vw; (repeat (first | exact List.Mem.head _ | apply List.Mem.tail)); done)) | (focus (apply Sees.own; (repeat (first | exact List.Mem.head _ | apply List.Mem.tail)); done)) | exact Sees.nil | assumption); (first | rfl | assumption | (focus (simp; done)) | (focus (simp; omega))); (first | assumption | rfl | exact (show (0 : Int) = ((0 : Nat) : Int) from rfl) | exact (show (1 : Int) = ((1 : Nat) : Int) from rfl) | exact (show (2 : Int) = ((2 : Nat) : Int) from rfl) | exact (show (3 : Int) = ((3 : Nat) : Int) from rfl)); (first | assumption | omega | (focus (simp; done)) | (focus (simp; omega))); done) | (apply y_lt; rfl; rfl) | (apply y_add; rfl; rfl))) | apply s_nil | apply w_seq | apply f_then | apply w_block | apply f_norm_block | (apply f_back; assumption; (repeat (first | exact Cov.nil | (apply Cov.cons; rfl) | (apply Cov.seen; rfl))); (focus ((repeat (first | exact List.Sublist.refl _ | apply List.Sublist.cons_cons | apply List.Sublist.cons)); done))) | apply w_skip | refine w_cond_f rfl ?_ | (apply w_cond_tt; rfl; assumption) | (apply w_reg_l; rfl) | exact rfl)
    · have hE : decide (((i : Nat) : Int) < ((l.length : Nat) : Int)) = false := by simp; omega
      have hS : pre = hitsN l a 0 := by rw [he, List.drop_eq_nil_of_le (by omega)]; simp [hitsN]
      clear hR he
      repeat (first | apply s_st | apply st_go | (focus (first | (apply y_lt; rfl; rfl))) | apply s_nil | apply w_seq | apply f_then | apply w_exit | apply f_out | apply f_exit_block | (apply w_cond_ff; rfl; assumption) | apply f_norm_ret | (apply f_end0; rfl; rfl; intro w hw; first | (apply itr_all1 hw; assumption; assumption; (focus ((repeat (first | exact List.Sublist.refl _ | apply List.Sublist.cons_cons | apply List.Sublist.cons)); done))) | (apply itr_stop1 hw; assumption; assumption; (focus ((repeat (first | exact List.Sublist.refl _ | apply List.Sublist.cons_cons | apply List.Sublist.cons)); done))) | exact ans hw | (refine ans_b ?_ hw; (focus ((repeat (first | assumption | rfl | exact beq_self_eq_true _ | exact bne_self_eq_false _ | apply bOrF | apply bAndT | apply bNotF | apply bNotT | (focus (apply decide_eq_true; omega)) | (focus (apply decide_eq_false; omega)) | (focus (apply bEqT; omega)) | (focus (apply bEqF; omega)) | (focus (apply bNeT; omega)) | (focus (apply bNeF; omega)) | (focus (apply bOrT1; first | assumption | (apply decide_eq_true; omega))) | (focus (apply bOrT2; first | assumption | (apply decide_eq_true; omega))) | (focus (apply bAndF1; first | assumption | (apply decide_eq_false; omega))) | (focus (apply bAndF2; first | assumption | (apply decide_eq_false; omega))))); done))) | (apply t_endS1 hw; rfl; (focus ((repeat (first | exact List.Sublist.refl _ | apply List.Sublist.cons_cons | apply List.Sublist.cons)); done))) | (apply t_endX1 hw; rfl; (focus ((repeat (first | exact List.Sublist.refl _ | apply List.Sublist.cons_cons | apply List.Sublist.cons)); done))) | (refine t_end ⟨rfl, rfl⟩ ?_ w hw; (focus ((repeat (first | exact List.Sublist.refl _ | apply List.Sublist.cons_cons | apply List.Sublist.cons)); done)))) | (apply w_reg_l; rfl) | exact rfl)
theorem blocks_t (a : Ad) (A : Option Addr) (k c : Nat) :
    Tri Try.prog 99 [.slice A k c, a.val] [] (RetX fun g : Nat × Nat => (.func (.func 115) #[] #[.pointer (some ⟨g.1, 0, none⟩), .pointer (some ⟨g.2, 0, none⟩)], [.blk g.2 a.cells 34, .blk g.1 [.slice A k c] 24])) := by
  refine enter_t Try.func99 rfl Try.ntmps99 rfl (fun Wo Fo fro => ?_)
  repeat (first | (apply s_box; rfl; constructor; rfl; intro _) | apply s_st | apply st_go | (focus (first | (apply y_assign; rfl) | (apply y_mkfunc; rfl))) | apply s_nil | apply w_seq | apply f_then | apply w_ret | (apply f_end; rfl; rfl; rfl; intro w hw; first | exact ans hw | (refine ans_b ?_ hw; (focus ((repeat (first | assumption | rfl | exact beq_self_eq_true _ | exact bne_self_eq_false _ | apply bOrF | apply bAndT | apply bNotF | apply bNotT | (focus (apply decide_eq_true; omega)) | (focus (apply decide_eq_false; omega)) | (focus (apply bEqT; omega)) | (focus (apply bEqF; omega)) | (focus (apply bNeT; omega)) | (focus (apply bNeF; omega)) | (focus (apply bOrT1; first | assumption | (apply decide_eq_true; omega))) | (focus (apply bOrT2; first | assumption | (apply decide_eq_true; omega))) | (focus (apply bAndF1; first | assumption | (apply decide_eq_false; omega))) | (focus (apply bAndF2; first | assumption | (apply decide_eq_false; omega))))); done))) | (apply t_endS1 hw; rfl; (focus ((repeat (first | exact List.Sublist.refl _ | apply List.Sublist.cons_cons | apply List.Sublist.cons)); done))) | (apply t_endX1 hw; rfl; (focus ((repeat (first | exact List.Sublist.refl _ | apply List.Sublist.cons_cons | apply List.Sublist.cons)); done))) | (refine t_end ⟨rfl, rfl⟩ ?_ w hw; (focus ((repeat (first | exact List.Sublist.refl _ | apply List.Sublist.cons_cons | apply List.Sublist.cons)); done)))) | (apply w_reg_l; rfl) | exact rfl)
theorem first_s {a : Ad} (ha : a.wf) (l : List En) (hw : ∀ e ∈ l, e.wf) (hl : l.length ≤ 100000000) (A : Option Addr) (c : Nat) :
    RCal Try.prog 60 [.slice A l.length c, a.val] [.vw A c 9 (l.map En.cells)] (.int .i64 (firN l a 0)) := by
  refine enter_mr rfl Try.func60 rfl Try.ntmps60 rfl (fun Wo => ?_)
  have k1 := blocks_t a A l.length c
  repeat (first | (apply s_box; rfl; constructor; rfl; intro _) | (apply s_alloc; rfl; intro _) | (apply s_trix; rfl; rfl; rfl; (first | assumption); (repeat (first | exact Tk.nil | (apply Tk.see; (first | (focus (apply VSees.vw; (repeat (first | exact List.Mem.head _ | apply List.Mem.tail)); done)) | exact VSees.nil | assumption)) | (apply Tk.see; exact VSees.nil) | (apply Tk.take; (repeat (first | exact Plc.hit | apply Plc.miss))))); rfl; intro _; (try dsimp only [List.cons_append, List.nil_append])) | apply s_st | apply st_go | (focus (first | (apply y_move; rfl) | (apply y_load; rfl; (repeat (first | exact List.Mem.head _ | apply List.Mem.tail)); (repeat (first | exact Sub.nil | apply Sub.take | apply Sub.drop)); done))) | apply s_nil | apply w_seq | apply f_then | apply w_block | (apply w_reg_l; rfl) | exact rfl)
  rename_i g1 g2 g
  clear k1
  obtain ⟨gs, gp⟩ := g
  apply w_range (m0 := [.blk g2 [.int .i64 0] 3]) (hI := blocks_itr ha l hw hl A c gs gp) (M := fun pre mm => pre = [] ∧ mm = [.blk g2 [.int .i64 0] 3]) (Mx := fun c pre mm => c = .ret ∧ ∃ k : Nat, pre = [k] ∧ mm = [.blk g2 [.int .i64 ((k : Nat) : Int)] 3]) (L2 := fun k => [(4, .pointer (some ⟨g2, 0, none⟩)), (5, .int .i64 ((k : Nat) : Int))])
  · rfl
  · rfl
  · rfl
  · rfl
  · rfl
  · exact fun _ => rfl
  · rfl
  · (repeat (first | exact Tk.nil | (apply Tk.see; (first | (focus (apply VSees.vw; (repeat (first | exact List.Mem.head _ | apply List.Mem.tail)); done)) | exact VSees.nil | assumption)) | (apply Tk.see; exact VSees.nil) | (apply Tk.take; (repeat (first | exact Plc.hit | apply Plc.miss)))))
  · exact ⟨rfl, rfl⟩
  · rintro lp pre x mm hN ⟨rfl, rfl⟩ W F X K hB
    simp only [List.cons_append, List.nil_append] at hB ⊢
    repeat (first | apply s_st | apply st_go | (focus (first | (apply y_assign; rfl))) | apply s_nil | (apply f_back; assumption; (repeat (first | exact Cov.nil | (apply Cov.cons; rfl) | (apply Cov.seen; rfl))); (focus ((repeat (first | exact List.Sublist.refl _ | apply List.Sublist.cons_cons | apply List.Sublist.cons)); done))) | (apply w_reg_in; (intro hq; obtain ⟨_, _, hq⟩ := hq; exact hq); rfl) | exact rfl)
  · rintro lp pre x mm hN ⟨rfl, rfl⟩ W F X
    simp only [List.cons_append, List.nil_append]
    repeat (first | (apply s_store; rfl; rfl; (repeat (first | exact Plc.hit | apply Plc.miss)); constructor; (focus ((simp only [setAt, List.set_cons_zero, List.set_cons_succ, Nat.zero_add, Nat.reduceAdd, Nat.reduceMul]); try rfl)); kernel_rfl; rfl) | apply s_st | apply st_go | (focus (first | (apply y_move; rfl))) | apply s_nil | apply w_seq | apply f_then | apply w_block | apply f_ret_block | apply w_ret | apply f_norm_then | (apply w_reg_in; (intro hq; obtain ⟨_, _, hq⟩ := hq; exact hq); rfl) | exact rfl)
    exact f_rret ⟨rfl, _, rfl, rfl⟩ (by (repeat (first | exact List.Sublist.refl _ | apply List.Sublist.cons_cons | apply List.Sublist.cons)))
  · rintro D xs mm hS ⟨rfl, rfl⟩
    simp only [List.cons_append, List.nil_append]
    have hv : firN l a 0 = -1 := (hits_first l 0).1 hS.symm
    rw [hv]
    repeat (first | (apply s_store; rfl; rfl; (repeat (first | exact Plc.hit | apply Plc.miss)); constructor; (focus ((simp only [setAt, List.set_cons_zero, List.set_cons_succ, Nat.zero_add, Nat.reduceAdd, Nat.reduceMul]); try rfl)); kernel_rfl; rfl) | apply s_nil | apply w_seq | apply f_then | apply f_norm_block | apply w_ret | (apply fm_end1; rfl; (repeat (first | exact Plc.hit | apply Plc.miss)); rfl; (repeat (first | exact Res.nil | (apply Res.tmp; rfl) | (apply Res.agg; exact inferInstance; rfl; (repeat (first | exact List.Mem.head _ | apply List.Mem.tail)); (repeat (first | exact Sub.nil | apply Sub.take | apply Sub.drop))) | (apply Res.cell; kernel_rfl; rfl; (repeat (first | exact List.Mem.head _ | apply List.Mem.tail)); (repeat (first | exact At.hit | apply At.miss))))); intro w hw; first | exact ans hw | (refine ans_b ?_ hw; (focus ((repeat (first | assumption | rfl | exact beq_self_eq_true _ | exact bne_self_eq_false _ | apply bOrF | apply bAndT | apply bNotF | apply bNotT | (focus (apply decide_eq_true; omega)) | (focus (apply decide_eq_false; omega)) | (focus (apply bEqT; omega)) | (focus (apply bEqF; omega)) | (focus (apply bNeT; omega)) | (focus (apply bNeF; omega)) | (focus (apply bOrT1; first | assumption | (apply decide_eq_true; omega))) | (focus (apply bOrT2; first | assumption | (apply decide_eq_true; omega))) | (focus (apply bAndF1; first | assumption | (apply decide_eq_false; omega))) | (focus (apply bAndF2; first | assumption | (apply decide_eq_false; omega))))); done)))) | (apply w_reg_l; rfl))
  · rintro D c pre mm ⟨z, q, r, e1, e2⟩ ⟨rfl, k, rfl, rfl⟩
    simp only [List.cons_append, List.nil_append]
    have hv : firN l a 0 = ((k : Nat) : Int) := by
      cases z with
      | nil => obtain rfl : k = q := by simpa using e1
               exact (hits_first l 0).2 k r e2.symm
      | cons y z => have := congrArg List.length e1; simp at this
    rw [hv]
    repeat (first | apply f_ret | apply f_ret_block | apply w_ret | (apply fm_end1; rfl; (repeat (first | exact Plc.hit | apply Plc.miss)); rfl; (repeat (first | exact Res.nil | (apply Res.tmp; rfl) | (apply Res.agg; exact inferInstance; rfl; (repeat (first | exact List.Mem.head _ | apply List.Mem.tail)); (repeat (first | exact Sub.nil | apply Sub.take | apply Sub.drop))) | (apply Res.cell; kernel_rfl; rfl; (repeat (first | exact List.Mem.head _ | apply List.Mem.tail)); (repeat (first | exact At.hit | apply At.miss))))); intro w hw; first | exact ans hw | (refine ans_b ?_ hw; (focus ((repeat (first | assumption | rfl | exact beq_self_eq_true _ | exact bne_self_eq_false _ | apply bOrF | apply bAndT | apply bNotF | apply bNotT | (focus (apply decide_eq_true; omega)) | (focus (apply decide_eq_false; omega)) | (focus (apply bEqT; omega)) | (focus (apply bEqF; omega)) | (focus (apply bNeT; omega)) | (focus (apply bNeF; omega)) | (focus (apply bOrT1; first | assumption | (apply decide_eq_true; omega))) | (focus (apply bOrT2; first | assumption | (apply decide_eq_true; omega))) | (focus (apply bAndF1; first | assumption | (apply decide_eq_false; omega))) | (focus (apply bAndF2; first | assumption | (apply decide_eq_false; omega))))); done)))))
end Go.Proofs.Ytlmcfjadhahlpaa.Hand
