/-
  The queue: which may be.
-/
import Derived.Test.YtlmcfjadhahlpaaQb
namespace Go.Proofs.Ytlmcfjadhahlpaa.Hand
open Go.RowKit Go.Proofs.Ytlmcfjadhahlpaa.Bits Go.Proofs.Ytlmcfjadhahlpaa.Dig Go.Proofs.Ytlmcfjadhahlpaa.Sq
set_option linter.unusedVariables false
set_option linter.unusedSimpArgs false
set_option maxRecDepth 100000
set_option maxHeartbeats 1000000
/-- Entry k of some entries may be where it is. -/
def SaneE (l : List En) (k : Nat) : Prop := ∀ e, l[k]? = some e → fitB e.a e.x = true ∧ (e.stale = true → e.x.p.n = ((W e.a.v6 : Nat) : Int)) ∧ firN (l.take k) e.a 0 = -1
structure SaneQ (l : List En) (b : Int) : Prop where
  b0 : 0 ≤ b
  b1 : b ≤ 1024
  len : (l.length : Int) ≤ b
  each : ∀ k, k < l.length → SaneE l k
theorem eq_whole {p : Px} {a : Ad} (h : conB p a = true) : ((p.a.hi == (wholeP a).a.hi && (p.a.lo == (wholeP a).a.lo && p.a.v6 == (wholeP a).a.v6)) && p.n == (wholeP a).n) = decide (p.n = ((W a.v6 : Nat) : Int)) := by
  rw [Bool.eq_iff_iff]
  constructor
  · intro hq
    simp only [Bool.and_eq_true, beq_iff_eq] at hq
    exact decide_eq_true hq.2
  · intro hq
    have hn := of_decide_eq_true hq
    unfold conB contB eqOf at h
    rw [hn, clampW_W] at h
    simp only [Bool.and_eq_true] at h
    simp only [Bool.and_eq_true]
    exact ⟨h.2.1, by rw [hn]; simp [wholeP]⟩
theorem firN_ge (a : Ad) : ∀ (l : List En) (i : Nat), firN l a i = -1 ∨ 0 ≤ firN l a i
  | [], _ => .inl rfl
  | e :: l, i => by
    rw [firN]
    split
    · exact .inr (by omega)
    · exact firN_ge a l (i + 1)
theorem sane_raw {l : List En} {i : Nat} (h : i < l.length) : ((!fitB l[i].a l[i].x || l[i].stale && !((l[i].x.p.a.hi == (wholeP l[i].a).a.hi && (l[i].x.p.a.lo == (wholeP l[i].a).a.lo && l[i].x.p.a.v6 == (wholeP l[i].a).a.v6)) && l[i].x.p.n == (wholeP l[i].a).n)) || firN (l.take i) l[i].a 0 != -1) = !bP (SaneE l i) := by
  have hg : l[i]? = some l[i] := List.getElem?_eq_getElem h
  rw [Bool.eq_iff_iff]
  constructor
  · intro hq
    rw [Bool.not_eq_true', bP_f]
    intro hs
    obtain ⟨h1, h2, h3⟩ := hs _ hg
    rw [eq_whole (by unfold fitB at h1; simp only [Bool.and_eq_true] at h1; exact h1.2)] at hq
    simp [h1, h3] at hq
    exact hq.2 (h2 hq.1)
  · intro hq
    rw [Bool.not_eq_true'] at hq
    cases hf : fitB l[i].a l[i].x with
    | false => rfl
    | true =>
      rw [eq_whole (by unfold fitB at hf; simp only [Bool.and_eq_true] at hf; exact hf.2)]
      cases hx : (l[i].stale && !decide (l[i].x.p.n = ((W l[i].a.v6 : Nat) : Int))) with
      | true => rfl
      | false =>
        by_cases hn : firN (l.take i) l[i].a 0 = -1
        · exfalso
          have : bP (SaneE l i) = true := bP_t (fun e he => by
            rw [hg] at he
            obtain rfl := Option.some.inj he
            exact ⟨hf, fun hs => by simpa [hs] using hx, hn⟩)
          rw [this] at hq; cases hq
        · simp [hn]
theorem sane_rawr {l : List En} {i : Nat} (h : i < l.length) : ((!fitB l[i].a l[i].x || l[i].stale && l[i].x.p.n != ((W l[i].a.v6 : Nat) : Int)) || decide (firN (l.take i) l[i].a 0 ≥ 0)) = !bP (SaneE l i) := by
  have hg : l[i]? = some l[i] := List.getElem?_eq_getElem h
  have hge := firN_ge l[i].a (l.take i) 0
  rw [Bool.eq_iff_iff]
  constructor
  · intro hq
    rw [Bool.not_eq_true', bP_f]
    intro hs
    obtain ⟨h1, h2, h3⟩ := hs _ hg
    simp [h1, h3] at hq
    exact hq.2 (h2 hq.1)
  · intro hq
    rw [Bool.not_eq_true'] at hq
    cases hf : fitB l[i].a l[i].x with
    | false => rfl
    | true =>
      cases hx : (l[i].stale && l[i].x.p.n != ((W l[i].a.v6 : Nat) : Int)) with
      | true => rfl
      | false =>
        by_cases hn : firN (l.take i) l[i].a 0 = -1
        · exfalso
          have : bP (SaneE l i) = true := bP_t (fun e he => by
            rw [hg] at he
            obtain rfl := Option.some.inj he
            exact ⟨hf, fun hs => by simpa [hs] using hx, hn⟩)
          rw [this] at hq; cases hq
        · have : 0 ≤ firN (l.take i) l[i].a 0 := hge.resolve_left hn
          simp [this]
theorem sane_q (l : List En) (hw : ∀ e ∈ l, e.wf) (hl : l.length ≤ 100000000) (b : Int) (A : Option Addr) (c : Nat) :
    RCal Try.prog 26 [.agg #[.slice A l.length c, .int .i64 b]] [.vw A c 9 (l.map En.cells)] (.bool (bP (SaneQ l b))) := by
  by_cases hb : 0 ≤ b ∧ b ≤ 1024 ∧ (l.length : Int) ≤ b
  · obtain ⟨b0, b1, b2⟩ := hb
    have hE : ((decide (b < 0) || decide (b > 1024)) || decide (((l.length : Nat) : Int) > b)) = false := by simp; omega
    refine enter_r rfl Try.func26 rfl Try.ntmps26 rfl (fun Wo => ?_)
    refine w_know (p := l.length ≤ c) (fun w hw => by simpa using has_vcap hw (List.Mem.head _)) (fun hc => ?_)
    repeat (first | (apply s_box; rfl; constructor; rfl; intro _) | apply s_st | apply st_go | (apply st_if; rfl; intro h1; (try simp only [h1, gv_true, gv_tt])) | (focus (first | (apply y_move; rfl) | (apply y_assign; rfl) | (apply y_cell; rfl; (repeat (first | exact List.Mem.head _ | apply List.Mem.tail)); (repeat (first | exact At.hit | apply At.miss)); kernel_rfl; done) | (apply y_or; rfl; rfl; done) | (apply y_faddr; kernel_rfl; rfl) | (apply y_len; rfl) | (apply y_lt; rfl; rfl) | (apply y_gt; rfl; rfl))) | apply s_nil | apply w_seq | apply f_then | apply w_block | apply w_skip | (apply w_cond_ff; rfl; assumption) | (apply w_reg_l; rfl) | exact rfl)
    refine w_loop0 (fun i : Nat => [(24, .int .i64 ((i : Nat) : Int))]) (fun i => i ≤ l.length ∧ ∀ k, k < i → SaneE l k) (fun i => l.length - i) 0 ⟨Nat.zero_le _, fun k h => absurd h (Nat.not_lt_zero _)⟩ ?_ ?_
    · (repeat (first | exact Cov.nil | (apply Cov.cons; rfl) | (apply Cov.seen; rfl)))
    · rintro i ⟨hi, he⟩ R hR
      by_cases hlt : i < l.length
      · have hE2 : decide (((i : Nat) : Int) < ((l.length : Nat) : Int)) = true := by simp; exact hlt
        have hrow := map_get (f := En.cells) hlt
        have hwe := hw _ (List.getElem_mem hlt)
        have k1 := fits_s (a := l[i].a) (x := l[i].x) hwe.1 hwe.2
        have k2 := whole_s (a := l[i].a) hwe.1
        have k3 : RCal Try.prog 60 [.slice (advA A c 0 9) (i - 0) (c - 0), l[i].a.val] [.vw (advA A c 0 9) (c - 0) 9 (((l.map En.cells).drop 0).take i)] (.int .i64 (firN (l.take i) l[i].a 0)) := by
          have := first_s (a := l[i].a) hwe.1 (l.take i) (fun e he => hw e (List.mem_of_mem_take he)) (by rw [List.length_take]; omega) (advA A c 0 9) (c - 0)
          rw [List.length_take, Nat.min_eq_left hi, List.map_take] at this
          exact this
        refine w_view (VSees.part (k := 9) (A := A) (c := c) (rows := l.map En.cells) (by (repeat (first | exact List.Mem.head _ | apply List.Mem.tail))) 0 i (c - 0) (Nat.zero_le _) (by omega)) ?_
        have hF := sane_raw hlt
        by_cases hS : SaneE l i
        · rw [bP_t hS, Bool.not_true] at hF
          have hB := hR (i + 1) ⟨hlt, fun k hk => by
            by_cases hki : k = i
            · rw [hki]; exact hS
            · exact he k (by omega)⟩ (by omega)
          rw [← wrap_suc (by omega)] at hB
          clear hR he
          repeat (first | (apply s_alloc; rfl; intro _) | (apply s_store; rfl; rfl; (repeat (first | exact Plc.hit | apply Plc.miss)); constructor; (focus ((simp only [setAt, List.set_cons_zero, List.set_cons_succ, Nat.zero_add, Nat.reduceAdd, Nat.reduceMul]); try rfl)); kernel_rfl; rfl) | apply s_st | apply q_st | apply st_go | (apply st_if2; rfl; intro h1 h2; (try simp only [h1, h2, gv_true, gv_tt])) | (apply st_if; rfl; intro h1; (try simp only [h1, gv_true, gv_tt])) | (focus (first | (apply y_move; rfl) | (apply y_assign; rfl) | (apply y_not; rfl) | (apply y_load; rfl; (repeat (first | exact List.Mem.head _ | apply List.Mem.tail)); (repeat (first | exact Sub.nil | apply Sub.take | apply Sub.drop)); done) | (apply y_cell; rfl; (repeat (first | exact List.Mem.head _ | apply List.Mem.tail)); (repeat (first | exact At.hit | apply At.miss)); kernel_rfl; done) | (apply y_eload; rfl; (first | (focus (apply Sees.vw; (repeat (first | exact List.Mem.head _ | apply List.Mem.tail)); done)) | (focus (apply Sees.own; (repeat (first | exact List.Mem.head _ | apply List.Mem.tail)); done)) | exact Sees.nil | assumption); (first | assumption | rfl); (repeat (first | exact Sub.nil | apply Sub.take | apply Sub.drop)); done) | (apply y_calls; rfl; rfl; rfl; (first | assumption); done) | (apply y_rcal; rfl; rfl; rfl; (first | assumption); (repeat (first | exact SeesAll.nil | (apply SeesAll.cons; (first | (focus (apply Sees.vw; (repeat (first | exact List.Mem.head _ | apply List.Mem.tail)); done)) | (focus (apply Sees.own; (repeat (first | exact List.Mem.head _ | apply List.Mem.tail)); done)) | exact Sees.nil | assumption)))); done) | (apply y_and; rfl; rfl; done) | (apply y_or; rfl; rfl; done) | (apply y_faddr; kernel_rfl; rfl) | (apply y_ixaddr; rfl; rfl; (first | (focus (apply Sees.vw; (repeat (first | exact List.Mem.head _ | apply List.Mem.tail)); done)) | (focus (apply Sees.own; (repeat (first | exact List.Mem.head _ | apply List.Mem.tail)); done)) | exact Sees.nil | assumption); (first | rfl | assumption | (focus (simp; done)) | (focus (simp; omega))); (first | assumption | rfl | exact (show (0 : Int) = ((0 : Nat) : Int) from rfl) | exact (show (1 : Int) = ((1 : Nat) : Int) from rfl) | exact (show (2 : Int) = ((2 : Nat) : Int) from rfl) | exact (show (3 : Int) = ((3 : Nat) : Int) from rfl)); (first | assumption | omega | (focus (simp; done)) | (focus (simp; omega))); done) | (apply y_slice; rfl; rfl; rfl; (first | rfl | exact (show some (0 : Int) = some (((0 : Nat)) : Int) from rfl) | exact (show some (1 : Int) = some (((1 : Nat)) : Int) from rfl) | (apply congrArg some; assumption)); (first | rfl | exact (show some (0 : Int) = some (((0 : Nat)) : Int) from rfl) | exact (show some (1 : Int) = some (((1 : Nat)) : Int) from rfl) | (apply congrArg some; assumption)); (first | assumption | omega | (focus (simp; done)) | (focus (simp; omega))); (first | assumption | omega | (focus (simp; done)) | (focus (simp; omega))); done) | (apply y_ne; rfl; rfl) | (apply y_lt; rfl; rfl) | (apply y_add; rfl; rfl) | (apply y_nes; rfl; rfl; kernel_rfl; exact inferInstance))) | apply q_nil | apply s_nil | apply w_seq | apply f_then | apply w_block | apply f_norm_block | (apply f_back; assumption; (repeat (first | exact Cov.nil | (apply Cov.cons; rfl) | (apply Cov.seen; rfl))); (focus ((repeat (first | exact List.Sublist.refl _ | apply List.Sublist.cons_cons | apply List.Sublist.cons)); done))) | apply w_skip | (apply w_cond_tt; rfl; assumption) | (apply w_cond_ff; rfl; assumption) | (apply w_draw_l; rfl; kernel_rfl; rfl; kernel_rfl) | (apply w_reg_l; rfl) | exact rfl)
        · rw [bP_f hS, Bool.not_false] at hF
          rw [bP_f (fun h => hS (h.each i hlt))]
          clear hR he
          repeat (first | (apply s_alloc; rfl; intro _) | (apply s_store; rfl; rfl; (repeat (first | exact Plc.hit | apply Plc.miss)); constructor; (focus ((simp only [setAt, List.set_cons_zero, List.set_cons_succ, Nat.zero_add, Nat.reduceAdd, Nat.reduceMul]); try rfl)); kernel_rfl; rfl) | apply s_st | apply q_st | apply st_go | (apply st_if2; rfl; intro h1 h2; (try simp only [h1, h2, gv_true, gv_tt])) | (apply st_if; rfl; intro h1; (try simp only [h1, gv_true, gv_tt])) | (focus (first | (apply y_move; rfl) | (apply y_assign; rfl) | (apply y_not; rfl) | (apply y_load; rfl; (repeat (first | exact List.Mem.head _ | apply List.Mem.tail)); (repeat (first | exact Sub.nil | apply Sub.take | apply Sub.drop)); done) | (apply y_cell; rfl; (repeat (first | exact List.Mem.head _ | apply List.Mem.tail)); (repeat (first | exact At.hit | apply At.miss)); kernel_rfl; done) | (apply y_eload; rfl; (first | (focus (apply Sees.vw; (repeat (first | exact List.Mem.head _ | apply List.Mem.tail)); done)) | (focus (apply Sees.own; (repeat (first | exact List.Mem.head _ | apply List.Mem.tail)); done)) | exact Sees.nil | assumption); (first | assumption | rfl); (repeat (first | exact Sub.nil | apply Sub.take | apply Sub.drop)); done) | (apply y_calls; rfl; rfl; rfl; (first | assumption); done) | (apply y_rcal; rfl; rfl; rfl; (first | assumption); (repeat (first | exact SeesAll.nil | (apply SeesAll.cons; (first | (focus (apply Sees.vw; (repeat (first | exact List.Mem.head _ | apply List.Mem.tail)); done)) | (focus (apply Sees.own; (repeat (first | exact List.Mem.head _ | apply List.Mem.tail)); done)) | exact Sees.nil | assumption)))); done) | (apply y_and; rfl; rfl; done) | (apply y_or; rfl; rfl; done) | (apply y_faddr; kernel_rfl; rfl) | (apply y_ixaddr; rfl; rfl; (first | (focus (apply Sees.vw; (repeat (first | exact List.Mem.head _ | apply List.Mem.tail)); done)) | (focus (apply Sees.own; (repeat (first | exact List.Mem.head _ | apply List.Mem.tail)); done)) | exact Sees.nil | assumption); (first | rfl | assumption | (focus (simp; done)) | (focus (simp; omega))); (first | assumption | rfl | exact (show (0 : Int) = ((0 : Nat) : Int) from rfl) | exact (show (1 : Int) = ((1 : Nat) : Int) from rfl) | exact (show (2 : Int) = ((2 : Nat) : Int) from rfl) | exact (show (3 : Int) = ((3 : Nat) : Int) from rfl)); (first | assumption | omega | (focus (simp; done)) | (focus (simp; omega))); done) | (apply y_slice; rfl; rfl; rfl; (first | rfl | exact (show some (0 : Int) = some (((0 : Nat)) : Int) from rfl) | exact (show some (1 : Int) = some (((1 : Nat)) : Int) from rfl) | (apply congrArg some; assumption)); (first | rfl | exact (show some (0 : Int) = some (((0 : Nat)) : Int) from rfl) | exact (show some (1 : Int) = some (((1 : Nat)) : Int) from rfl) | (apply congrArg some; assumption)); (first | assumption | omega | (focus (simp; done)) | (focus (simp; omega))); (first | assumption | omega | (focus (simp; done)) | (focus (simp; omega))); done) | (apply y_ne; rfl; rfl) | (apply y_lt; rfl; rfl) | (apply y_nes; rfl; rfl; kernel_rfl; exact inferInstance))) | apply q_nil | apply s_nil | apply w_seq | apply f_then | apply w_block | apply f_ret | apply f_ret_block | apply w_skip | apply w_ret | (apply w_cond_tt; rfl; assumption) | (apply f_end; rfl; rfl; rfl; intro w hw; first | exact ans hw | (refine ans_b ?_ hw; (focus ((repeat (first | assumption | rfl | exact beq_self_eq_true _ | exact bne_self_eq_false _ | apply bOrF | apply bAndT | apply bNotF | apply bNotT | (focus (apply decide_eq_true; omega)) | (focus (apply decide_eq_false; omega)) | (focus (apply bEqT; omega)) | (focus (apply bEqF; omega)) | (focus (apply bNeT; omega)) | (focus (apply bNeF; omega)) | (focus (apply bOrT1; first | assumption | (apply decide_eq_true; omega))) | (focus (apply bOrT2; first | assumption | (apply decide_eq_true; omega))) | (focus (apply bAndF1; first | assumption | (apply decide_eq_false; omega))) | (focus (apply bAndF2; first | assumption | (apply decide_eq_false; omega))))); done)))) | (apply w_draw_l; rfl; kernel_rfl; rfl; kernel_rfl) | (apply w_reg_l; rfl) | exact rfl)
      · have hE2 : decide (((i : Nat) : Int) < ((l.length : Nat) : Int)) = false := by simp; omega
        have hv : bP (SaneQ l b) = true := bP_t ⟨b0, b1, b2, fun k hk => he k (by omega)⟩
        rw [hv]
        clear hR he hv
        repeat (first | apply s_st | apply st_go | (focus (first | (apply y_assign; rfl) | (apply y_lt; rfl; rfl))) | apply s_nil | apply w_seq | apply f_then | apply w_exit | apply f_out | apply f_exit_block | apply w_ret | (apply w_cond_ff; rfl; assumption) | (apply f_end; rfl; rfl; rfl; intro w hw; first | exact ans hw | (refine ans_b ?_ hw; (focus ((repeat (first | assumption | rfl | exact beq_self_eq_true _ | exact bne_self_eq_false _ | apply bOrF | apply bAndT | apply bNotF | apply bNotT | (focus (apply decide_eq_true; omega)) | (focus (apply decide_eq_false; omega)) | (focus (apply bEqT; omega)) | (focus (apply bEqF; omega)) | (focus (apply bNeT; omega)) | (focus (apply bNeF; omega)) | (focus (apply bOrT1; first | assumption | (apply decide_eq_true; omega))) | (focus (apply bOrT2; first | assumption | (apply decide_eq_true; omega))) | (focus (apply bAndF1; first | assumption | (apply decide_eq_false; omega))) | (focus (apply bAndF2; first | assumption | (apply decide_eq_false; omega))))); done)))) | (apply w_reg_l; rfl) | exact rfl)
  · have hE : ((decide (b < 0) || decide (b > 1024)) || decide (((l.length : Nat) : Int) > b)) = true := by
      by_cases h1 : b < 0
      · simp [h1]
      · by_cases h2 : b > 1024
        · simp [h2]
        · have : ((l.length : Nat) : Int) > b := by omega
          simp [this]
    rw [bP_f (fun h => hb ⟨h.b0, h.b1, h.len⟩)]
    refine enter_r rfl Try.func26 rfl Try.ntmps26 rfl (fun Wo => ?_)
    repeat (first | (apply s_box; rfl; constructor; rfl; intro _) | apply s_st | apply st_go | (apply st_if; rfl; intro h1; (try simp only [h1, gv_true, gv_tt])) | (focus (first | (apply y_move; rfl) | (apply y_assign; rfl) | (apply y_cell; rfl; (repeat (first | exact List.Mem.head _ | apply List.Mem.tail)); (repeat (first | exact At.hit | apply At.miss)); kernel_rfl; done) | (apply y_or; rfl; rfl; done) | (apply y_faddr; kernel_rfl; rfl) | (apply y_len; rfl) | (apply y_lt; rfl; rfl) | (apply y_gt; rfl; rfl))) | apply s_nil | apply w_seq | apply f_then | apply f_ret | apply w_ret | (apply w_cond_tt; rfl; assumption) | (apply f_end; rfl; rfl; rfl; intro w hw; first | exact ans hw | (refine ans_b ?_ hw; (focus ((repeat (first | assumption | rfl | exact beq_self_eq_true _ | exact bne_self_eq_false _ | apply bOrF | apply bAndT | apply bNotF | apply bNotT | (focus (apply decide_eq_true; omega)) | (focus (apply decide_eq_false; omega)) | (focus (apply bEqT; omega)) | (focus (apply bEqF; omega)) | (focus (apply bNeT; omega)) | (focus (apply bNeF; omega)) | (focus (apply bOrT1; first | assumption | (apply decide_eq_true; omega))) | (focus (apply bOrT2; first | assumption | (apply decide_eq_true; omega))) | (focus (apply bAndF1; first | assumption | (apply decide_eq_false; omega))) | (focus (apply bAndF2; first | assumption | (apply decide_eq_false; omega))))); done)))) | (apply w_reg_l; rfl) | exact rfl)
theorem rsane_q (l : List En) (hw : ∀ e ∈ l, e.wf) (hl : l.length ≤ 100000000) (b : Int) (A : Option Addr) (c : Nat) :
    RCal Try.prog 28 [.agg #[.slice A l.length c, .int .i64 b]] [.vw A c 9 (l.map En.cells)] (.bool (bP (SaneQ l b))) := by
  refine enter_r rfl Try.func28 rfl Try.ntmps28 rfl (fun Wo => ?_)
  refine w_know (p := l.length ≤ c) (fun w hw => by simpa using has_vcap hw (List.Mem.head _)) (fun hc => ?_)
  repeat (first | (apply s_box; rfl; constructor; rfl; intro _) | apply s_st | apply st_go | (focus (first | (apply y_assign; rfl))) | apply s_nil | apply w_seq | apply f_then | apply w_block | (apply w_reg_l; rfl) | exact rfl)
  refine w_loop0 (fun i : Nat => [(3, .int .i64 ((i : Nat) : Int))]) (fun i => i ≤ l.length ∧ ∀ k, k < i → SaneE l k) (fun i => l.length - i) 0 ⟨Nat.zero_le _, fun k h => absurd h (Nat.not_lt_zero _)⟩ ?_ ?_
  · (repeat (first | exact Cov.nil | (apply Cov.cons; rfl) | (apply Cov.seen; rfl)))
  · rintro i ⟨hi, he⟩ R hR
    by_cases hlt : i < l.length
    · have hE2 : decide (((i : Nat) : Int) < ((l.length : Nat) : Int)) = true := by simp; exact hlt
      have hrow := map_get (f := En.cells) hlt
      have hwe := hw _ (List.getElem_mem hlt)
      have k1 := rfits_s (a := l[i].a) (x := l[i].x) hwe.1 hwe.2
      have k2 := rwidth_s l[i].a.v6
      have k3 : RCal Try.prog 63 [.slice (advA A c 0 9) (i - 0) (c - 0), l[i].a.val] [.vw (advA A c 0 9) (c - 0) 9 (((l.map En.cells).drop 0).take i)] (.int .i64 (firN (l.take i) l[i].a 0)) := by
        have := rfirst_s (a := l[i].a) hwe.1 (l.take i) (fun e he => hw e (List.mem_of_mem_take he)) (by rw [List.length_take]; omega) (advA A c 0 9) (c - 0)
        rw [List.length_take, Nat.min_eq_left hi, List.map_take] at this
        exact this
      refine w_view (VSees.part (k := 9) (A := A) (c := c) (rows := l.map En.cells) (by (repeat (first | exact List.Mem.head _ | apply List.Mem.tail))) 0 i (c - 0) (Nat.zero_le _) (by omega)) ?_
      have hF := sane_rawr hlt
      by_cases hS : SaneE l i
      · rw [bP_t hS, Bool.not_true] at hF
        have hB := hR (i + 1) ⟨hlt, fun k hk => by
          by_cases hki : k = i
          · rw [hki]; exact hS
          · exact he k (by omega)⟩ (by omega)
        rw [← wrap_suc (by omega)] at hB
        clear hR he
        repeat (first | (apply s_alloc; rfl; intro _) | (apply s_store; rfl; rfl; (repeat (first | exact Plc.hit | apply Plc.miss)); constructor; (focus ((simp only [setAt, List.set_cons_zero, List.set_cons_succ, Nat.zero_add, Nat.reduceAdd, Nat.reduceMul]); try rfl)); kernel_rfl; rfl) | apply s_st | apply q_st | apply st_go | (apply st_if2; rfl; intro h1 h2; (try simp only [h1, h2, gv_true, gv_tt])) | (apply st_if; rfl; intro h1; (try simp only [h1, gv_true, gv_tt])) | (focus (first | (apply y_move; rfl) | (apply y_assign; rfl) | (apply y_not; rfl) | (apply y_load; rfl; (repeat (first | exact List.Mem.head _ | apply List.Mem.tail)); (repeat (first | exact Sub.nil | apply Sub.take | apply Sub.drop)); done) | (apply y_cell; rfl; (repeat (first | exact List.Mem.head _ | apply List.Mem.tail)); (repeat (first | exact At.hit | apply At.miss)); kernel_rfl; done) | (apply y_eload; rfl; (first | (focus (apply Sees.vw; (repeat (first | exact List.Mem.head _ | apply List.Mem.tail)); done)) | (focus (apply Sees.own; (repeat (first | exact List.Mem.head _ | apply List.Mem.tail)); done)) | exact Sees.nil | assumption); (first | assumption | rfl); (repeat (first | exact Sub.nil | apply Sub.take | apply Sub.drop)); done) | (apply y_calls; rfl; rfl; rfl; (first | assumption); done) | (apply y_rcal; rfl; rfl; rfl; (first | assumption); (repeat (first | exact SeesAll.nil | (apply SeesAll.cons; (first | (focus (apply Sees.vw; (repeat (first | exact List.Mem.head _ | apply List.Mem.tail)); done)) | (focus (apply Sees.own; (repeat (first | exact List.Mem.head _ | apply List.Mem.tail)); done)) | exact Sees.nil | assumption)))); done) | (apply y_and; rfl; rfl; done) | (apply y_or; rfl; rfl; done) | (apply y_faddr; kernel_rfl; rfl) | (apply y_ixaddr; rfl; rfl; (first | (focus (apply Sees.vw; (repeat (first | exact List.Mem.head _ | apply List.Mem.tail)); done)) | (focus (apply Sees.own; (repeat (first | exact List.Mem.head _ | apply List.Mem.tail)); done)) | exact Sees.nil | assumption); (first | rfl | assumption | (focus (simp; done)) | (focus (simp; omega))); (first | assumption | rfl | exact (show (0 : Int) = ((0 : Nat) : Int) from rfl) | exact (show (1 : Int) = ((1 : Nat) : Int) from rfl) | exact (show (2 : Int) = ((2 : Nat) : Int) from rfl) | exact (show (3 : Int) = ((3 : Nat) : Int) from rfl)); (first | assumption | omega | (focus (simp; done)) | (focus (simp; omega))); done) | (apply y_len; rfl) | (apply y_slice; rfl; rfl; rfl; (first | rfl | exact (show some (0 : Int) = some (((0 : Nat)) : Int) from rfl) | exact (show some (1 : Int) = some (((1 : Nat)) : Int) from rfl) | (apply congrArg some; assumption)); (first | rfl | exact (show some (0 : Int) = some (((0 : Nat)) : Int) from rfl) | exact (show some (1 : Int) = some (((1 : Nat)) : Int) from rfl) | (apply congrArg some; assumption)); (first | assumption | omega | (focus (simp; done)) | (focus (simp; omega))); (first | assumption | omega | (focus (simp; done)) | (focus (simp; omega))); done) | (apply y_ne; rfl; rfl) | (apply y_lt; rfl; rfl) | (apply y_ge; rfl; rfl) | (apply y_add; rfl; rfl))) | apply q_nil | apply s_nil | apply w_seq | apply f_then | apply w_block | apply f_norm_block | (apply f_back; assumption; (repeat (first | exact Cov.nil | (apply Cov.cons; rfl) | (apply Cov.seen; rfl))); (focus ((repeat (first | exact List.Sublist.refl _ | apply List.Sublist.cons_cons | apply List.Sublist.cons)); done))) | apply w_skip | (apply w_cond_tt; rfl; assumption) | (apply w_cond_ff; rfl; assumption) | (apply w_draw_l; rfl; kernel_rfl; rfl; kernel_rfl) | (apply w_reg_l; rfl) | exact rfl)
      · rw [bP_f hS, Bool.not_false] at hF
        rw [bP_f (fun h => hS (h.each i hlt))]
        clear hR he
        repeat (first | (apply s_alloc; rfl; intro _) | (apply s_store; rfl; rfl; (repeat (first | exact Plc.hit | apply Plc.miss)); constructor; (focus ((simp only [setAt, List.set_cons_zero, List.set_cons_succ, Nat.zero_add, Nat.reduceAdd, Nat.reduceMul]); try rfl)); kernel_rfl; rfl) | apply s_st | apply q_st | apply st_go | (apply st_if2; rfl; intro h1 h2; (try simp only [h1, h2, gv_true, gv_tt])) | (apply st_if; rfl; intro h1; (try simp only [h1, gv_true, gv_tt])) | (focus (first | (apply y_move; rfl) | (apply y_assign; rfl) | (apply y_not; rfl) | (apply y_load; rfl; (repeat (first | exact List.Mem.head _ | apply List.Mem.tail)); (repeat (first | exact Sub.nil | apply Sub.take | apply Sub.drop)); done) | (apply y_cell; rfl; (repeat (first | exact List.Mem.head _ | apply List.Mem.tail)); (repeat (first | exact At.hit | apply At.miss)); kernel_rfl; done) | (apply y_eload; rfl; (first | (focus (apply Sees.vw; (repeat (first | exact List.Mem.head _ | apply List.Mem.tail)); done)) | (focus (apply Sees.own; (repeat (first | exact List.Mem.head _ | apply List.Mem.tail)); done)) | exact Sees.nil | assumption); (first | assumption | rfl); (repeat (first | exact Sub.nil | apply Sub.take | apply Sub.drop)); done) | (apply y_calls; rfl; rfl; rfl; (first | assumption); done) | (apply y_rcal; rfl; rfl; rfl; (first | assumption); (repeat (first | exact SeesAll.nil | (apply SeesAll.cons; (first | (focus (apply Sees.vw; (repeat (first | exact List.Mem.head _ | apply List.Mem.tail)); done)) | (focus (apply Sees.own; (repeat (first | exact List.Mem.head _ | apply List.Mem.tail)); done)) | exact Sees.nil | assumption)))); done) | (apply y_and; rfl; rfl; done) | (apply y_or; rfl; rfl; done) | (apply y_faddr; kernel_rfl; rfl) | (apply y_ixaddr; rfl; rfl; (first | (focus (apply Sees.vw; (repeat (first | exact List.Mem.head _ | apply List.Mem.tail)); done)) | (focus (apply Sees.own; (repeat (first | exact List.Mem.head _ | apply List.Mem.tail)); done)) | exact Sees.nil | assumption); (first | rfl | assumption | (focus (simp; done)) | (focus (simp; omega))); (first | assumption | rfl | exact (show (0 : Int) = ((0 : Nat) : Int) from rfl) | exact (show (1 : Int) = ((1 : Nat) : Int) from rfl) | exact (show (2 : Int) = ((2 : Nat) : Int) from rfl) | exact (show (3 : Int) = ((3 : Nat) : Int) from rfl)); (first | assumption | omega | (focus (simp; done)) | (focus (simp; omega))); done) | (apply y_len; rfl) | (apply y_slice; rfl; rfl; rfl; (first | rfl | exact (show some (0 : Int) = some (((0 : Nat)) : Int) from rfl) | exact (show some (1 : Int) = some (((1 : Nat)) : Int) from rfl) | (apply congrArg some; assumption)); (first | rfl | exact (show some (0 : Int) = some (((0 : Nat)) : Int) from rfl) | exact (show some (1 : Int) = some (((1 : Nat)) : Int) from rfl) | (apply congrArg some; assumption)); (first | assumption | omega | (focus (simp; done)) | (focus (simp; omega))); (first | assumption | omega | (focus (simp; done)) | (focus (simp; omega))); done) | (apply y_ne; rfl; rfl) | (apply y_lt; rfl; rfl) | (apply y_ge; rfl; rfl))) | apply q_nil | apply s_nil | apply w_seq | apply f_then | apply w_block | apply f_ret | apply f_ret_block | apply w_skip | apply w_ret | (apply w_cond_tt; rfl; assumption) | (apply f_end; rfl; rfl; rfl; intro w hw; first | exact ans hw | (refine ans_b ?_ hw; (focus ((repeat (first | assumption | rfl | exact beq_self_eq_true _ | exact bne_self_eq_false _ | apply bOrF | apply bAndT | apply bNotF | apply bNotT | (focus (apply decide_eq_true; omega)) | (focus (apply decide_eq_false; omega)) | (focus (apply bEqT; omega)) | (focus (apply bEqF; omega)) | (focus (apply bNeT; omega)) | (focus (apply bNeF; omega)) | (focus (apply bOrT1; first | assumption | (apply decide_eq_true; omega))) | (focus (apply bOrT2; first | assumption | (apply decide_eq_true; omega))) | (focus (apply bAndF1; first | assumption | (apply decide_eq_false; omega))) | (focus (apply bAndF2; first | assumption | (apply decide_eq_false; omega))))); done)))) | (apply w_draw_l; rfl; kernel_rfl; rfl; kernel_rfl) | (apply w_reg_l; rfl) | exact rfl)
    · have hE2 : decide (((i : Nat) : Int) < ((l.length : Nat) : Int)) = false := by simp; omega
      have hv : bP (SaneQ l b) = ((decide (b ≥ 0) && decide (b ≤ 1024)) && decide (((l.length : Nat) : Int) ≤ b)) := by
        rw [Bool.eq_iff_iff, bP_iff]
        simp only [Bool.and_eq_true, decide_eq_true_eq]
        exact ⟨fun h => ⟨⟨h.b0, h.b1⟩, h.len⟩, fun h => ⟨h.1.1, h.1.2, h.2, fun k hk => he k (by omega)⟩⟩
      rw [hv]
      clear hR he hv
      repeat (first | apply s_st | apply st_go | (apply st_if; rfl; intro h1; (try simp only [h1, gv_true, gv_tt])) | (focus (first | (apply y_move; rfl) | (apply y_assign; rfl) | (apply y_cell; rfl; (repeat (first | exact List.Mem.head _ | apply List.Mem.tail)); (repeat (first | exact At.hit | apply At.miss)); kernel_rfl; done) | (apply y_and; rfl; rfl; done) | (apply y_faddr; kernel_rfl; rfl) | (apply y_len; rfl) | (apply y_lt; rfl; rfl) | (apply y_le; rfl; rfl) | (apply y_ge; rfl; rfl))) | apply s_nil | apply w_seq | apply f_then | apply w_exit | apply f_out | apply f_exit_block | apply w_ret | (apply w_cond_ff; rfl; assumption) | (apply f_end; rfl; rfl; rfl; intro w hw; first | exact ans hw | (refine ans_b ?_ hw; (focus ((repeat (first | assumption | rfl | exact beq_self_eq_true _ | exact bne_self_eq_false _ | apply bOrF | apply bAndT | apply bNotF | apply bNotT | (focus (apply decide_eq_true; omega)) | (focus (apply decide_eq_false; omega)) | (focus (apply bEqT; omega)) | (focus (apply bEqF; omega)) | (focus (apply bNeT; omega)) | (focus (apply bNeF; omega)) | (focus (apply bOrT1; first | assumption | (apply decide_eq_true; omega))) | (focus (apply bOrT2; first | assumption | (apply decide_eq_true; omega))) | (focus (apply bAndF1; first | assumption | (apply decide_eq_false; omega))) | (focus (apply bAndF2; first | assumption | (apply decide_eq_false; omega))))); done)))) | (apply w_reg_l; rfl) | exact rfl)
end Go.Proofs.Ytlmcfjadhahlpaa.Hand
