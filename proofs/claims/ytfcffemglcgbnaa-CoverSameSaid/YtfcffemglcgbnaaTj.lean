/-
  package trie: Get, Inside, Len, Nodes, Slots.
-/
import Derived.Test.YtfcffemglcgbnaaTi
namespace Go.Proofs.Ytfcffemglcgbnaa.Hand
open Go.RowKit Go.Proofs.Ytfcffemglcgbnaa.Bits Go.Proofs.Ytfcffemglcgbnaa.Dig Go.Proofs.Ytfcffemglcgbnaa.Sq
set_option linter.unusedVariables false
set_option linter.unusedSimpArgs false
set_option maxRecDepth 100000
set_option maxHeartbeats 1000000
theorem nd_row {T : Ts} {i : Nat} {x : Nd} (hx : T.ar[i]? = some x) : (T.ar.map Nd.cells)[i]? = some [.int .i64 x.k0, .int .i64 x.k1, .int .i64 x.up, .bool x.ends, .int .i64 x.v] := by rw [List.getElem?_map, hx]; rfl
theorem node_of {T : Ts} {lab : Lab} {L : List Pr} {xk : Key} (h : InvX T lab L xk) {e : Pr} (he : e ∈ L) {q : List Bool} (hq : q <+: (keyP e.p).2) : ∃ i, lab i = some ((keyP e.p).1, q) := (h.node _).2 (.inl (.inr ⟨e, he, rfl, hq⟩))
theorem get_off {T : Ts} {lab : Lab} {L : List Pr} {xk : Key} (h : InvX T lab L xk) {p : Px} (hr : FindR lab p (-1)) : getN L p = (0, false) := get_none fun e he q => by
  subst q
  obtain ⟨i, hi⟩ := node_of h he List.prefix_rfl
  rcases hr with ⟨_, j, h1, _⟩ | ⟨_, h1⟩
  · omega
  · exact h1 (h.good.sane e he) i hi
theorem get_on {T : Ts} {lab : Lab} {L : List Pr} {xk : Key} (h : InvX T lab L xk) {p : Px} (hs : sanB p = true) {i : Nat} (hi : lab i = some (keyP p)) {x : Nd} (hx : T.ar[i]? = some x) : getN L p = if x.ends = true then (x.v, true) else (0, false) := by
  by_cases he : x.ends = true
  · rw [if_pos he]
    obtain ⟨e, h1, h2⟩ := (h.ends i _ x hi hx).1 he
    have hv := h.val i _ x hi hx e h1 h2
    have hp := key_inj (h.good.sane e h1) hs h2
    rw [hv]
    exact get_some h.good (by rw [← hp]; exact h1)
  · rw [if_neg he]
    refine get_none fun e h1 h2 => he ((h.ends i _ x hi hx).2 ⟨e, h1, by rw [h2]⟩)
theorem get_v {T : Ts} {lab : Lab} {L : List Pr} {xk : Key} (h : InvX T lab L xk) {p : Px} (hp : p.a.wf) (g : Nat) (Aa : Option Addr) (ca : Nat) (Af : Option Addr) (cf : Nat) :
    RCal Try.prog 97 [.pointer (some ⟨g, 0, none⟩), p.val] (tv g T Aa ca Af cf) (.tuple #[.int .i64 (getN L p).1, .bool (getN L p).2]) := by
  obtain ⟨r, hr⟩ := find_ex lab p
  have k1 := find_s h hp hr g Aa ca Af cf
  have hl : T.ar.length = (T.ar.map Nd.cells).length := by simp
  rcases hr with ⟨hs, i, rfl, hi⟩ | ⟨rfl, hn⟩
  · obtain ⟨x, hx⟩ := h.get hi
    have hrow := nd_row hx
    have hil : i < (T.ar.map Nd.cells).length := by simpa using h.lt _ _ hi
    rw [get_on h hs hi hx]
    cases he : x.ends with
    | true =>
      rw [he] at hrow
      rw [if_pos rfl]
      refine enter_r rfl Try.func97 rfl Try.ntmps97 rfl (fun Wo => ?_)
      repeat (first | (apply s_box; rfl; constructor; rfl; intro _) | apply s_st | apply st_go | (apply st_on; rfl) | (focus (first | (apply y_move; rfl) | (apply y_assign; rfl) | (apply y_not; rfl) | (apply y_load; rfl; (repeat (first | exact List.Mem.head _ | apply List.Mem.tail)); (repeat (first | exact Sub.nil | apply Sub.take | apply Sub.drop)); done) | (apply y_ecell; rfl; (first | (focus (apply Sees.vw; (repeat (first | exact List.Mem.head _ | apply List.Mem.tail)); done)) | (focus (apply Sees.own; (repeat (first | exact List.Mem.head _ | apply List.Mem.tail)); done)) | exact Sees.nil | assumption); (first | assumption | rfl); (repeat (first | exact At.hit | apply At.miss)); kernel_rfl; done) | (apply y_vcell; rfl; (first | (focus (apply Sees.vw; (repeat (first | exact List.Mem.head _ | apply List.Mem.tail)); done)) | (focus (apply Sees.own; (repeat (first | exact List.Mem.head _ | apply List.Mem.tail)); done)) | exact Sees.nil | assumption); (repeat (first | exact At.hit | apply At.miss)); kernel_rfl; done) | (apply y_rcal; rfl; rfl; rfl; (first | assumption); (repeat (first | exact SeesAll.nil | (apply SeesAll.cons; (first | (focus (apply Sees.vw; (repeat (first | exact List.Mem.head _ | apply List.Mem.tail)); done)) | (focus (apply Sees.own; (repeat (first | exact List.Mem.head _ | apply List.Mem.tail)); done)) | exact Sees.nil | assumption)) | (apply SeesAll.mem; (repeat (first | exact List.Mem.head _ | apply List.Mem.tail))))); done) | (apply y_or; rfl; rfl; done) | (apply y_efaddr; kernel_rfl; rfl) | (apply y_faddr; kernel_rfl; rfl) | (apply y_ixaddr; rfl; rfl; (first | (focus (apply Sees.vw; (repeat (first | exact List.Mem.head _ | apply List.Mem.tail)); done)) | (focus (apply Sees.own; (repeat (first | exact List.Mem.head _ | apply List.Mem.tail)); done)) | exact Sees.nil | assumption); (first | rfl | assumption | (focus (simp; done)) | (focus (simp; omega))); (first | assumption | rfl | exact (show (0 : Int) = ((0 : Nat) : Int) from rfl) | exact (show (1 : Int) = ((1 : Nat) : Int) from rfl) | exact (show (2 : Int) = ((2 : Nat) : Int) from rfl) | exact (show (3 : Int) = ((3 : Nat) : Int) from rfl)); (first | assumption | omega | (focus (simp; done)) | (focus (simp; omega))); done) | (apply y_nilc; rfl) | (apply y_eq; rfl; rfl))) | apply s_nil | apply w_seq | apply f_then | apply w_skip | apply w_ret | refine w_cond_f rfl ?_ | (apply f_ends; rfl; rfl; (repeat (first | exact Res.nil | (apply Res.tmp; rfl) | (apply Res.agg; exact inferInstance; rfl; (repeat (first | exact List.Mem.head _ | apply List.Mem.tail)); (repeat (first | exact Sub.nil | apply Sub.take | apply Sub.drop))) | (apply Res.cell; kernel_rfl; rfl; (repeat (first | exact List.Mem.head _ | apply List.Mem.tail)); (repeat (first | exact At.hit | apply At.miss))))); intro w hw; first | exact ans hw | (refine ans_b ?_ hw; (focus ((repeat (first | assumption | rfl | exact beq_self_eq_true _ | exact bne_self_eq_false _ | apply bOrF | apply bAndT | apply bNotF | apply bNotT | (focus (apply decide_eq_true; omega)) | (focus (apply decide_eq_false; omega)) | (focus (apply bEqT; omega)) | (focus (apply bEqF; omega)) | (focus (apply bNeT; omega)) | (focus (apply bNeF; omega)) | (focus (apply bOrT1; first | assumption | (apply decide_eq_true; omega))) | (focus (apply bOrT2; first | assumption | (apply decide_eq_true; omega))) | (focus (apply bAndF1; first | assumption | (apply decide_eq_false; omega))) | (focus (apply bAndF2; first | assumption | (apply decide_eq_false; omega))))); done)))) | (apply w_reg_l; rfl) | exact rfl)
    | false =>
      rw [he] at hrow
      rw [if_neg (by decide)]
      refine enter_r rfl Try.func97 rfl Try.ntmps97 rfl (fun Wo => ?_)
      repeat (first | (apply s_box; rfl; constructor; rfl; intro _) | apply s_st | apply st_go | (apply st_on; rfl) | (focus (first | (apply y_move; rfl) | (apply y_assign; rfl) | (apply y_not; rfl) | (apply y_load; rfl; (repeat (first | exact List.Mem.head _ | apply List.Mem.tail)); (repeat (first | exact Sub.nil | apply Sub.take | apply Sub.drop)); done) | (apply y_ecell; rfl; (first | (focus (apply Sees.vw; (repeat (first | exact List.Mem.head _ | apply List.Mem.tail)); done)) | (focus (apply Sees.own; (repeat (first | exact List.Mem.head _ | apply List.Mem.tail)); done)) | exact Sees.nil | assumption); (first | assumption | rfl); (repeat (first | exact At.hit | apply At.miss)); kernel_rfl; done) | (apply y_vcell; rfl; (first | (focus (apply Sees.vw; (repeat (first | exact List.Mem.head _ | apply List.Mem.tail)); done)) | (focus (apply Sees.own; (repeat (first | exact List.Mem.head _ | apply List.Mem.tail)); done)) | exact Sees.nil | assumption); (repeat (first | exact At.hit | apply At.miss)); kernel_rfl; done) | (apply y_rcal; rfl; rfl; rfl; (first | assumption); (repeat (first | exact SeesAll.nil | (apply SeesAll.cons; (first | (focus (apply Sees.vw; (repeat (first | exact List.Mem.head _ | apply List.Mem.tail)); done)) | (focus (apply Sees.own; (repeat (first | exact List.Mem.head _ | apply List.Mem.tail)); done)) | exact Sees.nil | assumption)) | (apply SeesAll.mem; (repeat (first | exact List.Mem.head _ | apply List.Mem.tail))))); done) | (apply y_or; rfl; rfl; done) | (apply y_efaddr; kernel_rfl; rfl) | (apply y_faddr; kernel_rfl; rfl) | (apply y_ixaddr; rfl; rfl; (first | (focus (apply Sees.vw; (repeat (first | exact List.Mem.head _ | apply List.Mem.tail)); done)) | (focus (apply Sees.own; (repeat (first | exact List.Mem.head _ | apply List.Mem.tail)); done)) | exact Sees.nil | assumption); (first | rfl | assumption | (focus (simp; done)) | (focus (simp; omega))); (first | assumption | rfl | exact (show (0 : Int) = ((0 : Nat) : Int) from rfl) | exact (show (1 : Int) = ((1 : Nat) : Int) from rfl) | exact (show (2 : Int) = ((2 : Nat) : Int) from rfl) | exact (show (3 : Int) = ((3 : Nat) : Int) from rfl)); (first | assumption | omega | (focus (simp; done)) | (focus (simp; omega))); done) | (apply y_nilc; rfl) | (apply y_eq; rfl; rfl))) | apply s_nil | apply w_seq | apply f_then | apply f_ret | apply w_ret | refine w_cond_t rfl ?_ | (apply f_ends; rfl; rfl; (repeat (first | exact Res.nil | (apply Res.tmp; rfl) | (apply Res.agg; exact inferInstance; rfl; (repeat (first | exact List.Mem.head _ | apply List.Mem.tail)); (repeat (first | exact Sub.nil | apply Sub.take | apply Sub.drop))) | (apply Res.cell; kernel_rfl; rfl; (repeat (first | exact List.Mem.head _ | apply List.Mem.tail)); (repeat (first | exact At.hit | apply At.miss))))); intro w hw; first | exact ans hw | (refine ans_b ?_ hw; (focus ((repeat (first | assumption | rfl | exact beq_self_eq_true _ | exact bne_self_eq_false _ | apply bOrF | apply bAndT | apply bNotF | apply bNotT | (focus (apply decide_eq_true; omega)) | (focus (apply decide_eq_false; omega)) | (focus (apply bEqT; omega)) | (focus (apply bEqF; omega)) | (focus (apply bNeT; omega)) | (focus (apply bNeF; omega)) | (focus (apply bOrT1; first | assumption | (apply decide_eq_true; omega))) | (focus (apply bOrT2; first | assumption | (apply decide_eq_true; omega))) | (focus (apply bAndF1; first | assumption | (apply decide_eq_false; omega))) | (focus (apply bAndF2; first | assumption | (apply decide_eq_false; omega))))); done)))) | (apply w_reg_l; rfl) | exact rfl)
  · rw [get_off h (.inr ⟨rfl, hn⟩)]
    refine enter_r rfl Try.func97 rfl Try.ntmps97 rfl (fun Wo => ?_)
    repeat (first | (apply s_box; rfl; constructor; rfl; intro _) | apply s_st | apply st_go | (apply st_off; rfl) | (focus (first | (apply y_move; rfl) | (apply y_assign; rfl) | (apply y_load; rfl; (repeat (first | exact List.Mem.head _ | apply List.Mem.tail)); (repeat (first | exact Sub.nil | apply Sub.take | apply Sub.drop)); done) | (apply y_rcal; rfl; rfl; rfl; (first | assumption); (repeat (first | exact SeesAll.nil | (apply SeesAll.cons; (first | (focus (apply Sees.vw; (repeat (first | exact List.Mem.head _ | apply List.Mem.tail)); done)) | (focus (apply Sees.own; (repeat (first | exact List.Mem.head _ | apply List.Mem.tail)); done)) | exact Sees.nil | assumption)) | (apply SeesAll.mem; (repeat (first | exact List.Mem.head _ | apply List.Mem.tail))))); done) | (apply y_or_t; rfl; done) | (apply y_eq; rfl; rfl))) | apply s_nil | apply w_seq | apply f_then | apply f_ret | apply w_ret | refine w_cond_t rfl ?_ | (apply f_ends; rfl; rfl; (repeat (first | exact Res.nil | (apply Res.tmp; rfl) | (apply Res.agg; exact inferInstance; rfl; (repeat (first | exact List.Mem.head _ | apply List.Mem.tail)); (repeat (first | exact Sub.nil | apply Sub.take | apply Sub.drop))) | (apply Res.cell; kernel_rfl; rfl; (repeat (first | exact List.Mem.head _ | apply List.Mem.tail)); (repeat (first | exact At.hit | apply At.miss))))); intro w hw; first | exact ans hw | (refine ans_b ?_ hw; (focus ((repeat (first | assumption | rfl | exact beq_self_eq_true _ | exact bne_self_eq_false _ | apply bOrF | apply bAndT | apply bNotF | apply bNotT | (focus (apply decide_eq_true; omega)) | (focus (apply decide_eq_false; omega)) | (focus (apply bEqT; omega)) | (focus (apply bEqF; omega)) | (focus (apply bNeT; omega)) | (focus (apply bNeF; omega)) | (focus (apply bOrT1; first | assumption | (apply decide_eq_true; omega))) | (focus (apply bOrT2; first | assumption | (apply decide_eq_true; omega))) | (focus (apply bAndF1; first | assumption | (apply decide_eq_false; omega))) | (focus (apply bAndF2; first | assumption | (apply decide_eq_false; omega))))); done)))) | (apply w_reg_l; rfl) | exact rfl)
theorem inB_iff {p q : Px} : inB p q = true ↔ p ≠ q ∧ cvB p q = true := by
  unfold inB insB cvB
  rw [Bool.and_eq_true, Bool.not_eq_true']
  have e : eqP p.a.hi p.a.lo p.a.v6 p.n q.a.hi q.a.lo q.a.v6 q.n = eqPx p q := rfl
  rw [e, ← Bool.not_eq_true, eqPx_iff]
theorem ins_iff {L : List Pr} (hg : GoodL L) {p : Px} (hs : sanB p = true) : insN L p = true ↔ ∃ e ∈ L, ∃ b, (keyP p).1 = (keyP e.p).1 ∧ (keyP p).2 ++ [b] <+: (keyP e.p).2 := by
  unfold insN
  rw [List.any_eq_true]
  constructor
  · rintro ⟨e, he, h⟩
    obtain ⟨h1, h2⟩ := inB_iff.1 h
    obtain ⟨_, _, h3, s, h4⟩ := cov_key.1 h2
    refine ⟨e, he, ?_⟩
    cases s with
    | nil => rw [List.append_nil] at h4; exact absurd (key_inj hs (hg.sane e he) (Prod.ext h3 h4)) h1
    | cons b s => exact ⟨b, h3, s, by rw [← h4]; simp⟩
  · rintro ⟨e, he, b, h3, h4⟩
    refine ⟨e, he, inB_iff.2 ⟨fun q => ?_, cov_key.2 ⟨hs, hg.sane e he, h3, (List.prefix_append _ _).trans h4⟩⟩⟩
    rw [q] at h4
    have := h4.length_le
    simp at this
    omega
theorem inside_v {T : Ts} {lab : Lab} {L : List Pr} (h : InvX T lab L (false, [])) {p : Px} (hp : p.a.wf) (g : Nat) (Aa : Option Addr) (ca : Nat) (Af : Option Addr) (cf : Nat) :
    RCal Try.prog 66 [.pointer (some ⟨g, 0, none⟩), p.val] (tv g T Aa ca Af cf) (.bool (insN L p)) := by
  obtain ⟨r, hr⟩ := find_ex lab p
  have k1 := find_s h hp hr g Aa ca Af cf
  have hl : T.ar.length = (T.ar.map Nd.cells).length := by simp
  rcases hr with ⟨hs, i, rfl, hi⟩ | ⟨rfl, hn⟩
  · obtain ⟨x, hx⟩ := h.get hi
    have hrow := nd_row hx
    have hil : i < (T.ar.map Nd.cells).length := by simpa using h.lt _ _ hi
    have hk : ∀ b, x.kid b = -1 ∨ insN L p = true := fun b => by
      rcases h.kid i _ _ x b hi hx with ⟨j, _, hj⟩ | ⟨h1, _⟩
      · refine .inr ((ins_iff h.good hs).2 ?_)
        rcases (node_nil L false _).1 ((h.node _).1 ⟨j, hj⟩) with hn | ⟨e, he, h1, h2⟩
        · simp at hn
        · exact ⟨e, he, b, h1.symm, h2⟩
      · exact .inl h1
    have hv : insN L p = ((((i : Nat) : Int) != -1) && !(x.k0 == -1 && (x.k1 == -1 && true))) := by
      have e1 : (((i : Nat) : Int) != -1) = true := bNeT (by omega)
      rw [e1, Bool.true_and, Bool.eq_iff_iff]
      constructor
      · intro hh
        obtain ⟨e, he, b, h1, h2⟩ := (ins_iff h.good hs).1 hh
        obtain ⟨j, hj⟩ := node_of h he h2
        rcases h.kid i _ _ x b hi hx with ⟨m, h3, _⟩ | ⟨_, h3⟩
        · cases b
          · have : x.k0 = (m : Int) := h3
            have : x.k0 ≠ -1 := by omega
            simp [this]
          · have : x.k1 = (m : Int) := h3
            have : x.k1 ≠ -1 := by omega
            simp [this]
        · exact absurd (by rw [← h1] at hj; exact hj) (h3 j)
      · intro hh
        rcases hk true with h1 | h1
        · rcases hk false with h0 | h0
          · have h1' : x.k1 = -1 := h1
            have h0' : x.k0 = -1 := h0
            rw [h1', h0'] at hh; simp at hh
          · exact h0
        · exact h1
    rw [hv]
    refine enter_r rfl Try.func66 rfl Try.ntmps66 rfl (fun Wo => ?_)
    repeat (first | (apply s_box; rfl; constructor; rfl; intro _) | apply s_st | apply st_go | (apply st_on; rfl) | (focus (first | (apply y_move; rfl) | (apply y_assign; rfl) | (apply y_load; rfl; (repeat (first | exact List.Mem.head _ | apply List.Mem.tail)); (repeat (first | exact Sub.nil | apply Sub.take | apply Sub.drop)); done) | (apply y_eload; rfl; (first | (focus (apply Sees.vw; (repeat (first | exact List.Mem.head _ | apply List.Mem.tail)); done)) | (focus (apply Sees.own; (repeat (first | exact List.Mem.head _ | apply List.Mem.tail)); done)) | exact Sees.nil | assumption); (first | assumption | rfl); (repeat (first | exact Sub.nil | apply Sub.take | apply Sub.drop)); done) | (apply y_vcell; rfl; (first | (focus (apply Sees.vw; (repeat (first | exact List.Mem.head _ | apply List.Mem.tail)); done)) | (focus (apply Sees.own; (repeat (first | exact List.Mem.head _ | apply List.Mem.tail)); done)) | exact Sees.nil | assumption); (repeat (first | exact At.hit | apply At.miss)); kernel_rfl; done) | (apply y_rcal; rfl; rfl; rfl; (first | assumption); (repeat (first | exact SeesAll.nil | (apply SeesAll.cons; (first | (focus (apply Sees.vw; (repeat (first | exact List.Mem.head _ | apply List.Mem.tail)); done)) | (focus (apply Sees.own; (repeat (first | exact List.Mem.head _ | apply List.Mem.tail)); done)) | exact Sees.nil | assumption)) | (apply SeesAll.mem; (repeat (first | exact List.Mem.head _ | apply List.Mem.tail))))); done) | (apply y_and; rfl; rfl; done) | (apply y_efaddr; kernel_rfl; rfl) | (apply y_faddr; kernel_rfl; rfl) | (apply y_ixaddr; rfl; rfl; (first | (focus (apply Sees.vw; (repeat (first | exact List.Mem.head _ | apply List.Mem.tail)); done)) | (focus (apply Sees.own; (repeat (first | exact List.Mem.head _ | apply List.Mem.tail)); done)) | exact Sees.nil | assumption); (first | rfl | assumption | (focus (simp; done)) | (focus (simp; omega))); (first | assumption | rfl | exact (show (0 : Int) = ((0 : Nat) : Int) from rfl) | exact (show (1 : Int) = ((1 : Nat) : Int) from rfl) | exact (show (2 : Int) = ((2 : Nat) : Int) from rfl) | exact (show (3 : Int) = ((3 : Nat) : Int) from rfl)); (first | assumption | omega | (focus (simp; done)) | (focus (simp; omega))); done) | (apply y_nilc; rfl) | (apply y_ne; rfl; rfl) | (apply y_nes; rfl; rfl; kernel_rfl; exact inferInstance) | (apply y_abuild; (repeat (first | exact PRows.nil | (apply PRows.cons; rfl; constructor; rfl))); rfl; (focus ((simp only [List.flatten_cons, List.flatten_nil, List.length_cons, List.length_nil, Nat.zero_add, Nat.reduceAdd, Nat.reduceMul, List.drop_succ_cons, List.drop_zero, List.drop_nil, List.append_nil, List.cons_append, List.nil_append]); try rfl)); done))) | apply s_nil | apply w_seq | apply f_then | apply w_ret | (apply f_end; rfl; rfl; rfl; intro w hw; first | exact ans hw | (refine ans_b ?_ hw; (focus ((repeat (first | assumption | rfl | exact beq_self_eq_true _ | exact bne_self_eq_false _ | apply bOrF | apply bAndT | apply bNotF | apply bNotT | (focus (apply decide_eq_true; omega)) | (focus (apply decide_eq_false; omega)) | (focus (apply bEqT; omega)) | (focus (apply bEqF; omega)) | (focus (apply bNeT; omega)) | (focus (apply bNeF; omega)) | (focus (apply bOrT1; first | assumption | (apply decide_eq_true; omega))) | (focus (apply bOrT2; first | assumption | (apply decide_eq_true; omega))) | (focus (apply bAndF1; first | assumption | (apply decide_eq_false; omega))) | (focus (apply bAndF2; first | assumption | (apply decide_eq_false; omega))))); done)))) | (apply w_reg_l; rfl) | exact rfl)
  · have hv : insN L p = false := by
      cases hq : insN L p with
      | false => rfl
      | true =>
        unfold insN at hq
        obtain ⟨e, he, h1⟩ := List.any_eq_true.1 hq
        obtain ⟨h2, _, h3, h4⟩ := cov_key.1 (inB_iff.1 h1).2
        obtain ⟨j, hj⟩ := node_of h he h4
        exact absurd (by rw [← h3] at hj; exact hj) (hn h2 j)
    rw [hv]
    refine enter_r rfl Try.func66 rfl Try.ntmps66 rfl (fun Wo => ?_)
    repeat (first | (apply s_box; rfl; constructor; rfl; intro _) | apply s_st | apply st_go | (apply st_off; rfl) | (focus (first | (apply y_move; rfl) | (apply y_assign; rfl) | (apply y_load; rfl; (repeat (first | exact List.Mem.head _ | apply List.Mem.tail)); (repeat (first | exact Sub.nil | apply Sub.take | apply Sub.drop)); done) | (apply y_rcal; rfl; rfl; rfl; (first | assumption); (repeat (first | exact SeesAll.nil | (apply SeesAll.cons; (first | (focus (apply Sees.vw; (repeat (first | exact List.Mem.head _ | apply List.Mem.tail)); done)) | (focus (apply Sees.own; (repeat (first | exact List.Mem.head _ | apply List.Mem.tail)); done)) | exact Sees.nil | assumption)) | (apply SeesAll.mem; (repeat (first | exact List.Mem.head _ | apply List.Mem.tail))))); done) | (apply y_and_f; rfl; done) | (apply y_ne; rfl; rfl))) | apply s_nil | apply w_seq | apply f_then | apply w_ret | (apply f_end; rfl; rfl; rfl; intro w hw; first | exact ans hw | (refine ans_b ?_ hw; (focus ((repeat (first | assumption | rfl | exact beq_self_eq_true _ | exact bne_self_eq_false _ | apply bOrF | apply bAndT | apply bNotF | apply bNotT | (focus (apply decide_eq_true; omega)) | (focus (apply decide_eq_false; omega)) | (focus (apply bEqT; omega)) | (focus (apply bEqF; omega)) | (focus (apply bNeT; omega)) | (focus (apply bNeF; omega)) | (focus (apply bOrT1; first | assumption | (apply decide_eq_true; omega))) | (focus (apply bOrT2; first | assumption | (apply decide_eq_true; omega))) | (focus (apply bAndF1; first | assumption | (apply decide_eq_false; omega))) | (focus (apply bAndF2; first | assumption | (apply decide_eq_false; omega))))); done)))) | (apply w_reg_l; rfl) | exact rfl)
theorem len_v {T : Ts} {lab : Lab} {L : List Pr} {xk : Key} (h : InvX T lab L xk) (g : Nat) (Aa : Option Addr) (ca : Nat) (Af : Option Addr) (cf : Nat) :
    RCal Try.prog 130 [.pointer (some ⟨g, 0, none⟩)] (tv g T Aa ca Af cf) (.int .i64 ((L.length : Nat) : Int)) := by
  have hsz := h.size
  have k1 := made_s g T (by omega) Aa ca Af cf
  rw [← h.cnt]
  refine enter_r rfl Try.func130 rfl Try.ntmps130 rfl (fun Wo => ?_)
  repeat (first | apply s_st | apply st_go | (focus (first | (apply y_move; rfl) | (apply y_assign; rfl) | (apply y_not; rfl) | (apply y_vcell; rfl; (first | (focus (apply Sees.vw; (repeat (first | exact List.Mem.head _ | apply List.Mem.tail)); done)) | (focus (apply Sees.own; (repeat (first | exact List.Mem.head _ | apply List.Mem.tail)); done)) | exact Sees.nil | assumption); (repeat (first | exact At.hit | apply At.miss)); kernel_rfl; done) | (apply y_rcal; rfl; rfl; rfl; (first | assumption); (repeat (first | exact SeesAll.nil | (apply SeesAll.cons; (first | (focus (apply Sees.vw; (repeat (first | exact List.Mem.head _ | apply List.Mem.tail)); done)) | (focus (apply Sees.own; (repeat (first | exact List.Mem.head _ | apply List.Mem.tail)); done)) | exact Sees.nil | assumption)) | (apply SeesAll.mem; (repeat (first | exact List.Mem.head _ | apply List.Mem.tail))))); done) | (apply y_faddr; kernel_rfl; rfl) | (apply y_nilc; rfl))) | apply s_nil | apply w_seq | apply f_then | apply w_skip | apply w_ret | refine w_cond_f rfl ?_ | (apply f_end; rfl; rfl; rfl; intro w hw; first | exact ans hw | (refine ans_b ?_ hw; (focus ((repeat (first | assumption | rfl | exact beq_self_eq_true _ | exact bne_self_eq_false _ | apply bOrF | apply bAndT | apply bNotF | apply bNotT | (focus (apply decide_eq_true; omega)) | (focus (apply decide_eq_false; omega)) | (focus (apply bEqT; omega)) | (focus (apply bEqF; omega)) | (focus (apply bNeT; omega)) | (focus (apply bNeF; omega)) | (focus (apply bOrT1; first | assumption | (apply decide_eq_true; omega))) | (focus (apply bOrT2; first | assumption | (apply decide_eq_true; omega))) | (focus (apply bAndF1; first | assumption | (apply decide_eq_false; omega))) | (focus (apply bAndF2; first | assumption | (apply decide_eq_false; omega))))); done)))) | (apply w_reg_l; rfl) | exact rfl)
end Go.Proofs.Ytfcffemglcgbnaa.Hand
