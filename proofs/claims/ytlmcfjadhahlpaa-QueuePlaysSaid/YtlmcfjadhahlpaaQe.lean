/-
  The queue: what of it overlaps; the reference's Offer.
-/
import Derived.Test.YtlmcfjadhahlpaaQd
namespace Go.Proofs.Ytlmcfjadhahlpaa.Hand
open Go.RowKit Go.Proofs.Ytlmcfjadhahlpaa.Bits Go.Proofs.Ytlmcfjadhahlpaa.Dig Go.Proofs.Ytlmcfjadhahlpaa.Sq
set_option linter.unusedVariables false
set_option linter.unusedSimpArgs false
set_option maxRecDepth 100000
set_option maxHeartbeats 1000000
theorem roffer_s (l : List En) (hw : ∀ e ∈ l, e.wf) (hl : l.length ≤ 100000000) (b : Int) {a : Ad} (ha : a.wf) {x : Rt} (hx : x.p.a.wf) (A : Option Addr) (c : Nat) :
    Tri Try.prog 19 [.agg #[.slice A l.length c, .int .i64 b], a.val, x.val] [.vw A c 9 (l.map En.cells)] (RetS fun A' c' => qres (offerN l b a x) A' c') := by
  have k1 := rsane_q l hw hl b A c
  have k2 := rfirst_s ha l hw hl A c
  unfold offerN
  cases hs : bP (SaneQ l b) with
  | false =>
    rw [hs] at k1
    rw [if_neg (by decide)]
    have k3 : Cal Try.prog 17 [.int .i64 0] (.agg #[.slice none 0 0, .int .i64 0]) := rnew_s 0
    refine enter_t Try.func19 rfl Try.ntmps19 rfl (fun Wo Fo fro => ?_)
    refine w_nilown (k := 9) (t := 51) ?_
    repeat (first | (apply s_box; rfl; constructor; rfl; intro _) | (apply s_alloc; rfl; intro _) | (apply s_store; rfl; rfl; (repeat (first | exact Plc.hit | apply Plc.miss)); constructor; (focus ((simp only [setAt, List.set_cons_zero, List.set_cons_succ, Nat.zero_add, Nat.reduceAdd, Nat.reduceMul]); try rfl)); kernel_rfl; rfl) | apply s_st | apply st_go | (focus (first | (apply y_assign; rfl) | (apply y_not; rfl) | (apply y_load; rfl; (repeat (first | exact List.Mem.head _ | apply List.Mem.tail)); (repeat (first | exact Sub.nil | apply Sub.take | apply Sub.drop)); done) | (apply y_calls; rfl; rfl; rfl; (first | assumption); done) | (apply y_rcal; rfl; rfl; rfl; (first | assumption); (repeat (first | exact SeesAll.nil | (apply SeesAll.cons; (first | (focus (apply Sees.vw; (repeat (first | exact List.Mem.head _ | apply List.Mem.tail)); done)) | (focus (apply Sees.own; (repeat (first | exact List.Mem.head _ | apply List.Mem.tail)); done)) | exact Sees.nil | assumption)))); done))) | apply s_nil | apply w_seq | apply f_then | apply f_ret | apply w_ret | refine w_cond_t rfl ?_ | (apply f_ends; rfl; rfl; (repeat (first | exact Res.nil | (apply Res.tmp; rfl) | (apply Res.agg; exact inferInstance; rfl; (repeat (first | exact List.Mem.head _ | apply List.Mem.tail)); (repeat (first | exact Sub.nil | apply Sub.take | apply Sub.drop))) | (apply Res.cell; kernel_rfl; rfl; (repeat (first | exact List.Mem.head _ | apply List.Mem.tail)); (repeat (first | exact At.hit | apply At.miss))))); intro w hw; first | exact ans hw | (refine ans_b ?_ hw; (focus ((repeat (first | assumption | rfl | exact beq_self_eq_true _ | exact bne_self_eq_false _ | apply bOrF | apply bAndT | apply bNotF | apply bNotT | (focus (apply decide_eq_true; omega)) | (focus (apply decide_eq_false; omega)) | (focus (apply bEqT; omega)) | (focus (apply bEqF; omega)) | (focus (apply bNeT; omega)) | (focus (apply bNeF; omega)) | (focus (apply bOrT1; first | assumption | (apply decide_eq_true; omega))) | (focus (apply bOrT2; first | assumption | (apply decide_eq_true; omega))) | (focus (apply bAndF1; first | assumption | (apply decide_eq_false; omega))) | (focus (apply bAndF2; first | assumption | (apply decide_eq_false; omega))))); done))) | (apply t_endS1 hw; rfl; (focus ((repeat (first | exact List.Sublist.refl _ | apply List.Sublist.cons_cons | apply List.Sublist.cons)); done))) | (apply t_endX1 hw; rfl; (focus ((repeat (first | exact List.Sublist.refl _ | apply List.Sublist.cons_cons | apply List.Sublist.cons)); done))) | (refine t_end ⟨rfl, rfl⟩ ?_ w hw; (focus ((repeat (first | exact List.Sublist.refl _ | apply List.Sublist.cons_cons | apply List.Sublist.cons)); done)))) | (apply fin_shut (e := .ret); (repeat (first | exact Plc.hit | apply Plc.miss))) | (apply w_reg_l; rfl) | exact rfl)
  | true =>
    have hq := (bP_iff.1 hs).len
    rw [hs] at k1
    rw [if_pos rfl]
    by_cases hf : firN l a 0 = -1
    · rw [hf] at k2
      rw [if_pos hf]
      have k3 := rfits_s ha hx
      have he : decide (((l.length : Nat) : Int) = b) = decide (((l.length : Nat) : Int) ≥ b) := by rw [decide_eq_decide]; omega
      rw [he]
      cases hg : (decide (((l.length : Nat) : Int) ≥ b) || !fitB a x) with
      | true =>
        rw [if_pos rfl]
        clear he
        refine enter_t Try.func19 rfl Try.ntmps19 rfl (fun Wo Fo fro => ?_)
        repeat (first | (apply s_box; rfl; constructor; rfl; intro _) | (apply s_alloc; rfl; intro _) | (apply s_store; rfl; rfl; (repeat (first | exact Plc.hit | apply Plc.miss)); constructor; (focus ((simp only [setAt, List.set_cons_zero, List.set_cons_succ, Nat.zero_add, Nat.reduceAdd, Nat.reduceMul]); try rfl)); kernel_rfl; rfl) | apply s_st | apply st_go | (apply st_if; rfl; intro h1; (try simp only [h1, gv_true, gv_tt])) | (focus (first | (apply y_move; rfl) | (apply y_assign; rfl) | (apply y_not; rfl) | (apply y_load; rfl; (repeat (first | exact List.Mem.head _ | apply List.Mem.tail)); (repeat (first | exact Sub.nil | apply Sub.take | apply Sub.drop)); done) | (apply y_cell; rfl; (repeat (first | exact List.Mem.head _ | apply List.Mem.tail)); (repeat (first | exact At.hit | apply At.miss)); kernel_rfl; done) | (apply y_calls; rfl; rfl; rfl; (first | assumption); done) | (apply y_rcal; rfl; rfl; rfl; (first | assumption); (repeat (first | exact SeesAll.nil | (apply SeesAll.cons; (first | (focus (apply Sees.vw; (repeat (first | exact List.Mem.head _ | apply List.Mem.tail)); done)) | (focus (apply Sees.own; (repeat (first | exact List.Mem.head _ | apply List.Mem.tail)); done)) | exact Sees.nil | assumption)))); done) | (apply y_or; rfl; rfl; done) | (apply y_faddr; kernel_rfl; rfl) | (apply y_len; rfl) | (apply y_ge; rfl; rfl))) | apply s_nil | apply w_seq | apply f_then | apply f_ret | apply w_skip | apply w_ret | refine w_cond_f rfl ?_ | (apply w_cond_tt; rfl; assumption) | (apply f_ends; rfl; rfl; (repeat (first | exact Res.nil | (apply Res.tmp; rfl) | (apply Res.agg; exact inferInstance; rfl; (repeat (first | exact List.Mem.head _ | apply List.Mem.tail)); (repeat (first | exact Sub.nil | apply Sub.take | apply Sub.drop))) | (apply Res.cell; kernel_rfl; rfl; (repeat (first | exact List.Mem.head _ | apply List.Mem.tail)); (repeat (first | exact At.hit | apply At.miss))))); intro w hw; first | exact ans hw | (refine ans_b ?_ hw; (focus ((repeat (first | assumption | rfl | exact beq_self_eq_true _ | exact bne_self_eq_false _ | apply bOrF | apply bAndT | apply bNotF | apply bNotT | (focus (apply decide_eq_true; omega)) | (focus (apply decide_eq_false; omega)) | (focus (apply bEqT; omega)) | (focus (apply bEqF; omega)) | (focus (apply bNeT; omega)) | (focus (apply bNeF; omega)) | (focus (apply bOrT1; first | assumption | (apply decide_eq_true; omega))) | (focus (apply bOrT2; first | assumption | (apply decide_eq_true; omega))) | (focus (apply bAndF1; first | assumption | (apply decide_eq_false; omega))) | (focus (apply bAndF2; first | assumption | (apply decide_eq_false; omega))))); done))) | (apply t_endS1 hw; rfl; (focus ((repeat (first | exact List.Sublist.refl _ | apply List.Sublist.cons_cons | apply List.Sublist.cons)); done))) | (apply t_endX1 hw; rfl; (focus ((repeat (first | exact List.Sublist.refl _ | apply List.Sublist.cons_cons | apply List.Sublist.cons)); done))) | (refine t_end ⟨rfl, rfl⟩ ?_ w hw; (focus ((repeat (first | exact List.Sublist.refl _ | apply List.Sublist.cons_cons | apply List.Sublist.cons)); done)))) | (apply w_reg_l; rfl) | exact rfl)
      | false =>
        rw [if_neg (by decide)]
        clear he
        refine Tri.mono (R := RetS fun A' c' => (.tuple #[.agg #[.slice A' (l.length + 1) c', .int .i64 b], .int .i64 3], [.vw A' c' 9 ([] ++ l.map En.cells ++ [En.cells ⟨a, x, false⟩])])) ?_ (fun v m' ⟨A', c', h1, h2⟩ => ⟨A', c', by rw [h1]; simp, by rw [h2]; simp⟩)
        refine enter_t Try.func19 rfl Try.ntmps19 rfl (fun Wo Fo fro => ?_)
        repeat (first | (apply s_box; rfl; constructor; rfl; intro _) | (apply s_alloc; rfl; intro _) | (apply s_bslice; (repeat (first | exact PRows.nil | (apply PRows.cons; rfl; constructor; rfl))); rfl; rfl; intro _) | (apply s_store; rfl; rfl; (repeat (first | exact Plc.hit | apply Plc.miss)); constructor; (focus ((simp only [setAt, List.set_cons_zero, List.set_cons_succ, Nat.zero_add, Nat.reduceAdd, Nat.reduceMul]); try rfl)); kernel_rfl; rfl) | (apply s_append; rfl; rfl; (repeat (first | exact Plc.hit | apply Plc.miss)); (first | (focus (apply Sees.vw; (repeat (first | exact List.Mem.head _ | apply List.Mem.tail)); done)) | (focus (apply Sees.own; (repeat (first | exact List.Mem.head _ | apply List.Mem.tail)); done)) | exact Sees.nil | assumption); (first | rfl | assumption | (focus (simp; done)) | (focus (simp; omega))); (first | rfl | assumption | (focus (simp; done)) | (focus (simp; omega))); (first | assumption | omega | (focus (simp; done)) | (focus (simp; omega))); kernel_rfl; rfl; intro _ _) | apply s_st | apply st_go | (apply st_if; rfl; intro h1; (try simp only [h1, gv_true, gv_tt])) | (focus (first | (apply y_move; rfl) | (apply y_assign; rfl) | (apply y_not; rfl) | (apply y_load; rfl; (repeat (first | exact List.Mem.head _ | apply List.Mem.tail)); (repeat (first | exact Sub.nil | apply Sub.take | apply Sub.drop)); done) | (apply y_cell; rfl; (repeat (first | exact List.Mem.head _ | apply List.Mem.tail)); (repeat (first | exact At.hit | apply At.miss)); kernel_rfl; done) | (apply y_calls; rfl; rfl; rfl; (first | assumption); done) | (apply y_rcal; rfl; rfl; rfl; (first | assumption); (repeat (first | exact SeesAll.nil | (apply SeesAll.cons; (first | (focus (apply Sees.vw; (repeat (first | exact List.Mem.head _ | apply List.Mem.tail)); done)) | (focus (apply Sees.own; (repeat (first | exact List.Mem.head _ | apply List.Mem.tail)); done)) | exact Sees.nil | assumption)))); done) | (apply y_or; rfl; rfl; done) | (apply y_faddr; kernel_rfl; rfl) | (apply y_len; rfl) | (apply y_ge; rfl; rfl) | (apply y_build; kernel_rfl; (repeat (first | exact Bld.nil | (apply Bld.cons; exact inferInstance; rfl; constructor; kernel_rfl; (focus ((simp only [setAt, List.set_cons_zero, List.set_cons_succ, Nat.zero_add, Nat.reduceAdd, Nat.reduceMul]); try rfl))))); done))) | apply s_nil | apply w_seq | apply f_then | apply w_skip | apply w_ret | refine w_cond_f rfl ?_ | (apply w_cond_ff; rfl; assumption) | (apply f_ends; rfl; rfl; (repeat (first | exact Res.nil | (apply Res.tmp; rfl) | (apply Res.agg; exact inferInstance; rfl; (repeat (first | exact List.Mem.head _ | apply List.Mem.tail)); (repeat (first | exact Sub.nil | apply Sub.take | apply Sub.drop))) | (apply Res.cell; kernel_rfl; rfl; (repeat (first | exact List.Mem.head _ | apply List.Mem.tail)); (repeat (first | exact At.hit | apply At.miss))))); intro w hw; first | exact ans hw | (refine ans_b ?_ hw; (focus ((repeat (first | assumption | rfl | exact beq_self_eq_true _ | exact bne_self_eq_false _ | apply bOrF | apply bAndT | apply bNotF | apply bNotT | (focus (apply decide_eq_true; omega)) | (focus (apply decide_eq_false; omega)) | (focus (apply bEqT; omega)) | (focus (apply bEqF; omega)) | (focus (apply bNeT; omega)) | (focus (apply bNeF; omega)) | (focus (apply bOrT1; first | assumption | (apply decide_eq_true; omega))) | (focus (apply bOrT2; first | assumption | (apply decide_eq_true; omega))) | (focus (apply bAndF1; first | assumption | (apply decide_eq_false; omega))) | (focus (apply bAndF2; first | assumption | (apply decide_eq_false; omega))))); done))) | (apply t_endS1 hw; rfl; (focus ((repeat (first | exact List.Sublist.refl _ | apply List.Sublist.cons_cons | apply List.Sublist.cons)); done))) | (apply t_endX1 hw; rfl; (focus ((repeat (first | exact List.Sublist.refl _ | apply List.Sublist.cons_cons | apply List.Sublist.cons)); done))) | (refine t_end ⟨rfl, rfl⟩ ?_ w hw; (focus ((repeat (first | exact List.Sublist.refl _ | apply List.Sublist.cons_cons | apply List.Sublist.cons)); done)))) | (apply fin_shut (e := .ret); (repeat (first | exact Plc.hit | apply Plc.miss))) | (apply w_reg_l; rfl) | exact rfl)
    · rw [if_neg hf]
      have hE : decide (firN l a 0 ≥ 0) = true := decide_eq_true ((firN_ge a l 0).resolve_left hf)
      refine enter_t Try.func19 rfl Try.ntmps19 rfl (fun Wo Fo fro => ?_)
      repeat (first | (apply s_box; rfl; constructor; rfl; intro _) | (apply s_alloc; rfl; intro _) | (apply s_store; rfl; rfl; (repeat (first | exact Plc.hit | apply Plc.miss)); constructor; (focus ((simp only [setAt, List.set_cons_zero, List.set_cons_succ, Nat.zero_add, Nat.reduceAdd, Nat.reduceMul]); try rfl)); kernel_rfl; rfl) | apply s_st | apply st_go | (focus (first | (apply y_assign; rfl) | (apply y_not; rfl) | (apply y_load; rfl; (repeat (first | exact List.Mem.head _ | apply List.Mem.tail)); (repeat (first | exact Sub.nil | apply Sub.take | apply Sub.drop)); done) | (apply y_cell; rfl; (repeat (first | exact List.Mem.head _ | apply List.Mem.tail)); (repeat (first | exact At.hit | apply At.miss)); kernel_rfl; done) | (apply y_rcal; rfl; rfl; rfl; (first | assumption); (repeat (first | exact SeesAll.nil | (apply SeesAll.cons; (first | (focus (apply Sees.vw; (repeat (first | exact List.Mem.head _ | apply List.Mem.tail)); done)) | (focus (apply Sees.own; (repeat (first | exact List.Mem.head _ | apply List.Mem.tail)); done)) | exact Sees.nil | assumption)))); done) | (apply y_faddr; kernel_rfl; rfl) | (apply y_ge; rfl; rfl))) | apply s_nil | apply w_seq | apply f_then | apply f_ret | apply w_skip | apply w_ret | refine w_cond_f rfl ?_ | (apply w_cond_tt; rfl; assumption) | (apply f_ends; rfl; rfl; (repeat (first | exact Res.nil | (apply Res.tmp; rfl) | (apply Res.agg; exact inferInstance; rfl; (repeat (first | exact List.Mem.head _ | apply List.Mem.tail)); (repeat (first | exact Sub.nil | apply Sub.take | apply Sub.drop))) | (apply Res.cell; kernel_rfl; rfl; (repeat (first | exact List.Mem.head _ | apply List.Mem.tail)); (repeat (first | exact At.hit | apply At.miss))))); intro w hw; first | exact ans hw | (refine ans_b ?_ hw; (focus ((repeat (first | assumption | rfl | exact beq_self_eq_true _ | exact bne_self_eq_false _ | apply bOrF | apply bAndT | apply bNotF | apply bNotT | (focus (apply decide_eq_true; omega)) | (focus (apply decide_eq_false; omega)) | (focus (apply bEqT; omega)) | (focus (apply bEqF; omega)) | (focus (apply bNeT; omega)) | (focus (apply bNeF; omega)) | (focus (apply bOrT1; first | assumption | (apply decide_eq_true; omega))) | (focus (apply bOrT2; first | assumption | (apply decide_eq_true; omega))) | (focus (apply bAndF1; first | assumption | (apply decide_eq_false; omega))) | (focus (apply bAndF2; first | assumption | (apply decide_eq_false; omega))))); done))) | (apply t_endS1 hw; rfl; (focus ((repeat (first | exact List.Sublist.refl _ | apply List.Sublist.cons_cons | apply List.Sublist.cons)); done))) | (apply t_endX1 hw; rfl; (focus ((repeat (first | exact List.Sublist.refl _ | apply List.Sublist.cons_cons | apply List.Sublist.cons)); done))) | (refine t_end ⟨rfl, rfl⟩ ?_ w hw; (focus ((repeat (first | exact List.Sublist.refl _ | apply List.Sublist.cons_cons | apply List.Sublist.cons)); done)))) | (apply w_reg_l; rfl) | exact rfl)
noncomputable def cvB (p q : Px) : Bool := covB p.a.hi p.a.lo p.a.v6 p.n q.a.hi q.a.lo q.a.v6 q.n
noncomputable def apB (p q : Px) : Bool := apaB p.a.hi p.a.lo p.a.v6 p.n q.a.hi q.a.lo q.a.v6 q.n
theorem cov_s {p q : Px} (hp : p.a.wf) (hq : q.a.wf) : Cal Try.prog 32 [p.val, q.val] (.bool (cvB p q)) := covers_s hp hq _ _ _ _
theorem rapart_s {p q : Px} (hp : p.a.wf) (hq : q.a.wf) : Cal Try.prog 66 [p.val, q.val] (.bool (apB p q)) := r2apart_s hp hq _ _ _ _
theorem apB_cv {p q : Px} (hp : sanB p = true) (hq : sanB q = true) : apB p q = (!cvB p q && !cvB q p) := by
  obtain ⟨⟨ph, pl, pv⟩, pn⟩ := p
  obtain ⟨⟨qh, ql, qv⟩, qn⟩ := q
  obtain ⟨c, hc, e1, e2, e3⟩ := saneB_ex hp
  obtain ⟨m, hm, f1, f2, f3⟩ := saneB_ex hq
  dsimp only at hc hm e1 e2 e3 f1 f2 f3
  clear hp hq
  generalize D ph pl = dp at e2 e3
  generalize D qh ql = dq at f2 f3
  subst e1 e2 e3 f1 f2 f3
  unfold apB cvB
  dsimp only
  rw [apaB_pk _ _ _ hc _ _ _ hm, covB_pk _ _ _ hc _ _ _ hm, covB_pk _ _ _ hm _ _ _ hc]
theorem cvB_sane {p q : Px} (h : cvB p q = true) : sanB p = true ∧ sanB q = true := covB_sane h
/-- Do two overlap? -/
noncomputable def ovB (p q : Px) : Bool := cvB p q || cvB q p
theorem ov_ref {p q : Px} (hq : sanB q = true) : (sanB p && !apB p q) = ovB p q := by
  unfold ovB
  cases hp : sanB p with
  | true => rw [apB_cv hp hq]; cases cvB p q <;> cases cvB q p <;> rfl
  | false =>
    cases h1 : cvB p q with
    | true => rw [(cvB_sane h1).1] at hp; cases hp
    | false =>
      cases h2 : cvB q p with
      | true => rw [(cvB_sane h2).2] at hp; cases hp
      | false => rfl
noncomputable def narE (p : Px) (e : En) : En := if ovB p e.x.p = true then ⟨e.a, ⟨wholeP e.a, e.x.hop⟩, true⟩ else e
/-- The first i are narrowed. -/
noncomputable def nrw (p : Px) (l : List En) (i : Nat) : List En := (l.take i).map (narE p) ++ l.drop i
noncomputable def cntN (p : Px) (l : List En) (i : Nat) : Nat := ((l.take i).filter fun e => ovB p e.x.p).length
theorem nrw_get (p : Px) (l : List En) {i : Nat} (h : i < l.length) : (nrw p l i)[i]? = some l[i] := by
  unfold nrw
  rw [List.getElem?_append_right (by simp; omega)]
  simp [Nat.min_eq_left (Nat.le_of_lt h), h]
theorem nrw_succ (p : Px) (l : List En) {i : Nat} (h : i < l.length) : nrw p l (i + 1) = (nrw p l i).set i (narE p l[i]) := by
  unfold nrw
  rw [List.take_add_one, List.map_append, List.getElem?_eq_getElem h, List.drop_eq_getElem_cons h, List.set_append_right _ _ (by simp; omega)]
  have e : i - (List.map (narE p) (List.take i l)).length = 0 := by simp; omega
  rw [e, List.append_assoc]
  rfl
theorem nrw_same (p : Px) (l : List En) {i : Nat} (h : i < l.length) (hn : narE p l[i] = l[i]) : nrw p l (i + 1) = nrw p l i := by
  rw [nrw_succ p l h, hn]
  refine List.ext_getElem? fun k => ?_
  rw [List.getElem?_set]
  split
  · rename_i hk
    subst hk
    rw [nrw_get p l h]
    split
    · rfl
    · rename_i hh
      exact absurd (by unfold nrw; simp; omega) hh
  · rfl
theorem nrw_len (p : Px) (l : List En) (i : Nat) : (nrw p l i).length = l.length := by
  unfold nrw
  simp
  omega
theorem cnt_succ (p : Px) (l : List En) {i : Nat} (h : i < l.length) : cntN p l (i + 1) = cntN p l i + (if ovB p l[i].x.p = true then 1 else 0) := by
  unfold cntN
  rw [List.take_add_one, List.getElem?_eq_getElem h, List.filter_append, List.length_append]
  congr 1
  simp only [Option.toList_some, List.filter_cons, List.filter_nil]
  split <;> rfl
theorem cnt_le (p : Px) (l : List En) (i : Nat) : cntN p l i ≤ i := by
  unfold cntN
  exact Nat.le_trans (List.length_filter_le _ _) (by rw [List.length_take]; omega)
noncomputable def narN (l : List En) (b : Int) (p : Px) : List En × Int × Int := if bP (SaneQ l b) = true then (l.map (narE p), b, ((cntN p l l.length : Nat) : Int)) else ([], 0, 0)
theorem narrow_s (l : List En) (hw : ∀ e ∈ l, e.wf) (hl : l.length ≤ 100000000) (b : Int) {p : Px} (hp : p.a.wf) (A : Option Addr) (c : Nat) :
    Tri Try.prog 20 [.agg #[.slice A l.length c, .int .i64 b], p.val] [.vw A c 9 (l.map En.cells)] (RetS fun A' c' => qres (narN l b p) A' c') := by
  have k1 := sane_q l hw hl b A c
  unfold narN
  cases hs : bP (SaneQ l b) with
  | false =>
    rw [hs] at k1
    rw [if_neg (by decide)]
    have k3 : Cal Try.prog 16 [.int .i64 0] (.agg #[.slice none 0 0, .int .i64 0]) := new_s 0
    refine enter_t Try.func20 rfl Try.ntmps20 rfl (fun Wo Fo fro => ?_)
    refine w_nilown (k := 9) (t := 48) ?_
    repeat (first | (apply s_box; rfl; constructor; rfl; intro _) | (apply s_alloc; rfl; intro _) | (apply s_store; rfl; rfl; (repeat (first | exact Plc.hit | apply Plc.miss)); constructor; (focus ((simp only [setAt, List.set_cons_zero, List.set_cons_succ, Nat.zero_add, Nat.reduceAdd, Nat.reduceMul]); try rfl)); kernel_rfl; rfl) | apply s_st | apply st_go | (focus (first | (apply y_assign; rfl) | (apply y_not; rfl) | (apply y_load; rfl; (repeat (first | exact List.Mem.head _ | apply List.Mem.tail)); (repeat (first | exact Sub.nil | apply Sub.take | apply Sub.drop)); done) | (apply y_calls; rfl; rfl; rfl; (first | assumption); done) | (apply y_rcal; rfl; rfl; rfl; (first | assumption); (repeat (first | exact SeesAll.nil | (apply SeesAll.cons; (first | (focus (apply Sees.vw; (repeat (first | exact List.Mem.head _ | apply List.Mem.tail)); done)) | (focus (apply Sees.own; (repeat (first | exact List.Mem.head _ | apply List.Mem.tail)); done)) | exact Sees.nil | assumption)))); done))) | apply s_nil | apply w_seq | apply f_then | apply f_ret | apply w_ret | refine w_cond_t rfl ?_ | (apply f_ends; rfl; rfl; (repeat (first | exact Res.nil | (apply Res.tmp; rfl) | (apply Res.agg; exact inferInstance; rfl; (repeat (first | exact List.Mem.head _ | apply List.Mem.tail)); (repeat (first | exact Sub.nil | apply Sub.take | apply Sub.drop))) | (apply Res.cell; kernel_rfl; rfl; (repeat (first | exact List.Mem.head _ | apply List.Mem.tail)); (repeat (first | exact At.hit | apply At.miss))))); intro w hw; first | exact ans hw | (refine ans_b ?_ hw; (focus ((repeat (first | assumption | rfl | exact beq_self_eq_true _ | exact bne_self_eq_false _ | apply bOrF | apply bAndT | apply bNotF | apply bNotT | (focus (apply decide_eq_true; omega)) | (focus (apply decide_eq_false; omega)) | (focus (apply bEqT; omega)) | (focus (apply bEqF; omega)) | (focus (apply bNeT; omega)) | (focus (apply bNeF; omega)) | (focus (apply bOrT1; first | assumption | (apply decide_eq_true; omega))) | (focus (apply bOrT2; first | assumption | (apply decide_eq_true; omega))) | (focus (apply bAndF1; first | assumption | (apply decide_eq_false; omega))) | (focus (apply bAndF2; first | assumption | (apply decide_eq_false; omega))))); done))) | (apply t_endS1 hw; rfl; (focus ((repeat (first | exact List.Sublist.refl _ | apply List.Sublist.cons_cons | apply List.Sublist.cons)); done))) | (apply t_endX1 hw; rfl; (focus ((repeat (first | exact List.Sublist.refl _ | apply List.Sublist.cons_cons | apply List.Sublist.cons)); done))) | (refine t_end ⟨rfl, rfl⟩ ?_ w hw; (focus ((repeat (first | exact List.Sublist.refl _ | apply List.Sublist.cons_cons | apply List.Sublist.cons)); done)))) | (apply fin_shut (e := .ret); (repeat (first | exact Plc.hit | apply Plc.miss))) | (apply w_reg_l; rfl) | exact rfl)
  | true =>
    rw [hs] at k1
    rw [if_pos rfl]
    have k4 := clone_s l hl A c
    refine Tri.mono (R := RetS fun A' c' => (.tuple #[.agg #[.slice A' l.length c', .int .i64 b], .int .i64 ((cntN p l l.length : Nat) : Int)], [.vw A' c' 9 ((nrw p l l.length).map En.cells)])) ?_ (fun v m' ⟨A', c', h1, h2⟩ => ⟨A', c', by rw [h1]; simp, by rw [h2]; simp [nrw]⟩)
    refine enter_t Try.func20 rfl Try.ntmps20 rfl (fun Wo Fo fro => ?_)
    repeat (first | (apply s_box; rfl; constructor; rfl; intro _) | (apply s_alloc; rfl; intro _) | (apply s_tris; rfl; rfl; rfl; (first | assumption); (repeat (first | exact Tk.nil | (apply Tk.see; (first | (focus (apply VSees.vw; (repeat (first | exact List.Mem.head _ | apply List.Mem.tail)); done)) | exact VSees.nil | assumption)) | (apply Tk.see; exact VSees.nil) | (apply Tk.take; (repeat (first | exact Plc.hit | apply Plc.miss))))); rfl; intro _ _; (try dsimp only [List.cons_append, List.nil_append])) | apply s_st | apply st_go | (focus (first | (apply y_move; rfl) | (apply y_assign; rfl) | (apply y_not; rfl) | (apply y_load; rfl; (repeat (first | exact List.Mem.head _ | apply List.Mem.tail)); (repeat (first | exact Sub.nil | apply Sub.take | apply Sub.drop)); done) | (apply y_cell; rfl; (repeat (first | exact List.Mem.head _ | apply List.Mem.tail)); (repeat (first | exact At.hit | apply At.miss)); kernel_rfl; done) | (apply y_rcal; rfl; rfl; rfl; (first | assumption); (repeat (first | exact SeesAll.nil | (apply SeesAll.cons; (first | (focus (apply Sees.vw; (repeat (first | exact List.Mem.head _ | apply List.Mem.tail)); done)) | (focus (apply Sees.own; (repeat (first | exact List.Mem.head _ | apply List.Mem.tail)); done)) | exact Sees.nil | assumption)))); done) | (apply y_faddr; kernel_rfl; rfl) | (apply y_len; rfl))) | apply s_nil | apply w_seq | apply f_then | apply w_block | apply w_skip | refine w_cond_f rfl ?_ | (apply w_reg_l; rfl) | exact rfl)
    rename_i g1 g2 g3 A' c'
    refine w_loopm (fun i : Nat => [(19, .int .i64 ((i : Nat) : Int)), (6, .int .i64 ((cntN p l i : Nat) : Int))]) (fun i => .own A' c' 9 ((nrw p l i).map En.cells) 48 :: .blk g3 [.slice none 0 0, .int .i64 0] 26 :: .blk g2 p.cells 36 :: .blk g1 [.slice A l.length c, .int .i64 b] 26 :: .vw A c 9 (l.map En.cells) :: fro) (fun i => i ≤ l.length) (fun i => l.length - i) 0 (Nat.zero_le _) ?_ ?_ ?_
    · (repeat (first | exact Cov.nil | (apply Cov.cons; rfl) | (apply Cov.seen; rfl)))
    · (repeat (first | exact List.Sublist.refl _ | apply List.Sublist.cons_cons | apply List.Sublist.cons))
    · rintro i hi R hR
      by_cases hlt : i < l.length
      · have hE2 : decide (((i : Nat) : Int) < ((l.length : Nat) : Int)) = true := by simp; exact hlt
        have hl' : l.length = ((nrw p l i).map En.cells).length := by rw [List.length_map, nrw_len]
        have hlt' : i < ((nrw p l i).map En.cells).length := by rw [← hl']; exact hlt
        have hrow : ((nrw p l i).map En.cells)[i]? = some l[i].cells := by rw [List.getElem?_map, nrw_get p l hlt]; rfl
        have hwe := hw _ (List.getElem_mem hlt)
        have k5 := cov_s hp (q := l[i].x.p) hwe.2
        have k6 := cov_s (p := l[i].x.p) (q := p) hwe.2 hp
        have k7 := whole_s (a := l[i].a) hwe.1
        have hcn := cnt_le p l i
        have hns := nrw_succ p l hlt
        have hcs := cnt_succ p l hlt
        have hB := hR (i + 1) hlt (by omega)
        clear hR
        cases hov : ovB p l[i].x.p with
        | true =>
          have hE3 : (cvB p l[i].x.p || cvB l[i].x.p p) = true := hov
          have hne : narE p l[i] = ⟨l[i].a, ⟨wholeP l[i].a, l[i].x.hop⟩, true⟩ := by unfold narE; rw [if_pos hov]
          have hrow2 : (((nrw p l i).map En.cells).set i (En.cells ⟨l[i].a, ⟨wholeP l[i].a, l[i].x.hop⟩, l[i].stale⟩))[i]? = some (En.cells ⟨l[i].a, ⟨wholeP l[i].a, l[i].x.hop⟩, l[i].stale⟩) := List.getElem?_set_self hlt'
          rw [hns, hne, List.map_set, ← List.set_set (En.cells ⟨l[i].a, ⟨wholeP l[i].a, l[i].x.hop⟩, l[i].stale⟩), hcs, if_pos hov, ← wrap_suc (i := i) (by omega), ← wrap_suc (i := cntN p l i) (by omega)] at hB
          clear hns hcs hne hov
          repeat (first | (apply s_estore; rfl; rfl; (repeat (first | exact Plc.hit | apply Plc.miss)); (first | assumption | rfl); constructor; (focus ((simp only [setAt, List.set_cons_zero, List.set_cons_succ, Nat.zero_add, Nat.reduceAdd, Nat.reduceMul]); try rfl)); kernel_rfl; rfl) | apply s_st | apply q_st | apply st_go | (apply st_if; rfl; intro h1; (try simp only [h1, gv_true, gv_tt])) | (focus (first | (apply y_move; rfl) | (apply y_assign; rfl) | (apply y_load; rfl; (repeat (first | exact List.Mem.head _ | apply List.Mem.tail)); (repeat (first | exact Sub.nil | apply Sub.take | apply Sub.drop)); done) | (apply y_eload; rfl; (first | (focus (apply Sees.vw; (repeat (first | exact List.Mem.head _ | apply List.Mem.tail)); done)) | (focus (apply Sees.own; (repeat (first | exact List.Mem.head _ | apply List.Mem.tail)); done)) | exact Sees.nil | assumption); (first | assumption | rfl); (repeat (first | exact Sub.nil | apply Sub.take | apply Sub.drop)); done) | (apply y_calls; rfl; rfl; rfl; (first | assumption); done) | (apply y_or; rfl; rfl; done) | (apply y_efaddr; kernel_rfl; rfl) | (apply y_ixaddr; rfl; rfl; (first | (focus (apply Sees.vw; (repeat (first | exact List.Mem.head _ | apply List.Mem.tail)); done)) | (focus (apply Sees.own; (repeat (first | exact List.Mem.head _ | apply List.Mem.tail)); done)) | exact Sees.nil | assumption); (first | rfl | assumption | (focus (simp; done)) | (focus (simp; omega))); (first | assumption | rfl | exact (show (0 : Int) = ((0 : Nat) : Int) from rfl) | exact (show (1 : Int) = ((1 : Nat) : Int) from rfl) | exact (show (2 : Int) = ((2 : Nat) : Int) from rfl) | exact (show (3 : Int) = ((3 : Nat) : Int) from rfl)); (first | assumption | omega | (focus (simp; done)) | (focus (simp; omega))); done) | (apply y_nilel; rfl) | (apply y_lt; rfl; rfl) | (apply y_add; rfl; rfl))) | apply q_nil | apply s_nil | apply w_seq | apply f_then | apply w_block | apply f_norm_block | (apply f_back; assumption; (repeat (first | exact Cov.nil | (apply Cov.cons; rfl) | (apply Cov.seen; rfl))); (focus ((repeat (first | exact List.Sublist.refl _ | apply List.Sublist.cons_cons | apply List.Sublist.cons)); done))) | apply w_skip | (apply w_cond_tt; rfl; assumption) | (apply w_draw_l; rfl; kernel_rfl; rfl; kernel_rfl) | (apply w_reg_l; rfl) | exact rfl)
        | false =>
          have hE3 : (cvB p l[i].x.p || cvB l[i].x.p p) = false := hov
          have hne : narE p l[i] = l[i] := by unfold narE; rw [hov]; rfl
          rw [nrw_same p l hlt hne, hcs, hov, if_neg (by decide), Nat.add_zero, ← wrap_suc (i := i) (by omega)] at hB
          clear hns hcs hne hov
          repeat (first | apply s_st | apply q_st | apply st_go | (apply st_if; rfl; intro h1; (try simp only [h1, gv_true, gv_tt])) | (focus (first | (apply y_move; rfl) | (apply y_assign; rfl) | (apply y_load; rfl; (repeat (first | exact List.Mem.head _ | apply List.Mem.tail)); (repeat (first | exact Sub.nil | apply Sub.take | apply Sub.drop)); done) | (apply y_eload; rfl; (first | (focus (apply Sees.vw; (repeat (first | exact List.Mem.head _ | apply List.Mem.tail)); done)) | (focus (apply Sees.own; (repeat (first | exact List.Mem.head _ | apply List.Mem.tail)); done)) | exact Sees.nil | assumption); (first | assumption | rfl); (repeat (first | exact Sub.nil | apply Sub.take | apply Sub.drop)); done) | (apply y_calls; rfl; rfl; rfl; (first | assumption); done) | (apply y_or; rfl; rfl; done) | (apply y_efaddr; kernel_rfl; rfl) | (apply y_ixaddr; rfl; rfl; (first | (focus (apply Sees.vw; (repeat (first | exact List.Mem.head _ | apply List.Mem.tail)); done)) | (focus (apply Sees.own; (repeat (first | exact List.Mem.head _ | apply List.Mem.tail)); done)) | exact Sees.nil | assumption); (first | rfl | assumption | (focus (simp; done)) | (focus (simp; omega))); (first | assumption | rfl | exact (show (0 : Int) = ((0 : Nat) : Int) from rfl) | exact (show (1 : Int) = ((1 : Nat) : Int) from rfl) | exact (show (2 : Int) = ((2 : Nat) : Int) from rfl) | exact (show (3 : Int) = ((3 : Nat) : Int) from rfl)); (first | assumption | omega | (focus (simp; done)) | (focus (simp; omega))); done) | (apply y_nilel; rfl) | (apply y_lt; rfl; rfl) | (apply y_add; rfl; rfl))) | apply q_nil | apply s_nil | apply w_seq | apply f_then | apply w_block | apply f_norm_block | (apply f_back; assumption; (repeat (first | exact Cov.nil | (apply Cov.cons; rfl) | (apply Cov.seen; rfl))); (focus ((repeat (first | exact List.Sublist.refl _ | apply List.Sublist.cons_cons | apply List.Sublist.cons)); done))) | apply w_skip | (apply w_cond_tt; rfl; assumption) | (apply w_cond_ff; rfl; assumption) | (apply w_draw_l; rfl; kernel_rfl; rfl; kernel_rfl) | (apply w_reg_l; rfl) | exact rfl)
      · have hE2 : decide (((i : Nat) : Int) < ((l.length : Nat) : Int)) = false := by simp; omega
        obtain rfl : i = l.length := by omega
        clear hR
        repeat (first | (apply s_store; rfl; rfl; (repeat (first | exact Plc.hit | apply Plc.miss)); constructor; (focus ((simp only [setAt, List.set_cons_zero, List.set_cons_succ, Nat.zero_add, Nat.reduceAdd, Nat.reduceMul]); try rfl)); kernel_rfl; rfl) | apply s_st | apply st_go | (focus (first | (apply y_move; rfl) | (apply y_assign; rfl) | (apply y_cell; rfl; (repeat (first | exact List.Mem.head _ | apply List.Mem.tail)); (repeat (first | exact At.hit | apply At.miss)); kernel_rfl; done) | (apply y_faddr; kernel_rfl; rfl) | (apply y_lt; rfl; rfl) | (apply y_build; kernel_rfl; (repeat (first | exact Bld.nil | (apply Bld.cons; exact inferInstance; rfl; constructor; kernel_rfl; (focus ((simp only [setAt, List.set_cons_zero, List.set_cons_succ, Nat.zero_add, Nat.reduceAdd, Nat.reduceMul]); try rfl))))); done))) | apply s_nil | apply w_seq | apply f_then | apply w_exit | apply f_out | apply f_exit_block | apply w_ret | (apply w_cond_ff; rfl; assumption) | (apply f_ends; rfl; rfl; (repeat (first | exact Res.nil | (apply Res.tmp; rfl) | (apply Res.agg; exact inferInstance; rfl; (repeat (first | exact List.Mem.head _ | apply List.Mem.tail)); (repeat (first | exact Sub.nil | apply Sub.take | apply Sub.drop))) | (apply Res.cell; kernel_rfl; rfl; (repeat (first | exact List.Mem.head _ | apply List.Mem.tail)); (repeat (first | exact At.hit | apply At.miss))))); intro w hw; first | exact ans hw | (refine ans_b ?_ hw; (focus ((repeat (first | assumption | rfl | exact beq_self_eq_true _ | exact bne_self_eq_false _ | apply bOrF | apply bAndT | apply bNotF | apply bNotT | (focus (apply decide_eq_true; omega)) | (focus (apply decide_eq_false; omega)) | (focus (apply bEqT; omega)) | (focus (apply bEqF; omega)) | (focus (apply bNeT; omega)) | (focus (apply bNeF; omega)) | (focus (apply bOrT1; first | assumption | (apply decide_eq_true; omega))) | (focus (apply bOrT2; first | assumption | (apply decide_eq_true; omega))) | (focus (apply bAndF1; first | assumption | (apply decide_eq_false; omega))) | (focus (apply bAndF2; first | assumption | (apply decide_eq_false; omega))))); done))) | (apply t_endS1 hw; rfl; (focus ((repeat (first | exact List.Sublist.refl _ | apply List.Sublist.cons_cons | apply List.Sublist.cons)); done))) | (apply t_endX1 hw; rfl; (focus ((repeat (first | exact List.Sublist.refl _ | apply List.Sublist.cons_cons | apply List.Sublist.cons)); done))) | (refine t_end ⟨rfl, rfl⟩ ?_ w hw; (focus ((repeat (first | exact List.Sublist.refl _ | apply List.Sublist.cons_cons | apply List.Sublist.cons)); done)))) | (apply fin_shut (e := .ret); (repeat (first | exact Plc.hit | apply Plc.miss))) | (apply w_reg_l; rfl) | exact rfl)
end Go.Proofs.Ytlmcfjadhahlpaa.Hand
