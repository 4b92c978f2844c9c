/-
  package cover: one, Squeeze, At.
-/
import Derived.Test.YtfcffemglcgbnaaCs
import Derived.Test.YtfcffemglcgbnaaCb
import Derived.Test.YtfcffemglcgbnaaSc
namespace Go.Proofs.Ytfcffemglcgbnaa.Hand
open Go.RowKit Go.Proofs.Ytfcffemglcgbnaa.Bits Go.Proofs.Ytfcffemglcgbnaa.Dig Go.Proofs.Ytfcffemglcgbnaa.Sq
set_option linter.unusedVariables false
set_option linter.unusedSimpArgs false
set_option maxRecDepth 100000
set_option maxHeartbeats 8000000
theorem put_digK (q : List Bool) (b c : Bool) : putd (digK (q ++ [b])) q.length c = digK (q ++ [c]) := funext fun i => by
  unfold putd digK
  by_cases h : i = q.length
  · subst h
    rw [if_pos rfl, List.getD_eq_getElem?_getD, List.getElem?_append_right (Nat.le_refl _), Nat.sub_self]
    rfl
  · rw [if_neg h, List.getD_eq_getElem?_getD, List.getD_eq_getElem?_getD]
    by_cases h2 : i < q.length
    · rw [List.getElem?_append_left h2, List.getElem?_append_left h2]
    · rw [List.getElem?_eq_none (by rw [List.length_append, List.length_singleton]; omega), List.getElem?_eq_none (by rw [List.length_append, List.length_singleton]; omega)]
theorem digK_last (q : List Bool) (b : Bool) : digK (q ++ [b]) q.length = b := by
  unfold digK
  rw [List.getD_eq_getElem?_getD, List.getElem?_append_right (Nat.le_refl _), Nat.sub_self]
  rfl
theorem digK_cutl (q : List Bool) (b : Bool) : cutd (digK (q ++ [b])) q.length = digK q := funext fun i => by
  unfold cutd
  by_cases h : i < q.length
  · rw [decide_eq_true h, Bool.true_and]
    unfold digK
    rw [List.getD_eq_getElem?_getD, List.getD_eq_getElem?_getD, List.getElem?_append_left h]
  · rw [decide_eq_false h, Bool.false_and]
    unfold digK
    rw [List.getD_eq_getElem?_getD, List.getElem?_eq_none (by omega)]
    rfl
theorem pxK_snoc (v : Bool) (q : List Bool) (b : Bool) : (pxK (v, q ++ [b])).val = .agg #[.int .u64 (hiA v (cutd (digK (q ++ [b])) (q.length + 1))), .int .u64 (loA v (cutd (digK (q ++ [b])) (q.length + 1))), .bool v, .int .i64 (((q.length + 1) : Nat) : Int)] := by
  have e : digK (q ++ [b]) = cutd (digK (q ++ [b])) (q.length + 1) := by
    have := digK_cut (q ++ [b])
    rw [List.length_append, List.length_singleton] at this
    exact this.symm
  unfold pxK
  dsimp only
  rw [List.length_append, List.length_singleton, ← e]
theorem sibling_k {v : Bool} {q : List Bool} (h : q.length < W v) (b : Bool) : Cal Try.prog 122 [(pxK (v, q ++ [b])).val] (.tuple #[(pxK (v, q ++ [!b])).val, .bool true]) := by
  have k := sibling_pk v (digK (q ++ [b])) q.length h
  rw [digK_last, put_digK] at k
  rw [pxK_snoc, pxK_snoc]
  exact k
theorem parent_k {v : Bool} {q : List Bool} (h : q.length < W v) (b : Bool) : Cal Try.prog 124 [(pxK (v, q ++ [b])).val] (.tuple #[(pxK (v, q)).val, .bool true]) := by
  have k := parent_pk v (digK (q ++ [b])) q.length h
  rw [digK_cutl] at k
  rw [pxK_snoc]
  exact k
theorem sibling_no {p : Px} (hp : p.a.wf) (h : sanB p = false ∨ p.n ≤ 0) : Cal Try.prog 122 [p.val] (.tuple #[.agg #[.int .u64 0, .int .u64 0, .bool false, .int .i64 0], .bool false]) := by
  have k1 := parent_no hp p.a.v6 p.n (by
    rcases h with h | h
    · unfold sanB at h; rw [h]; simp
    · rw [decide_eq_true h]; rfl)
  refine Cal.mk fun Wo => enter (F := fun _ => False) Try.func122 rfl Try.ntmps122 rfl ?_
  repeat (first | (apply s_box; rfl; constructor; rfl; intro _) | (apply s_alloc; rfl; intro _) | (apply s_store; rfl; rfl; (repeat (first | exact Plc.hit | apply Plc.miss)); constructor; (focus ((simp only [setAt, List.set_cons_zero, List.set_cons_succ, Nat.zero_add, Nat.reduceAdd, Nat.reduceMul]); try rfl)); kernel_rfl; rfl) | apply s_st | apply st_go | (focus (first | (apply y_move; rfl) | (apply y_assign; rfl) | (apply y_not; rfl) | (apply y_load; rfl; (repeat (first | exact List.Mem.head _ | apply List.Mem.tail)); (repeat (first | exact Sub.nil | apply Sub.take | apply Sub.drop)); done) | (apply y_calls; rfl; rfl; rfl; (first | assumption); done) | (apply y_extract; rfl; (repeat (first | exact At.hit | apply At.miss)); done) | (apply y_build; kernel_rfl; (repeat (first | exact Bld.nil | (apply Bld.cons; exact inferInstance; rfl; constructor; kernel_rfl; (focus ((simp only [setAt, List.set_cons_zero, List.set_cons_succ, Nat.zero_add, Nat.reduceAdd, Nat.reduceMul]); try rfl))))); done))) | apply s_nil | apply w_seq | apply f_then | apply f_ret | apply w_ret | refine w_cond_t rfl ?_ | (apply f_ends; rfl; rfl; (repeat (first | exact Res.nil | (apply Res.tmp; rfl) | (apply Res.agg; exact inferInstance; rfl; (repeat (first | exact List.Mem.head _ | apply List.Mem.tail)); (repeat (first | exact Sub.nil | apply Sub.take | apply Sub.drop))) | (apply Res.cell; kernel_rfl; rfl; (repeat (first | exact List.Mem.head _ | apply List.Mem.tail)); (repeat (first | exact At.hit | apply At.miss))))); intro w hw; first | exact ans hw | (refine ans_b ?_ hw; (focus ((repeat (first | assumption | rfl | exact beq_self_eq_true _ | exact bne_self_eq_false _ | apply bOrF | apply bAndT | apply bNotF | apply bNotT | (focus (apply decide_eq_true; omega)) | (focus (apply decide_eq_false; omega)) | (focus (apply bEqT; omega)) | (focus (apply bEqF; omega)) | (focus (apply bNeT; omega)) | (focus (apply bNeF; omega)) | (focus (apply bOrT1; first | assumption | (apply decide_eq_true; omega))) | (focus (apply bOrT2; first | assumption | (apply decide_eq_true; omega))) | (focus (apply bAndF1; first | assumption | (apply decide_eq_false; omega))) | (focus (apply bAndF2; first | assumption | (apply decide_eq_false; omega))))); done)))) | (apply w_reg_l; rfl) | exact rfl)
theorem compare_px {p q : Px} (hp : p.a.wf) (hq : q.a.wf) : Cal Try.prog 123 [p.val, q.val] (.int .i64 (cmpP p q)) := pcompare_s hp hq p.a.v6 p.n q.a.v6 q.n
theorem snoc_of {p : Px} (hs : sanB p = true) (hn : 0 < p.n) : ∃ (v : Bool) (q : List Bool) (b : Bool), q.length < W v ∧ p = pxK (v, q ++ [b]) := by
  obtain ⟨⟨v, k⟩, hk, rfl⟩ := sane_form hs
  dsimp only at hk
  rcases List.eq_nil_or_concat k with rfl | ⟨q, b, hq⟩
  · exact absurd hn (by show ¬ (0 : Int) < ((0 : Nat) : Int); decide)
  · rw [List.concat_eq_append] at hq
    subst hq
    rw [List.length_append, List.length_singleton] at hk
    exact ⟨v, q, b, hk, rfl⟩
theorem sqP_form {x y : P8} (h : SqP x y) : sanB x.p = true ∧ 0 < x.p.n := by
  obtain ⟨_, _, v, q, h1, h2, _⟩ := h
  rw [h2]
  refine ⟨sanB_pxK (k := (v, q ++ [false])) (by rw [List.length_append, List.length_singleton]; exact h1), ?_⟩
  show (0 : Int) < (((q ++ [false]).length : Nat) : Int)
  rw [List.length_append, List.length_singleton]
  omega
theorem sq_raw {x y : P8} {v : Bool} {q : List Bool} {b : Bool} (h : q.length < W v) (hx : x.p = pxK (v, q ++ [b])) : ((((!true || !eqPx (pxK (v, q ++ [!b])) y.p) || decide (cmpP x.p y.p ≥ 0)) || (x.v != y.v)) || (x.ok != y.ok)) = !bP (SqP x y) := by
  have hl : ∀ c : Bool, (q ++ [c]).length ≤ W v := fun c => by rw [List.length_append, List.length_singleton]; exact h
  have hsx := sanB_pxK (k := (v, q ++ [b])) (hl b)
  have hsy := sanB_pxK (k := (v, q ++ [!b])) (hl (!b))
  by_cases hy : pxK (v, q ++ [!b]) = y.p
  · have hcmp : decide (cmpP x.p y.p ≥ 0) = b := by
      rw [hx, ← hy]
      have hk := cmp_neg hsx hsy
      rw [keyP_pxK (k := (v, q ++ [b])) (hl b), keyP_pxK (k := (v, q ++ [!b])) (hl (!b))] at hk
      cases b with
      | false =>
        have : ltK (v, q ++ [false]) (v, q ++ [true]) = true := by
          unfold ltK
          rw [ltL_side q (List.prefix_refl _) (List.prefix_refl _)]
          cases v <;> rfl
        exact decide_eq_false (by have := hk.2 this; omega)
      | true =>
        have : ltK (v, q ++ [true]) (v, q ++ [false]) = false := by
          refine ltK_asym ?_
          unfold ltK
          rw [ltL_side q (List.prefix_refl _) (List.prefix_refl _)]
          cases v <;> rfl
        exact decide_eq_true (by
          refine Int.le_of_not_gt fun hlt => ?_
          have h9 : ltK (v, q ++ [true]) (v, q ++ [false]) = true := hk.1 hlt
          rw [h9] at this
          cases this)
    rw [eqPx_iff.2 hy, hcmp]
    by_cases h1 : b = false ∧ x.v = y.v ∧ x.ok = y.ok
    · obtain ⟨rfl, h1, h2⟩ := h1
      rw [bP_t ⟨h1, h2, v, q, h, hx, hy.symm⟩, h1, h2]
      simp
    · rw [bP_f fun hq => h1 ?_]
      · cases b with
        | true => rfl
        | false =>
          by_cases h2 : x.v = y.v
          · have h3 : x.ok ≠ y.ok := fun h3 => h1 ⟨rfl, h2, h3⟩
            rw [h2]
            simp [h3]
          · simp [h2]
      · obtain ⟨e1, e2, v', q', e3, e4, e5⟩ := hq
        rw [hx] at e4
        have := congrArg keyP e4
        rw [keyP_pxK (k := (v, q ++ [b])) (hl b), keyP_pxK (k := (v', q' ++ [false])) (by rw [List.length_append, List.length_singleton]; exact e3)] at this
        have hb := List.append_inj_right' (Prod.mk.inj this).2 rfl
        cases hb
        exact ⟨rfl, e1, e2⟩
  · rw [eqPx_ne hy, bP_f fun hq => hy ?_]
    · simp
    · obtain ⟨e1, e2, v', q', e3, e4, e5⟩ := hq
      rw [hx] at e4
      have := congrArg keyP e4
      rw [keyP_pxK (k := (v, q ++ [b])) (hl b), keyP_pxK (k := (v', q' ++ [false])) (by rw [List.length_append, List.length_singleton]; exact e3)] at this
      obtain ⟨rfl, e6⟩ := Prod.mk.inj this
      have hb := List.append_inj_right' e6 rfl
      have hq2 := List.append_inj_left' e6 rfl
      cases hb
      subst hq2
      rw [e5]; rfl
theorem one8_s {x y : P8} (hx : x.p.a.wf) (hy : y.p.a.wf) : Cal Try.prog 90 [.agg x.cells.toArray, .agg y.cells.toArray] (if bP (SqP x y) = true then .tuple #[.agg (oneP x).cells.toArray, .bool true] else .tuple #[.agg #[.int .u64 0, .int .u64 0, .bool false, .int .i64 0, .int .i64 0, .bool false], .bool false]) := by
  by_cases hc : sanB x.p = true ∧ 0 < x.p.n
  · obtain ⟨v, q, b, hq, hxp⟩ := snoc_of hc.1 hc.2
    have k1 := sibling_k hq b
    have k2 := compare_px hx hy
    have k3 := parent_k hq b
    rw [← hxp] at k1 k3
    have hraw := sq_raw (y := y) hq hxp
    have hpar : parP x.p = pxK (v, q) := by rw [hxp]; exact parP_kid hq b
    unfold oneP
    rw [hpar]
    generalize pxK (v, q) = pp at *
    generalize pxK (v, q ++ [!b]) = sb at *
    generalize cmpP x.p y.p = cm at *
    clear hxp hpar hc hq
    unfold eqPx at hraw
    cases hsq : bP (SqP x y) with
    | true =>
      rw [hsq] at hraw
      rw [if_pos rfl]
      dsimp only [P8.cells]
      clear hsq
      refine Cal.mk fun Wo => enter (F := fun _ => False) Try.func90 rfl Try.ntmps90 rfl ?_
      repeat (first | (apply s_box; rfl; constructor; rfl; intro _) | (apply s_alloc; rfl; intro _) | (apply s_store; rfl; rfl; (repeat (first | exact Plc.hit | apply Plc.miss)); constructor; (focus ((simp only [setAt, List.set_cons_zero, List.set_cons_succ, Nat.zero_add, Nat.reduceAdd, Nat.reduceMul]); try rfl)); kernel_rfl; rfl) | apply s_st | apply st_go | (apply st_on; rfl) | (apply st_if; rfl; intro h1; (try simp only [h1, gv_true, gv_tt])) | (focus (first | (apply y_move; rfl) | (apply y_assign; rfl) | (apply y_not; rfl) | (apply y_load; rfl; (repeat (first | exact List.Mem.head _ | apply List.Mem.tail)); (repeat (first | exact Sub.nil | apply Sub.take | apply Sub.drop)); done) | (apply y_cell; rfl; (repeat (first | exact List.Mem.head _ | apply List.Mem.tail)); (repeat (first | exact At.hit | apply At.miss)); kernel_rfl; done) | (apply y_calls; rfl; rfl; rfl; (first | assumption); done) | (apply y_or; rfl; rfl; done) | (apply y_extract; rfl; (repeat (first | exact At.hit | apply At.miss)); done) | (apply y_faddr; kernel_rfl; rfl) | (apply y_ne; rfl; rfl) | (apply y_ge; rfl; rfl) | (apply y_nes; rfl; rfl; kernel_rfl; exact inferInstance) | (apply y_bne; kernel_rfl; rfl; rfl))) | apply s_nil | apply w_seq | apply f_then | apply w_skip | apply w_ret | (apply w_cond_ff; rfl; assumption) | (apply f_ends; rfl; rfl; (repeat (first | exact Res.nil | (apply Res.tmp; rfl) | (apply Res.agg; exact inferInstance; rfl; (repeat (first | exact List.Mem.head _ | apply List.Mem.tail)); (repeat (first | exact Sub.nil | apply Sub.take | apply Sub.drop))) | (apply Res.cell; kernel_rfl; rfl; (repeat (first | exact List.Mem.head _ | apply List.Mem.tail)); (repeat (first | exact At.hit | apply At.miss))))); intro w hw; first | exact ans hw | (refine ans_b ?_ hw; (focus ((repeat (first | assumption | rfl | exact beq_self_eq_true _ | exact bne_self_eq_false _ | apply bOrF | apply bAndT | apply bNotF | apply bNotT | (focus (apply decide_eq_true; omega)) | (focus (apply decide_eq_false; omega)) | (focus (apply bEqT; omega)) | (focus (apply bEqF; omega)) | (focus (apply bNeT; omega)) | (focus (apply bNeF; omega)) | (focus (apply bOrT1; first | assumption | (apply decide_eq_true; omega))) | (focus (apply bOrT2; first | assumption | (apply decide_eq_true; omega))) | (focus (apply bAndF1; first | assumption | (apply decide_eq_false; omega))) | (focus (apply bAndF2; first | assumption | (apply decide_eq_false; omega))))); done)))) | (apply w_reg_l; rfl) | exact rfl)
    | false =>
      rw [hsq] at hraw
      rw [if_neg (by decide)]
      dsimp only [P8.cells]
      clear hsq
      refine Cal.mk fun Wo => enter (F := fun _ => False) Try.func90 rfl Try.ntmps90 rfl ?_
      repeat (first | (apply s_box; rfl; constructor; rfl; intro _) | (apply s_alloc; rfl; intro _) | (apply s_store; rfl; rfl; (repeat (first | exact Plc.hit | apply Plc.miss)); constructor; (focus ((simp only [setAt, List.set_cons_zero, List.set_cons_succ, Nat.zero_add, Nat.reduceAdd, Nat.reduceMul]); try rfl)); kernel_rfl; rfl) | apply s_st | apply st_go | (apply st_on; rfl) | (apply st_if; rfl; intro h1; (try simp only [h1, gv_true, gv_tt])) | (focus (first | (apply y_move; rfl) | (apply y_assign; rfl) | (apply y_not; rfl) | (apply y_load; rfl; (repeat (first | exact List.Mem.head _ | apply List.Mem.tail)); (repeat (first | exact Sub.nil | apply Sub.take | apply Sub.drop)); done) | (apply y_cell; rfl; (repeat (first | exact List.Mem.head _ | apply List.Mem.tail)); (repeat (first | exact At.hit | apply At.miss)); kernel_rfl; done) | (apply y_calls; rfl; rfl; rfl; (first | assumption); done) | (apply y_or; rfl; rfl; done) | (apply y_extract; rfl; (repeat (first | exact At.hit | apply At.miss)); done) | (apply y_faddr; kernel_rfl; rfl) | (apply y_ne; rfl; rfl) | (apply y_ge; rfl; rfl) | (apply y_nes; rfl; rfl; kernel_rfl; exact inferInstance) | (apply y_bne; kernel_rfl; rfl; rfl) | (apply y_build; kernel_rfl; (repeat (first | exact Bld.nil | (apply Bld.cons; exact inferInstance; rfl; constructor; kernel_rfl; (focus ((simp only [setAt, List.set_cons_zero, List.set_cons_succ, Nat.zero_add, Nat.reduceAdd, Nat.reduceMul]); try rfl))))); done))) | apply s_nil | apply w_seq | apply f_then | apply f_ret | apply w_ret | (apply w_cond_tt; rfl; assumption) | (apply f_ends; rfl; rfl; (repeat (first | exact Res.nil | (apply Res.tmp; rfl) | (apply Res.agg; exact inferInstance; rfl; (repeat (first | exact List.Mem.head _ | apply List.Mem.tail)); (repeat (first | exact Sub.nil | apply Sub.take | apply Sub.drop))) | (apply Res.cell; kernel_rfl; rfl; (repeat (first | exact List.Mem.head _ | apply List.Mem.tail)); (repeat (first | exact At.hit | apply At.miss))))); intro w hw; first | exact ans hw | (refine ans_b ?_ hw; (focus ((repeat (first | assumption | rfl | exact beq_self_eq_true _ | exact bne_self_eq_false _ | apply bOrF | apply bAndT | apply bNotF | apply bNotT | (focus (apply decide_eq_true; omega)) | (focus (apply decide_eq_false; omega)) | (focus (apply bEqT; omega)) | (focus (apply bEqF; omega)) | (focus (apply bNeT; omega)) | (focus (apply bNeF; omega)) | (focus (apply bOrT1; first | assumption | (apply decide_eq_true; omega))) | (focus (apply bOrT2; first | assumption | (apply decide_eq_true; omega))) | (focus (apply bAndF1; first | assumption | (apply decide_eq_false; omega))) | (focus (apply bAndF2; first | assumption | (apply decide_eq_false; omega))))); done)))) | (apply w_reg_l; rfl) | exact rfl)
  · have hno : ¬ SqP x y := fun h => hc (sqP_form h)
    rw [bP_f hno, if_neg (by decide)]
    have k1 := sibling_no hx (by
      cases hs : sanB x.p with
      | false => exact .inl rfl
      | true => exact .inr (Int.le_of_not_gt fun h => hc ⟨hs, h⟩))
    have k2 := compare_px hx hy
    dsimp only [P8.cells]
    refine Cal.mk fun Wo => enter (F := fun _ => False) Try.func90 rfl Try.ntmps90 rfl ?_
    repeat (first | (apply s_box; rfl; constructor; rfl; intro _) | (apply s_alloc; rfl; intro _) | (apply s_store; rfl; rfl; (repeat (first | exact Plc.hit | apply Plc.miss)); constructor; (focus ((simp only [setAt, List.set_cons_zero, List.set_cons_succ, Nat.zero_add, Nat.reduceAdd, Nat.reduceMul]); try rfl)); kernel_rfl; rfl) | apply s_st | apply st_go | (apply st_off; rfl) | (focus (first | (apply y_move; rfl) | (apply y_assign; rfl) | (apply y_not; rfl) | (apply y_load; rfl; (repeat (first | exact List.Mem.head _ | apply List.Mem.tail)); (repeat (first | exact Sub.nil | apply Sub.take | apply Sub.drop)); done) | (apply y_calls; rfl; rfl; rfl; (first | assumption); done) | (apply y_or_t; rfl; done) | (apply y_extract; rfl; (repeat (first | exact At.hit | apply At.miss)); done) | (apply y_faddr; kernel_rfl; rfl) | (apply y_build; kernel_rfl; (repeat (first | exact Bld.nil | (apply Bld.cons; exact inferInstance; rfl; constructor; kernel_rfl; (focus ((simp only [setAt, List.set_cons_zero, List.set_cons_succ, Nat.zero_add, Nat.reduceAdd, Nat.reduceMul]); try rfl))))); done))) | apply s_nil | apply w_seq | apply f_then | apply f_ret | apply w_ret | refine w_cond_t rfl ?_ | (apply f_ends; rfl; rfl; (repeat (first | exact Res.nil | (apply Res.tmp; rfl) | (apply Res.agg; exact inferInstance; rfl; (repeat (first | exact List.Mem.head _ | apply List.Mem.tail)); (repeat (first | exact Sub.nil | apply Sub.take | apply Sub.drop))) | (apply Res.cell; kernel_rfl; rfl; (repeat (first | exact List.Mem.head _ | apply List.Mem.tail)); (repeat (first | exact At.hit | apply At.miss))))); intro w hw; first | exact ans hw | (refine ans_b ?_ hw; (focus ((repeat (first | assumption | rfl | exact beq_self_eq_true _ | exact bne_self_eq_false _ | apply bOrF | apply bAndT | apply bNotF | apply bNotT | (focus (apply decide_eq_true; omega)) | (focus (apply decide_eq_false; omega)) | (focus (apply bEqT; omega)) | (focus (apply bEqF; omega)) | (focus (apply bNeT; omega)) | (focus (apply bNeF; omega)) | (focus (apply bOrT1; first | assumption | (apply decide_eq_true; omega))) | (focus (apply bOrT2; first | assumption | (apply decide_eq_true; omega))) | (focus (apply bAndF1; first | assumption | (apply decide_eq_false; omega))) | (focus (apply bAndF2; first | assumption | (apply decide_eq_false; omega))))); done)))) | (apply w_reg_l; rfl) | exact rfl)
theorem clone8_s (l : List P8) (hl : l.length ≤ 100000000) (A : Option Addr) (c : Nat) :
    Tri Try.prog 89 [.slice A l.length c] [.vw A c 6 (l.map P8.cells)] (RetS fun A' c' => (.slice A' l.length c', [.own A' c' 6 (l.map P8.cells) 56])) := by
  cases A with
  | none =>
    refine enter_t Try.func89 rfl Try.ntmps89 rfl (fun Wo Fo fro => ?_)
    refine w_know (p := l = []) (fun w hw => by simpa using has_nil hw (List.Mem.head _)) (fun he => ?_)
    subst he
    refine w_nilown (k := 6) (t := 56) ?_
    repeat (first | apply s_st | apply st_go | (focus (first | (apply y_move; rfl) | (apply y_assign; rfl) | (apply y_slnil; rfl; rfl))) | apply s_nil | apply w_seq | apply f_then | apply f_ret | apply w_ret | refine w_cond_t rfl ?_ | (apply f_end; rfl; rfl; rfl; intro w hw; first | exact ans hw | (refine ans_b ?_ hw; (focus ((repeat (first | assumption | rfl | exact beq_self_eq_true _ | exact bne_self_eq_false _ | apply bOrF | apply bAndT | apply bNotF | apply bNotT | (focus (apply decide_eq_true; omega)) | (focus (apply decide_eq_false; omega)) | (focus (apply bEqT; omega)) | (focus (apply bEqF; omega)) | (focus (apply bNeT; omega)) | (focus (apply bNeF; omega)) | (focus (apply bOrT1; first | assumption | (apply decide_eq_true; omega))) | (focus (apply bOrT2; first | assumption | (apply decide_eq_true; omega))) | (focus (apply bAndF1; first | assumption | (apply decide_eq_false; omega))) | (focus (apply bAndF2; first | assumption | (apply decide_eq_false; omega))))); done))) | (apply t_endS1 hw; rfl; (focus ((repeat (first | exact List.Sublist.refl _ | apply List.Sublist.cons_cons | apply List.Sublist.cons)); done))) | (apply t_endU hw; rfl; (focus ((repeat (first | exact List.Sublist.refl _ | apply List.Sublist.cons_cons | apply List.Sublist.cons)); done))) | (apply t_endX1 hw; rfl; (focus ((repeat (first | exact List.Sublist.refl _ | apply List.Sublist.cons_cons | apply List.Sublist.cons)); done))) | (refine t_end ⟨rfl, rfl⟩ ?_ w hw; (focus ((repeat (first | exact List.Sublist.refl _ | apply List.Sublist.cons_cons | apply List.Sublist.cons)); done))) | (apply t_endUT hw; rfl; (focus ((repeat (first | exact Tk.nil | (apply Tk.see; (first | (focus (apply VSees.vw; (repeat (first | exact List.Mem.head _ | apply List.Mem.tail)); done)) | exact VSees.nil | assumption)) | (apply Tk.see; exact VSees.nil) | (apply Tk.take; (repeat (first | exact Plc.hit | apply Plc.miss))))); done)); (focus ((repeat (first | exact List.Sublist.refl _ | apply List.Sublist.cons_cons | apply List.Sublist.cons)); done))) | (apply t_endXT hw; rfl; (repeat (first | exact Tk.nil | (apply Tk.see; (first | (focus (apply VSees.vw; (repeat (first | exact List.Mem.head _ | apply List.Mem.tail)); done)) | exact VSees.nil | assumption)) | (apply Tk.see; exact VSees.nil) | (apply Tk.take; (repeat (first | exact Plc.hit | apply Plc.miss))))); (focus ((repeat (first | exact List.Sublist.refl _ | apply List.Sublist.cons_cons | apply List.Sublist.cons)); done)))) | (apply w_reg_l; rfl) | exact rfl)
  | some a =>
    refine Tri.mono (R := RetS fun A' c' => (.slice A' (0 + l.length) c', [.own A' c' 6 ([] ++ l.map P8.cells) 56])) ?_ (fun v m' ⟨A', c', h1, h2⟩ => ⟨A', c', by rw [h1, Nat.zero_add], by rw [h2]; rfl⟩)
    refine enter_t Try.func89 rfl Try.ntmps89 rfl (fun Wo Fo fro => ?_)
    repeat (first | (apply s_bslice; (repeat (first | exact PRows.nil | (apply PRows.cons; rfl; constructor; rfl))); rfl; rfl; intro _) | (apply s_append; rfl; rfl; (repeat (first | exact Plc.hit | apply Plc.miss)); (first | (focus (apply Sees.vw; (repeat (first | exact List.Mem.head _ | apply List.Mem.tail)); done)) | (focus (apply Sees.own; (repeat (first | exact List.Mem.head _ | apply List.Mem.tail)); done)) | exact Sees.nil | assumption); (first | rfl | assumption | (focus (simp; done)) | (focus (simp; omega))); (first | rfl | assumption | (focus (simp; done)) | (focus (simp; omega))); (first | assumption | omega | (focus (simp; done)) | (focus (simp; omega))); kernel_rfl; rfl; intro _ _) | apply s_st | apply st_go | (focus (first | (apply y_move; rfl) | (apply y_assign; rfl) | (apply y_slnil; rfl; rfl))) | apply s_nil | apply w_seq | apply f_then | apply w_skip | apply w_ret | refine w_cond_f rfl ?_ | (apply f_end; rfl; rfl; rfl; intro w hw; first | exact ans hw | (refine ans_b ?_ hw; (focus ((repeat (first | assumption | rfl | exact beq_self_eq_true _ | exact bne_self_eq_false _ | apply bOrF | apply bAndT | apply bNotF | apply bNotT | (focus (apply decide_eq_true; omega)) | (focus (apply decide_eq_false; omega)) | (focus (apply bEqT; omega)) | (focus (apply bEqF; omega)) | (focus (apply bNeT; omega)) | (focus (apply bNeF; omega)) | (focus (apply bOrT1; first | assumption | (apply decide_eq_true; omega))) | (focus (apply bOrT2; first | assumption | (apply decide_eq_true; omega))) | (focus (apply bAndF1; first | assumption | (apply decide_eq_false; omega))) | (focus (apply bAndF2; first | assumption | (apply decide_eq_false; omega))))); done))) | (apply t_endS1 hw; rfl; (focus ((repeat (first | exact List.Sublist.refl _ | apply List.Sublist.cons_cons | apply List.Sublist.cons)); done))) | (apply t_endU hw; rfl; (focus ((repeat (first | exact List.Sublist.refl _ | apply List.Sublist.cons_cons | apply List.Sublist.cons)); done))) | (apply t_endX1 hw; rfl; (focus ((repeat (first | exact List.Sublist.refl _ | apply List.Sublist.cons_cons | apply List.Sublist.cons)); done))) | (refine t_end ⟨rfl, rfl⟩ ?_ w hw; (focus ((repeat (first | exact List.Sublist.refl _ | apply List.Sublist.cons_cons | apply List.Sublist.cons)); done))) | (apply t_endUT hw; rfl; (focus ((repeat (first | exact Tk.nil | (apply Tk.see; (first | (focus (apply VSees.vw; (repeat (first | exact List.Mem.head _ | apply List.Mem.tail)); done)) | exact VSees.nil | assumption)) | (apply Tk.see; exact VSees.nil) | (apply Tk.take; (repeat (first | exact Plc.hit | apply Plc.miss))))); done)); (focus ((repeat (first | exact List.Sublist.refl _ | apply List.Sublist.cons_cons | apply List.Sublist.cons)); done))) | (apply t_endXT hw; rfl; (repeat (first | exact Tk.nil | (apply Tk.see; (first | (focus (apply VSees.vw; (repeat (first | exact List.Mem.head _ | apply List.Mem.tail)); done)) | exact VSees.nil | assumption)) | (apply Tk.see; exact VSees.nil) | (apply Tk.take; (repeat (first | exact Plc.hit | apply Plc.miss))))); (focus ((repeat (first | exact List.Sublist.refl _ | apply List.Sublist.cons_cons | apply List.Sublist.cons)); done)))) | (apply w_reg_l; rfl) | exact rfl)
theorem delete8_s (l : List P8) (hl : l.length ≤ 100000000) (i : Nat) (hi : i < l.length) (A : Option Addr) (c : Nat) :
    Tri Try.prog 91 [.slice A l.length c, .int .i64 ((i : Nat) : Int), .int .i64 (((i + 1 : Nat)) : Int)] [.own A c 6 (l.map P8.cells) 56] (RetS fun A' c' => (.slice A' (l.length - 1) c', [.own A' c' 6 ((l.eraseIdx i).map P8.cells) 56])) := by
  refine Tri.mono (R := RetS fun A' c' => (.slice A' (i + ((l.map P8.cells).length - (i + 1))) c', [.own A' c' 6 ((l.map P8.cells).take i ++ (l.map P8.cells).drop (i + 1)) 56])) ?_ (fun v m' ⟨A', c', h1, h2⟩ => ⟨A', c', by rw [h1]; dsimp only; congr 1; rw [List.length_map]; omega, by rw [h2]; dsimp only; rw [← List.map_take, ← List.map_drop, ← List.map_append, ← List.eraseIdx_eq_take_drop_succ]⟩)
  refine enter_t Try.func91 rfl Try.ntmps91 rfl (fun Wo Fo fro => ?_)
  refine w_know (p := l.length ≤ c) (fun w hw => by simpa using has_cap hw (List.Mem.head _)) (fun he => ?_)
  have hE : (((i : Nat) : Int) == (((i + 1 : Nat)) : Int)) = false := by simp; omega
  have h1 : i ≤ i + 1 := by omega
  have h2 : i + 1 ≤ l.length := hi
  repeat (first | (apply s_del; rfl; rfl; (repeat (first | exact Plc.hit | apply Plc.miss)); (first | exact advA_zero | rfl); (first | exact Nat.sub_zero _ | rfl); (first | exact Nat.sub_zero _ | rfl); rfl; (first | assumption | omega | (focus (simp; done)) | (focus (simp; omega))); (first | assumption | omega | (focus (simp; done)) | (focus (simp; omega))); (first | assumption | omega | (focus (simp; done)) | (focus (simp; omega))); (first | assumption | omega | (focus (simp; done)) | (focus (simp; omega))); rfl) | (apply s_clr; rfl; (repeat (first | exact Plc.hit | apply Plc.miss)); rfl; kernel_rfl; (first | assumption | omega | (focus (simp; done)) | (focus (simp; omega))); (first | assumption | omega | (focus (simp; done)) | (focus (simp; omega))); rfl) | apply s_st | apply st_go | (focus (first | (apply y_move; rfl) | (apply y_assign; rfl) | (apply y_slice3; rfl; rfl; rfl; rfl; (first | assumption | rfl | exact (show (0 : Int) = ((0 : Nat) : Int) from rfl) | exact (show (1 : Int) = ((1 : Nat) : Int) from rfl) | exact (show (2 : Int) = ((2 : Nat) : Int) from rfl) | exact (show (3 : Int) = ((3 : Nat) : Int) from rfl)); (first | assumption | rfl | exact (show (0 : Int) = ((0 : Nat) : Int) from rfl) | exact (show (1 : Int) = ((1 : Nat) : Int) from rfl) | exact (show (2 : Int) = ((2 : Nat) : Int) from rfl) | exact (show (3 : Int) = ((3 : Nat) : Int) from rfl)); (first | assumption | rfl | exact (show (0 : Int) = ((0 : Nat) : Int) from rfl) | exact (show (1 : Int) = ((1 : Nat) : Int) from rfl) | exact (show (2 : Int) = ((2 : Nat) : Int) from rfl) | exact (show (3 : Int) = ((3 : Nat) : Int) from rfl)); (first | assumption | omega | (focus (simp; done)) | (focus (simp; omega))); (first | assumption | omega | (focus (simp; done)) | (focus (simp; omega))); (first | assumption | omega | (focus (simp; done)) | (focus (simp; omega))); done) | (apply y_len; rfl) | (apply y_slice; rfl; rfl; rfl; (first | rfl | exact (show some (0 : Int) = some (((0 : Nat)) : Int) from rfl) | exact (show some (1 : Int) = some (((1 : Nat)) : Int) from rfl) | (apply congrArg some; assumption)); (first | rfl | exact (show some (0 : Int) = some (((0 : Nat)) : Int) from rfl) | exact (show some (1 : Int) = some (((1 : Nat)) : Int) from rfl) | (apply congrArg some; assumption)); (first | assumption | omega | (focus (simp; done)) | (focus (simp; omega))); (first | assumption | omega | (focus (simp; done)) | (focus (simp; omega))); done) | (apply y_eq; rfl; rfl))) | apply s_nil | apply w_seq | apply f_then | apply w_skip | apply w_ret | (apply w_cond_ff; rfl; assumption) | (apply f_end; rfl; rfl; rfl; intro w hw; first | exact ans hw | (refine ans_b ?_ hw; (focus ((repeat (first | assumption | rfl | exact beq_self_eq_true _ | exact bne_self_eq_false _ | apply bOrF | apply bAndT | apply bNotF | apply bNotT | (focus (apply decide_eq_true; omega)) | (focus (apply decide_eq_false; omega)) | (focus (apply bEqT; omega)) | (focus (apply bEqF; omega)) | (focus (apply bNeT; omega)) | (focus (apply bNeF; omega)) | (focus (apply bOrT1; first | assumption | (apply decide_eq_true; omega))) | (focus (apply bOrT2; first | assumption | (apply decide_eq_true; omega))) | (focus (apply bAndF1; first | assumption | (apply decide_eq_false; omega))) | (focus (apply bAndF2; first | assumption | (apply decide_eq_false; omega))))); done))) | (apply t_endS1 hw; rfl; (focus ((repeat (first | exact List.Sublist.refl _ | apply List.Sublist.cons_cons | apply List.Sublist.cons)); done))) | (apply t_endU hw; rfl; (focus ((repeat (first | exact List.Sublist.refl _ | apply List.Sublist.cons_cons | apply List.Sublist.cons)); done))) | (apply t_endX1 hw; rfl; (focus ((repeat (first | exact List.Sublist.refl _ | apply List.Sublist.cons_cons | apply List.Sublist.cons)); done))) | (refine t_end ⟨rfl, rfl⟩ ?_ w hw; (focus ((repeat (first | exact List.Sublist.refl _ | apply List.Sublist.cons_cons | apply List.Sublist.cons)); done))) | (apply t_endUT hw; rfl; (focus ((repeat (first | exact Tk.nil | (apply Tk.see; (first | (focus (apply VSees.vw; (repeat (first | exact List.Mem.head _ | apply List.Mem.tail)); done)) | exact VSees.nil | assumption)) | (apply Tk.see; exact VSees.nil) | (apply Tk.take; (repeat (first | exact Plc.hit | apply Plc.miss))))); done)); (focus ((repeat (first | exact List.Sublist.refl _ | apply List.Sublist.cons_cons | apply List.Sublist.cons)); done))) | (apply t_endXT hw; rfl; (repeat (first | exact Tk.nil | (apply Tk.see; (first | (focus (apply VSees.vw; (repeat (first | exact List.Mem.head _ | apply List.Mem.tail)); done)) | exact VSees.nil | assumption)) | (apply Tk.see; exact VSees.nil) | (apply Tk.take; (repeat (first | exact Plc.hit | apply Plc.miss))))); (focus ((repeat (first | exact List.Sublist.refl _ | apply List.Sublist.cons_cons | apply List.Sublist.cons)); done)))) | (apply w_mixed_r rfl 5 [0, 1, 2, 3, 4, 5] [0, 0, 0, 0, 2, 2] _ ; kernel_rfl; kernel_rfl; exact List.Sublist.refl _; rfl) | (apply g_st1; rfl; intro W0) | (apply g_st; rfl; intro W0) | apply g_done | (apply w_reg_l; rfl) | exact rfl)
end Go.Proofs.Ytfcffemglcgbnaa.Hand
