/-
  package trie: Above, Longest.
-/
import Derived.Test.YtfcffemglcgbnaaTj
namespace Go.Proofs.Ytfcffemglcgbnaa.Hand
open Go.RowKit Go.Proofs.Ytfcffemglcgbnaa.Bits Go.Proofs.Ytfcffemglcgbnaa.Dig Go.Proofs.Ytfcffemglcgbnaa.Sq
set_option linter.unusedVariables false
set_option linter.unusedSimpArgs false
set_option maxRecDepth 100000
set_option maxHeartbeats 1000000
theorem ofP_s {a : Ad} (ha : a.wf) {j : Nat} (hj : j ≤ W a.v6) : Cal Try.prog 19 [a.val, .int .i64 ((j : Nat) : Int)] (pxK (a.v6, pth (D a.hi a.lo) j)).val := by
  have h := of_s ha a.v6 ((j : Nat) : Int)
  rw [clampW_in hj] at h
  unfold pxK
  dsimp only
  rw [digK_pth, pth_len]
  exact h
def Abv (L : List Pr) (v : Bool) (d : Nat → Bool) (j : Nat) (l : List Pr) : Prop := GoodL l ∧ ∀ e, e ∈ l ↔ e ∈ L ∧ ∃ k, k < j ∧ keyP e.p = (v, pth d k)
noncomputable def abvS (v : Bool) (d : Nat → Bool) (j : Nat) (x : Nd) (l : List Pr) : List Pr := if x.ends = true then l ++ [⟨pxK (v, pth d j), x.v⟩] else l
theorem abv_step {T : Ts} {lab : Lab} {L : List Pr} {xk : Key} (h : InvX T lab L xk) {v : Bool} {d : Nat → Bool} {j i : Nat} (hj : j ≤ W v) (hi : lab i = some (v, pth d j)) {x : Nd} (hx : T.ar[i]? = some x) {l : List Pr} (hl : Abv L v d j l) : Abv L v d (j + 1) (abvS v d j x l) := by
  unfold abvS
  by_cases he : x.ends = true
  · rw [if_pos he]
    obtain ⟨e, h1, h2⟩ := (h.ends i _ x hi hx).1 he
    have h3 := h.val i _ x hi hx e h1 h2
    have e0 : (⟨pxK (v, pth d j), x.v⟩ : Pr) = e := by rw [h3, ← h2, pxK_keyP (h.good.sane e h1)]
    rw [e0]
    refine ⟨⟨fun a ha => ?_, ?_⟩, fun a => ?_⟩
    · rcases List.mem_append.1 ha with ha | ha
      · exact hl.1.sane a ha
      · obtain rfl := List.mem_singleton.1 ha; exact h.good.sane _ h1
    · rw [List.pairwise_append]
      refine ⟨hl.1.sorted, List.pairwise_singleton .., fun a ha b hb => ?_⟩
      obtain rfl := List.mem_singleton.1 hb
      obtain ⟨_, k, hk, hk2⟩ := (hl.2 a).1 ha
      rw [hk2, h2]
      exact ltK_pre rfl (pth_pre.2 ⟨by omega, fun _ _ => rfl⟩) (fun q => by have := congrArg (fun k : Key => k.2.length) q; dsimp only at this; rw [pth_len, pth_len] at this; omega)
    · rw [List.mem_append, hl.2, List.mem_singleton]
      constructor
      · rintro (⟨q1, k, q2, q3⟩ | rfl)
        · exact ⟨q1, k, by omega, q3⟩
        · exact ⟨h1, j, by omega, h2⟩
      · rintro ⟨q1, k, q2, q3⟩
        by_cases hk : k = j
        · subst hk
          exact .inr (h.good.uniq q1 h1 (key_inj (h.good.sane _ q1) (h.good.sane _ h1) (q3.trans h2.symm)))
        · exact .inl ⟨q1, k, by omega, q3⟩
  · rw [if_neg he]
    refine ⟨hl.1, fun a => ?_⟩
    rw [hl.2]
    constructor
    · rintro ⟨q1, k, q2, q3⟩
      exact ⟨q1, k, by omega, q3⟩
    · rintro ⟨q1, k, q2, q3⟩
      by_cases hk : k = j
      · subst hk
        exact absurd ((h.ends i _ x hi hx).2 ⟨a, q1, q3⟩) he
      · exact ⟨q1, k, by omega, q3⟩
theorem abv_end {L : List Pr} (hg : GoodL L) {p : Px} (hs : sanB p = true) {c : Nat} (hk : keyP p = (p.a.v6, pth (D p.a.hi p.a.lo) c)) {j : Nat} {l : List Pr} (hl : Abv L p.a.v6 (D p.a.hi p.a.lo) j l) (hj : j = c + 1 ∨ j ≤ c ∧ ∀ e ∈ L, ¬((keyP e.p).1 = p.a.v6 ∧ pth (D p.a.hi p.a.lo) j <+: (keyP e.p).2)) : l = aboveN L p := by
  refine GoodL.ext hl.1 (hg.sub List.filter_sublist) fun e => ?_
  unfold aboveN
  rw [hl.2, List.mem_filter, cov_key, hk]
  constructor
  · rintro ⟨h1, k, h2, h3⟩
    refine ⟨h1, hg.sane e h1, hs, by rw [h3], ?_⟩
    rw [h3]
    refine pth_pre.2 ⟨?_, fun _ _ => rfl⟩
    rcases hj with hj | ⟨hj, _⟩ <;> omega
  · rintro ⟨h1, _, _, h4, h5⟩
    refine ⟨h1, (keyP e.p).2.length, ?_, Prod.ext h4 ?_⟩
    · have hle := h5.length_le
      rw [pth_len] at hle
      rcases hj with hj | ⟨hj, hn⟩
      · omega
      · rcases Nat.lt_or_ge (keyP e.p).2.length j with q | q
        · exact q
        · refine absurd ⟨h4, ?_⟩ (hn e h1)
          have e1 : pth (D p.a.hi p.a.lo) j = ((keyP e.p).2).take j := by
            have := List.prefix_iff_eq_take.1 h5
            rw [this, List.take_take, pth_take _ (by omega)]
            congr 1; omega
          rw [e1]; exact List.take_prefix _ _
    · have hle := h5.length_le
      rw [pth_len] at hle
      have := List.prefix_iff_eq_take.1 h5
      rw [pth_take _ hle] at this
      exact this
theorem above1_s {T : Ts} {i j : Nat} {x : Nd} (hx : T.ar[i]? = some x) {p : Px} (hp : p.a.wf) (hj : j ≤ W p.a.v6) {l : List Pr} (hl : l.length ≤ 1000000) (g : Nat) (Aa : Option Addr) (ca : Nat) (Af : Option Addr) (cf : Nat) (gt go gp : Nat) (Ao : Option Addr) (co : Nat) :
    Tri Try.prog 117 [.int .i64 ((i : Nat) : Int), .int .i64 ((j : Nat) : Int), .pointer (some ⟨gt, 0, none⟩), .pointer (some ⟨go, 0, none⟩), .pointer (some ⟨gp, 0, none⟩)] (.blk go [.slice Ao l.length co] 132 :: .own Ao co 5 (l.map Pr.cells) 134 :: .blk gt [.pointer (some ⟨g, 0, none⟩)] 120 :: .blk gp p.cells 30 :: tv g T Aa ca Af cf)
      (RetX fun b : Option Addr × Nat => (.bool true, [.blk go [.slice b.1 (abvS p.a.v6 (D p.a.hi p.a.lo) j x l).length b.2] 132, .own b.1 b.2 5 ((abvS p.a.v6 (D p.a.hi p.a.lo) j x l).map Pr.cells) 134, .blk gt [.pointer (some ⟨g, 0, none⟩)] 120, .blk gp p.cells 30])) := by
  have hrow := nd_row hx
  have hll : T.ar.length = (T.ar.map Nd.cells).length := by simp
  have hil : i < (T.ar.map Nd.cells).length := by simpa using (List.getElem?_eq_some_iff.1 hx).1
  have hl0 : (l.map Pr.cells).length = l.length := by simp
  have hl0' := hl0.symm
  have k1 := ofP_s hp hj
  unfold abvS
  cases he : x.ends with
  | true =>
    rw [if_pos rfl]
    rw [he] at hrow
    simp only [List.length_append, List.length_singleton, List.map_append, List.map_cons, List.map_nil]
    generalize pxK (p.a.v6, pth (D p.a.hi p.a.lo) j) = z at k1 ⊢
    refine enter_t Try.func117 rfl Try.ntmps117 rfl (fun Wo Fo fro => ?_)
    repeat (first | (apply s_alloc; rfl; intro _) | (apply s_store; rfl; rfl; (repeat (first | exact Plc.hit | apply Plc.miss)); constructor; (focus ((simp only [setAt, List.set_cons_zero, List.set_cons_succ, Nat.zero_add, Nat.reduceAdd, Nat.reduceMul]); try rfl)); kernel_rfl; rfl) | (apply s_append; rfl; rfl; (repeat (first | exact Plc.hit | apply Plc.miss)); (first | (focus (apply Sees.vw; (repeat (first | exact List.Mem.head _ | apply List.Mem.tail)); done)) | (focus (apply Sees.own; (repeat (first | exact List.Mem.head _ | apply List.Mem.tail)); done)) | exact Sees.nil | assumption); (first | rfl | assumption | (focus (simp; done)) | (focus (simp; omega))); (first | rfl | assumption | (focus (simp; done)) | (focus (simp; omega))); (first | assumption | omega | (focus (simp; done)) | (focus (simp; omega))); kernel_rfl; rfl; intro _ _) | (apply g_bslice; (repeat (first | exact PRows.nil | (apply PRows.cons; rfl; constructor; rfl))); rfl; rfl; intro _) | apply s_st | apply st_go | (focus (first | (apply y_move; rfl) | (apply y_assign; rfl) | (apply y_load; rfl; (repeat (first | exact List.Mem.head _ | apply List.Mem.tail)); (repeat (first | exact Sub.nil | apply Sub.take | apply Sub.drop)); done) | (apply y_cell; rfl; (repeat (first | exact List.Mem.head _ | apply List.Mem.tail)); (repeat (first | exact At.hit | apply At.miss)); kernel_rfl; done) | (apply y_eload; rfl; (first | (focus (apply Sees.vw; (repeat (first | exact List.Mem.head _ | apply List.Mem.tail)); done)) | (focus (apply Sees.own; (repeat (first | exact List.Mem.head _ | apply List.Mem.tail)); done)) | exact Sees.nil | assumption); (first | assumption | rfl); (repeat (first | exact Sub.nil | apply Sub.take | apply Sub.drop)); done) | (apply y_vcell; rfl; (first | (focus (apply Sees.vw; (repeat (first | exact List.Mem.head _ | apply List.Mem.tail)); done)) | (focus (apply Sees.own; (repeat (first | exact List.Mem.head _ | apply List.Mem.tail)); done)) | exact Sees.nil | assumption); (repeat (first | exact At.hit | apply At.miss)); kernel_rfl; done) | (apply y_calls; rfl; rfl; rfl; (first | assumption); done) | (apply y_faddr; kernel_rfl; rfl) | (apply y_ixaddr; rfl; rfl; (first | (focus (apply Sees.vw; (repeat (first | exact List.Mem.head _ | apply List.Mem.tail)); done)) | (focus (apply Sees.own; (repeat (first | exact List.Mem.head _ | apply List.Mem.tail)); done)) | exact Sees.nil | assumption); (first | rfl | assumption | (focus (simp; done)) | (focus (simp; omega))); (first | assumption | rfl | exact (show (0 : Int) = ((0 : Nat) : Int) from rfl) | exact (show (1 : Int) = ((1 : Nat) : Int) from rfl) | exact (show (2 : Int) = ((2 : Nat) : Int) from rfl) | exact (show (3 : Int) = ((3 : Nat) : Int) from rfl)); (first | assumption | omega | (focus (simp; done)) | (focus (simp; omega))); done) | (apply y_nilc; rfl) | (apply y_build; kernel_rfl; (repeat (first | exact Bld.nil | (apply Bld.cons; exact inferInstance; rfl; constructor; kernel_rfl; (focus ((simp only [setAt, List.set_cons_zero, List.set_cons_succ, Nat.zero_add, Nat.reduceAdd, Nat.reduceMul]); try rfl))))); done))) | apply s_nil | apply w_seq | apply f_then | apply w_ret | refine w_cond_t rfl ?_ | (apply f_end; rfl; rfl; rfl; intro w hw; first | exact ans hw | (refine ans_b ?_ hw; (focus ((repeat (first | assumption | rfl | exact beq_self_eq_true _ | exact bne_self_eq_false _ | apply bOrF | apply bAndT | apply bNotF | apply bNotT | (focus (apply decide_eq_true; omega)) | (focus (apply decide_eq_false; omega)) | (focus (apply bEqT; omega)) | (focus (apply bEqF; omega)) | (focus (apply bNeT; omega)) | (focus (apply bNeF; omega)) | (focus (apply bOrT1; first | assumption | (apply decide_eq_true; omega))) | (focus (apply bOrT2; first | assumption | (apply decide_eq_true; omega))) | (focus (apply bAndF1; first | assumption | (apply decide_eq_false; omega))) | (focus (apply bAndF2; first | assumption | (apply decide_eq_false; omega))))); done))) | (apply t_endS1 hw; rfl; (focus ((repeat (first | exact List.Sublist.refl _ | apply List.Sublist.cons_cons | apply List.Sublist.cons)); done))) | (apply t_endU hw; rfl; (focus ((repeat (first | exact List.Sublist.refl _ | apply List.Sublist.cons_cons | apply List.Sublist.cons)); done))) | (apply t_endX1 hw; rfl; (focus ((repeat (first | exact List.Sublist.refl _ | apply List.Sublist.cons_cons | apply List.Sublist.cons)); done))) | (refine t_end ⟨rfl, rfl⟩ ?_ w hw; (focus ((repeat (first | exact List.Sublist.refl _ | apply List.Sublist.cons_cons | apply List.Sublist.cons)); done))) | (apply t_endUT hw; rfl; (focus ((repeat (first | exact Tk.nil | (apply Tk.see; (first | (focus (apply VSees.vw; (repeat (first | exact List.Mem.head _ | apply List.Mem.tail)); done)) | exact VSees.nil | assumption)) | (apply Tk.see; exact VSees.nil) | (apply Tk.take; (repeat (first | exact Plc.hit | apply Plc.miss))))); done)); (focus ((repeat (first | exact List.Sublist.refl _ | apply List.Sublist.cons_cons | apply List.Sublist.cons)); done))) | (apply t_endXT hw; rfl; (repeat (first | exact Tk.nil | (apply Tk.see; (first | (focus (apply VSees.vw; (repeat (first | exact List.Mem.head _ | apply List.Mem.tail)); done)) | exact VSees.nil | assumption)) | (apply Tk.see; exact VSees.nil) | (apply Tk.take; (repeat (first | exact Plc.hit | apply Plc.miss))))); (focus ((repeat (first | exact List.Sublist.refl _ | apply List.Sublist.cons_cons | apply List.Sublist.cons)); done)))) | (apply w_mixed_r rfl 3 [0, 1, 2, 3, 5, 6, 4, 7, 8] [0, 0, 0, 0, 0, 0, 2, 2, 2] _ ; kernel_rfl; kernel_rfl; exact List.Sublist.refl _; rfl) | (apply g_st1; rfl; intro W0) | (apply g_st; rfl; intro W0) | apply g_done | (apply w_reg_l; rfl) | exact rfl)
  | false =>
    rw [if_neg (by decide)]
    rw [he] at hrow
    refine enter_t Try.func117 rfl Try.ntmps117 rfl (fun Wo Fo fro => ?_)
    repeat (first | (apply s_alloc; rfl; intro _) | (apply s_store; rfl; rfl; (repeat (first | exact Plc.hit | apply Plc.miss)); constructor; (focus ((simp only [setAt, List.set_cons_zero, List.set_cons_succ, Nat.zero_add, Nat.reduceAdd, Nat.reduceMul]); try rfl)); kernel_rfl; rfl) | apply s_st | apply st_go | (focus (first | (apply y_move; rfl) | (apply y_assign; rfl) | (apply y_cell; rfl; (repeat (first | exact List.Mem.head _ | apply List.Mem.tail)); (repeat (first | exact At.hit | apply At.miss)); kernel_rfl; done) | (apply y_eload; rfl; (first | (focus (apply Sees.vw; (repeat (first | exact List.Mem.head _ | apply List.Mem.tail)); done)) | (focus (apply Sees.own; (repeat (first | exact List.Mem.head _ | apply List.Mem.tail)); done)) | exact Sees.nil | assumption); (first | assumption | rfl); (repeat (first | exact Sub.nil | apply Sub.take | apply Sub.drop)); done) | (apply y_vcell; rfl; (first | (focus (apply Sees.vw; (repeat (first | exact List.Mem.head _ | apply List.Mem.tail)); done)) | (focus (apply Sees.own; (repeat (first | exact List.Mem.head _ | apply List.Mem.tail)); done)) | exact Sees.nil | assumption); (repeat (first | exact At.hit | apply At.miss)); kernel_rfl; done) | (apply y_faddr; kernel_rfl; rfl) | (apply y_ixaddr; rfl; rfl; (first | (focus (apply Sees.vw; (repeat (first | exact List.Mem.head _ | apply List.Mem.tail)); done)) | (focus (apply Sees.own; (repeat (first | exact List.Mem.head _ | apply List.Mem.tail)); done)) | exact Sees.nil | assumption); (first | rfl | assumption | (focus (simp; done)) | (focus (simp; omega))); (first | assumption | rfl | exact (show (0 : Int) = ((0 : Nat) : Int) from rfl) | exact (show (1 : Int) = ((1 : Nat) : Int) from rfl) | exact (show (2 : Int) = ((2 : Nat) : Int) from rfl) | exact (show (3 : Int) = ((3 : Nat) : Int) from rfl)); (first | assumption | omega | (focus (simp; done)) | (focus (simp; omega))); done) | (apply y_nilc; rfl))) | apply s_nil | apply w_seq | apply f_then | apply w_skip | apply w_ret | refine w_cond_f rfl ?_ | (apply f_end; rfl; rfl; rfl; intro w hw; first | exact ans hw | (refine ans_b ?_ hw; (focus ((repeat (first | assumption | rfl | exact beq_self_eq_true _ | exact bne_self_eq_false _ | apply bOrF | apply bAndT | apply bNotF | apply bNotT | (focus (apply decide_eq_true; omega)) | (focus (apply decide_eq_false; omega)) | (focus (apply bEqT; omega)) | (focus (apply bEqF; omega)) | (focus (apply bNeT; omega)) | (focus (apply bNeF; omega)) | (focus (apply bOrT1; first | assumption | (apply decide_eq_true; omega))) | (focus (apply bOrT2; first | assumption | (apply decide_eq_true; omega))) | (focus (apply bAndF1; first | assumption | (apply decide_eq_false; omega))) | (focus (apply bAndF2; first | assumption | (apply decide_eq_false; omega))))); done))) | (apply t_endS1 hw; rfl; (focus ((repeat (first | exact List.Sublist.refl _ | apply List.Sublist.cons_cons | apply List.Sublist.cons)); done))) | (apply t_endU hw; rfl; (focus ((repeat (first | exact List.Sublist.refl _ | apply List.Sublist.cons_cons | apply List.Sublist.cons)); done))) | (apply t_endX1 hw; rfl; (focus ((repeat (first | exact List.Sublist.refl _ | apply List.Sublist.cons_cons | apply List.Sublist.cons)); done))) | (refine t_end ⟨rfl, rfl⟩ ?_ w hw; (focus ((repeat (first | exact List.Sublist.refl _ | apply List.Sublist.cons_cons | apply List.Sublist.cons)); done))) | (apply t_endUT hw; rfl; (focus ((repeat (first | exact Tk.nil | (apply Tk.see; (first | (focus (apply VSees.vw; (repeat (first | exact List.Mem.head _ | apply List.Mem.tail)); done)) | exact VSees.nil | assumption)) | (apply Tk.see; exact VSees.nil) | (apply Tk.take; (repeat (first | exact Plc.hit | apply Plc.miss))))); done)); (focus ((repeat (first | exact List.Sublist.refl _ | apply List.Sublist.cons_cons | apply List.Sublist.cons)); done))) | (apply t_endXT hw; rfl; (repeat (first | exact Tk.nil | (apply Tk.see; (first | (focus (apply VSees.vw; (repeat (first | exact List.Mem.head _ | apply List.Mem.tail)); done)) | exact VSees.nil | assumption)) | (apply Tk.see; exact VSees.nil) | (apply Tk.take; (repeat (first | exact Plc.hit | apply Plc.miss))))); (focus ((repeat (first | exact List.Sublist.refl _ | apply List.Sublist.cons_cons | apply List.Sublist.cons)); done)))) | (apply w_reg_l; rfl) | exact rfl)
end Go.Proofs.Ytfcffemglcgbnaa.Hand
