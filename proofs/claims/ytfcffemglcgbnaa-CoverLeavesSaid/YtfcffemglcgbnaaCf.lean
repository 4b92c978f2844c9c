/-
  CoverLeaves.
-/
import Derived.Test.YtfcffemglcgbnaaCc
namespace Go.Proofs.Ytfcffemglcgbnaa.Hand
open Go.RowKit Go.Proofs.Ytfcffemglcgbnaa.Bits Go.Proofs.Ytfcffemglcgbnaa.Dig Go.Proofs.Ytfcffemglcgbnaa.Sq
set_option linter.unusedVariables false
set_option linter.unusedSimpArgs false
set_option maxRecDepth 100000
set_option maxHeartbeats 8000000
theorem pcs_mem {L : List Pr} (hg : GoodL L) {v : Bool} : ∀ (k : Nat) (q0 : List Bool), q0.length + k = W v → ∀ x ∈ pcsK L v k q0, ∃ q : List Bool, q0 <+: q ∧ q.length ≤ W v ∧ x = pieceN L (pxK (v, q)) ∧ insN L (pxK (v, q)) = false ∧ (q = q0 ∨ (∃ q1 b, q = q1 ++ [b] ∧ insN L (pxK (v, q1)) = true))
  | 0, q0, h, x, hx => by
    rw [pcsK] at hx
    obtain rfl := List.mem_singleton.1 hx
    exact ⟨q0, List.prefix_refl _, by omega, rfl, insK_full hg (by omega), .inl rfl⟩
  | k + 1, q0, h, x, hx => by
    rw [pcsK] at hx
    split at hx
    · rename_i hi
      have step : ∀ b : Bool, x ∈ pcsK L v k (q0 ++ [b]) → _ := fun b hb => pcs_mem hg k (q0 ++ [b]) (by rw [List.length_append, List.length_singleton]; omega) x hb
      have fin : ∀ b : Bool, x ∈ pcsK L v k (q0 ++ [b]) → ∃ q : List Bool, q0 <+: q ∧ q.length ≤ W v ∧ x = pieceN L (pxK (v, q)) ∧ insN L (pxK (v, q)) = false ∧ (q = q0 ∨ (∃ q1 b, q = q1 ++ [b] ∧ insN L (pxK (v, q1)) = true)) := fun b hb => by
        obtain ⟨q, h1, h2, h3, h4, h5⟩ := step b hb
        refine ⟨q, (List.prefix_append _ _).trans h1, h2, h3, h4, .inr ?_⟩
        rcases h5 with rfl | h5
        · exact ⟨q0, b, rfl, hi⟩
        · exact h5
      rcases List.mem_append.1 hx with hx | hx
      · exact fin _ hx
      · exact fin _ hx
    · rename_i hi
      obtain rfl := List.mem_singleton.1 hx
      exact ⟨q0, List.prefix_refl _, by omega, rfl, by simpa using hi, .inl rfl⟩
theorem blk_first {L : List Pr} {p : Px} (hs : sanB p = true) (hi : insN L p = false) : cvB (blkP L p.a) p = true := by
  obtain ⟨q1, q2, q3⟩ := con_ofP (con_first hs)
  have h9 := ofP_cov (no_blk (L := L) (a := p.a) (c := p.n.toNat) (by rw [← q2]; exact hi)) q1
  rw [← q2] at h9
  exact h9
theorem pcs_leaf {L : List Pr} (hg : GoodL L) {p : Px} {x : P8} (hx : x ∈ pcsN L p) : x.p.a.wf ∧ (leafX L (blkP L x.p.a)).2 = x.ok ∧ (leafX L (blkP L x.p.a)).1.v = x.v ∧ (x.p = blkP L x.p.a ∨ (x.p = p ∧ cvB (blkP L x.p.a) p = true)) := by
  unfold pcsN at hx
  split at hx
  · rename_i hs
    have hk := key_le hs
    obtain ⟨q, h1, h2, rfl, h4, h5⟩ := pcs_mem hg _ _ (by omega) x hx
    generalize hv : (keyP p).1 = v at *
    have hsx := sanB_pxK (k := (v, q)) h2
    have hgb := (gov_con hg (blk_con L (pxK (v, q)).a) (blk_no L (pxK (v, q)).a)).trans (gov_con hg (con_first hsx) h4).symm
    refine ⟨pxK_wf _, ?_, ?_, ?_⟩
    · rw [leafX_ok]; unfold pieceN; rw [hgb]
    · rw [leafX_v]; unfold pieceN; rw [hgb]
    · unfold pieceN
      dsimp only
      have hcv := blk_first hsx h4
      rcases h5 with rfl | ⟨q1, b, rfl, hi⟩
      · right
        have : pxK (v, (keyP p).2) = p := by rw [← hv]; exact pxK_keyP hs
        rw [this] at hcv ⊢
        exact ⟨rfl, hcv⟩
      · left
        refine cv_anti ?_ hcv
        obtain ⟨c1, c2, c3⟩ := con_ofP (con_first hsx)
        have hlen : (pxK (v, q1 ++ [b])).n.toNat = q1.length + 1 := by show (((q1 ++ [b]).length : Nat) : Int).toNat = _; rw [Int.toNat_natCast, List.length_append, List.length_singleton]
        have hpar : pxK (v, q1) = ofP (pxK (v, q1 ++ [b])).a q1.length := by
          have hl1 : q1.length ≤ W v := by rw [List.length_append, List.length_singleton] at h2; omega
          refine key_inj (sanB_pxK (k := (v, q1)) hl1) (ofP_sane hl1) ?_
          rw [keyP_pxK (k := (v, q1)) hl1, ofP_key (show q1.length ≤ W (pxK (v, q1 ++ [b])).a.v6 from hl1)]
          refine Prod.ext rfl ?_
          have hk2 := congrArg Prod.snd (keyP_pxK (k := (v, q1 ++ [b])) h2)
          unfold keyP at hk2
          dsimp only at hk2
          rw [hlen, pth_succ] at hk2
          exact (List.append_inj_left' hk2 rfl).symm
        have hlt : q1.length < blkN L (pxK (v, q1 ++ [b])).a := by
          refine Nat.lt_of_not_le fun hle => ?_
          have := ins_down (ofP_cov hle (by rw [hlen] at c1; omega)) (blk_no L (pxK (v, q1 ++ [b])).a)
          rw [← hpar, hi] at this
          cases this
        have h9 := ofP_cov (a := (pxK (v, q1 ++ [b])).a) (c := (pxK (v, q1 ++ [b])).n.toNat) (by rw [hlen]; exact hlt) (blk_le L (pxK (v, q1 ++ [b])).a)
        rw [← c2] at h9
        exact h9
  · cases hx
theorem coverLeaves_s (l : List Pr) (hw : ∀ e ∈ l, e.p.a.wf) {p : Px} (hp : p.a.wf) (A0 : Option Addr) (c0 : Nat) :
    RCal Try.prog 6 [.slice A0 l.length c0, p.val] [.vw A0 c0 5 (l.map Pr.cells)] (.bool true) := by
  have k0 := awake08_s
  have ks := sane_px hp
  by_cases hl : l.length ≤ 30
  · cases hs : sanB p with
    | false =>
      rw [hs] at ks
      have hE : (decide ((l.length : Int) > 30) || !false) = true := by simp
      refine enter_r rfl Try.func6 rfl Try.ntmps6 rfl (fun Wo => ?_)
      repeat (first | (apply s_box; rfl; constructor; rfl; intro _) | apply s_st | apply st_go | (apply st_one; rfl; (focus ((repeat (first | assumption | rfl | exact beq_self_eq_true _ | exact bne_self_eq_false _ | apply bOrF | apply bAndT | apply bNotF | apply bNotT | (focus (apply decide_eq_true; omega)) | (focus (apply decide_eq_false; omega)) | (focus (apply bEqT; omega)) | (focus (apply bEqF; omega)) | (focus (apply bNeT; omega)) | (focus (apply bNeF; omega)) | (focus (apply bOrT1; first | assumption | (apply decide_eq_true; omega))) | (focus (apply bOrT2; first | assumption | (apply decide_eq_true; omega))) | (focus (apply bAndF1; first | assumption | (apply decide_eq_false; omega))) | (focus (apply bAndF2; first | assumption | (apply decide_eq_false; omega))))); done))) | (focus (first | (apply y_move; rfl) | (apply y_assign; rfl) | (apply y_not; rfl) | (apply y_load; rfl; (repeat (first | exact List.Mem.head _ | apply List.Mem.tail)); (repeat (first | exact Sub.nil | apply Sub.take | apply Sub.drop)); done) | (apply y_calls; rfl; rfl; rfl; (first | assumption); done) | (apply y_orp; rfl; rfl; done) | (apply y_len; rfl) | (apply y_gt; rfl; rfl))) | apply s_nil | apply w_seq | apply f_then | apply f_ret | apply w_ret | (apply w_cond_tt; rfl; assumption) | (apply f_end; rfl; rfl; rfl; intro w hw; first | exact ans hw | (refine ans_b ?_ hw; (focus ((repeat (first | assumption | rfl | exact beq_self_eq_true _ | exact bne_self_eq_false _ | apply bOrF | apply bAndT | apply bNotF | apply bNotT | (focus (apply decide_eq_true; omega)) | (focus (apply decide_eq_false; omega)) | (focus (apply bEqT; omega)) | (focus (apply bEqF; omega)) | (focus (apply bNeT; omega)) | (focus (apply bNeF; omega)) | (focus (apply bOrT1; first | assumption | (apply decide_eq_true; omega))) | (focus (apply bOrT2; first | assumption | (apply decide_eq_true; omega))) | (focus (apply bAndF1; first | assumption | (apply decide_eq_false; omega))) | (focus (apply bAndF2; first | assumption | (apply decide_eq_false; omega))))); done)))) | (apply w_reg_l; rfl) | exact rfl)
    | true =>
      rw [hs] at ks
      have k1 := filled8_p l hw (by omega) A0 c0
      have hti := fillN_ri l
      generalize fillN l = s at *
      obtain ⟨L, mo⟩ := s
      dsimp only at k1 hti
      have hg := hti.good
      have hLl := hti.len
      have hL : L.length ≤ 100000 := by omega
      have a1 := fun g bs => pieces_p (g := g) (L := L) (mo := mo) (N := 200) (H := 200) (bs := bs) hL hp 500 500 rfl
      have hleaf := fun x hx => pcs_leaf hg (p := p) (x := x) (List.mem_of_mem_take (i := 500) hx)
      have hpos : 0 < ((pcsN L p).take 500).length := by
        rw [List.length_take]
        unfold pcsN
        rw [if_pos hs]
        have := pcsQ_one (L := L) (keyP p).1 (keyP p).2
        omega
      have hcap : ((pcsN L p).take 500).length ≤ 500 := by rw [List.length_take]; omega
      generalize (pcsN L p).take 500 = R at *
      generalize decide ((pcsN L p).length ≤ 500) = ok1 at *
      clear hti hw
      refine enter_r rfl Try.func6 rfl Try.ntmps6 rfl (fun Wo => ?_)
      repeat (first | (apply s_box; rfl; constructor; rfl; intro _) | (apply s_trix; rfl; rfl; rfl; assumption; (repeat (first | exact Tk.nil | (apply Tk.see; (first | (focus (apply VSees.vw; (repeat (first | exact List.Mem.head _ | apply List.Mem.tail)); done)) | exact VSees.nil | assumption)) | (apply Tk.see; exact VSees.nil) | (apply Tk.take; (repeat (first | exact Plc.hit | apply Plc.miss))))); rfl; intro _; (try dsimp only [List.cons_append, List.nil_append])) | (apply s_fcalq; rfl; rfl; rfl; (exact a1 _); (focus ((repeat (first | exact SeesAll.nil | (apply SeesAll.cons; (first | (focus (apply Sees.vw; (repeat (first | exact List.Mem.head _ | apply List.Mem.tail)); done)) | (focus (apply Sees.own; (repeat (first | exact List.Mem.head _ | apply List.Mem.tail)); done)) | exact Sees.nil | assumption)) | (apply SeesAll.mem; (repeat (first | exact List.Mem.head _ | apply List.Mem.tail))))); done)); (first | exact want_none rfl | (apply want_on; rfl; (first | rfl | assumption | (focus ((repeat (first | assumption | rfl | exact beq_self_eq_true _ | exact bne_self_eq_false _ | apply bOrF | apply bAndT | apply bNotF | apply bNotT | (focus (apply decide_eq_true; omega)) | (focus (apply decide_eq_false; omega)) | (focus (apply bEqT; omega)) | (focus (apply bEqF; omega)) | (focus (apply bNeT; omega)) | (focus (apply bNeF; omega)) | (focus (apply bOrT1; first | assumption | (apply decide_eq_true; omega))) | (focus (apply bOrT2; first | assumption | (apply decide_eq_true; omega))) | (focus (apply bAndF1; first | assumption | (apply decide_eq_false; omega))) | (focus (apply bAndF2; first | assumption | (apply decide_eq_false; omega))))); done))))); rfl; intro _; (try dsimp only [List.cons_append, List.nil_append])) | apply s_st | apply st_go | (apply st_one; rfl; (focus ((repeat (first | assumption | rfl | exact beq_self_eq_true _ | exact bne_self_eq_false _ | apply bOrF | apply bAndT | apply bNotF | apply bNotT | (focus (apply decide_eq_true; omega)) | (focus (apply decide_eq_false; omega)) | (focus (apply bEqT; omega)) | (focus (apply bEqF; omega)) | (focus (apply bNeT; omega)) | (focus (apply bNeF; omega)) | (focus (apply bOrT1; first | assumption | (apply decide_eq_true; omega))) | (focus (apply bOrT2; first | assumption | (apply decide_eq_true; omega))) | (focus (apply bAndF1; first | assumption | (apply decide_eq_false; omega))) | (focus (apply bAndF2; first | assumption | (apply decide_eq_false; omega))))); done))) | (focus (first | (apply y_move; rfl) | (apply y_assign; rfl) | (apply y_not; rfl) | (apply y_load; rfl; (repeat (first | exact List.Mem.head _ | apply List.Mem.tail)); (repeat (first | exact Sub.nil | apply Sub.take | apply Sub.drop)); done) | (apply y_calls; rfl; rfl; rfl; (first | assumption | exact a1 _); done) | (apply y_orp; rfl; rfl; done) | (apply y_extract; rfl; (repeat (first | exact At.hit | apply At.miss)); done) | (apply y_len; rfl) | (apply y_eq; rfl; rfl) | (apply y_gt; rfl; rfl))) | apply s_nil | apply w_seq | apply f_then | apply w_block | apply w_skip | (apply w_cond_ff; rfl; (focus ((repeat (first | assumption | rfl | exact beq_self_eq_true _ | exact bne_self_eq_false _ | apply bOrF | apply bAndT | apply bNotF | apply bNotT | (focus (apply decide_eq_true; omega)) | (focus (apply decide_eq_false; omega)) | (focus (apply bEqT; omega)) | (focus (apply bEqF; omega)) | (focus (apply bNeT; omega)) | (focus (apply bNeF; omega)) | (focus (apply bOrT1; first | assumption | (apply decide_eq_true; omega))) | (focus (apply bOrT2; first | assumption | (apply decide_eq_true; omega))) | (focus (apply bAndF1; first | assumption | (apply decide_eq_false; omega))) | (focus (apply bAndF2; first | assumption | (apply decide_eq_false; omega))))); done))) | (apply w_reg_l; rfl) | exact rfl)
      rename_i gp b b2
      obtain ⟨bs, g⟩ := b
      obtain ⟨A, c⟩ := b2
      dsimp only
      clear a1 k1 k0
      refine w_loopm (fun i : Nat => [(9, .int .i64 ((i : Nat) : Int))]) (fun i => [.own A c 6 (R.map P8.cells) 56, ribP g L mo 200 200 bs, .blk gp p.cells 30, .vw A0 c0 5 (l.map Pr.cells)]) (fun i => i ≤ R.length) (fun i => R.length - i) 0 (Nat.zero_le _) ?_ ?_ ?_
      · (repeat (first | exact Cov.nil | (apply Cov.cons; rfl) | (apply Cov.seen; rfl)))
      · (repeat (first | exact List.Sublist.refl _ | apply List.Sublist.cons_cons | apply List.Sublist.cons))
      · rintro i hi S hS
        by_cases hlt : i < R.length
        · have hrow := map_get (f := P8.cells) hlt
          obtain ⟨hxw, h1, h2, h3⟩ := hleaf _ (List.getElem_mem hlt)
          have hB := hS (i + 1) hlt (by omega)
          rw [← wrap_suc (i := i) (by omega)] at hB
          clear hleaf hpos hS
          generalize R[i] = x at *
          have a2 := block_p (g := g) (L := L) (mo := mo) (N := 200) (H := 200) (bs := bs) hxw
          have a3 := leaf_p (g := g) (L := L) (mo := mo) (N := 200) (H := 200) (bs := bs) hL hxw
          have a4 := cov_s (blk_wf L x.p.a) hp
          have hE : (((!eqPx x.p (blkP L x.p.a) && (!eqPx x.p p || !cvB (blkP L x.p.a) p)) || ((leafX L (blkP L x.p.a)).2 != x.ok)) || ((leafX L (blkP L x.p.a)).1.v != x.v)) = false := by
            rw [h1, h2, bne_self_eq_false, bne_self_eq_false, Bool.or_false, Bool.or_false]
            rcases h3 with h3 | ⟨h3, h4⟩
            · rw [eqPx_iff.2 h3]; rfl
            · rw [eqPx_iff.2 h3, h4, Bool.not_true, Bool.or_self, Bool.and_false]
          clear h1 h2 h3
          generalize leafX L (blkP L x.p.a) = y at *
          obtain ⟨y, ok⟩ := y
          generalize cvB (blkP L x.p.a) p = cv at *
          generalize blkP L x.p.a = b at *
          unfold eqPx at hE
          dsimp only [Pr.cells, P8.cells] at a3 hrow hE
          repeat (first | (apply s_alloc; rfl; intro _) | (apply s_store; rfl; rfl; (repeat (first | exact Plc.hit | apply Plc.miss)); constructor; (focus ((simp only [setAt, List.set_cons_zero, List.set_cons_succ, Nat.zero_add, Nat.reduceAdd, Nat.reduceMul]); try rfl)); kernel_rfl; rfl) | apply s_st | apply q_st | apply st_go | (apply st_if2; rfl; intro h1 h2; (try simp only [h1, h2, gv_true, gv_tt])) | (apply st_if; rfl; intro h1; (try simp only [h1, gv_true, gv_tt])) | (focus (first | (apply y_move; rfl) | (apply y_assign; rfl) | (apply y_not; rfl) | (apply y_load; rfl; (repeat (first | exact List.Mem.head _ | apply List.Mem.tail)); (repeat (first | exact Sub.nil | apply Sub.take | apply Sub.drop)); done) | (apply y_cell; rfl; (repeat (first | exact List.Mem.head _ | apply List.Mem.tail)); (repeat (first | exact At.hit | apply At.miss)); kernel_rfl; done) | (apply y_eload; rfl; (first | (focus (apply Sees.vw; (repeat (first | exact List.Mem.head _ | apply List.Mem.tail)); done)) | (focus (apply Sees.own; (repeat (first | exact List.Mem.head _ | apply List.Mem.tail)); done)) | exact Sees.nil | assumption); (first | assumption | rfl); (repeat (first | exact Sub.nil | apply Sub.take | apply Sub.drop)); done) | (apply y_ecell; rfl; (first | (focus (apply Sees.vw; (repeat (first | exact List.Mem.head _ | apply List.Mem.tail)); done)) | (focus (apply Sees.own; (repeat (first | exact List.Mem.head _ | apply List.Mem.tail)); done)) | exact Sees.nil | assumption); (first | assumption | rfl); (repeat (first | exact At.hit | apply At.miss)); kernel_rfl; done) | (apply y_calls; rfl; rfl; rfl; (first | assumption); done) | (apply y_rcal; rfl; rfl; rfl; (first | assumption); (repeat (first | exact SeesAll.nil | (apply SeesAll.cons; (first | (focus (apply Sees.vw; (repeat (first | exact List.Mem.head _ | apply List.Mem.tail)); done)) | (focus (apply Sees.own; (repeat (first | exact List.Mem.head _ | apply List.Mem.tail)); done)) | exact Sees.nil | assumption)) | (apply SeesAll.mem; (repeat (first | exact List.Mem.head _ | apply List.Mem.tail))))); done) | (apply y_and; rfl; rfl; done) | (apply y_or; rfl; rfl; done) | (apply y_extract; rfl; (repeat (first | exact At.hit | apply At.miss)); done) | (apply y_efaddr; kernel_rfl; rfl) | (apply y_faddr; kernel_rfl; rfl) | (apply y_ixaddr; rfl; rfl; (first | (focus (apply Sees.vw; (repeat (first | exact List.Mem.head _ | apply List.Mem.tail)); done)) | (focus (apply Sees.own; (repeat (first | exact List.Mem.head _ | apply List.Mem.tail)); done)) | exact Sees.nil | assumption); (first | rfl | assumption | (focus (simp; done)) | (focus (simp; omega))); (first | assumption | rfl | exact (show (0 : Int) = ((0 : Nat) : Int) from rfl) | exact (show (1 : Int) = ((1 : Nat) : Int) from rfl) | exact (show (2 : Int) = ((2 : Nat) : Int) from rfl) | exact (show (3 : Int) = ((3 : Nat) : Int) from rfl)); (first | assumption | omega | (focus (simp; done)) | (focus (simp; omega))); done) | (apply y_len; rfl) | (apply y_ne; rfl; rfl) | (apply y_lt; rfl; rfl) | (apply y_add; rfl; rfl) | (apply y_nes; rfl; rfl; kernel_rfl; exact inferInstance) | (apply y_bne; kernel_rfl; rfl; rfl))) | apply q_nil | apply s_nil | apply w_seq | apply f_then | apply w_block | apply f_norm_block | (apply f_back; assumption; (repeat (first | exact Cov.nil | (apply Cov.cons; rfl) | (apply Cov.seen; rfl))); (focus ((repeat (first | exact List.Sublist.refl _ | apply List.Sublist.cons_cons | apply List.Sublist.cons)); done))) | apply w_skip | (apply w_cond_ff; rfl; assumption) | (apply w_cond_tt; rfl; (focus ((repeat (first | assumption | rfl | exact beq_self_eq_true _ | exact bne_self_eq_false _ | apply bOrF | apply bAndT | apply bNotF | apply bNotT | (focus (apply decide_eq_true; omega)) | (focus (apply decide_eq_false; omega)) | (focus (apply bEqT; omega)) | (focus (apply bEqF; omega)) | (focus (apply bNeT; omega)) | (focus (apply bNeF; omega)) | (focus (apply bOrT1; first | assumption | (apply decide_eq_true; omega))) | (focus (apply bOrT2; first | assumption | (apply decide_eq_true; omega))) | (focus (apply bAndF1; first | assumption | (apply decide_eq_false; omega))) | (focus (apply bAndF2; first | assumption | (apply decide_eq_false; omega))))); done))) | (apply w_draw_l; rfl; kernel_rfl; rfl; kernel_rfl) | (apply w_reg_l; rfl) | exact rfl)
        · obtain rfl : i = R.length := by omega
          clear hS hleaf hpos
          repeat (first | apply s_st | apply st_go | (focus (first | (apply y_move; rfl) | (apply y_assign; rfl) | (apply y_len; rfl) | (apply y_lt; rfl; rfl))) | apply s_nil | apply w_seq | apply f_then | apply w_exit | apply f_out | apply f_exit_block | apply w_ret | (apply w_cond_ff; rfl; (focus ((repeat (first | assumption | rfl | exact beq_self_eq_true _ | exact bne_self_eq_false _ | apply bOrF | apply bAndT | apply bNotF | apply bNotT | (focus (apply decide_eq_true; omega)) | (focus (apply decide_eq_false; omega)) | (focus (apply bEqT; omega)) | (focus (apply bEqF; omega)) | (focus (apply bNeT; omega)) | (focus (apply bNeF; omega)) | (focus (apply bOrT1; first | assumption | (apply decide_eq_true; omega))) | (focus (apply bOrT2; first | assumption | (apply decide_eq_true; omega))) | (focus (apply bAndF1; first | assumption | (apply decide_eq_false; omega))) | (focus (apply bAndF2; first | assumption | (apply decide_eq_false; omega))))); done))) | (apply f_end; rfl; rfl; rfl; intro w hw; first | exact ans hw | (refine ans_b ?_ hw; (focus ((repeat (first | assumption | rfl | exact beq_self_eq_true _ | exact bne_self_eq_false _ | apply bOrF | apply bAndT | apply bNotF | apply bNotT | (focus (apply decide_eq_true; omega)) | (focus (apply decide_eq_false; omega)) | (focus (apply bEqT; omega)) | (focus (apply bEqF; omega)) | (focus (apply bNeT; omega)) | (focus (apply bNeF; omega)) | (focus (apply bOrT1; first | assumption | (apply decide_eq_true; omega))) | (focus (apply bOrT2; first | assumption | (apply decide_eq_true; omega))) | (focus (apply bAndF1; first | assumption | (apply decide_eq_false; omega))) | (focus (apply bAndF2; first | assumption | (apply decide_eq_false; omega))))); done)))) | (apply w_reg_l; rfl) | exact rfl)
  · have hE : ∀ b : Bool, (decide ((l.length : Int) > 30) || !b) = true := fun b => by rw [decide_eq_true (by omega)]; rfl
    generalize sanB p = sb at *
    have hE := hE sb
    refine enter_r rfl Try.func6 rfl Try.ntmps6 rfl (fun Wo => ?_)
    repeat (first | (apply s_box; rfl; constructor; rfl; intro _) | apply s_st | apply st_go | (apply st_offT; rfl; (focus ((repeat (first | assumption | rfl | exact beq_self_eq_true _ | exact bne_self_eq_false _ | apply bOrF | apply bAndT | apply bNotF | apply bNotT | (focus (apply decide_eq_true; omega)) | (focus (apply decide_eq_false; omega)) | (focus (apply bEqT; omega)) | (focus (apply bEqF; omega)) | (focus (apply bNeT; omega)) | (focus (apply bNeF; omega)) | (focus (apply bOrT1; first | assumption | (apply decide_eq_true; omega))) | (focus (apply bOrT2; first | assumption | (apply decide_eq_true; omega))) | (focus (apply bAndF1; first | assumption | (apply decide_eq_false; omega))) | (focus (apply bAndF2; first | assumption | (apply decide_eq_false; omega))))); done))) | (focus (first | (apply y_move; rfl) | (apply y_assign; rfl) | (apply y_calls; rfl; rfl; rfl; (first | assumption); done) | (apply y_or_te; rfl; (focus ((repeat (first | assumption | rfl | exact beq_self_eq_true _ | exact bne_self_eq_false _ | apply bOrF | apply bAndT | apply bNotF | apply bNotT | (focus (apply decide_eq_true; omega)) | (focus (apply decide_eq_false; omega)) | (focus (apply bEqT; omega)) | (focus (apply bEqF; omega)) | (focus (apply bNeT; omega)) | (focus (apply bNeF; omega)) | (focus (apply bOrT1; first | assumption | (apply decide_eq_true; omega))) | (focus (apply bOrT2; first | assumption | (apply decide_eq_true; omega))) | (focus (apply bAndF1; first | assumption | (apply decide_eq_false; omega))) | (focus (apply bAndF2; first | assumption | (apply decide_eq_false; omega))))); done)); done) | (apply y_len; rfl) | (apply y_gt; rfl; rfl))) | apply s_nil | apply w_seq | apply f_then | apply f_ret | apply w_ret | refine w_cond_t rfl ?_ | (apply f_end; rfl; rfl; rfl; intro w hw; first | exact ans hw | (refine ans_b ?_ hw; (focus ((repeat (first | assumption | rfl | exact beq_self_eq_true _ | exact bne_self_eq_false _ | apply bOrF | apply bAndT | apply bNotF | apply bNotT | (focus (apply decide_eq_true; omega)) | (focus (apply decide_eq_false; omega)) | (focus (apply bEqT; omega)) | (focus (apply bEqF; omega)) | (focus (apply bNeT; omega)) | (focus (apply bNeF; omega)) | (focus (apply bOrT1; first | assumption | (apply decide_eq_true; omega))) | (focus (apply bOrT2; first | assumption | (apply decide_eq_true; omega))) | (focus (apply bAndF1; first | assumption | (apply decide_eq_false; omega))) | (focus (apply bAndF2; first | assumption | (apply decide_eq_false; omega))))); done)))) | (apply w_reg_l; rfl) | exact rfl)
end Go.Proofs.Ytfcffemglcgbnaa.Hand
