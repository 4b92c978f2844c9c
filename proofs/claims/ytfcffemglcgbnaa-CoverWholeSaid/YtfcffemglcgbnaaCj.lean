/-
  CoverWhole: the walk.
-/
import Derived.Test.YtfcffemglcgbnaaCi
namespace Go.Proofs.Ytfcffemglcgbnaa.Hand
open Go.RowKit Go.Proofs.Ytfcffemglcgbnaa.Bits Go.Proofs.Ytfcffemglcgbnaa.Dig Go.Proofs.Ytfcffemglcgbnaa.Sq
set_option linter.unusedVariables false
set_option linter.unusedSimpArgs false
set_option maxRecDepth 100000
set_option maxHeartbeats 8000000
theorem lasK_wf (v : Bool) (q : List Bool) : (lasK v q).wf := u_mk _ _
theorem coverWhole_s (l : List Pr) (hw : ∀ e ∈ l, e.p.a.wf) {p : Px} (hp : p.a.wf) (A0 : Option Addr) (c0 : Nat) :
    RCal Try.prog 7 [.slice A0 l.length c0, p.val] [.vw A0 c0 5 (l.map Pr.cells)] (.bool true) := by
  have k0 := awake08_s
  have ks := sane_px hp
  by_cases hl : l.length ≤ 30
  · have k1 := filled8_p l hw (by omega) A0 c0
    have hti := fillN_ri l
    generalize fillN l = s at *
    obtain ⟨L, mo⟩ := s
    dsimp only at k1 hti
    have hg := hti.good
    have hLl := hti.len
    have hL : L.length ≤ 100000 := by omega
    have hb : 1 + 128 * L.length < 100000 := by omega
    have a1 := fun g bs => pieces_p (g := g) (L := L) (mo := mo) (N := 200) (H := 200) (bs := bs) hL hp 4096 4096 rfl
    have a2 := fun g bs => count_p (g := g) (L := L) (mo := mo) (N := 200) (H := 200) (bs := bs) hL hp hb
    have hpl := pcsN_le hg p
    have hR4 : (pcsN L p).length ≤ 4096 := by omega
    rw [List.take_of_length_le hR4, decide_eq_true hR4] at a1
    cases hs : sanB p with
    | false =>
      rw [hs] at ks
      have hnil : pcsN L p = [] := by unfold pcsN; rw [hs]; rfl
      rw [hnil] at a1 a2
      dsimp only [List.length_nil, List.map_nil] at a1 a2
      clear hti hg hLl hL hb hpl hR4 hnil hw
      refine enter_r rfl Try.func7 rfl Try.ntmps7 rfl (fun Wo => ?_)
      repeat (first | (apply s_box; rfl; constructor; rfl; intro _) | (apply s_trix; rfl; rfl; rfl; assumption; (repeat (first | exact Tk.nil | (apply Tk.see; (first | (focus (apply VSees.vw; (repeat (first | exact List.Mem.head _ | apply List.Mem.tail)); done)) | exact VSees.nil | assumption)) | (apply Tk.see; exact VSees.nil) | (apply Tk.take; (repeat (first | exact Plc.hit | apply Plc.miss))))); rfl; intro _; (try dsimp only [List.cons_append, List.nil_append])) | (apply s_fcalq; rfl; rfl; rfl; (exact a1 _); (focus ((repeat (first | exact SeesAll.nil | (apply SeesAll.cons; (first | (focus (apply Sees.vw; (repeat (first | exact List.Mem.head _ | apply List.Mem.tail)); done)) | (focus (apply Sees.own; (repeat (first | exact List.Mem.head _ | apply List.Mem.tail)); done)) | exact Sees.nil | assumption)) | (apply SeesAll.mem; (repeat (first | exact List.Mem.head _ | apply List.Mem.tail))))); done)); (first | exact want_none rfl | (apply want_on; rfl; (first | rfl | assumption | (focus ((repeat (first | assumption | rfl | exact beq_self_eq_true _ | exact bne_self_eq_false _ | apply bOrF | apply bAndT | apply bNotF | apply bNotT | (focus (apply decide_eq_true; omega)) | (focus (apply decide_eq_false; omega)) | (focus (apply bEqT; omega)) | (focus (apply bEqF; omega)) | (focus (apply bNeT; omega)) | (focus (apply bNeF; omega)) | (focus (apply bOrT1; first | assumption | (apply decide_eq_true; omega))) | (focus (apply bOrT2; first | assumption | (apply decide_eq_true; omega))) | (focus (apply bAndF1; first | assumption | (apply decide_eq_false; omega))) | (focus (apply bAndF2; first | assumption | (apply decide_eq_false; omega))))); done))))); rfl; intro _; (try dsimp only [List.cons_append, List.nil_append])) | apply s_st | apply st_go | (apply st_on; rfl) | (focus (first | (apply y_move; rfl) | (apply y_assign; rfl) | (apply y_not; rfl) | (apply y_load; rfl; (repeat (first | exact List.Mem.head _ | apply List.Mem.tail)); (repeat (first | exact Sub.nil | apply Sub.take | apply Sub.drop)); done) | (apply y_calls; rfl; rfl; rfl; (first | assumption | exact a1 _ | exact a2 _); done) | (apply y_and; rfl; rfl; done) | (apply y_extract; rfl; (repeat (first | exact At.hit | apply At.miss)); done) | (apply y_len; rfl) | (apply y_eq; rfl; rfl) | (apply y_gt; rfl; rfl))) | apply s_nil | apply w_seq | apply f_then | apply f_ret | apply w_skip | apply w_ret | refine w_cond_t rfl ?_ | (apply w_cond_ff; rfl; (focus ((repeat (first | assumption | rfl | exact beq_self_eq_true _ | exact bne_self_eq_false _ | apply bOrF | apply bAndT | apply bNotF | apply bNotT | (focus (apply decide_eq_true; omega)) | (focus (apply decide_eq_false; omega)) | (focus (apply bEqT; omega)) | (focus (apply bEqF; omega)) | (focus (apply bNeT; omega)) | (focus (apply bNeF; omega)) | (focus (apply bOrT1; first | assumption | (apply decide_eq_true; omega))) | (focus (apply bOrT2; first | assumption | (apply decide_eq_true; omega))) | (focus (apply bAndF1; first | assumption | (apply decide_eq_false; omega))) | (focus (apply bAndF2; first | assumption | (apply decide_eq_false; omega))))); done))) | (apply f_end; rfl; rfl; rfl; intro w hw; first | exact ans hw | (refine ans_b ?_ hw; (focus ((repeat (first | assumption | rfl | exact beq_self_eq_true _ | exact bne_self_eq_false _ | apply bOrF | apply bAndT | apply bNotF | apply bNotT | (focus (apply decide_eq_true; omega)) | (focus (apply decide_eq_false; omega)) | (focus (apply bEqT; omega)) | (focus (apply bEqF; omega)) | (focus (apply bNeT; omega)) | (focus (apply bNeF; omega)) | (focus (apply bOrT1; first | assumption | (apply decide_eq_true; omega))) | (focus (apply bOrT2; first | assumption | (apply decide_eq_true; omega))) | (focus (apply bAndF1; first | assumption | (apply decide_eq_false; omega))) | (focus (apply bAndF2; first | assumption | (apply decide_eq_false; omega))))); done))) | (apply t_endS1 hw; rfl; (focus ((repeat (first | exact List.Sublist.refl _ | apply List.Sublist.cons_cons | apply List.Sublist.cons)); done))) | (apply t_endU hw; rfl; (focus ((repeat (first | exact List.Sublist.refl _ | apply List.Sublist.cons_cons | apply List.Sublist.cons)); done))) | (apply t_endX1 hw; rfl; (focus ((repeat (first | exact List.Sublist.refl _ | apply List.Sublist.cons_cons | apply List.Sublist.cons)); done))) | (refine t_end ⟨rfl, rfl⟩ ?_ w hw; (focus ((repeat (first | exact List.Sublist.refl _ | apply List.Sublist.cons_cons | apply List.Sublist.cons)); done))) | (apply t_endUT hw; rfl; (focus ((repeat (first | exact Tk.nil | (apply Tk.see; (first | (focus (apply VSees.vw; (repeat (first | exact List.Mem.head _ | apply List.Mem.tail)); done)) | exact VSees.nil | assumption)) | (apply Tk.see; exact VSees.nil) | (apply Tk.take; (repeat (first | exact Plc.hit | apply Plc.miss))))); done)); (focus ((repeat (first | exact List.Sublist.refl _ | apply List.Sublist.cons_cons | apply List.Sublist.cons)); done))) | (apply t_endXT hw; rfl; (repeat (first | exact Tk.nil | (apply Tk.see; (first | (focus (apply VSees.vw; (repeat (first | exact List.Mem.head _ | apply List.Mem.tail)); done)) | exact VSees.nil | assumption)) | (apply Tk.see; exact VSees.nil) | (apply Tk.take; (repeat (first | exact Plc.hit | apply Plc.miss))))); (focus ((repeat (first | exact List.Sublist.refl _ | apply List.Sublist.cons_cons | apply List.Sublist.cons)); done)))) | (apply w_reg_l; rfl) | exact rfl)
    | true =>
      rw [hs] at ks
      obtain ⟨⟨v, q0⟩, hq0, rfl⟩ := sane_form hs
      dsimp only at hq0
      have hrun : Run v (pcsN L (pxK (v, q0))) q0 := by
        unfold pcsN
        rw [if_pos hs, keyP_pxK (k := (v, q0)) hq0]
        exact run_pcs _ _ (by dsimp only; omega)
      have hmem : ∀ x ∈ pcsN L (pxK (v, q0)), ∃ q, q0 <+: q ∧ q.length ≤ W v ∧ x = pieceN L (pxK (v, q)) ∧ insN L (pxK (v, q)) = false := fun x hx => by
        unfold pcsN at hx
        rw [if_pos hs, keyP_pxK (k := (v, q0)) hq0] at hx
        obtain ⟨q, h1, h2, h3, h4, _⟩ := pcs_mem hg _ _ (by dsimp only; omega) x hx
        exact ⟨q, h1, h2, h3, h4⟩
      have ke := endsK_s hq0
      generalize pcsN L (pxK (v, q0)) = R at *
      have hpos := hrun.pos
      have hE1 : ((((R.length : Nat) : Int)) == 0) = false := bEqF (by omega)
      clear hti hLl hb hpl hw
      refine enter_r rfl Try.func7 rfl Try.ntmps7 rfl (fun Wo => ?_)
      repeat (first | (apply s_box; rfl; constructor; rfl; intro _) | (apply s_alloc; rfl; intro _) | (apply s_store; rfl; rfl; (repeat (first | exact Plc.hit | apply Plc.miss)); constructor; (focus ((simp only [setAt, List.set_cons_zero, List.set_cons_succ, Nat.zero_add, Nat.reduceAdd, Nat.reduceMul]); try rfl)); kernel_rfl; rfl) | (apply s_trix; rfl; rfl; rfl; assumption; (repeat (first | exact Tk.nil | (apply Tk.see; (first | (focus (apply VSees.vw; (repeat (first | exact List.Mem.head _ | apply List.Mem.tail)); done)) | exact VSees.nil | assumption)) | (apply Tk.see; exact VSees.nil) | (apply Tk.take; (repeat (first | exact Plc.hit | apply Plc.miss))))); rfl; intro _; (try dsimp only [List.cons_append, List.nil_append])) | (apply s_fcalq; rfl; rfl; rfl; (exact a1 _); (focus ((repeat (first | exact SeesAll.nil | (apply SeesAll.cons; (first | (focus (apply Sees.vw; (repeat (first | exact List.Mem.head _ | apply List.Mem.tail)); done)) | (focus (apply Sees.own; (repeat (first | exact List.Mem.head _ | apply List.Mem.tail)); done)) | exact Sees.nil | assumption)) | (apply SeesAll.mem; (repeat (first | exact List.Mem.head _ | apply List.Mem.tail))))); done)); (first | exact want_none rfl | (apply want_on; rfl; (first | rfl | assumption | (focus ((repeat (first | assumption | rfl | exact beq_self_eq_true _ | exact bne_self_eq_false _ | apply bOrF | apply bAndT | apply bNotF | apply bNotT | (focus (apply decide_eq_true; omega)) | (focus (apply decide_eq_false; omega)) | (focus (apply bEqT; omega)) | (focus (apply bEqF; omega)) | (focus (apply bNeT; omega)) | (focus (apply bNeF; omega)) | (focus (apply bOrT1; first | assumption | (apply decide_eq_true; omega))) | (focus (apply bOrT2; first | assumption | (apply decide_eq_true; omega))) | (focus (apply bAndF1; first | assumption | (apply decide_eq_false; omega))) | (focus (apply bAndF2; first | assumption | (apply decide_eq_false; omega))))); done))))); rfl; intro _; (try dsimp only [List.cons_append, List.nil_append])) | apply s_st | apply st_go | (apply st_on; rfl) | (apply st_one; rfl; assumption) | (focus (first | (apply y_move; rfl) | (apply y_assign; rfl) | (apply y_not; rfl) | (apply y_load; rfl; (repeat (first | exact List.Mem.head _ | apply List.Mem.tail)); (repeat (first | exact Sub.nil | apply Sub.take | apply Sub.drop)); done) | (apply y_calls; rfl; rfl; rfl; (first | assumption | exact a1 _ | exact a2 _); done) | (apply y_rcalq; rfl; rfl; rfl; (exact a2 _); (repeat (first | exact SeesAll.nil | (apply SeesAll.cons; (first | (focus (apply Sees.vw; (repeat (first | exact List.Mem.head _ | apply List.Mem.tail)); done)) | (focus (apply Sees.own; (repeat (first | exact List.Mem.head _ | apply List.Mem.tail)); done)) | exact Sees.nil | assumption)) | (apply SeesAll.mem; (repeat (first | exact List.Mem.head _ | apply List.Mem.tail))))); done) | (apply y_or; rfl; rfl; done) | (apply y_orp; rfl; rfl; done) | (apply y_extract; rfl; (repeat (first | exact At.hit | apply At.miss)); done) | (apply y_len; rfl) | (apply y_eq; rfl; rfl) | (apply y_ne; rfl; rfl) | (apply y_gt; rfl; rfl))) | apply s_nil | apply w_seq | apply f_then | apply w_block | apply w_skip | refine w_cond_f rfl ?_ | (apply w_cond_ff; rfl; (focus ((repeat (first | assumption | rfl | exact beq_self_eq_true _ | exact bne_self_eq_false _ | apply bOrF | apply bAndT | apply bNotF | apply bNotT | (focus (apply decide_eq_true; omega)) | (focus (apply decide_eq_false; omega)) | (focus (apply bEqT; omega)) | (focus (apply bEqF; omega)) | (focus (apply bNeT; omega)) | (focus (apply bNeF; omega)) | (focus (apply bOrT1; first | assumption | (apply decide_eq_true; omega))) | (focus (apply bOrT2; first | assumption | (apply decide_eq_true; omega))) | (focus (apply bAndF1; first | assumption | (apply decide_eq_false; omega))) | (focus (apply bAndF2; first | assumption | (apply decide_eq_false; omega))))); done))) | (apply w_reg_l; rfl) | exact rfl)
      rename_i gp b b2 g9 g10
      obtain ⟨bs, g⟩ := b
      obtain ⟨A, c⟩ := b2
      dsimp only
      clear a1 a2 k1 k0 ks ke
      refine w_loopm (fun s : Nat × Ad => [(11, .int .i64 ((s.1 : Nat) : Int))]) (fun s => [.blk g10 (lasK v q0).cells 25, .blk g9 s.2.cells 25, .own A c 6 (R.map P8.cells) 56, ribP g L mo 200 200 bs, .blk gp (pxK (v, q0)).cells 30, .vw A0 c0 5 (l.map Pr.cells)]) (fun s => s.1 ≤ R.length ∧ ∀ x, R[s.1]? = some x → s.2 = x.p.a) (fun s => R.length - s.1) (0, (pxK (v, q0)).a) ⟨Nat.zero_le _, fun x hx => (hrun.head x hx).symm⟩ ?_ ?_ ?_
      · (repeat (first | exact Cov.nil | (apply Cov.cons; rfl) | (apply Cov.seen; rfl)))
      · (repeat (first | exact List.Sublist.refl _ | apply List.Sublist.cons_cons | apply List.Sublist.cons))
      · rintro ⟨i, at_⟩ ⟨hi, hat⟩ S hS
        dsimp only at hi hat hS ⊢
        by_cases hlt : i < R.length
        · have hrow := map_get (f := P8.cells) hlt
          have hge : R[i]? = some R[i] := List.getElem?_eq_getElem hlt
          obtain ⟨q, h1, h2, h3, h4⟩ := hmem _ (List.getElem_mem hlt)
          have hat1 := hat _ hge
          have hadj := hrun.adj i R[i]
          have hmid := hrun.mid i R[i]
          have hlast := hrun.last R[i]
          have hB := hS (i + 1, nxA (lasK v q)) ⟨hlt, fun y hy => by
            have := hadj y hge hy
            rw [h3] at this
            unfold pieceN at this
            dsimp only at this
            rw [lasP_k h2] at this
            exact this⟩ (by dsimp only; omega)
          dsimp only at hB
          rw [← wrap_suc (i := i) (by omega)] at hB
          have hll : lasP R[i].p = lasK v q := by rw [h3]; exact lasP_k h2
          have hend : eqAd (lasK v q) (lasK v q0) = decide (i + 1 = R.length) := by
            rw [Bool.eq_iff_iff, eqAd_iff, decide_eq_true_eq]
            constructor
            · intro he
              refine Nat.le_antisymm hlt (Nat.le_of_not_lt fun hlt2 => ?_)
              exact hmid hlt2 hge (by rw [hll]; exact he)
            · intro he
              rw [← hll]
              exact hlast (by rw [show R.length - 1 = i by omega]; exact hge)
          have hwr : IntKind.i64.wrap (((R.length : Nat) : Int) - 1) = ((R.length - 1 : Nat) : Int) := by rw [wrap_nat _ (by omega) (by omega)]; omega
          have hE2 : (eqAd (lasK v q) (lasK v q0) && (((i : Nat) : Int) != IntKind.i64.wrap (((R.length : Nat) : Int) - 1))) = false := by
            rw [hend, hwr]
            by_cases he : i + 1 = R.length
            · rw [bNeF (by omega), Bool.and_false]
            · rw [decide_eq_false he, Bool.false_and]
          have hE3 : ((((i : Nat) : Int) == IntKind.i64.wrap (((R.length : Nat) : Int) - 1)) && !eqAd (lasK v q) (lasK v q0)) = false := by
            rw [hend, hwr]
            by_cases he : i + 1 = R.length
            · rw [decide_eq_true he, Bool.not_true, Bool.and_false]
            · rw [bEqF (by omega), Bool.false_and]
          have ka := endsK_s h2
          have kb := rgov_p (g := g) (L := L) (mo := mo) (N := 200) (H := 200) (bs := bs) hL (pxK_wf (v, q))
          have kc := cov_s hp (pxK_wf (v, q))
          have hcv : cvB (pxK (v, q0)) (pxK (v, q)) = true := cov_key.2 ⟨hs, sanB_pxK (k := (v, q)) h2, by rw [keyP_pxK (k := (v, q0)) hq0, keyP_pxK (k := (v, q)) h2], by rw [keyP_pxK (k := (v, q0)) hq0, keyP_pxK (k := (v, q)) h2]; exact h1⟩
          rw [hcv] at kc
          have kd := rins_p (g := g) (L := L) (mo := mo) (N := 200) (H := 200) (bs := bs) (pxK_wf (v, q))
          rw [h4] at kd
          have kn := next_s (lasK_wf v q) (lasK v q).v6
          have hat2 : at_ = (pxK (v, q)).a := by rw [hat1, h3]; rfl
          rw [h3] at hrow
          unfold pieceN at hrow
          subst hat2
          generalize govN L (pxK (v, q)) = gv at *
          obtain ⟨gpr, gok⟩ := gv
          clear hat hat1 hadj hmid hlast h3 hll hend hS hmem hrun hge hcv h1 h4 hg
          unfold nxA at hB
          unfold eqAd at hE2 hE3
          generalize nextA (lasK v q).hi (lasK v q).lo (lasK v q).v6 = nx at *
          generalize lasK v q = lq at *
          generalize lasK v q0 = lq0 at *
          dsimp only [Pr.cells, P8.cells, Ad.cells] at kb hrow hB ⊢
          repeat (first | (apply s_alloc; rfl; intro _) | (apply s_store; rfl; rfl; (repeat (first | exact Plc.hit | apply Plc.miss)); constructor; (focus ((simp only [setAt, List.set_cons_zero, List.set_cons_succ, Nat.zero_add, Nat.reduceAdd, Nat.reduceMul]); try rfl)); kernel_rfl; rfl) | apply s_st | apply q_st | apply st_go | (apply st_one; rfl; (focus ((repeat (first | assumption | rfl | exact beq_self_eq_true _ | exact bne_self_eq_false _ | apply bOrF | apply bAndT | apply bNotF | apply bNotT | (focus (apply decide_eq_true; omega)) | (focus (apply decide_eq_false; omega)) | (focus (apply bEqT; omega)) | (focus (apply bEqF; omega)) | (focus (apply bNeT; omega)) | (focus (apply bNeF; omega)) | (focus (apply bOrT1; first | assumption | (apply decide_eq_true; omega))) | (focus (apply bOrT2; first | assumption | (apply decide_eq_true; omega))) | (focus (apply bAndF1; first | assumption | (apply decide_eq_false; omega))) | (focus (apply bAndF2; first | assumption | (apply decide_eq_false; omega))))); done))) | (apply st_if; rfl; intro h1; (try simp only [h1, gv_true, gv_tt])) | (focus (first | (apply y_move; rfl) | (apply y_assign; rfl) | (apply y_not; rfl) | (apply y_load; rfl; (repeat (first | exact List.Mem.head _ | apply List.Mem.tail)); (repeat (first | exact Sub.nil | apply Sub.take | apply Sub.drop)); done) | (apply y_cell; rfl; (repeat (first | exact List.Mem.head _ | apply List.Mem.tail)); (repeat (first | exact At.hit | apply At.miss)); kernel_rfl; done) | (apply y_eload; rfl; (first | (focus (apply Sees.vw; (repeat (first | exact List.Mem.head _ | apply List.Mem.tail)); done)) | (focus (apply Sees.own; (repeat (first | exact List.Mem.head _ | apply List.Mem.tail)); done)) | exact Sees.nil | assumption); (first | assumption | rfl); (repeat (first | exact Sub.nil | apply Sub.take | apply Sub.drop)); done) | (apply y_ecell; rfl; (first | (focus (apply Sees.vw; (repeat (first | exact List.Mem.head _ | apply List.Mem.tail)); done)) | (focus (apply Sees.own; (repeat (first | exact List.Mem.head _ | apply List.Mem.tail)); done)) | exact Sees.nil | assumption); (first | assumption | rfl); (repeat (first | exact At.hit | apply At.miss)); kernel_rfl; done) | (apply y_calls; rfl; rfl; rfl; (first | assumption); done) | (apply y_rcal; rfl; rfl; rfl; (first | assumption); (repeat (first | exact SeesAll.nil | (apply SeesAll.cons; (first | (focus (apply Sees.vw; (repeat (first | exact List.Mem.head _ | apply List.Mem.tail)); done)) | (focus (apply Sees.own; (repeat (first | exact List.Mem.head _ | apply List.Mem.tail)); done)) | exact Sees.nil | assumption)) | (apply SeesAll.mem; (repeat (first | exact List.Mem.head _ | apply List.Mem.tail))))); done) | (apply y_and; rfl; rfl; done) | (apply y_orp; rfl; rfl; done) | (apply y_extract; rfl; (repeat (first | exact At.hit | apply At.miss)); done) | (apply y_efaddr; kernel_rfl; rfl) | (apply y_faddr; kernel_rfl; rfl) | (apply y_ixaddr; rfl; rfl; (first | (focus (apply Sees.vw; (repeat (first | exact List.Mem.head _ | apply List.Mem.tail)); done)) | (focus (apply Sees.own; (repeat (first | exact List.Mem.head _ | apply List.Mem.tail)); done)) | exact Sees.nil | assumption); (first | rfl | assumption | (focus (simp; done)) | (focus (simp; omega))); (first | assumption | rfl | exact (show (0 : Int) = ((0 : Nat) : Int) from rfl) | exact (show (1 : Int) = ((1 : Nat) : Int) from rfl) | exact (show (2 : Int) = ((2 : Nat) : Int) from rfl) | exact (show (3 : Int) = ((3 : Nat) : Int) from rfl)); (first | assumption | omega | (focus (simp; done)) | (focus (simp; omega))); done) | (apply y_len; rfl) | (apply y_eq; rfl; rfl) | (apply y_ne; rfl; rfl) | (apply y_lt; rfl; rfl) | (apply y_add; rfl; rfl) | (apply y_sub; rfl; rfl) | (apply y_nes; rfl; rfl; kernel_rfl; exact inferInstance) | (apply y_eqs; rfl; rfl; kernel_rfl; exact inferInstance) | (apply y_bne; kernel_rfl; rfl; rfl))) | apply q_nil | apply s_nil | apply w_seq | apply f_then | apply w_block | apply f_norm_block | (apply f_back; assumption; (repeat (first | exact Cov.nil | (apply Cov.cons; rfl) | (apply Cov.seen; rfl))); (focus ((repeat (first | exact List.Sublist.refl _ | apply List.Sublist.cons_cons | apply List.Sublist.cons)); done))) | apply w_skip | (apply w_cond_ff; rfl; assumption) | (apply w_cond_tt; rfl; (focus ((repeat (first | assumption | rfl | exact beq_self_eq_true _ | exact bne_self_eq_false _ | apply bOrF | apply bAndT | apply bNotF | apply bNotT | (focus (apply decide_eq_true; omega)) | (focus (apply decide_eq_false; omega)) | (focus (apply bEqT; omega)) | (focus (apply bEqF; omega)) | (focus (apply bNeT; omega)) | (focus (apply bNeF; omega)) | (focus (apply bOrT1; first | assumption | (apply decide_eq_true; omega))) | (focus (apply bOrT2; first | assumption | (apply decide_eq_true; omega))) | (focus (apply bAndF1; first | assumption | (apply decide_eq_false; omega))) | (focus (apply bAndF2; first | assumption | (apply decide_eq_false; omega))))); done))) | (apply w_cond_ff; rfl; (focus ((repeat (first | assumption | rfl | exact beq_self_eq_true _ | exact bne_self_eq_false _ | apply bOrF | apply bAndT | apply bNotF | apply bNotT | (focus (apply decide_eq_true; omega)) | (focus (apply decide_eq_false; omega)) | (focus (apply bEqT; omega)) | (focus (apply bEqF; omega)) | (focus (apply bNeT; omega)) | (focus (apply bNeF; omega)) | (focus (apply bOrT1; first | assumption | (apply decide_eq_true; omega))) | (focus (apply bOrT2; first | assumption | (apply decide_eq_true; omega))) | (focus (apply bAndF1; first | assumption | (apply decide_eq_false; omega))) | (focus (apply bAndF2; first | assumption | (apply decide_eq_false; omega))))); done))) | (apply w_draw_l; rfl; kernel_rfl; rfl; kernel_rfl) | (apply w_reg_l; rfl) | exact rfl)
        · obtain rfl : i = R.length := by omega
          clear hS hmem hrun hat
          repeat (first | apply s_st | apply st_go | (focus (first | (apply y_move; rfl) | (apply y_assign; rfl) | (apply y_len; rfl) | (apply y_lt; rfl; rfl))) | apply s_nil | apply w_seq | apply f_then | apply w_exit | apply f_out | apply f_exit_block | apply w_ret | (apply w_cond_ff; rfl; (focus ((repeat (first | assumption | rfl | exact beq_self_eq_true _ | exact bne_self_eq_false _ | apply bOrF | apply bAndT | apply bNotF | apply bNotT | (focus (apply decide_eq_true; omega)) | (focus (apply decide_eq_false; omega)) | (focus (apply bEqT; omega)) | (focus (apply bEqF; omega)) | (focus (apply bNeT; omega)) | (focus (apply bNeF; omega)) | (focus (apply bOrT1; first | assumption | (apply decide_eq_true; omega))) | (focus (apply bOrT2; first | assumption | (apply decide_eq_true; omega))) | (focus (apply bAndF1; first | assumption | (apply decide_eq_false; omega))) | (focus (apply bAndF2; first | assumption | (apply decide_eq_false; omega))))); done))) | (apply f_end; rfl; rfl; rfl; intro w hw; first | exact ans hw | (refine ans_b ?_ hw; (focus ((repeat (first | assumption | rfl | exact beq_self_eq_true _ | exact bne_self_eq_false _ | apply bOrF | apply bAndT | apply bNotF | apply bNotT | (focus (apply decide_eq_true; omega)) | (focus (apply decide_eq_false; omega)) | (focus (apply bEqT; omega)) | (focus (apply bEqF; omega)) | (focus (apply bNeT; omega)) | (focus (apply bNeF; omega)) | (focus (apply bOrT1; first | assumption | (apply decide_eq_true; omega))) | (focus (apply bOrT2; first | assumption | (apply decide_eq_true; omega))) | (focus (apply bAndF1; first | assumption | (apply decide_eq_false; omega))) | (focus (apply bAndF2; first | assumption | (apply decide_eq_false; omega))))); done)))) | (apply w_reg_l; rfl) | exact rfl)
  · refine enter_r rfl Try.func7 rfl Try.ntmps7 rfl (fun Wo => ?_)
    repeat (first | (apply s_box; rfl; constructor; rfl; intro _) | apply s_st | apply st_go | (focus (first | (apply y_move; rfl) | (apply y_assign; rfl) | (apply y_calls; rfl; rfl; rfl; (first | assumption); done) | (apply y_len; rfl) | (apply y_gt; rfl; rfl))) | apply s_nil | apply w_seq | apply f_then | apply f_ret | apply w_ret | (apply w_cond_tt; rfl; (focus ((repeat (first | assumption | rfl | exact beq_self_eq_true _ | exact bne_self_eq_false _ | apply bOrF | apply bAndT | apply bNotF | apply bNotT | (focus (apply decide_eq_true; omega)) | (focus (apply decide_eq_false; omega)) | (focus (apply bEqT; omega)) | (focus (apply bEqF; omega)) | (focus (apply bNeT; omega)) | (focus (apply bNeF; omega)) | (focus (apply bOrT1; first | assumption | (apply decide_eq_true; omega))) | (focus (apply bOrT2; first | assumption | (apply decide_eq_true; omega))) | (focus (apply bAndF1; first | assumption | (apply decide_eq_false; omega))) | (focus (apply bAndF2; first | assumption | (apply decide_eq_false; omega))))); done))) | (apply f_end; rfl; rfl; rfl; intro w hw; first | exact ans hw | (refine ans_b ?_ hw; (focus ((repeat (first | assumption | rfl | exact beq_self_eq_true _ | exact bne_self_eq_false _ | apply bOrF | apply bAndT | apply bNotF | apply bNotT | (focus (apply decide_eq_true; omega)) | (focus (apply decide_eq_false; omega)) | (focus (apply bEqT; omega)) | (focus (apply bEqF; omega)) | (focus (apply bNeT; omega)) | (focus (apply bNeF; omega)) | (focus (apply bOrT1; first | assumption | (apply decide_eq_true; omega))) | (focus (apply bOrT2; first | assumption | (apply decide_eq_true; omega))) | (focus (apply bAndF1; first | assumption | (apply decide_eq_false; omega))) | (focus (apply bAndF2; first | assumption | (apply decide_eq_false; omega))))); done)))) | (apply w_reg_l; rfl) | exact rfl)
end Go.Proofs.Ytfcffemglcgbnaa.Hand
