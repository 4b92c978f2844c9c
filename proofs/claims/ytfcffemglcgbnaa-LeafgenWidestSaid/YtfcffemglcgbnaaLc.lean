/-
  kedgelaw07: filled; the document's example.
-/
import Derived.Test.YtfcffemglcgbnaaLb
namespace Go.Proofs.Ytfcffemglcgbnaa.Hand
open Go.RowKit Go.Proofs.Ytfcffemglcgbnaa.Bits Go.Proofs.Ytfcffemglcgbnaa.Dig Go.Proofs.Ytfcffemglcgbnaa.Sq
set_option linter.unusedVariables false
set_option linter.unusedSimpArgs false
set_option maxRecDepth 100000
set_option maxHeartbeats 1000000
theorem filled_p (l : List Pr) (hw : ∀ e ∈ l, e.p.a.wf) (hl : l.length ≤ 60) (A : Option Addr) (c : Nat) : Tri Try.prog 15 [.slice A l.length c] [.vw A c 5 (l.map Pr.cells)] (RetX fun b : List Nat × Nat => (.pointer (some ⟨b.2, 0, none⟩), [ribP b.2 (fillN l).1 (fillN l).2 200 200 b.1])) := by
  have k1 := rnew_p 200 200
  have eN : mx2 0 (mn2 200 4096) = 200 := rfl
  have eH : mx2 0 (mn2 200 65536) = 200 := rfl
  rw [eN, eH] at k1
  refine enter_t Try.func15 rfl Try.ntmps15 rfl (fun Wo Fo fro => ?_)
  repeat (first | (apply s_trix; rfl; rfl; rfl; (first | assumption); (repeat (first | exact Tk.nil | (apply Tk.see; (first | (focus (apply VSees.vw; (repeat (first | exact List.Mem.head _ | apply List.Mem.tail)); done)) | exact VSees.nil | assumption)) | (apply Tk.see; exact VSees.nil) | (apply Tk.take; (repeat (first | exact Plc.hit | apply Plc.miss))))); rfl; intro _; (try dsimp only [List.cons_append, List.nil_append])) | apply s_st | apply st_go | (focus (first | (apply y_assign; rfl))) | apply s_nil | apply w_seq | apply f_then | apply w_block | (apply w_reg_l; rfl) | exact rfl)
  rename_i b
  obtain ⟨bs0, g⟩ := b
  dsimp only
  clear k1 eN eH
  refine w_loopm (fun s : Nat × List Nat => [(4, .int .i64 ((s.1 : Nat) : Int))]) (fun s => ribP g (fillN (l.take s.1)).1 (fillN (l.take s.1)).2 200 200 s.2 :: .vw A c 5 (l.map Pr.cells) :: fro) (fun s => s.1 ≤ l.length) (fun s => l.length - s.1) (0, bs0) (Nat.zero_le _) ?_ ?_ ?_
  · (repeat (first | exact Cov.nil | (apply Cov.cons; rfl) | (apply Cov.seen; rfl)))
  · (repeat (first | exact List.Sublist.refl _ | apply List.Sublist.cons_cons | apply List.Sublist.cons))
  · rintro ⟨i, bs⟩ hi R hR
    dsimp only at hi hR ⊢
    by_cases hlt : i < l.length
    · have hrow := map_get (f := Pr.cells) hlt
      have hti := fillN_ri (l.take i)
      rw [List.length_take, Nat.min_eq_left hi] at hti
      have hlen := hti.len
      have hmo := hti.hi
      have kd := radd_p (g := g) (mo := (fillN (l.take i)).2) (H := 200) (bs := bs) hti.good (hw _ (List.getElem_mem hlt)) hti.room (by omega) (by omega) l[i].v
      have hB := fun b : List Nat × Unit => hR (i + 1, b.1) hlt (by dsimp only; omega)
      dsimp only at hB
      rw [← wrap_suc (i := i) (by omega), fill_take hlt] at hB
      unfold fillS at hB
      dsimp only at hB
      clear hR hti
      generalize fillN (l.take i) = s at *
      generalize l[i] = x at *
      generalize addN s.1 s.2 200 200 x.p x.v = z at *
      repeat (first | (apply s_trix; rfl; rfl; rfl; (first | assumption); (repeat (first | exact Tk.nil | (apply Tk.see; (first | (focus (apply VSees.vw; (repeat (first | exact List.Mem.head _ | apply List.Mem.tail)); done)) | exact VSees.nil | assumption)) | (apply Tk.see; exact VSees.nil) | (apply Tk.take; (repeat (first | exact Plc.hit | apply Plc.miss))))); rfl; intro _; (try dsimp only [List.cons_append, List.nil_append])) | apply s_st | apply st_go | (focus (first | (apply y_move; rfl) | (apply y_assign; rfl) | (apply y_eload; rfl; (first | (focus (apply Sees.vw; (repeat (first | exact List.Mem.head _ | apply List.Mem.tail)); done)) | (focus (apply Sees.own; (repeat (first | exact List.Mem.head _ | apply List.Mem.tail)); done)) | exact Sees.nil | assumption); (first | assumption | rfl); (repeat (first | exact Sub.nil | apply Sub.take | apply Sub.drop)); done) | (apply y_ecell; rfl; (first | (focus (apply Sees.vw; (repeat (first | exact List.Mem.head _ | apply List.Mem.tail)); done)) | (focus (apply Sees.own; (repeat (first | exact List.Mem.head _ | apply List.Mem.tail)); done)) | exact Sees.nil | assumption); (first | assumption | rfl); (repeat (first | exact At.hit | apply At.miss)); kernel_rfl; done) | (apply y_efaddr; kernel_rfl; rfl) | (apply y_ixaddr; rfl; rfl; (first | (focus (apply Sees.vw; (repeat (first | exact List.Mem.head _ | apply List.Mem.tail)); done)) | (focus (apply Sees.own; (repeat (first | exact List.Mem.head _ | apply List.Mem.tail)); done)) | exact Sees.nil | assumption); (first | rfl | assumption | (focus (simp; done)) | (focus (simp; omega))); (first | assumption | rfl | exact (show (0 : Int) = ((0 : Nat) : Int) from rfl) | exact (show (1 : Int) = ((1 : Nat) : Int) from rfl) | exact (show (2 : Int) = ((2 : Nat) : Int) from rfl) | exact (show (3 : Int) = ((3 : Nat) : Int) from rfl)); (first | assumption | omega | (focus (simp; done)) | (focus (simp; omega))); done) | (apply y_len; rfl) | (apply y_lt; rfl; rfl) | (apply y_add; rfl; rfl))) | apply s_nil | apply w_seq | apply f_then | apply w_block | apply f_norm_block | (focus (apply f_backxs; assumption; (repeat (first | exact Cov.nil | (apply Cov.cons; rfl) | (apply Cov.seen; rfl))); (repeat (first | exact List.Sublist.refl _ | apply List.Sublist.cons_cons | apply List.Sublist.cons)); done)) | apply w_skip | (apply w_cond_tt; rfl; (focus ((repeat (first | assumption | rfl | exact beq_self_eq_true _ | exact bne_self_eq_false _ | apply bOrF | apply bAndT | apply bNotF | apply bNotT | (focus (apply decide_eq_true; omega)) | (focus (apply decide_eq_false; omega)) | (focus (apply bEqT; omega)) | (focus (apply bEqF; omega)) | (focus (apply bNeT; omega)) | (focus (apply bNeF; omega)) | (focus (apply bOrT1; first | assumption | (apply decide_eq_true; omega))) | (focus (apply bOrT2; first | assumption | (apply decide_eq_true; omega))) | (focus (apply bAndF1; first | assumption | (apply decide_eq_false; omega))) | (focus (apply bAndF2; first | assumption | (apply decide_eq_false; omega))))); done))) | (apply w_mixed_r rfl 5 [0, 1, 2, 3, 4, 5, 6, 7, 8, 9, 10] [0, 0, 0, 0, 0, 0, 0, 2, 2, 2, 2] _ ; kernel_rfl; kernel_rfl; exact List.Sublist.refl _; rfl) | (apply g_st1; rfl; intro W0) | (apply g_st; rfl; intro W0) | apply g_done | (apply w_reg_l; rfl) | exact rfl)
    · obtain rfl : i = l.length := by omega
      rw [List.take_length]
      clear hR
      repeat (first | apply s_st | apply st_go | (focus (first | (apply y_move; rfl) | (apply y_assign; rfl) | (apply y_len; rfl) | (apply y_lt; rfl; rfl))) | apply s_nil | apply w_seq | apply f_then | apply w_exit | apply f_out | apply f_exit_block | apply w_ret | (apply w_cond_ff; rfl; (focus ((repeat (first | assumption | rfl | exact beq_self_eq_true _ | exact bne_self_eq_false _ | apply bOrF | apply bAndT | apply bNotF | apply bNotT | (focus (apply decide_eq_true; omega)) | (focus (apply decide_eq_false; omega)) | (focus (apply bEqT; omega)) | (focus (apply bEqF; omega)) | (focus (apply bNeT; omega)) | (focus (apply bNeF; omega)) | (focus (apply bOrT1; first | assumption | (apply decide_eq_true; omega))) | (focus (apply bOrT2; first | assumption | (apply decide_eq_true; omega))) | (focus (apply bAndF1; first | assumption | (apply decide_eq_false; omega))) | (focus (apply bAndF2; first | assumption | (apply decide_eq_false; omega))))); done))) | (apply f_end; rfl; rfl; rfl; intro w hw; first | exact ans hw | (refine ans_b ?_ hw; (focus ((repeat (first | assumption | rfl | exact beq_self_eq_true _ | exact bne_self_eq_false _ | apply bOrF | apply bAndT | apply bNotF | apply bNotT | (focus (apply decide_eq_true; omega)) | (focus (apply decide_eq_false; omega)) | (focus (apply bEqT; omega)) | (focus (apply bEqF; omega)) | (focus (apply bNeT; omega)) | (focus (apply bNeF; omega)) | (focus (apply bOrT1; first | assumption | (apply decide_eq_true; omega))) | (focus (apply bOrT2; first | assumption | (apply decide_eq_true; omega))) | (focus (apply bAndF1; first | assumption | (apply decide_eq_false; omega))) | (focus (apply bAndF2; first | assumption | (apply decide_eq_false; omega))))); done))) | (apply t_endS1 hw; rfl; (focus ((repeat (first | exact List.Sublist.refl _ | apply List.Sublist.cons_cons | apply List.Sublist.cons)); done))) | (apply t_endU hw; rfl; (focus ((repeat (first | exact List.Sublist.refl _ | apply List.Sublist.cons_cons | apply List.Sublist.cons)); done))) | (apply t_endX1 hw; rfl; (focus ((repeat (first | exact List.Sublist.refl _ | apply List.Sublist.cons_cons | apply List.Sublist.cons)); done))) | (refine t_end ⟨rfl, rfl⟩ ?_ w hw; (focus ((repeat (first | exact List.Sublist.refl _ | apply List.Sublist.cons_cons | apply List.Sublist.cons)); done))) | (apply t_endUT hw; rfl; (focus ((repeat (first | exact Tk.nil | (apply Tk.see; (first | (focus (apply VSees.vw; (repeat (first | exact List.Mem.head _ | apply List.Mem.tail)); done)) | exact VSees.nil | assumption)) | (apply Tk.see; exact VSees.nil) | (apply Tk.take; (repeat (first | exact Plc.hit | apply Plc.miss))))); done)); (focus ((repeat (first | exact List.Sublist.refl _ | apply List.Sublist.cons_cons | apply List.Sublist.cons)); done))) | (apply t_endXT hw; rfl; (repeat (first | exact Tk.nil | (apply Tk.see; (first | (focus (apply VSees.vw; (repeat (first | exact List.Mem.head _ | apply List.Mem.tail)); done)) | exact VSees.nil | assumption)) | (apply Tk.see; exact VSees.nil) | (apply Tk.take; (repeat (first | exact Plc.hit | apply Plc.miss))))); (focus ((repeat (first | exact List.Sublist.refl _ | apply List.Sublist.cons_cons | apply List.Sublist.cons)); done)))) | (apply w_reg_l; rfl) | exact rfl)
theorem filled_f (l : List Pr) (hw : ∀ e ∈ l, e.p.a.wf) (hl : l.length ≤ 60) (A : Option Addr) (c : Nat) : FCal Try.prog 15 [.slice A l.length c] [.vw A c 5 (l.map Pr.cells)] (RetX fun b : List Nat × Nat => (.pointer (some ⟨b.2, 0, none⟩), [ribP b.2 (fillN l).1 (fillN l).2 200 200 b.1])) :=
  FCal.of_tri rfl (fun v m' ⟨b, _, e⟩ => by
    subst e
    intro r hr A' c' k' rows' e
    subst e
    unfold ribP packed at hr
    simp at hr) ⟨_, _, ([], 0), rfl, rfl⟩ (filled_p l hw hl A c)
noncomputable def awL : List Pr := [⟨⟨⟨0, 0, false⟩, 0⟩, 3⟩, ⟨pxL lC 16, 4⟩]
theorem two_good {x y : Pr} (hx : sanB x.p = true) (hy : sanB y.p = true) (h : ltK (keyP x.p) (keyP y.p) = true) : GoodL [x, y] :=
  ⟨fun e he => by rcases List.mem_cons.1 he with rfl | he; exact hx; obtain rfl := List.mem_singleton.1 he; exact hy, List.pairwise_cons.2 ⟨fun e he => by obtain rfl := List.mem_singleton.1 he; exact h, List.pairwise_singleton _ _⟩⟩
theorem pxL_key {l : List Int} {c : Nat} (hc : c ≤ 32) : keyP (pxL l c) = (false, pth (byD l) c) := by
  unfold keyP pxL
  dsimp only
  rw [Int.toNat_natCast]
  refine congrArg _ (pth_congr fun i hi => ?_)
  rw [D_mk, decide_eq_true (show i < W false by rw [W_f]; omega), cutd_lt hi, Bool.true_and]
theorem aw_good : GoodL awL := two_good (zeroPx_sane false) (pxL_sane lC (by decide)) (by
  show ltK (keyP (zeroPx false)) (keyP (pxL lC 16)) = true
  rw [zeroPx_key, pxL_key (by decide)]
  refine ltK_pre rfl List.nil_prefix fun q => ?_
  have := congrArg (fun k : Key => k.2.length) q
  dsimp only at this
  rw [pth_len] at this
  cases this)
theorem aw_fill : (fillN awL).1 = awL := by
  have hz := zeroPx_sane false
  have hc := pxL_sane lC (c := 16) (by decide)
  have e1 : ∀ mo, (addN [] mo 200 200 (zeroPx false) 3).1 = [⟨zeroPx false, 3⟩] := fun mo => by
    unfold addN fitB
    rw [if_pos hz, if_pos (by decide), put_nil, if_pos (decide_eq_true ⟨by decide, by have := hops_le [⟨zeroPx false, 3⟩]; simp only [List.length_singleton] at this; omega⟩)]
  have e2 : ∀ mo, (addN [⟨zeroPx false, 3⟩] mo 200 200 (pxL lC 16) 4).1 = awL := fun mo => by
    obtain ⟨h1, h2⟩ := put_spec (v := 4) hc (one_good hz 3)
    have hne : (⟨zeroPx false, 3⟩ : Pr).p ≠ pxL lC 16 := fun q => by
      have := congrArg Px.n q
      cases this
    have e : putG (pxL lC 16) 4 false [⟨zeroPx false, 3⟩] = awL := GoodL.ext h1 aw_good fun e => by
      rw [h2]
      unfold awL
      simp only [List.mem_cons, List.not_mem_nil, or_false]
      constructor
      · rintro (h | ⟨h, _⟩)
        · exact .inr h
        · exact .inl h
      · rintro (h | h)
        · exact .inr ⟨h, by rw [h]; exact hne⟩
        · exact .inl h
    unfold addN fitB
    rw [if_pos hc, if_pos (by decide), e, if_pos (decide_eq_true ⟨by show ((2 : Nat) : Int) ≤ 200; decide, by have := hops_le awL; have h9 : awL.length = 2 := rfl; rw [h9] at this; omega⟩)]
  unfold fillN
  show (fillS (fillS ([], 2) ⟨zeroPx false, 3⟩) ⟨pxL lC 16, 4⟩).1 = awL
  unfold fillS
  dsimp only
  rw [e1]
  exact e2 _
theorem aw_of {c : Nat} (hc : c ≤ 32) : ofP (adL lA) c = pxL lA c := by
  have hs := pxL_sane lA hc
  have hcon : conB (pxL lA c) (adL lA) = true := by rw [pxL_con lA lA hc, conD_self]
  obtain ⟨_, h2, _⟩ := con_ofP hcon
  rw [h2]
  rfl
theorem aw_blk : blkP awL (adL lA) = pxL lA 16 := by
  have hW : W (adL lA).v6 = 32 := rfl
  have h1 : insN awL (ofP (adL lA) 16) = false := by
    cases h : insN awL (ofP (adL lA) 16) with
    | false => rfl
    | true =>
      obtain ⟨e, he, h1, h2⟩ := insE_iff.1 h
      rw [aw_of (by decide)] at h2
      rcases List.mem_cons.1 he with rfl | he
      · obtain ⟨_, _, _, h3⟩ := cov_key.1 h2
        have h4 := h3.length_le
        rw [pxL_key (by decide), pth_len] at h4
        have : (keyP (⟨⟨0, 0, false⟩, 0⟩ : Px)).2.length = 0 := rfl
        dsimp only at h4
        omega
      · obtain rfl := List.mem_singleton.1 he
        dsimp only at h2
        rw [pxL_cov lA lC (by decide) (by decide), con_not (i := 15) (by decide) (by decide)] at h2
        cases h2
  have h2 : insN awL (ofP (adL lA) 15) = true := by
    refine insE_iff.2 ⟨⟨pxL lC 16, 4⟩, List.mem_cons_of_mem _ (List.mem_singleton.2 rfl), fun q => ?_, ?_⟩
    · have := congrArg Px.n q
      cases this
    · rw [aw_of (by decide), pxL_cov lA lC (by decide) (by decide), con_same (fun i hi => by
        have : ∀ i : Fin 15, byD lA i.1 = byD lC i.1 := by decide
        exact this ⟨i, hi⟩)]
      rfl
  have h3 := no_blk h1
  have h4 : ¬ blkN awL (adL lA) ≤ 15 := fun q => by
    have := ins_down (ofP_cov q (by rw [hW]; decide)) (blk_no awL (adL lA))
    rw [h2] at this; cases this
  unfold blkP
  rw [show blkN awL (adL lA) = 16 by omega, aw_of (by decide)]
theorem aw_gov : govN awL (pxL lA 16) = (⟨zeroPx false, 3⟩, true) := by
  refine gov_some ?_
  have h1 : cvB (zeroPx false) (pxL lA 16) = true := cov_key.2 ⟨zeroPx_sane false, pxL_sane lA (by decide), by rw [pxL_key (by decide)]; rfl, List.nil_prefix⟩
  have h2 : cvB (pxL lC 16) (pxL lA 16) = false := by rw [pxL_cov lC lA (by decide) (by decide), con_not (i := 15) (by decide) (by decide)]; rfl
  have e : aboveN awL (pxL lA 16) = [⟨zeroPx false, 3⟩] := by
    show List.filter _ [_, _] = _
    rw [List.filter_cons, if_pos (by exact h1), List.filter_cons, if_neg (by dsimp only; rw [h2]; decide), List.filter_nil]
    rfl
  rw [e]
  rfl
theorem awake07_s : Cal Try.prog 14 [] (.bool true) := by
  have f1 : ∀ A c, RCal Try.prog 63 [.slice A 4 c] [.vw A c 1 (lA.map u8c)] (.tuple #[(adL lA).val, .int .i64 0]) := from_s lA false rfl (by decide)
  have f2 : ∀ A c, RCal Try.prog 63 [.slice A 4 c] [.vw A c 1 (lC.map u8c)] (.tuple #[(adL lC).val, .int .i64 0]) := from_s lC false rfl (by decide)
  have k1 : Cal Try.prog 19 [(adL lA).val, .int .i64 16] (pxL lA 16).val := of_L lA (c := 16) (by decide)
  have k2 : Cal Try.prog 19 [(adL lC).val, .int .i64 16] (pxL lC 16).val := of_L lC (c := 16) (by decide)
  have hw : ∀ e ∈ awL, e.p.a.wf := aw_good.wf
  have k3 := fun A c => filled_f awL hw (by decide) A c
  rw [aw_fill] at k3
  have k4 := fun g bs => leaf_p (g := g) (L := awL) (mo := (fillN awL).2) (N := 200) (H := 200) (bs := bs) (by decide) (adL_wf lA)
  rw [aw_blk, leafX_t (by rw [aw_gov]), aw_gov] at k4
  have k5 := fun g bs => lgood_p (g := g) (L := awL) (mo := (fillN awL).2) (N := 200) (H := 200) (bs := bs) (by decide) (x := ⟨pxL lA 16, 3⟩) (pxL_wf lA 16)
  have e5 : goodN awL ⟨pxL lA 16, 3⟩ = true := by
    unfold goodN
    dsimp only
    rw [aw_gov, ← aw_blk, blk_no]
    rfl
  rw [e5] at k5
  have hn : (pxL lA 16).n = 16 := rfl
  have hl : awL.length = 2 := rfl
  have hm : awL.map Pr.cells = [[.int .u64 0, .int .u64 0, .bool false, .int .i64 0, .int .i64 3], Pr.cells ⟨pxL lC 16, 4⟩] := rfl
  rw [hl, hm] at k3
  dsimp only [Pr.cells] at k3 k4 k5
  generalize pxL lA 16 = z at *
  generalize pxL lC 16 = y at *
  generalize (fillN awL).2 = mo at *
  clear hm
  generalize awL = LL at *
  refine Cal.mk fun Wo => enter (F := fun _ => False) Try.func14 rfl Try.ntmps14 rfl ?_
  repeat (first | (apply s_alloc; rfl; intro _) | (apply s_bslice; (repeat (first | exact PRows.nil | (apply PRows.cons; rfl; constructor; rfl))); rfl; rfl; intro _) | (apply s_store; rfl; rfl; (repeat (first | exact Plc.hit | apply Plc.miss)); constructor; (focus ((simp only [setAt, List.set_cons_zero, List.set_cons_succ, Nat.zero_add, Nat.reduceAdd, Nat.reduceMul]); try rfl)); kernel_rfl; rfl) | (apply s_fcal; rfl; rfl; rfl; (exact k3 _ _); (focus ((repeat (first | exact SeesAll.nil | (apply SeesAll.cons; (first | (focus (apply Sees.vw; (repeat (first | exact List.Mem.head _ | apply List.Mem.tail)); done)) | (focus (apply Sees.own; (repeat (first | exact List.Mem.head _ | apply List.Mem.tail)); done)) | exact Sees.nil | assumption)) | (apply SeesAll.mem; (repeat (first | exact List.Mem.head _ | apply List.Mem.tail))))); done)); (first | exact want_none rfl | (apply want_on; rfl; (first | rfl | assumption | (focus ((repeat (first | assumption | rfl | exact beq_self_eq_true _ | exact bne_self_eq_false _ | apply bOrF | apply bAndT | apply bNotF | apply bNotT | (focus (apply decide_eq_true; omega)) | (focus (apply decide_eq_false; omega)) | (focus (apply bEqT; omega)) | (focus (apply bEqF; omega)) | (focus (apply bNeT; omega)) | (focus (apply bNeF; omega)) | (focus (apply bOrT1; first | assumption | (apply decide_eq_true; omega))) | (focus (apply bOrT2; first | assumption | (apply decide_eq_true; omega))) | (focus (apply bAndF1; first | assumption | (apply decide_eq_false; omega))) | (focus (apply bAndF2; first | assumption | (apply decide_eq_false; omega))))); done))))); rfl; intro _; (try dsimp only [List.cons_append, List.nil_append])) | apply s_st | apply q_st | apply st_go | (apply st_on; rfl) | (apply st_one; rfl; (focus ((repeat (first | assumption | rfl | exact beq_self_eq_true _ | exact bne_self_eq_false _ | apply bOrF | apply bAndT | apply bNotF | apply bNotT | (focus (apply decide_eq_true; omega)) | (focus (apply decide_eq_false; omega)) | (focus (apply bEqT; omega)) | (focus (apply bEqF; omega)) | (focus (apply bNeT; omega)) | (focus (apply bNeF; omega)) | (focus (apply bOrT1; first | assumption | (apply decide_eq_true; omega))) | (focus (apply bOrT2; first | assumption | (apply decide_eq_true; omega))) | (focus (apply bAndF1; first | assumption | (apply decide_eq_false; omega))) | (focus (apply bAndF2; first | assumption | (apply decide_eq_false; omega))))); done))) | (focus (first | (apply y_move; rfl) | (apply y_assign; rfl) | (apply y_load; rfl; (repeat (first | exact List.Mem.head _ | apply List.Mem.tail)); (repeat (first | exact Sub.nil | apply Sub.take | apply Sub.drop)); done) | (apply y_cell; rfl; (repeat (first | exact List.Mem.head _ | apply List.Mem.tail)); (repeat (first | exact At.hit | apply At.miss)); kernel_rfl; done) | (apply y_calls; rfl; rfl; rfl; (first | assumption | exact f1 _ _ | exact f2 _ _ | exact k3 _ _ | exact k4 _ | exact k5 _); done) | (apply y_rcal; rfl; rfl; rfl; (exact f1 _ _); (repeat (first | exact SeesAll.nil | (apply SeesAll.cons; (first | (focus (apply Sees.vw; (repeat (first | exact List.Mem.head _ | apply List.Mem.tail)); done)) | (focus (apply Sees.own; (repeat (first | exact List.Mem.head _ | apply List.Mem.tail)); done)) | exact Sees.nil | assumption)) | (apply SeesAll.mem; (repeat (first | exact List.Mem.head _ | apply List.Mem.tail))))); done) | (apply y_rcal; rfl; rfl; rfl; (exact f2 _ _); (repeat (first | exact SeesAll.nil | (apply SeesAll.cons; (first | (focus (apply Sees.vw; (repeat (first | exact List.Mem.head _ | apply List.Mem.tail)); done)) | (focus (apply Sees.own; (repeat (first | exact List.Mem.head _ | apply List.Mem.tail)); done)) | exact Sees.nil | assumption)) | (apply SeesAll.mem; (repeat (first | exact List.Mem.head _ | apply List.Mem.tail))))); done) | (apply y_rcalq; rfl; rfl; rfl; (exact k4 _); (repeat (first | exact SeesAll.nil | (apply SeesAll.cons; (first | (focus (apply Sees.vw; (repeat (first | exact List.Mem.head _ | apply List.Mem.tail)); done)) | (focus (apply Sees.own; (repeat (first | exact List.Mem.head _ | apply List.Mem.tail)); done)) | exact Sees.nil | assumption)) | (apply SeesAll.mem; (repeat (first | exact List.Mem.head _ | apply List.Mem.tail))))); done) | (apply y_rcalq; rfl; rfl; rfl; (exact k5 _); (repeat (first | exact SeesAll.nil | (apply SeesAll.cons; (first | (focus (apply Sees.vw; (repeat (first | exact List.Mem.head _ | apply List.Mem.tail)); done)) | (focus (apply Sees.own; (repeat (first | exact List.Mem.head _ | apply List.Mem.tail)); done)) | exact Sees.nil | assumption)) | (apply SeesAll.mem; (repeat (first | exact List.Mem.head _ | apply List.Mem.tail))))); done) | (apply y_and; rfl; rfl; done) | (apply y_andp; rfl; rfl; done) | (apply y_extract; rfl; (repeat (first | exact At.hit | apply At.miss)); done) | (apply y_faddr; kernel_rfl; rfl) | (apply y_eq; rfl; rfl) | (apply y_eqs; rfl; rfl; kernel_rfl; exact inferInstance) | (apply y_build; kernel_rfl; (repeat (first | exact Bld.nil | (apply Bld.cons; exact inferInstance; rfl; constructor; kernel_rfl; (focus ((simp only [setAt, List.set_cons_zero, List.set_cons_succ, Nat.zero_add, Nat.reduceAdd, Nat.reduceMul]); try rfl))))); done))) | apply q_nil | apply s_nil | apply w_seq | apply f_then | apply w_ret | (apply f_end; rfl; rfl; rfl; intro w hw; first | exact ans hw | (refine ans_b ?_ hw; (focus ((repeat (first | assumption | rfl | exact beq_self_eq_true _ | exact bne_self_eq_false _ | apply bOrF | apply bAndT | apply bNotF | apply bNotT | (focus (apply decide_eq_true; omega)) | (focus (apply decide_eq_false; omega)) | (focus (apply bEqT; omega)) | (focus (apply bEqF; omega)) | (focus (apply bNeT; omega)) | (focus (apply bNeF; omega)) | (focus (apply bOrT1; first | assumption | (apply decide_eq_true; omega))) | (focus (apply bOrT2; first | assumption | (apply decide_eq_true; omega))) | (focus (apply bAndF1; first | assumption | (apply decide_eq_false; omega))) | (focus (apply bAndF2; first | assumption | (apply decide_eq_false; omega))))); done))) | (apply t_endS1 hw; rfl; (focus ((repeat (first | exact List.Sublist.refl _ | apply List.Sublist.cons_cons | apply List.Sublist.cons)); done))) | (apply t_endU hw; rfl; (focus ((repeat (first | exact List.Sublist.refl _ | apply List.Sublist.cons_cons | apply List.Sublist.cons)); done))) | (apply t_endX1 hw; rfl; (focus ((repeat (first | exact List.Sublist.refl _ | apply List.Sublist.cons_cons | apply List.Sublist.cons)); done))) | (refine t_end ⟨rfl, rfl⟩ ?_ w hw; (focus ((repeat (first | exact List.Sublist.refl _ | apply List.Sublist.cons_cons | apply List.Sublist.cons)); done))) | (apply t_endUT hw; rfl; (focus ((repeat (first | exact Tk.nil | (apply Tk.see; (first | (focus (apply VSees.vw; (repeat (first | exact List.Mem.head _ | apply List.Mem.tail)); done)) | exact VSees.nil | assumption)) | (apply Tk.see; exact VSees.nil) | (apply Tk.take; (repeat (first | exact Plc.hit | apply Plc.miss))))); done)); (focus ((repeat (first | exact List.Sublist.refl _ | apply List.Sublist.cons_cons | apply List.Sublist.cons)); done))) | (apply t_endXT hw; rfl; (repeat (first | exact Tk.nil | (apply Tk.see; (first | (focus (apply VSees.vw; (repeat (first | exact List.Mem.head _ | apply List.Mem.tail)); done)) | exact VSees.nil | assumption)) | (apply Tk.see; exact VSees.nil) | (apply Tk.take; (repeat (first | exact Plc.hit | apply Plc.miss))))); (focus ((repeat (first | exact List.Sublist.refl _ | apply List.Sublist.cons_cons | apply List.Sublist.cons)); done)))) | (apply w_draw_l; rfl; kernel_rfl; rfl; kernel_rfl) | (apply w_reg_l; rfl) | exact rfl)
end Go.Proofs.Ytfcffemglcgbnaa.Hand
