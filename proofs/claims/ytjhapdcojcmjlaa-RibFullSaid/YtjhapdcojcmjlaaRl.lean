/-
  RibFull.
-/
import Derived.Test.YtjhapdcojcmjlaaRi
import Derived.Laws.BitsLemmas
namespace Go.Proofs.Ytjhapdcojcmjlaa.Hand
open Go.RowKit Go.Proofs.Ytjhapdcojcmjlaa.Bits Go.Proofs.Ytjhapdcojcmjlaa.Dig Go.Proofs.Ytjhapdcojcmjlaa.Sq
set_option linter.unusedVariables false
set_option linter.unusedSimpArgs false
set_option maxRecDepth 100000
set_option maxHeartbeats 2000000
theorem i64_and31 (n : Int) : bits .and .i64 n 31 = n % 32 := by
  have h : (BitVec.ofInt 64 31).toNat = 2 ^ 5 - 1 := by decide
  have key : (BitVec.ofInt 64 n &&& BitVec.ofInt 64 31).toNat = (n % ((2 ^ 64 : Nat) : Int)).toNat % 2 ^ 5 := by
    rw [BitVec.toNat_and, BitVec.toNat_ofInt, h, Nat.and_two_pow_sub_one_eq_mod]
  show IntKind.i64.wrap ((BitVec.ofInt 64 n &&& BitVec.ofInt 64 31).toNat : Nat) = n % 32
  rw [key, IntKind.wrap_i64]
  omega
theorem i64_and7 (n : Int) : bits .and .i64 n 7 = n % 8 := by
  have h : (BitVec.ofInt 64 7).toNat = 2 ^ 3 - 1 := by decide
  have key : (BitVec.ofInt 64 n &&& BitVec.ofInt 64 7).toNat = (n % ((2 ^ 64 : Nat) : Int)).toNat % 2 ^ 3 := by
    rw [BitVec.toNat_and, BitVec.toNat_ofInt, h, Nat.and_two_pow_sub_one_eq_mod]
  show IntKind.i64.wrap ((BitVec.ofInt 64 n &&& BitVec.ofInt 64 7).toNat : Nat) = n % 8
  rw [key, IntKind.wrap_i64]
  omega
theorem gov_self {L : List Pr} (hg : GoodL L) {x : Pr} (hx : x ∈ L) : govN L x.p = (x, true) := by
  have hm : ∀ e, e ∈ aboveN L x.p ↔ e ∈ L ∧ cvB e.p x.p = true := fun e => List.mem_filter
  have hg' : GoodL (aboveN L x.p) := hg.sub List.filter_sublist
  have hs := hg.sane x hx
  have hxa : x ∈ aboveN L x.p := (hm x).2 ⟨hx, cov_key.2 ⟨hs, hs, rfl, List.prefix_refl _⟩⟩
  have hlen := List.length_pos_of_mem hxa
  have hlt : (aboveN L x.p).length - 1 < (aboveN L x.p).length := by omega
  refine gov_some ?_
  rw [List.getElem?_eq_getElem hlt]
  obtain ⟨j, hj⟩ := List.getElem?_of_mem hxa
  obtain ⟨q1, e1⟩ := List.getElem?_eq_some_iff.1 hj
  by_cases hjl : j = (aboveN L x.p).length - 1
  · subst hjl; rw [e1]
  · exfalso
    have h1 := List.pairwise_iff_getElem.1 hg'.sorted j _ q1 hlt (by omega)
    rw [e1] at h1
    obtain ⟨_, h2⟩ := (hm _).1 (List.getElem_mem hlt)
    obtain ⟨_, _, h3, h4⟩ := cov_key.1 h2
    have hne : keyP (aboveN L x.p)[(aboveN L x.p).length - 1].p ≠ keyP x.p := fun q => by rw [q, ltK_irr] at h1; cases h1
    have := ltK_pre h3 h4 hne
    rw [ltK_asym this] at h1; cases h1
theorem good_s (x : Pr) (hp : x.p.a.wf) : Cal Try.prog 27 [.agg x.cells.toArray] (.bool ((sanB x.p && decide (x.v ≥ 0)) && decide (x.v ≤ 65535))) := by
  have k1 : Cal Try.prog 15 [x.p.val] (.bool (sanB x.p)) := r2sane_s hp _ _
  generalize sanB x.p = s at *
  refine Cal.mk fun Wo => enter (F := fun _ => False) Try.func27 rfl Try.ntmps27 rfl ?_
  repeat (first | (apply s_box; rfl; constructor; rfl; intro _) | apply s_st | apply st_go | (apply st_if; rfl; intro h1; (try simp only [h1, gv_true, gv_tt])) | (focus (first | (apply y_move; rfl) | (apply y_assign; rfl) | (apply y_load; rfl; (repeat (first | exact List.Mem.head _ | apply List.Mem.tail)); (repeat (first | exact Sub.nil | apply Sub.take | apply Sub.drop)); done) | (apply y_cell; rfl; (repeat (first | exact List.Mem.head _ | apply List.Mem.tail)); (repeat (first | exact At.hit | apply At.miss)); kernel_rfl; done) | (apply y_calls; rfl; rfl; rfl; (first | assumption); done) | (apply y_and; rfl; rfl; done) | (apply y_faddr; kernel_rfl; rfl) | (apply y_le; rfl; rfl) | (apply y_ge; rfl; rfl))) | apply s_nil | apply w_seq | apply f_then | apply w_ret | (apply f_end; rfl; rfl; rfl; intro w hw; first | exact ans hw | (refine ans_b ?_ hw; (focus ((repeat (first | assumption | rfl | exact beq_self_eq_true _ | exact bne_self_eq_false _ | apply bOrF | apply bAndT | apply bNotF | apply bNotT | (focus (apply decide_eq_true; omega)) | (focus (apply decide_eq_false; omega)) | (focus (apply bEqT; omega)) | (focus (apply bEqF; omega)) | (focus (apply bNeT; omega)) | (focus (apply bNeF; omega)) | (focus (apply bOrT1; first | assumption | (apply decide_eq_true; omega))) | (focus (apply bOrT2; first | assumption | (apply decide_eq_true; omega))) | (focus (apply bAndF1; first | assumption | (apply decide_eq_false; omega))) | (focus (apply bAndF2; first | assumption | (apply decide_eq_false; omega))))); done)))) | (apply w_reg_l; rfl) | exact rfl)
/-- What there would be. -/
def thenL (L : List Pr) (x : Pr) : List Pr := x :: outN L x.p
theorem then_put {L : List Pr} (hg : GoodL L) {x : Pr} (hs : sanB x.p = true) : (thenL L x).length = (putG x.p x.v false L).length ∧ ∀ e, e ∈ thenL L x ↔ e ∈ putG x.p x.v false L := by
  obtain ⟨h1, h2⟩ := put_spec (v := x.v) hs hg
  refine ⟨(put_len hg hs x.v).symm, fun e => ?_⟩
  rw [h2, thenL, List.mem_cons, out_mem]
theorem then_step {L : List Pr} {x : Pr} {i : Nat} (h : i < L.length) : (L.take (i + 1)).filter (fun e => !eqPx e.p x.p) = (L.take i).filter (fun e => !eqPx e.p x.p) ++ (if L[i].p = x.p then [] else [L[i]]) := by
  by_cases hq : L[i].p = x.p
  · rw [if_pos hq, filt_miss h (by rw [eqPx_iff.2 hq]; rfl), List.append_nil]
  · rw [if_neg hq, filt_hit h (by rw [eqPx_ne hq]; rfl)]
theorem ribFull_s (n h : Int) (l : List Ac5) (hw : ∀ o ∈ l, o.wf) {x : Pr} (hp : x.p.a.wf) (A0 : Option Addr) (c0 : Nat) :
    RCal Try.prog 6 [.int .i64 n, .int .i64 h, .slice A0 l.length c0, .agg x.cells.toArray] [.vw A0 c0 6 (l.map Ac5.cells)] (.bool true) := by
  have k0 := awake06_s
  have k1 := good_s x hp
  by_cases hl : l.length ≤ 60
  · cases hgd : (sanB x.p && decide (x.v ≥ 0)) && decide (x.v ≤ 65535) with
    | false =>
      rw [hgd] at k1
      have hE : (decide ((l.length : Int) > 60) || !false) = true := by simp
      dsimp only [Pr.cells] at k1
      refine enter_r rfl Try.func6 rfl Try.ntmps6 rfl (fun Wo => ?_)
      repeat (first | (apply s_box; rfl; constructor; rfl; intro _) | apply s_st | apply st_go | (apply st_one; rfl; (focus ((repeat (first | assumption | rfl | exact beq_self_eq_true _ | exact bne_self_eq_false _ | apply bOrF | apply bAndT | apply bNotF | apply bNotT | (focus (apply decide_eq_true; omega)) | (focus (apply decide_eq_false; omega)) | (focus (apply bEqT; omega)) | (focus (apply bEqF; omega)) | (focus (apply bNeT; omega)) | (focus (apply bNeF; omega)) | (focus (apply bOrT1; first | assumption | (apply decide_eq_true; omega))) | (focus (apply bOrT2; first | assumption | (apply decide_eq_true; omega))) | (focus (apply bAndF1; first | assumption | (apply decide_eq_false; omega))) | (focus (apply bAndF2; first | assumption | (apply decide_eq_false; omega))))); done))) | (focus (first | (apply y_move; rfl) | (apply y_assign; rfl) | (apply y_not; rfl) | (apply y_load; rfl; (repeat (first | exact List.Mem.head _ | apply List.Mem.tail)); (repeat (first | exact Sub.nil | apply Sub.take | apply Sub.drop)); done) | (apply y_calls; rfl; rfl; rfl; (first | assumption); done) | (apply y_orp; rfl; rfl; done) | (apply y_len; rfl) | (apply y_gt; rfl; rfl))) | apply s_nil | apply w_seq | apply f_then | apply f_ret | apply w_ret | (apply w_cond_tt; rfl; assumption) | (apply f_end; rfl; rfl; rfl; intro w hw; first | exact ans hw | (refine ans_b ?_ hw; (focus ((repeat (first | assumption | rfl | exact beq_self_eq_true _ | exact bne_self_eq_false _ | apply bOrF | apply bAndT | apply bNotF | apply bNotT | (focus (apply decide_eq_true; omega)) | (focus (apply decide_eq_false; omega)) | (focus (apply bEqT; omega)) | (focus (apply bEqF; omega)) | (focus (apply bNeT; omega)) | (focus (apply bNeF; omega)) | (focus (apply bOrT1; first | assumption | (apply decide_eq_true; omega))) | (focus (apply bOrT2; first | assumption | (apply decide_eq_true; omega))) | (focus (apply bAndF1; first | assumption | (apply decide_eq_false; omega))) | (focus (apply bAndF2; first | assumption | (apply decide_eq_false; omega))))); done)))) | (apply w_reg_l; rfl) | exact rfl)
    | true =>
      rw [hgd] at k1
      simp only [Bool.and_eq_true, decide_eq_true_eq] at hgd
      obtain ⟨⟨hs, hv1⟩, hv2⟩ := hgd
      have k2 := rnew_p (bits .and .i64 n 31) (bits .and .i64 h 7)
      have eN : mx2 0 (mn2 (bits .and .i64 n 31) 4096) = bits .and .i64 n 31 := by rw [i64_and31]; unfold mx2 mn2; split <;> (try split) <;> omega
      have eH : mx2 0 (mn2 (bits .and .i64 h 7) 65536) = bits .and .i64 h 7 := by rw [i64_and7]; unfold mx2 mn2; split <;> (try split) <;> omega
      have hN : 0 ≤ bits .and .i64 n 31 := by rw [i64_and31]; omega
      have hH : 0 ≤ bits .and .i64 h 7 := by rw [i64_and7]; omega
      rw [eN, eH] at k2
      dsimp only [Pr.cells] at k1
      refine enter_r rfl Try.func6 rfl Try.ntmps6 rfl (fun Wo => ?_)
      repeat (first | (apply s_box; rfl; constructor; rfl; intro _) | (apply s_trix; rfl; rfl; rfl; (first | assumption); (repeat (first | exact Tk.nil | (apply Tk.see; (first | (focus (apply VSees.vw; (repeat (first | exact List.Mem.head _ | apply List.Mem.tail)); done)) | exact VSees.nil | assumption)) | (apply Tk.see; exact VSees.nil) | (apply Tk.take; (repeat (first | exact Plc.hit | apply Plc.miss))))); rfl; intro _; (try dsimp only [List.cons_append, List.nil_append])) | apply s_st | apply st_go | (apply st_one; rfl; (focus ((repeat (first | assumption | rfl | exact beq_self_eq_true _ | exact bne_self_eq_false _ | apply bOrF | apply bAndT | apply bNotF | apply bNotT | (focus (apply decide_eq_true; omega)) | (focus (apply decide_eq_false; omega)) | (focus (apply bEqT; omega)) | (focus (apply bEqF; omega)) | (focus (apply bNeT; omega)) | (focus (apply bNeF; omega)) | (focus (apply bOrT1; first | assumption | (apply decide_eq_true; omega))) | (focus (apply bOrT2; first | assumption | (apply decide_eq_true; omega))) | (focus (apply bAndF1; first | assumption | (apply decide_eq_false; omega))) | (focus (apply bAndF2; first | assumption | (apply decide_eq_false; omega))))); done))) | (focus (first | (apply y_move; rfl) | (apply y_assign; rfl) | (apply y_not; rfl) | (apply y_load; rfl; (repeat (first | exact List.Mem.head _ | apply List.Mem.tail)); (repeat (first | exact Sub.nil | apply Sub.take | apply Sub.drop)); done) | (apply y_calls; rfl; rfl; rfl; (first | assumption); done) | (apply y_orp; rfl; rfl; done) | (apply y_len; rfl) | (apply y_gt; rfl; rfl) | (apply y_band; rfl; rfl))) | apply s_nil | apply w_seq | apply f_then | apply w_block | apply w_skip | (apply w_cond_ff; rfl; (focus ((repeat (first | assumption | rfl | exact beq_self_eq_true _ | exact bne_self_eq_false _ | apply bOrF | apply bAndT | apply bNotF | apply bNotT | (focus (apply decide_eq_true; omega)) | (focus (apply decide_eq_false; omega)) | (focus (apply bEqT; omega)) | (focus (apply bEqF; omega)) | (focus (apply bNeT; omega)) | (focus (apply bNeF; omega)) | (focus (apply bOrT1; first | assumption | (apply decide_eq_true; omega))) | (focus (apply bOrT2; first | assumption | (apply decide_eq_true; omega))) | (focus (apply bAndF1; first | assumption | (apply decide_eq_false; omega))) | (focus (apply bAndF2; first | assumption | (apply decide_eq_false; omega))))); done))) | (apply w_reg_l; rfl) | exact rfl)
      rename_i gx b
      obtain ⟨bs0, g⟩ := b
      dsimp only
      clear k2 eN eH
      obtain ⟨N, hNe⟩ : ∃ N, N = bits .and .i64 n 31 := ⟨_, rfl⟩
      obtain ⟨H, hHe⟩ : ∃ H, H = bits .and .i64 h 7 := ⟨_, rfl⟩
      rw [← hNe] at hN ⊢
      rw [← hHe] at hH ⊢
      refine w_loopm (fun s : Nat × List Pr × Int × List Nat => [(11, .int .i64 ((s.1 : Nat) : Int))]) (fun s => [ribP g s.2.1 s.2.2.1 N H s.2.2.2, .blk gx x.cells 37, .vw A0 c0 6 (l.map Ac5.cells)]) (fun s => s.1 ≤ l.length ∧ RI s.1 s.2.1 s.2.2.1 N H) (fun s => l.length - s.1) (0, [], 2, bs0) ⟨Nat.zero_le _, ri_zero hN hH⟩ ?_ ?_ ?_
      · (repeat (first | exact Cov.nil | (apply Cov.cons; rfl) | (apply Cov.seen; rfl)))
      · (repeat (first | exact List.Sublist.refl _ | apply List.Sublist.cons_cons | apply List.Sublist.cons))
      · rintro ⟨i, L, mo, bs⟩ ⟨hi, hti⟩ R hR
        dsimp only at hi hti hR ⊢
        have hlen := hti.len
        have hmo := hti.hi
        by_cases hlt : i < l.length
        · have hrow := map_get (f := Ac5.cells) hlt
          have kd := rdo_p (g := g) (bs := bs) hti (by omega) (hw _ (List.getElem_mem hlt))
          have hB := fun b : List Nat × Unit => hR (i + 1, (doR L mo N H l[i]).1, (doR L mo N H l[i]).2.1, b.1) ⟨hlt, do_ri hti _⟩ (by dsimp only; omega)
          dsimp only at hB
          rw [← wrap_suc (i := i) (by omega)] at hB
          clear hR k0 k1
          generalize doR L mo N H l[i] = z at kd hB
          generalize l[i] = o at hrow kd
          repeat (first | (apply s_trix; rfl; rfl; rfl; (first | assumption); (repeat (first | exact Tk.nil | (apply Tk.see; (first | (focus (apply VSees.vw; (repeat (first | exact List.Mem.head _ | apply List.Mem.tail)); done)) | exact VSees.nil | assumption)) | (apply Tk.see; exact VSees.nil) | (apply Tk.take; (repeat (first | exact Plc.hit | apply Plc.miss))))); rfl; intro _; (try dsimp only [List.cons_append, List.nil_append])) | apply s_st | apply st_go | (focus (first | (apply y_move; rfl) | (apply y_assign; rfl) | (apply y_eload; rfl; (first | (focus (apply Sees.vw; (repeat (first | exact List.Mem.head _ | apply List.Mem.tail)); done)) | (focus (apply Sees.own; (repeat (first | exact List.Mem.head _ | apply List.Mem.tail)); done)) | exact Sees.nil | assumption); (first | assumption | rfl); (repeat (first | exact Sub.nil | apply Sub.take | apply Sub.drop)); done) | (apply y_ixaddr; rfl; rfl; (first | (focus (apply Sees.vw; (repeat (first | exact List.Mem.head _ | apply List.Mem.tail)); done)) | (focus (apply Sees.own; (repeat (first | exact List.Mem.head _ | apply List.Mem.tail)); done)) | exact Sees.nil | assumption); (first | rfl | assumption | (focus (simp; done)) | (focus (simp; omega))); (first | assumption | rfl | exact (show (0 : Int) = ((0 : Nat) : Int) from rfl) | exact (show (1 : Int) = ((1 : Nat) : Int) from rfl) | exact (show (2 : Int) = ((2 : Nat) : Int) from rfl) | exact (show (3 : Int) = ((3 : Nat) : Int) from rfl)); (first | assumption | omega | (focus (simp; done)) | (focus (simp; omega))); done) | (apply y_len; rfl) | (apply y_lt; rfl; rfl) | (apply y_add; rfl; rfl))) | apply s_nil | apply w_seq | apply f_then | apply w_block | apply f_norm_block | (focus (apply f_backxt; assumption; (repeat (first | exact Cov.nil | (apply Cov.cons; rfl) | (apply Cov.seen; rfl))); (repeat (first | exact Tk.nil | (apply Tk.see; (first | (focus (apply VSees.vw; (repeat (first | exact List.Mem.head _ | apply List.Mem.tail)); done)) | exact VSees.nil | assumption)) | (apply Tk.see; exact VSees.nil) | (apply Tk.take; (repeat (first | exact Plc.hit | apply Plc.miss))))); done)) | apply w_skip | (apply w_cond_tt; rfl; (focus ((repeat (first | assumption | rfl | exact beq_self_eq_true _ | exact bne_self_eq_false _ | apply bOrF | apply bAndT | apply bNotF | apply bNotT | (focus (apply decide_eq_true; omega)) | (focus (apply decide_eq_false; omega)) | (focus (apply bEqT; omega)) | (focus (apply bEqF; omega)) | (focus (apply bNeT; omega)) | (focus (apply bNeF; omega)) | (focus (apply bOrT1; first | assumption | (apply decide_eq_true; omega))) | (focus (apply bOrT2; first | assumption | (apply decide_eq_true; omega))) | (focus (apply bAndF1; first | assumption | (apply decide_eq_false; omega))) | (focus (apply bAndF2; first | assumption | (apply decide_eq_false; omega))))); done))) | (apply w_reg_l; rfl) | exact rfl)
        · clear hR k0 k1
          have a1 := rdump_p (g := g) (L := L) (mo := mo) (N := N) (H := H) (bs := bs) (by omega)
          repeat (first | (apply s_bslice; (repeat (first | exact PRows.nil | (apply PRows.cons; rfl; constructor; rfl))); rfl; rfl; intro _) | (apply s_fcal; rfl; rfl; rfl; (first | assumption); (focus ((repeat (first | exact SeesAll.nil | (apply SeesAll.cons; (first | (focus (apply Sees.vw; (repeat (first | exact List.Mem.head _ | apply List.Mem.tail)); done)) | (focus (apply Sees.own; (repeat (first | exact List.Mem.head _ | apply List.Mem.tail)); done)) | exact Sees.nil | assumption)) | (apply SeesAll.mem; (repeat (first | exact List.Mem.head _ | apply List.Mem.tail))))); done)); (first | exact want_none rfl | (apply want_on; rfl; (first | rfl | assumption | (focus ((repeat (first | assumption | rfl | exact beq_self_eq_true _ | exact bne_self_eq_false _ | apply bOrF | apply bAndT | apply bNotF | apply bNotT | (focus (apply decide_eq_true; omega)) | (focus (apply decide_eq_false; omega)) | (focus (apply bEqT; omega)) | (focus (apply bEqF; omega)) | (focus (apply bNeT; omega)) | (focus (apply bNeF; omega)) | (focus (apply bOrT1; first | assumption | (apply decide_eq_true; omega))) | (focus (apply bOrT2; first | assumption | (apply decide_eq_true; omega))) | (focus (apply bAndF1; first | assumption | (apply decide_eq_false; omega))) | (focus (apply bAndF2; first | assumption | (apply decide_eq_false; omega))))); done))))); rfl; intro _; (try dsimp only [List.cons_append, List.nil_append])) | apply s_st | apply st_go | (focus (first | (apply y_move; rfl) | (apply y_assign; rfl) | (apply y_load; rfl; (repeat (first | exact List.Mem.head _ | apply List.Mem.tail)); (repeat (first | exact Sub.nil | apply Sub.take | apply Sub.drop)); done) | (apply y_len; rfl) | (apply y_lt; rfl; rfl))) | apply s_nil | apply w_seq | apply f_then | apply w_block | apply w_exit | apply f_out | apply f_exit_block | (apply w_cond_ff; rfl; (focus ((repeat (first | assumption | rfl | exact beq_self_eq_true _ | exact bne_self_eq_false _ | apply bOrF | apply bAndT | apply bNotF | apply bNotT | (focus (apply decide_eq_true; omega)) | (focus (apply decide_eq_false; omega)) | (focus (apply bEqT; omega)) | (focus (apply bEqF; omega)) | (focus (apply bNeT; omega)) | (focus (apply bNeF; omega)) | (focus (apply bOrT1; first | assumption | (apply decide_eq_true; omega))) | (focus (apply bOrT2; first | assumption | (apply decide_eq_true; omega))) | (focus (apply bAndF1; first | assumption | (apply decide_eq_false; omega))) | (focus (apply bAndF2; first | assumption | (apply decide_eq_false; omega))))); done))) | (apply w_reg_l; rfl) | exact rfl)
          rename_i d gt
          clear a1
          refine w_loopm (fun s : Nat × List Pr × Option Addr × Nat => [(14, .int .i64 ((s.1 : Nat) : Int)), (13, .slice s.2.2.1 s.2.1.length s.2.2.2)]) (fun s => [.own s.2.2.1 s.2.2.2 5 (s.2.1.map Pr.cells) 37, .own d.1 d.2 5 (L.map Pr.cells) 37, ribP g L mo N H bs, .blk gx x.cells 37]) (fun s => s.1 ≤ L.length ∧ s.2.1 = x :: (L.take s.1).filter fun e => !eqPx e.p x.p) (fun s => L.length - s.1) (0, [x], some ⟨gt, 0, none⟩, 1) ⟨Nat.zero_le _, rfl⟩ ?_ ?_ ?_
          · (repeat (first | exact Cov.nil | (apply Cov.cons; rfl) | (apply Cov.seen; rfl)))
          · (repeat (first | exact List.Sublist.refl _ | apply List.Sublist.cons_cons | apply List.Sublist.cons))
          · rintro ⟨i2, M, A', c'⟩ ⟨hi2, hM⟩ R hR
            dsimp only at hi2 hM hR ⊢
            have hle : M.length ≤ L.length + 1 := by rw [hM, List.length_cons]; have := List.length_filter_le (fun e : Pr => !eqPx e.p x.p) (L.take i2); rw [List.length_take] at this; omega
            have hl0 : (M.map Pr.cells).length = M.length := by simp
            have hl0' := hl0.symm
            by_cases hlt2 : i2 < L.length
            · have hrow := map_get (f := Pr.cells) hlt2
              have hst := then_step (x := x) hlt2
              cases hq : eqPx L[i2].p x.p with
              | true =>
                rw [if_pos (eqPx_iff.1 hq), List.append_nil] at hst
                have hB := hR (i2 + 1, M, A', c') ⟨hlt2, by dsimp only; rw [hst]; exact hM⟩ (by dsimp only; omega)
                dsimp only at hB
                rw [← wrap_suc (i := i2) (by omega)] at hB
                have hE : (!eqPx L[i2].p x.p) = false := by rw [hq]; rfl
                unfold eqPx at hE
                clear hR hM hst hq hti
                generalize L[i2] = y at *
                repeat (first | apply s_st | apply q_st | apply st_go | (focus (first | (apply y_move; rfl) | (apply y_assign; rfl) | (apply y_load; rfl; (repeat (first | exact List.Mem.head _ | apply List.Mem.tail)); (repeat (first | exact Sub.nil | apply Sub.take | apply Sub.drop)); done) | (apply y_eload; rfl; (first | (focus (apply Sees.vw; (repeat (first | exact List.Mem.head _ | apply List.Mem.tail)); done)) | (focus (apply Sees.own; (repeat (first | exact List.Mem.head _ | apply List.Mem.tail)); done)) | exact Sees.nil | assumption); (first | assumption | rfl); (repeat (first | exact Sub.nil | apply Sub.take | apply Sub.drop)); done) | (apply y_efaddr; kernel_rfl; rfl) | (apply y_faddr; kernel_rfl; rfl) | (apply y_ixaddr; rfl; rfl; (first | (focus (apply Sees.vw; (repeat (first | exact List.Mem.head _ | apply List.Mem.tail)); done)) | (focus (apply Sees.own; (repeat (first | exact List.Mem.head _ | apply List.Mem.tail)); done)) | exact Sees.nil | assumption); (first | rfl | assumption | (focus (simp; done)) | (focus (simp; omega))); (first | assumption | rfl | exact (show (0 : Int) = ((0 : Nat) : Int) from rfl) | exact (show (1 : Int) = ((1 : Nat) : Int) from rfl) | exact (show (2 : Int) = ((2 : Nat) : Int) from rfl) | exact (show (3 : Int) = ((3 : Nat) : Int) from rfl)); (first | assumption | omega | (focus (simp; done)) | (focus (simp; omega))); done) | (apply y_len; rfl) | (apply y_lt; rfl; rfl) | (apply y_add; rfl; rfl) | (apply y_nes; rfl; rfl; kernel_rfl; exact inferInstance))) | apply q_nil | apply s_nil | apply w_seq | apply f_then | apply w_block | apply f_norm_block | (apply f_back; assumption; (repeat (first | exact Cov.nil | (apply Cov.cons; rfl) | (apply Cov.seen; rfl))); (focus ((repeat (first | exact List.Sublist.refl _ | apply List.Sublist.cons_cons | apply List.Sublist.cons)); done))) | apply w_skip | (apply w_cond_ff; rfl; assumption) | (apply w_cond_tt; rfl; (focus ((repeat (first | assumption | rfl | exact beq_self_eq_true _ | exact bne_self_eq_false _ | apply bOrF | apply bAndT | apply bNotF | apply bNotT | (focus (apply decide_eq_true; omega)) | (focus (apply decide_eq_false; omega)) | (focus (apply bEqT; omega)) | (focus (apply bEqF; omega)) | (focus (apply bNeT; omega)) | (focus (apply bNeF; omega)) | (focus (apply bOrT1; first | assumption | (apply decide_eq_true; omega))) | (focus (apply bOrT2; first | assumption | (apply decide_eq_true; omega))) | (focus (apply bAndF1; first | assumption | (apply decide_eq_false; omega))) | (focus (apply bAndF2; first | assumption | (apply decide_eq_false; omega))))); done))) | (apply w_draw_l; rfl; kernel_rfl; rfl; kernel_rfl) | (apply w_reg_l; rfl) | exact rfl)
              | false =>
                have hne : L[i2].p ≠ x.p := fun q => by rw [eqPx_iff.2 q] at hq; cases hq
                rw [if_neg hne] at hst
                have hB := fun A' c' => hR (i2 + 1, M ++ [L[i2]], A', c') ⟨hlt2, by dsimp only; rw [hst, hM]; rfl⟩ (by dsimp only; omega)
                simp only [List.length_append, List.length_singleton, List.map_append, List.map_cons, List.map_nil] at hB
                rw [← wrap_suc (i := i2) (by omega)] at hB
                have hE : (!eqPx L[i2].p x.p) = true := by rw [hq]; rfl
                unfold eqPx at hE
                clear hR hM hst hq hti hne
                generalize L[i2] = y at *
                repeat (first | (apply s_bslice; (repeat (first | exact PRows.nil | (apply PRows.cons; rfl; constructor; rfl))); rfl; rfl; intro _) | (apply s_append; rfl; rfl; (repeat (first | exact Plc.hit | apply Plc.miss)); (first | (focus (apply Sees.vw; (repeat (first | exact List.Mem.head _ | apply List.Mem.tail)); done)) | (focus (apply Sees.own; (repeat (first | exact List.Mem.head _ | apply List.Mem.tail)); done)) | exact Sees.nil | assumption); (first | rfl | assumption | (focus (simp; done)) | (focus (simp; omega))); (first | rfl | assumption | (focus (simp; done)) | (focus (simp; omega))); (first | assumption | omega | (focus (simp; done)) | (focus (simp; omega))); kernel_rfl; rfl; intro _ _) | apply s_st | apply q_st | apply st_go | (focus (first | (apply y_move; rfl) | (apply y_assign; rfl) | (apply y_load; rfl; (repeat (first | exact List.Mem.head _ | apply List.Mem.tail)); (repeat (first | exact Sub.nil | apply Sub.take | apply Sub.drop)); done) | (apply y_eload; rfl; (first | (focus (apply Sees.vw; (repeat (first | exact List.Mem.head _ | apply List.Mem.tail)); done)) | (focus (apply Sees.own; (repeat (first | exact List.Mem.head _ | apply List.Mem.tail)); done)) | exact Sees.nil | assumption); (first | assumption | rfl); (repeat (first | exact Sub.nil | apply Sub.take | apply Sub.drop)); done) | (apply y_efaddr; kernel_rfl; rfl) | (apply y_faddr; kernel_rfl; rfl) | (apply y_ixaddr; rfl; rfl; (first | (focus (apply Sees.vw; (repeat (first | exact List.Mem.head _ | apply List.Mem.tail)); done)) | (focus (apply Sees.own; (repeat (first | exact List.Mem.head _ | apply List.Mem.tail)); done)) | exact Sees.nil | assumption); (first | rfl | assumption | (focus (simp; done)) | (focus (simp; omega))); (first | assumption | rfl | exact (show (0 : Int) = ((0 : Nat) : Int) from rfl) | exact (show (1 : Int) = ((1 : Nat) : Int) from rfl) | exact (show (2 : Int) = ((2 : Nat) : Int) from rfl) | exact (show (3 : Int) = ((3 : Nat) : Int) from rfl)); (first | assumption | omega | (focus (simp; done)) | (focus (simp; omega))); done) | (apply y_len; rfl) | (apply y_lt; rfl; rfl) | (apply y_add; rfl; rfl) | (apply y_nes; rfl; rfl; kernel_rfl; exact inferInstance))) | apply q_nil | apply s_nil | apply w_seq | apply f_then | apply w_block | apply f_norm_block | (apply f_backs; assumption; (repeat (first | exact Cov.nil | (apply Cov.cons; rfl) | (apply Cov.seen; rfl))); (focus ((repeat (first | exact List.Sublist.refl _ | apply List.Sublist.cons_cons | apply List.Sublist.cons)); done))) | apply w_skip | (apply w_cond_tt; rfl; assumption) | (apply w_cond_tt; rfl; (focus ((repeat (first | assumption | rfl | exact beq_self_eq_true _ | exact bne_self_eq_false _ | apply bOrF | apply bAndT | apply bNotF | apply bNotT | (focus (apply decide_eq_true; omega)) | (focus (apply decide_eq_false; omega)) | (focus (apply bEqT; omega)) | (focus (apply bEqF; omega)) | (focus (apply bNeT; omega)) | (focus (apply bNeF; omega)) | (focus (apply bOrT1; first | assumption | (apply decide_eq_true; omega))) | (focus (apply bOrT2; first | assumption | (apply decide_eq_true; omega))) | (focus (apply bAndF1; first | assumption | (apply decide_eq_false; omega))) | (focus (apply bAndF2; first | assumption | (apply decide_eq_false; omega))))); done))) | (apply w_draw_l; rfl; kernel_rfl; rfl; kernel_rfl) | (apply w_reg_l; rfl) | exact rfl)
            · obtain rfl : i2 = L.length := by omega
              rw [List.take_length] at hM
              obtain rfl : M = thenL L x := hM
              clear hR
              repeat (first | apply s_st | apply st_go | (focus (first | (apply y_move; rfl) | (apply y_assign; rfl) | (apply y_len; rfl) | (apply y_lt; rfl; rfl))) | apply s_nil | apply w_seq | apply f_then | apply w_block | apply w_exit | apply f_out | apply f_exit_block | (apply w_cond_ff; rfl; (focus ((repeat (first | assumption | rfl | exact beq_self_eq_true _ | exact bne_self_eq_false _ | apply bOrF | apply bAndT | apply bNotF | apply bNotT | (focus (apply decide_eq_true; omega)) | (focus (apply decide_eq_false; omega)) | (focus (apply bEqT; omega)) | (focus (apply bEqF; omega)) | (focus (apply bNeT; omega)) | (focus (apply bNeF; omega)) | (focus (apply bOrT1; first | assumption | (apply decide_eq_true; omega))) | (focus (apply bOrT2; first | assumption | (apply decide_eq_true; omega))) | (focus (apply bAndF1; first | assumption | (apply decide_eq_false; omega))) | (focus (apply bAndF2; first | assumption | (apply decide_eq_false; omega))))); done))) | (apply w_reg_l; rfl) | exact rfl)
              obtain ⟨hTl, hTm⟩ := then_put hti.good hs
              have hMl : (thenL L x).length ≤ L.length + 1 := hle
              clear hle
              generalize thenL L x = M at *
              refine w_loopm (fun s : Nat × List Int => [(16, .int .i64 ((s.1 : Nat) : Int)), (15, .int .i64 ((s.2.length : Nat) : Int))]) (fun s => [.own A' c' 5 (M.map Pr.cells) 37, .own d.1 d.2 5 (L.map Pr.cells) 37, ribP g L mo N H bs, .blk gx x.cells 37]) (fun s => s.1 ≤ M.length ∧ s.2.length ≤ s.1 ∧ s.2.Nodup ∧ ∀ k, k ∈ s.2 ↔ ∃ q e, q < s.1 ∧ M[q]? = some e ∧ e.v = k) (fun s => M.length - s.1) (0, []) ⟨Nat.zero_le _, Nat.le_refl _, List.nodup_nil, fun k => ⟨fun h => (by cases h), fun ⟨q, _, h, _⟩ => absurd h (Nat.not_lt_zero _)⟩⟩ ?_ ?_ ?_
              · (repeat (first | exact Cov.nil | (apply Cov.cons; rfl) | (apply Cov.seen; rfl)))
              · (repeat (first | exact List.Sublist.refl _ | apply List.Sublist.cons_cons | apply List.Sublist.cons))
              · rintro ⟨i3, K⟩ ⟨hi3, hK0, hK1, hK2⟩ R hR
                dsimp only at hi3 hK0 hK1 hK2 hR ⊢
                by_cases hlt3 : i3 < M.length
                · have hrow := map_get (f := Pr.cells) hlt3
                  have hge : M[i3]? = some M[i3] := List.getElem?_eq_getElem hlt3
                  repeat (first | apply s_st | apply st_go | (focus (first | (apply y_move; rfl) | (apply y_assign; rfl) | (apply y_len; rfl) | (apply y_lt; rfl; rfl))) | apply s_nil | apply w_seq | apply f_then | apply w_block | apply w_skip | (apply w_cond_tt; rfl; (focus ((repeat (first | assumption | rfl | exact beq_self_eq_true _ | exact bne_self_eq_false _ | apply bOrF | apply bAndT | apply bNotF | apply bNotT | (focus (apply decide_eq_true; omega)) | (focus (apply decide_eq_false; omega)) | (focus (apply bEqT; omega)) | (focus (apply bEqF; omega)) | (focus (apply bNeT; omega)) | (focus (apply bNeF; omega)) | (focus (apply bOrT1; first | assumption | (apply decide_eq_true; omega))) | (focus (apply bOrT2; first | assumption | (apply decide_eq_true; omega))) | (focus (apply bAndF1; first | assumption | (apply decide_eq_false; omega))) | (focus (apply bAndF2; first | assumption | (apply decide_eq_false; omega))))); done))) | (apply w_reg_l; rfl) | exact rfl)
                  refine w_loopm (fun s : Nat × Bool => [(18, .int .i64 ((s.1 : Nat) : Int)), (17, .bool s.2)]) (fun s => [.own A' c' 5 (M.map Pr.cells) 37, .own d.1 d.2 5 (L.map Pr.cells) 37, ribP g L mo N H bs, .blk gx x.cells 37]) (fun s => s.1 ≤ i3 ∧ (s.2 = true ↔ ∀ q e, q < s.1 → M[q]? = some e → e.v ≠ M[i3].v)) (fun s => i3 - s.1) (0, true) ⟨Nat.zero_le _, ⟨fun _ q _ h => absurd h (Nat.not_lt_zero _), fun _ => rfl⟩⟩ ?_ ?_ ?_
                  · (repeat (first | exact Cov.nil | (apply Cov.cons; rfl) | (apply Cov.seen; rfl)))
                  · (repeat (first | exact List.Sublist.refl _ | apply List.Sublist.cons_cons | apply List.Sublist.cons))
                  · rintro ⟨j, f⟩ ⟨hj, hf⟩ R2 hR2
                    dsimp only at hj hf hR2 ⊢
                    by_cases hlt4 : j < i3
                    · have hjl : j < M.length := by omega
                      have hrow2 := map_get (f := Pr.cells) hjl
                      have hgj : M[j]? = some M[j] := List.getElem?_eq_getElem hjl
                      have hB := hR2 (j + 1, f && (M[j].v != M[i3].v)) ⟨hlt4, by
                        dsimp only
                        rw [Bool.and_eq_true, hf, bne_iff_ne]
                        constructor
                        · rintro ⟨h1, h2⟩ q e hq he
                          by_cases hqj : q = j
                          · subst hqj; rw [hgj] at he; cases he; exact h2
                          · exact h1 q e (by omega) he
                        · intro h1
                          exact ⟨fun q e hq he => h1 q e (by omega) he, h1 j _ (by omega) hgj⟩⟩ (by dsimp only; omega)
                      dsimp only at hB
                      rw [← wrap_suc (i := j) (by omega)] at hB
                      clear hR hR2 hf hK2 hK1 hti hTm
                      generalize M[j] = y at *
                      generalize M[i3] = z at *
                      repeat (first | apply s_st | apply q_st | apply st_go | (apply st_if; rfl; intro h1; (try simp only [h1, gv_true, gv_tt])) | (focus (first | (apply y_move; rfl) | (apply y_assign; rfl) | (apply y_ecell; rfl; (first | (focus (apply Sees.vw; (repeat (first | exact List.Mem.head _ | apply List.Mem.tail)); done)) | (focus (apply Sees.own; (repeat (first | exact List.Mem.head _ | apply List.Mem.tail)); done)) | exact Sees.nil | assumption); (first | assumption | rfl); (repeat (first | exact At.hit | apply At.miss)); kernel_rfl; done) | (apply y_and; rfl; rfl; done) | (apply y_efaddr; kernel_rfl; rfl) | (apply y_ixaddr; rfl; rfl; (first | (focus (apply Sees.vw; (repeat (first | exact List.Mem.head _ | apply List.Mem.tail)); done)) | (focus (apply Sees.own; (repeat (first | exact List.Mem.head _ | apply List.Mem.tail)); done)) | exact Sees.nil | assumption); (first | rfl | assumption | (focus (simp; done)) | (focus (simp; omega))); (first | assumption | rfl | exact (show (0 : Int) = ((0 : Nat) : Int) from rfl) | exact (show (1 : Int) = ((1 : Nat) : Int) from rfl) | exact (show (2 : Int) = ((2 : Nat) : Int) from rfl) | exact (show (3 : Int) = ((3 : Nat) : Int) from rfl)); (first | assumption | omega | (focus (simp; done)) | (focus (simp; omega))); done) | (apply y_ne; rfl; rfl) | (apply y_lt; rfl; rfl) | (apply y_add; rfl; rfl))) | apply q_nil | apply s_nil | apply w_seq | apply f_then | apply w_block | apply f_norm_block | (apply f_back; assumption; (repeat (first | exact Cov.nil | (apply Cov.cons; rfl) | (apply Cov.seen; rfl))); (focus ((repeat (first | exact List.Sublist.refl _ | apply List.Sublist.cons_cons | apply List.Sublist.cons)); done))) | apply w_skip | (apply w_cond_tt; rfl; (focus ((repeat (first | assumption | rfl | exact beq_self_eq_true _ | exact bne_self_eq_false _ | apply bOrF | apply bAndT | apply bNotF | apply bNotT | (focus (apply decide_eq_true; omega)) | (focus (apply decide_eq_false; omega)) | (focus (apply bEqT; omega)) | (focus (apply bEqF; omega)) | (focus (apply bNeT; omega)) | (focus (apply bNeF; omega)) | (focus (apply bOrT1; first | assumption | (apply decide_eq_true; omega))) | (focus (apply bOrT2; first | assumption | (apply decide_eq_true; omega))) | (focus (apply bAndF1; first | assumption | (apply decide_eq_false; omega))) | (focus (apply bAndF2; first | assumption | (apply decide_eq_false; omega))))); done))) | (apply w_draw_l; rfl; kernel_rfl; rfl; kernel_rfl) | (apply w_reg_l; rfl) | exact rfl)
                    · obtain rfl : j = i3 := by omega
                      clear hR2
                      cases f with
                      | true =>
                        have hnew : M[j].v ∉ K := fun h => by
                          obtain ⟨q, e, hq, he, hv⟩ := (hK2 _).1 h
                          exact hf.1 rfl q e hq he hv
                        have hB := hR (j + 1, K ++ [M[j].v]) ⟨hlt3, by dsimp only; rw [List.length_append, List.length_singleton]; omega, by
                          dsimp only
                          rw [List.nodup_append]
                          exact ⟨hK1, List.nodup_cons.2 ⟨(fun h => by cases h), List.nodup_nil⟩, fun a ha b hb q => hnew (by obtain rfl := List.mem_singleton.1 hb; rw [← q]; exact ha)⟩, fun k => by
                          dsimp only
                          rw [List.mem_append, hK2, List.mem_singleton]
                          constructor
                          · rintro (⟨q, e, hq, he, hv⟩ | rfl)
                            · exact ⟨q, e, by omega, he, hv⟩
                            · exact ⟨j, _, by omega, hge, rfl⟩
                          · rintro ⟨q, e, hq, he, hv⟩
                            by_cases hqj : q = j
                            · subst hqj; rw [hge] at he; cases he; exact .inr hv.symm
                            · exact .inl ⟨q, e, by omega, he, hv⟩⟩ (by dsimp only; omega)
                        simp only [List.length_append, List.length_singleton] at hB
                        rw [← wrap_suc (i := j) (by omega), ← wrap_suc (i := K.length) (by omega)] at hB
                        clear hR hf hK2 hK1 hti hTm hnew
                        repeat (first | apply s_st | apply st_go | (focus (first | (apply y_move; rfl) | (apply y_assign; rfl) | (apply y_lt; rfl; rfl) | (apply y_add; rfl; rfl))) | apply s_nil | apply w_seq | apply f_then | apply w_exit | apply f_out | apply f_norm_block | apply f_exit_block | (apply f_back; assumption; (repeat (first | exact Cov.nil | (apply Cov.cons; rfl) | (apply Cov.seen; rfl))); (focus ((repeat (first | exact List.Sublist.refl _ | apply List.Sublist.cons_cons | apply List.Sublist.cons)); done))) | refine w_cond_t rfl ?_ | (apply w_cond_ff; rfl; (focus ((repeat (first | assumption | rfl | exact beq_self_eq_true _ | exact bne_self_eq_false _ | apply bOrF | apply bAndT | apply bNotF | apply bNotT | (focus (apply decide_eq_true; omega)) | (focus (apply decide_eq_false; omega)) | (focus (apply bEqT; omega)) | (focus (apply bEqF; omega)) | (focus (apply bNeT; omega)) | (focus (apply bNeF; omega)) | (focus (apply bOrT1; first | assumption | (apply decide_eq_true; omega))) | (focus (apply bOrT2; first | assumption | (apply decide_eq_true; omega))) | (focus (apply bAndF1; first | assumption | (apply decide_eq_false; omega))) | (focus (apply bAndF2; first | assumption | (apply decide_eq_false; omega))))); done))) | (apply w_reg_l; rfl) | exact rfl)
                      | false =>
                        have hB := hR (j + 1, K) ⟨hlt3, by dsimp only; omega, hK1, fun k => by
                          dsimp only
                          rw [hK2]
                          constructor
                          · rintro ⟨q, e, hq, he, hv⟩; exact ⟨q, e, by omega, he, hv⟩
                          · rintro ⟨q, e, hq, he, hv⟩
                            by_cases hqj : q = j
                            · subst hqj
                              rw [hge] at he; cases he
                              by_cases hex : ∃ q' e', q' < q ∧ M[q']? = some e' ∧ e'.v = M[q].v
                              · obtain ⟨q', e', h1, h2, h3⟩ := hex
                                exact ⟨q', e', h1, h2, h3.trans hv⟩
                              · have := hf.2 fun q' e' h1 h2 h3 => hex ⟨q', e', h1, h2, h3⟩
                                cases this
                            · exact ⟨q, e, by omega, he, hv⟩⟩ (by dsimp only; omega)
                        dsimp only at hB
                        rw [← wrap_suc (i := j) (by omega)] at hB
                        clear hR hf hK2 hK1 hti hTm
                        repeat (first | apply s_st | apply st_go | (focus (first | (apply y_move; rfl) | (apply y_assign; rfl) | (apply y_lt; rfl; rfl) | (apply y_add; rfl; rfl))) | apply s_nil | apply w_seq | apply f_then | apply w_exit | apply f_out | apply f_norm_block | apply f_exit_block | (apply f_back; assumption; (repeat (first | exact Cov.nil | (apply Cov.cons; rfl) | (apply Cov.seen; rfl))); (focus ((repeat (first | exact List.Sublist.refl _ | apply List.Sublist.cons_cons | apply List.Sublist.cons)); done))) | apply w_skip | refine w_cond_f rfl ?_ | (apply w_cond_ff; rfl; (focus ((repeat (first | assumption | rfl | exact beq_self_eq_true _ | exact bne_self_eq_false _ | apply bOrF | apply bAndT | apply bNotF | apply bNotT | (focus (apply decide_eq_true; omega)) | (focus (apply decide_eq_false; omega)) | (focus (apply bEqT; omega)) | (focus (apply bEqF; omega)) | (focus (apply bNeT; omega)) | (focus (apply bNeF; omega)) | (focus (apply bOrT1; first | assumption | (apply decide_eq_true; omega))) | (focus (apply bOrT2; first | assumption | (apply decide_eq_true; omega))) | (focus (apply bAndF1; first | assumption | (apply decide_eq_false; omega))) | (focus (apply bAndF2; first | assumption | (apply decide_eq_false; omega))))); done))) | (apply w_reg_l; rfl) | exact rfl)
                · obtain rfl : i3 = M.length := by omega
                  have hhops : K.length = hopsN (putG x.p x.v false L) := hops_len hK1 fun k => by
                    rw [hK2]
                    constructor
                    · rintro ⟨q, e, _, he, hv⟩; exact ⟨e, (hTm e).1 (List.mem_of_getElem? he), hv⟩
                    · rintro ⟨e, he, hv⟩
                      obtain ⟨q, hq⟩ := List.getElem?_of_mem ((hTm e).2 he)
                      exact ⟨q, e, (List.getElem?_eq_some_iff.1 hq).1, hq, hv⟩
                  clear hR hK2 hK1 hTm
                  have b1 := radd_p (g := g) (L := L) (mo := mo) (H := H) (bs := bs) hti.good hp hti.room (by omega) (by omega) x.v
                  cases hf : fitB L N H x.p x.v with
                  | true =>
                    have e1 : addN L mo N H x.p x.v = (putG x.p x.v false L, mx2 mo (nodesN (putG x.p x.v false L)), 0) := by
                      unfold addN
                      rw [if_pos hs, if_pos ⟨hv1, hv2⟩, if_pos hf]
                    rw [e1] at b1
                    have hf' := of_decide_eq_true hf
                    have hE : (decide (((M.length : Nat) : Int) ≤ bits .and .i64 n 31) && decide (((K.length : Nat) : Int) ≤ bits .and .i64 h 7)) = true := by
                      rw [← hNe, ← hHe, hTl, hhops, decide_eq_true hf'.1, decide_eq_true hf'.2]; rfl
                    obtain ⟨h1, h2⟩ := put_spec (v := x.v) hs hti.good
                    have hgv := gov_self h1 (x := x) ((h2 x).2 (.inl rfl))
                    have hpl := (putG_len (p := x.p) (v := x.v) L false).1
                    have b2 := fun bs => rgov_p (g := g) (L := putG x.p x.v false L) (mo := mx2 mo (nodesN (putG x.p x.v false L))) (N := N) (H := H) (bs := bs) (by omega) hp
                    rw [hgv] at b2
                    dsimp only [Pr.cells] at b1 b2
                    clear e1 hf hf' h1 h2 hgv hpl hhops hTl hti
                    generalize putG x.p x.v false L = L2 at *
                    repeat (first | (apply s_alloc; rfl; intro _) | (apply s_store; rfl; rfl; (repeat (first | exact Plc.hit | apply Plc.miss)); constructor; (focus ((simp only [setAt, List.set_cons_zero, List.set_cons_succ, Nat.zero_add, Nat.reduceAdd, Nat.reduceMul]); try rfl)); kernel_rfl; rfl) | (apply s_trix; rfl; rfl; rfl; assumption; (repeat (first | exact Tk.nil | (apply Tk.see; (first | (focus (apply VSees.vw; (repeat (first | exact List.Mem.head _ | apply List.Mem.tail)); done)) | exact VSees.nil | assumption)) | (apply Tk.see; exact VSees.nil) | (apply Tk.take; (repeat (first | exact Plc.hit | apply Plc.miss))))); rfl; intro _; (try dsimp only [List.cons_append, List.nil_append])) | apply s_st | apply st_go | (apply st_on; rfl) | (apply st_if; rfl; intro h1; (try simp only [h1, gv_true, gv_tt])) | (focus (first | (apply y_move; rfl) | (apply y_assign; rfl) | (apply y_load; rfl; (repeat (first | exact List.Mem.head _ | apply List.Mem.tail)); (repeat (first | exact Sub.nil | apply Sub.take | apply Sub.drop)); done) | (apply y_cell; rfl; (repeat (first | exact List.Mem.head _ | apply List.Mem.tail)); (repeat (first | exact At.hit | apply At.miss)); kernel_rfl; done) | (apply y_rcalq; rfl; rfl; rfl; assumption; (repeat (first | exact SeesAll.nil | (apply SeesAll.cons; (first | (focus (apply Sees.vw; (repeat (first | exact List.Mem.head _ | apply List.Mem.tail)); done)) | (focus (apply Sees.own; (repeat (first | exact List.Mem.head _ | apply List.Mem.tail)); done)) | exact Sees.nil | assumption)) | (apply SeesAll.mem; (repeat (first | exact List.Mem.head _ | apply List.Mem.tail))))); done) | (apply y_and; rfl; rfl; done) | (apply y_or; rfl; rfl; done) | (apply y_extract; rfl; (repeat (first | exact At.hit | apply At.miss)); done) | (apply y_faddr; kernel_rfl; rfl) | (apply y_len; rfl) | (apply y_eq; rfl; rfl) | (apply y_ne; rfl; rfl) | (apply y_lt; rfl; rfl) | (apply y_le; rfl; rfl) | (apply y_band; rfl; rfl) | (apply y_eqs; rfl; rfl; kernel_rfl; exact inferInstance))) | apply s_nil | apply w_seq | apply f_then | apply w_exit | apply f_out | apply f_exit_block | apply w_ret | (apply w_cond_tt; rfl; assumption) | (apply w_cond_ff; rfl; (focus ((repeat (first | assumption | rfl | exact beq_self_eq_true _ | exact bne_self_eq_false _ | apply bOrF | apply bAndT | apply bNotF | apply bNotT | (focus (apply decide_eq_true; omega)) | (focus (apply decide_eq_false; omega)) | (focus (apply bEqT; omega)) | (focus (apply bEqF; omega)) | (focus (apply bNeT; omega)) | (focus (apply bNeF; omega)) | (focus (apply bOrT1; first | assumption | (apply decide_eq_true; omega))) | (focus (apply bOrT2; first | assumption | (apply decide_eq_true; omega))) | (focus (apply bAndF1; first | assumption | (apply decide_eq_false; omega))) | (focus (apply bAndF2; first | assumption | (apply decide_eq_false; omega))))); done))) | (apply f_end; rfl; rfl; rfl; intro w hw; first | exact ans hw | (refine ans_b ?_ hw; (focus ((repeat (first | assumption | rfl | exact beq_self_eq_true _ | exact bne_self_eq_false _ | apply bOrF | apply bAndT | apply bNotF | apply bNotT | (focus (apply decide_eq_true; omega)) | (focus (apply decide_eq_false; omega)) | (focus (apply bEqT; omega)) | (focus (apply bEqF; omega)) | (focus (apply bNeT; omega)) | (focus (apply bNeF; omega)) | (focus (apply bOrT1; first | assumption | (apply decide_eq_true; omega))) | (focus (apply bOrT2; first | assumption | (apply decide_eq_true; omega))) | (focus (apply bAndF1; first | assumption | (apply decide_eq_false; omega))) | (focus (apply bAndF2; first | assumption | (apply decide_eq_false; omega))))); done))) | (apply t_endS1 hw; rfl; (focus ((repeat (first | exact List.Sublist.refl _ | apply List.Sublist.cons_cons | apply List.Sublist.cons)); done))) | (apply t_endU hw; rfl; (focus ((repeat (first | exact List.Sublist.refl _ | apply List.Sublist.cons_cons | apply List.Sublist.cons)); done))) | (apply t_endX1 hw; rfl; (focus ((repeat (first | exact List.Sublist.refl _ | apply List.Sublist.cons_cons | apply List.Sublist.cons)); done))) | (refine t_end ⟨rfl, rfl⟩ ?_ w hw; (focus ((repeat (first | exact List.Sublist.refl _ | apply List.Sublist.cons_cons | apply List.Sublist.cons)); done))) | (apply t_endUT hw; rfl; (focus ((repeat (first | exact Tk.nil | (apply Tk.see; (first | (focus (apply VSees.vw; (repeat (first | exact List.Mem.head _ | apply List.Mem.tail)); done)) | exact VSees.nil | assumption)) | (apply Tk.see; exact VSees.nil) | (apply Tk.take; (repeat (first | exact Plc.hit | apply Plc.miss))))); done)); (focus ((repeat (first | exact List.Sublist.refl _ | apply List.Sublist.cons_cons | apply List.Sublist.cons)); done))) | (apply t_endXT hw; rfl; (repeat (first | exact Tk.nil | (apply Tk.see; (first | (focus (apply VSees.vw; (repeat (first | exact List.Mem.head _ | apply List.Mem.tail)); done)) | exact VSees.nil | assumption)) | (apply Tk.see; exact VSees.nil) | (apply Tk.take; (repeat (first | exact Plc.hit | apply Plc.miss))))); (focus ((repeat (first | exact List.Sublist.refl _ | apply List.Sublist.cons_cons | apply List.Sublist.cons)); done)))) | (apply w_reg_l; rfl) | exact rfl)
                  | false =>
                    have e1 : addN L mo N H x.p x.v = (L, mo, 3) := by
                      unfold addN
                      rw [if_pos hs, if_pos ⟨hv1, hv2⟩, hf, if_neg (by decide)]
                    rw [e1] at b1
                    have hf' := of_decide_eq_false hf
                    have hE : (decide (((M.length : Nat) : Int) ≤ bits .and .i64 n 31) && decide (((K.length : Nat) : Int) ≤ bits .and .i64 h 7)) = false := by
                      rw [← hNe, ← hHe, hTl, hhops, ← Bool.not_eq_true, Bool.and_eq_true, decide_eq_true_eq, decide_eq_true_eq]
                      exact hf'
                    have b2 := fun bs => rgov_p (g := g) (L := L) (mo := mo) (N := N) (H := H) (bs := bs) (by omega) hp
                    generalize govN L x.p = gv at *
                    obtain ⟨gx1, gok⟩ := gv
                    dsimp only [Pr.cells] at b1 b2
                    clear e1 hf hf' hhops hTl hti
                    repeat (first | (apply s_alloc; rfl; intro _) | (apply s_store; rfl; rfl; (repeat (first | exact Plc.hit | apply Plc.miss)); constructor; (focus ((simp only [setAt, List.set_cons_zero, List.set_cons_succ, Nat.zero_add, Nat.reduceAdd, Nat.reduceMul]); try rfl)); kernel_rfl; rfl) | (apply s_trix; rfl; rfl; rfl; (first | assumption); (repeat (first | exact Tk.nil | (apply Tk.see; (first | (focus (apply VSees.vw; (repeat (first | exact List.Mem.head _ | apply List.Mem.tail)); done)) | exact VSees.nil | assumption)) | (apply Tk.see; exact VSees.nil) | (apply Tk.take; (repeat (first | exact Plc.hit | apply Plc.miss))))); rfl; intro _; (try dsimp only [List.cons_append, List.nil_append])) | apply s_st | apply st_go | (apply st_off; rfl) | (apply st_offu; rfl) | (apply st_on; rfl) | (apply st_if; rfl; intro h1; (try simp only [h1, gv_true, gv_tt])) | (focus (first | (apply y_move; rfl) | (apply y_assign; rfl) | (apply y_load; rfl; (repeat (first | exact List.Mem.head _ | apply List.Mem.tail)); (repeat (first | exact Sub.nil | apply Sub.take | apply Sub.drop)); done) | (apply y_cell; rfl; (repeat (first | exact List.Mem.head _ | apply List.Mem.tail)); (repeat (first | exact At.hit | apply At.miss)); kernel_rfl; done) | (apply y_rcalq; rfl; rfl; rfl; (first | assumption); (repeat (first | exact SeesAll.nil | (apply SeesAll.cons; (first | (focus (apply Sees.vw; (repeat (first | exact List.Mem.head _ | apply List.Mem.tail)); done)) | (focus (apply Sees.own; (repeat (first | exact List.Mem.head _ | apply List.Mem.tail)); done)) | exact Sees.nil | assumption)) | (apply SeesAll.mem; (repeat (first | exact List.Mem.head _ | apply List.Mem.tail))))); done) | (apply y_and; rfl; rfl; done) | (apply y_or_t; rfl; done) | (apply y_extract; rfl; (repeat (first | exact At.hit | apply At.miss)); done) | (apply y_faddr; kernel_rfl; rfl) | (apply y_len; rfl) | (apply y_eq; rfl; rfl) | (apply y_ne; rfl; rfl) | (apply y_lt; rfl; rfl) | (apply y_le; rfl; rfl) | (apply y_band; rfl; rfl))) | apply s_nil | apply w_seq | apply f_then | apply w_exit | apply f_out | apply f_exit_block | apply w_skip | apply w_ret | (apply w_cond_ff; rfl; assumption) | (apply w_cond_ff; rfl; (focus ((repeat (first | assumption | rfl | exact beq_self_eq_true _ | exact bne_self_eq_false _ | apply bOrF | apply bAndT | apply bNotF | apply bNotT | (focus (apply decide_eq_true; omega)) | (focus (apply decide_eq_false; omega)) | (focus (apply bEqT; omega)) | (focus (apply bEqF; omega)) | (focus (apply bNeT; omega)) | (focus (apply bNeF; omega)) | (focus (apply bOrT1; first | assumption | (apply decide_eq_true; omega))) | (focus (apply bOrT2; first | assumption | (apply decide_eq_true; omega))) | (focus (apply bAndF1; first | assumption | (apply decide_eq_false; omega))) | (focus (apply bAndF2; first | assumption | (apply decide_eq_false; omega))))); done))) | (apply f_end; rfl; rfl; rfl; intro w hw; first | exact ans hw | (refine ans_b ?_ hw; (focus ((repeat (first | assumption | rfl | exact beq_self_eq_true _ | exact bne_self_eq_false _ | apply bOrF | apply bAndT | apply bNotF | apply bNotT | (focus (apply decide_eq_true; omega)) | (focus (apply decide_eq_false; omega)) | (focus (apply bEqT; omega)) | (focus (apply bEqF; omega)) | (focus (apply bNeT; omega)) | (focus (apply bNeF; omega)) | (focus (apply bOrT1; first | assumption | (apply decide_eq_true; omega))) | (focus (apply bOrT2; first | assumption | (apply decide_eq_true; omega))) | (focus (apply bAndF1; first | assumption | (apply decide_eq_false; omega))) | (focus (apply bAndF2; first | assumption | (apply decide_eq_false; omega))))); done))) | (apply t_endS1 hw; rfl; (focus ((repeat (first | exact List.Sublist.refl _ | apply List.Sublist.cons_cons | apply List.Sublist.cons)); done))) | (apply t_endU hw; rfl; (focus ((repeat (first | exact List.Sublist.refl _ | apply List.Sublist.cons_cons | apply List.Sublist.cons)); done))) | (apply t_endX1 hw; rfl; (focus ((repeat (first | exact List.Sublist.refl _ | apply List.Sublist.cons_cons | apply List.Sublist.cons)); done))) | (refine t_end ⟨rfl, rfl⟩ ?_ w hw; (focus ((repeat (first | exact List.Sublist.refl _ | apply List.Sublist.cons_cons | apply List.Sublist.cons)); done))) | (apply t_endUT hw; rfl; (focus ((repeat (first | exact Tk.nil | (apply Tk.see; (first | (focus (apply VSees.vw; (repeat (first | exact List.Mem.head _ | apply List.Mem.tail)); done)) | exact VSees.nil | assumption)) | (apply Tk.see; exact VSees.nil) | (apply Tk.take; (repeat (first | exact Plc.hit | apply Plc.miss))))); done)); (focus ((repeat (first | exact List.Sublist.refl _ | apply List.Sublist.cons_cons | apply List.Sublist.cons)); done))) | (apply t_endXT hw; rfl; (repeat (first | exact Tk.nil | (apply Tk.see; (first | (focus (apply VSees.vw; (repeat (first | exact List.Mem.head _ | apply List.Mem.tail)); done)) | exact VSees.nil | assumption)) | (apply Tk.see; exact VSees.nil) | (apply Tk.take; (repeat (first | exact Plc.hit | apply Plc.miss))))); (focus ((repeat (first | exact List.Sublist.refl _ | apply List.Sublist.cons_cons | apply List.Sublist.cons)); done)))) | (apply w_reg_l; rfl) | exact rfl)
  · have hE : ∀ b : Bool, (decide ((l.length : Int) > 60) || !b) = true := fun b => by rw [decide_eq_true (by omega)]; rfl
    generalize ((sanB x.p && decide (x.v ≥ 0)) && decide (x.v ≤ 65535)) = gd at *
    have hE := hE gd
    dsimp only [Pr.cells] at k1
    refine enter_r rfl Try.func6 rfl Try.ntmps6 rfl (fun Wo => ?_)
    repeat (first | (apply s_box; rfl; constructor; rfl; intro _) | apply s_st | apply st_go | (apply st_offT; rfl; (focus ((repeat (first | assumption | rfl | exact beq_self_eq_true _ | exact bne_self_eq_false _ | apply bOrF | apply bAndT | apply bNotF | apply bNotT | (focus (apply decide_eq_true; omega)) | (focus (apply decide_eq_false; omega)) | (focus (apply bEqT; omega)) | (focus (apply bEqF; omega)) | (focus (apply bNeT; omega)) | (focus (apply bNeF; omega)) | (focus (apply bOrT1; first | assumption | (apply decide_eq_true; omega))) | (focus (apply bOrT2; first | assumption | (apply decide_eq_true; omega))) | (focus (apply bAndF1; first | assumption | (apply decide_eq_false; omega))) | (focus (apply bAndF2; first | assumption | (apply decide_eq_false; omega))))); done))) | (focus (first | (apply y_move; rfl) | (apply y_assign; rfl) | (apply y_calls; rfl; rfl; rfl; (first | assumption); done) | (apply y_or_te; rfl; (focus ((repeat (first | assumption | rfl | exact beq_self_eq_true _ | exact bne_self_eq_false _ | apply bOrF | apply bAndT | apply bNotF | apply bNotT | (focus (apply decide_eq_true; omega)) | (focus (apply decide_eq_false; omega)) | (focus (apply bEqT; omega)) | (focus (apply bEqF; omega)) | (focus (apply bNeT; omega)) | (focus (apply bNeF; omega)) | (focus (apply bOrT1; first | assumption | (apply decide_eq_true; omega))) | (focus (apply bOrT2; first | assumption | (apply decide_eq_true; omega))) | (focus (apply bAndF1; first | assumption | (apply decide_eq_false; omega))) | (focus (apply bAndF2; first | assumption | (apply decide_eq_false; omega))))); done)); done) | (apply y_len; rfl) | (apply y_gt; rfl; rfl))) | apply s_nil | apply w_seq | apply f_then | apply f_ret | apply w_ret | refine w_cond_t rfl ?_ | (apply f_end; rfl; rfl; rfl; intro w hw; first | exact ans hw | (refine ans_b ?_ hw; (focus ((repeat (first | assumption | rfl | exact beq_self_eq_true _ | exact bne_self_eq_false _ | apply bOrF | apply bAndT | apply bNotF | apply bNotT | (focus (apply decide_eq_true; omega)) | (focus (apply decide_eq_false; omega)) | (focus (apply bEqT; omega)) | (focus (apply bEqF; omega)) | (focus (apply bNeT; omega)) | (focus (apply bNeF; omega)) | (focus (apply bOrT1; first | assumption | (apply decide_eq_true; omega))) | (focus (apply bOrT2; first | assumption | (apply decide_eq_true; omega))) | (focus (apply bAndF1; first | assumption | (apply decide_eq_false; omega))) | (focus (apply bAndF2; first | assumption | (apply decide_eq_false; omega))))); done)))) | (apply w_reg_l; rfl) | exact rfl)
end Go.Proofs.Ytjhapdcojcmjlaa.Hand
