/-
  package rib: Longest, Inside, Size, Dump; told of views.
-/
import Derived.Test.YtjhapdcojcmjlaaRd
import Derived.Test.YtjhapdcojcmjlaaTt
namespace Go.Proofs.Ytjhapdcojcmjlaa.Hand
open Go.RowKit Go.Proofs.Ytjhapdcojcmjlaa.Bits Go.Proofs.Ytjhapdcojcmjlaa.Dig Go.Proofs.Ytjhapdcojcmjlaa.Sq
set_option linter.unusedVariables false
set_option linter.unusedSimpArgs false
set_option maxRecDepth 100000
set_option maxHeartbeats 1000000
section
variable {T : Ts} {lab : Lab} {L : List Pr} (h : InvX T lab L (false, [])) (g gt gm : Nat) (N H : Int) (Aa : Option Addr) (ca : Nat) (Af : Option Addr) (cf : Nat)
include h
theorem rlong_v (hL : L.length ≤ 100000) {a : Ad} (ha : a.wf) : RCal Try.prog 16 [.pointer (some ⟨g, 0, none⟩), a.val] (.vw (some ⟨g, 0, none⟩) 1 4 [ribC gt gm N H] :: tv gt T Aa ca Af cf) (.tuple #[.agg (govN L (wholeP a)).1.cells.toArray, .bool (govN L (wholeP a)).2]) := by
  have k1 := width_s a.v6
  have k2 := wholeA_s ha
  have k3 := governs_v h hL (p := wholeP a) (u_mk _ _) g gt gm N H Aa ca Af cf
  generalize govN L (wholeP a) = gv at *
  dsimp only [Pr.cells] at k3 ⊢
  refine enter_r rfl Try.func16 rfl Try.ntmps16 rfl (fun Wo => ?_)
  repeat (first | (apply s_box; rfl; constructor; rfl; intro _) | (apply s_alloc; rfl; intro _) | (apply s_store; rfl; rfl; (repeat (first | exact Plc.hit | apply Plc.miss)); constructor; (focus ((simp only [setAt, List.set_cons_zero, List.set_cons_succ, Nat.zero_add, Nat.reduceAdd, Nat.reduceMul]); try rfl)); kernel_rfl; rfl) | apply s_st | apply st_go | (focus (first | (apply y_move; rfl) | (apply y_assign; rfl) | (apply y_load; rfl; (repeat (first | exact List.Mem.head _ | apply List.Mem.tail)); (repeat (first | exact Sub.nil | apply Sub.take | apply Sub.drop)); done) | (apply y_cell; rfl; (repeat (first | exact List.Mem.head _ | apply List.Mem.tail)); (repeat (first | exact At.hit | apply At.miss)); kernel_rfl; done) | (apply y_calls; rfl; rfl; rfl; (first | assumption); done) | (apply y_rcal; rfl; rfl; rfl; (first | assumption); (repeat (first | exact SeesAll.nil | (apply SeesAll.cons; (first | (focus (apply Sees.vw; (repeat (first | exact List.Mem.head _ | apply List.Mem.tail)); done)) | (focus (apply Sees.own; (repeat (first | exact List.Mem.head _ | apply List.Mem.tail)); done)) | exact Sees.nil | assumption)) | (apply SeesAll.mem; (repeat (first | exact List.Mem.head _ | apply List.Mem.tail))))); done) | (apply y_extract; rfl; (repeat (first | exact At.hit | apply At.miss)); done) | (apply y_faddr; kernel_rfl; rfl))) | apply s_nil | apply w_seq | apply f_then | apply w_ret | (apply f_ends; rfl; rfl; (repeat (first | exact Res.nil | (apply Res.tmp; rfl) | (apply Res.agg; exact inferInstance; rfl; (repeat (first | exact List.Mem.head _ | apply List.Mem.tail)); (repeat (first | exact Sub.nil | apply Sub.take | apply Sub.drop))) | (apply Res.cell; kernel_rfl; rfl; (repeat (first | exact List.Mem.head _ | apply List.Mem.tail)); (repeat (first | exact At.hit | apply At.miss))))); intro w hw; first | exact ans hw | (refine ans_b ?_ hw; (focus ((repeat (first | assumption | rfl | exact beq_self_eq_true _ | exact bne_self_eq_false _ | apply bOrF | apply bAndT | apply bNotF | apply bNotT | (focus (apply decide_eq_true; omega)) | (focus (apply decide_eq_false; omega)) | (focus (apply bEqT; omega)) | (focus (apply bEqF; omega)) | (focus (apply bNeT; omega)) | (focus (apply bNeF; omega)) | (focus (apply bOrT1; first | assumption | (apply decide_eq_true; omega))) | (focus (apply bOrT2; first | assumption | (apply decide_eq_true; omega))) | (focus (apply bAndF1; first | assumption | (apply decide_eq_false; omega))) | (focus (apply bAndF2; first | assumption | (apply decide_eq_false; omega))))); done)))) | (apply w_mixed_r rfl 1 [0, 1, 2, 3, 4, 5, 6, 7, 8] [0, 0, 2, 2, 2, 2, 2, 0, 2] _ ; kernel_rfl; kernel_rfl; exact List.Sublist.refl _; rfl) | (apply g_st1; rfl; intro W0) | (apply g_st; rfl; intro W0) | apply g_done | (apply w_reg_l; rfl) | exact rfl)
theorem rins_v {p : Px} (hp : p.a.wf) : RCal Try.prog 21 [.pointer (some ⟨g, 0, none⟩), p.val] (.vw (some ⟨g, 0, none⟩) 1 4 [ribC gt gm N H] :: tv gt T Aa ca Af cf) (.bool (insN L p)) := by
  have k1 := all_v g gt gm N H
  have k2 := inside_v h hp gt Aa ca Af cf
  refine enter_r rfl Try.func21 rfl Try.ntmps21 rfl (fun Wo => ?_)
  repeat (first | (apply s_box; rfl; constructor; rfl; intro _) | apply s_st | apply q_st | apply st_go | (focus (first | (apply y_move; rfl) | (apply y_assign; rfl) | (apply y_load; rfl; (repeat (first | exact List.Mem.head _ | apply List.Mem.tail)); (repeat (first | exact Sub.nil | apply Sub.take | apply Sub.drop)); done) | (apply y_rcal; rfl; rfl; rfl; (first | assumption); (repeat (first | exact SeesAll.nil | (apply SeesAll.cons; (first | (focus (apply Sees.vw; (repeat (first | exact List.Mem.head _ | apply List.Mem.tail)); done)) | (focus (apply Sees.own; (repeat (first | exact List.Mem.head _ | apply List.Mem.tail)); done)) | exact Sees.nil | assumption)) | (apply SeesAll.mem; (repeat (first | exact List.Mem.head _ | apply List.Mem.tail))))); done))) | apply q_nil | apply s_nil | apply w_seq | apply f_then | apply w_ret | (apply f_end; rfl; rfl; rfl; intro w hw; first | exact ans hw | (refine ans_b ?_ hw; (focus ((repeat (first | assumption | rfl | exact beq_self_eq_true _ | exact bne_self_eq_false _ | apply bOrF | apply bAndT | apply bNotF | apply bNotT | (focus (apply decide_eq_true; omega)) | (focus (apply decide_eq_false; omega)) | (focus (apply bEqT; omega)) | (focus (apply bEqF; omega)) | (focus (apply bNeT; omega)) | (focus (apply bNeF; omega)) | (focus (apply bOrT1; first | assumption | (apply decide_eq_true; omega))) | (focus (apply bOrT2; first | assumption | (apply decide_eq_true; omega))) | (focus (apply bAndF1; first | assumption | (apply decide_eq_false; omega))) | (focus (apply bAndF2; first | assumption | (apply decide_eq_false; omega))))); done)))) | (apply w_draw_l; rfl; kernel_rfl; rfl; kernel_rfl) | (apply w_reg_l; rfl) | exact rfl)
theorem rsize_v (hb : T.ar.length ≤ 100000000) : RCal Try.prog 18 [.pointer (some ⟨g, 0, none⟩)] (.vw (some ⟨g, 0, none⟩) 1 4 [ribC gt gm N H] :: tv gt T Aa ca Af cf) (.tuple #[.int .i64 ((L.length : Nat) : Int), .int .i64 (nodesN L), .int .i64 ((T.ar.length : Nat) : Int)]) := by
  have k1 := all_v g gt gm N H
  have k2 := len_v h gt Aa ca Af cf
  have k3 := nodes_v h hb gt Aa ca Af cf
  have k4 := slots_v h gt Aa ca Af cf
  refine enter_r rfl Try.func18 rfl Try.ntmps18 rfl (fun Wo => ?_)
  repeat (first | apply s_st | apply st_go | (focus (first | (apply y_move; rfl) | (apply y_assign; rfl) | (apply y_rcal; rfl; rfl; rfl; (first | assumption); (repeat (first | exact SeesAll.nil | (apply SeesAll.cons; (first | (focus (apply Sees.vw; (repeat (first | exact List.Mem.head _ | apply List.Mem.tail)); done)) | (focus (apply Sees.own; (repeat (first | exact List.Mem.head _ | apply List.Mem.tail)); done)) | exact Sees.nil | assumption)) | (apply SeesAll.mem; (repeat (first | exact List.Mem.head _ | apply List.Mem.tail))))); done))) | apply s_nil | apply w_seq | apply f_then | apply w_ret | (apply f_ends; rfl; rfl; (repeat (first | exact Res.nil | (apply Res.tmp; rfl) | (apply Res.agg; exact inferInstance; rfl; (repeat (first | exact List.Mem.head _ | apply List.Mem.tail)); (repeat (first | exact Sub.nil | apply Sub.take | apply Sub.drop))) | (apply Res.cell; kernel_rfl; rfl; (repeat (first | exact List.Mem.head _ | apply List.Mem.tail)); (repeat (first | exact At.hit | apply At.miss))))); intro w hw; first | exact ans hw | (refine ans_b ?_ hw; (focus ((repeat (first | assumption | rfl | exact beq_self_eq_true _ | exact bne_self_eq_false _ | apply bOrF | apply bAndT | apply bNotF | apply bNotT | (focus (apply decide_eq_true; omega)) | (focus (apply decide_eq_false; omega)) | (focus (apply bEqT; omega)) | (focus (apply bEqF; omega)) | (focus (apply bNeT; omega)) | (focus (apply bNeF; omega)) | (focus (apply bOrT1; first | assumption | (apply decide_eq_true; omega))) | (focus (apply bOrT2; first | assumption | (apply decide_eq_true; omega))) | (focus (apply bAndF1; first | assumption | (apply decide_eq_false; omega))) | (focus (apply bAndF2; first | assumption | (apply decide_eq_false; omega))))); done)))) | (apply w_reg_l; rfl) | exact rfl)
/-- What stands in a dump behind so many kinds. -/
noncomputable def dumpN (L : List Pr) : Nat → List Pr
  | 0 => []
  | 1 => underN L (zeroPx false)
  | _ => underN L (zeroPx false) ++ underN L (zeroPx true)
theorem dump_t (hL : L.length ≤ 100000) : Tri Try.prog 22 [.pointer (some ⟨g, 0, none⟩)] (.vw (some ⟨g, 0, none⟩) 1 4 [ribC gt gm N H] :: tv gt T Aa ca Af cf) (RetS fun A c => (.slice A L.length c, [.own A c 5 (L.map Pr.cells) 37])) := by
  have k1 := all_v g gt gm N H
  have k2 := fun v => under_f h hL (zeroPx_wf v) gt Aa ca Af cf
  have hul : ∀ v, (underN L (zeroPx v)).length ≤ L.length := fun v => List.length_filter_le _ _
  have hall := under_all h.good
  have hd : ∀ i, (dumpN L i).length ≤ L.length := fun i => by
    have := congrArg List.length hall
    rw [List.length_append] at this
    match i with
    | 0 => exact Nat.zero_le _
    | 1 => exact hul false
    | i + 2 => show (underN L (zeroPx false) ++ underN L (zeroPx true)).length ≤ _; rw [List.length_append]; omega
  have hd2 : dumpN L 2 = L := hall
  have hd0 : dumpN L 0 = [] := rfl
  have hd1 : ∀ i, i < 2 → dumpN L i ++ underN L (zeroPx (i == 1)) = dumpN L (i + 1) := fun i hi => by
    match i, hi with
    | 0, _ => exact List.nil_append _
    | 1, _ => rfl
  clear h hall
  generalize dumpN L = D at *
  refine enter_t Try.func22 rfl Try.ntmps22 rfl (fun Wo Fo fro => ?_)
  repeat (first | (apply s_bslice; (repeat (first | exact PRows.nil | (apply PRows.cons; rfl; constructor; rfl))); rfl; rfl; intro _) | apply s_st | apply st_go | (focus (first | (apply y_move; rfl) | (apply y_assign; rfl) | (apply y_len; rfl))) | apply s_nil | apply w_seq | apply f_then | apply w_block | (apply w_reg_l; rfl) | exact rfl)
  rename_i gb
  refine w_nilown (k := 5) (t := 37) ?_
  refine w_loopm (fun s : Nat × Option Addr × Nat => [(10, .int .i64 ((s.1 : Nat) : Int)), (3, .slice s.2.1 (D s.1).length s.2.2)]) (fun s => .own s.2.1 s.2.2 5 ((D s.1).map Pr.cells) 37 :: .own (some ⟨gb, 0, none⟩) 2 1 [[.bool false], [.bool true]] 4 :: .vw (some ⟨g, 0, none⟩) 1 4 [ribC gt gm N H] :: (tv gt T Aa ca Af cf ++ fro)) (fun s => s.1 ≤ 2) (fun s => 2 - s.1) (0, none, 0) (Nat.zero_le _) ?_ ?_ ?_
  · dsimp only
    rw [hd0]
    (repeat (first | exact Cov.nil | (apply Cov.cons; rfl) | (apply Cov.seen; rfl)))
  · dsimp only
    rw [hd0]
    (repeat (first | exact List.Sublist.refl _ | apply List.Sublist.cons_cons | apply List.Sublist.cons))
  · rintro ⟨i, A, c⟩ hi R hR
    dsimp only at hi hR ⊢
    by_cases hlt : i < 2
    · have hrow : [[Value.bool false], [Value.bool true]][i]? = some [Value.bool (i == 1)] := by
        match i, hlt with
        | 0, _ => rfl
        | 1, _ => rfl
      have hl0 : [[Value.bool false], [Value.bool true]].length = 2 := rfl
      have hl0' := hl0.symm
      have hu := hul (i == 1)
      have hn := hd1 i hlt
      have ku := k2 (i == 1)
      have hB := fun A c => hR (i + 1, A, c) hlt (by dsimp only; omega)
      clear hR k2 hul hd1
      unfold zeroPx at ku hu hn
      generalize underN L ⟨⟨0, 0, i == 1⟩, 0⟩ = U at *
      generalize (i == 1) = v at *
      generalize [[Value.bool false], [Value.bool true]] = rws at *
      repeat (first | (apply s_fcal; rfl; rfl; rfl; (first | assumption); (focus ((repeat (first | exact SeesAll.nil | (apply SeesAll.cons; (first | (focus (apply Sees.vw; (repeat (first | exact List.Mem.head _ | apply List.Mem.tail)); done)) | (focus (apply Sees.own; (repeat (first | exact List.Mem.head _ | apply List.Mem.tail)); done)) | exact Sees.nil | assumption)) | (apply SeesAll.mem; (repeat (first | exact List.Mem.head _ | apply List.Mem.tail))))); done)); (first | exact want_none rfl | (apply want_on; rfl; (first | rfl | assumption | (focus ((repeat (first | assumption | rfl | exact beq_self_eq_true _ | exact bne_self_eq_false _ | apply bOrF | apply bAndT | apply bNotF | apply bNotT | (focus (apply decide_eq_true; omega)) | (focus (apply decide_eq_false; omega)) | (focus (apply bEqT; omega)) | (focus (apply bEqF; omega)) | (focus (apply bNeT; omega)) | (focus (apply bNeF; omega)) | (focus (apply bOrT1; first | assumption | (apply decide_eq_true; omega))) | (focus (apply bOrT2; first | assumption | (apply decide_eq_true; omega))) | (focus (apply bAndF1; first | assumption | (apply decide_eq_false; omega))) | (focus (apply bAndF2; first | assumption | (apply decide_eq_false; omega))))); done))))); rfl; intro _; (try dsimp only [List.cons_append, List.nil_append])) | apply s_st | apply st_go | (focus (first | (apply y_move; rfl) | (apply y_assign; rfl) | (apply y_ecell; rfl; (first | (focus (apply Sees.vw; (repeat (first | exact List.Mem.head _ | apply List.Mem.tail)); done)) | (focus (apply Sees.own; (repeat (first | exact List.Mem.head _ | apply List.Mem.tail)); done)) | exact Sees.nil | assumption); (first | assumption | rfl); (repeat (first | exact At.hit | apply At.miss)); kernel_rfl; done) | (apply y_rcal; rfl; rfl; rfl; (first | assumption); (repeat (first | exact SeesAll.nil | (apply SeesAll.cons; (first | (focus (apply Sees.vw; (repeat (first | exact List.Mem.head _ | apply List.Mem.tail)); done)) | (focus (apply Sees.own; (repeat (first | exact List.Mem.head _ | apply List.Mem.tail)); done)) | exact Sees.nil | assumption)) | (apply SeesAll.mem; (repeat (first | exact List.Mem.head _ | apply List.Mem.tail))))); done) | (apply y_ixaddr; rfl; rfl; (first | (focus (apply Sees.vw; (repeat (first | exact List.Mem.head _ | apply List.Mem.tail)); done)) | (focus (apply Sees.own; (repeat (first | exact List.Mem.head _ | apply List.Mem.tail)); done)) | exact Sees.nil | assumption); (first | rfl | assumption | (focus (simp; done)) | (focus (simp; omega))); (first | assumption | rfl | exact (show (0 : Int) = ((0 : Nat) : Int) from rfl) | exact (show (1 : Int) = ((1 : Nat) : Int) from rfl) | exact (show (2 : Int) = ((2 : Nat) : Int) from rfl) | exact (show (3 : Int) = ((3 : Nat) : Int) from rfl)); (first | assumption | omega | (focus (simp; done)) | (focus (simp; omega))); done) | (apply y_len; rfl) | (apply y_lt; rfl; rfl) | (apply y_build; kernel_rfl; (repeat (first | exact Bld.nil | (apply Bld.cons; exact inferInstance; rfl; constructor; kernel_rfl; (focus ((simp only [setAt, List.set_cons_zero, List.set_cons_succ, Nat.zero_add, Nat.reduceAdd, Nat.reduceMul]); try rfl))))); done))) | apply s_nil | apply w_seq | apply f_then | apply w_block | apply w_skip | (apply w_cond_tt; rfl; (focus ((repeat (first | assumption | rfl | exact beq_self_eq_true _ | exact bne_self_eq_false _ | apply bOrF | apply bAndT | apply bNotF | apply bNotT | (focus (apply decide_eq_true; omega)) | (focus (apply decide_eq_false; omega)) | (focus (apply bEqT; omega)) | (focus (apply bEqF; omega)) | (focus (apply bNeT; omega)) | (focus (apply bNeF; omega)) | (focus (apply bOrT1; first | assumption | (apply decide_eq_true; omega))) | (focus (apply bOrT2; first | assumption | (apply decide_eq_true; omega))) | (focus (apply bAndF1; first | assumption | (apply decide_eq_false; omega))) | (focus (apply bAndF2; first | assumption | (apply decide_eq_false; omega))))); done))) | (apply w_reg_l; rfl) | exact rfl)
      rename_i d
      clear ku hrow
      have hdi := hd i
      refine w_loopm (fun s : Nat × Option Addr × Nat => [(21, .int .i64 ((s.1 : Nat) : Int)), (3, .slice s.2.1 ((D i).length + s.1) s.2.2)]) (fun s => .own d.1 d.2 5 (U.map Pr.cells) 103 :: .own s.2.1 s.2.2 5 ((D i).map Pr.cells ++ (U.take s.1).map Pr.cells) 37 :: .own (some ⟨gb, 0, none⟩) 2 1 rws 4 :: .vw (some ⟨g, 0, none⟩) 1 4 [ribC gt gm N H] :: (tv gt T Aa ca Af cf ++ fro)) (fun s => s.1 ≤ U.length) (fun s => U.length - s.1) (0, A, c) (Nat.zero_le _) ?_ ?_ ?_
      · (repeat (first | exact Cov.nil | (apply Cov.cons; rfl) | (apply Cov.seen; rfl)))
      · dsimp only
        rw [List.take_zero, List.map_nil, List.append_nil]
        (repeat (first | exact List.Sublist.refl _ | apply List.Sublist.cons_cons | apply List.Sublist.cons))
      · rintro ⟨j, A, c⟩ hj R hR
        dsimp only at hj hR ⊢
        have hl1 : ((D i).map Pr.cells ++ (U.take j).map Pr.cells).length = (D i).length + j := by simp; omega
        have hl1' := hl1.symm
        by_cases hlt2 : j < U.length
        · have hrow := map_get (f := Pr.cells) hlt2
          have k4 := route_s U[j]
          have hts := take_pr U hlt2
          have hB2 := fun A c => hR (j + 1, A, c) hlt2 (by dsimp only; omega)
          dsimp only at hB2
          rw [hts, ← wrap_suc (i := j) (by omega), ← List.append_assoc, ← Nat.add_assoc] at hB2
          clear hR hts hB
          generalize (D i).map Pr.cells ++ (U.take j).map Pr.cells = rs at *
          generalize U[j] = x at *
          generalize (D i).length = n at *
          dsimp only [Pr.cells] at k4
          repeat (first | (apply s_alloc; rfl; intro _) | (apply s_bslice; (repeat (first | exact PRows.nil | (apply PRows.cons; rfl; constructor; rfl))); rfl; rfl; intro _) | (apply s_store; rfl; rfl; (repeat (first | exact Plc.hit | apply Plc.miss)); constructor; (focus ((simp only [setAt, List.set_cons_zero, List.set_cons_succ, Nat.zero_add, Nat.reduceAdd, Nat.reduceMul]); try rfl)); kernel_rfl; rfl) | (apply s_append; rfl; rfl; (repeat (first | exact Plc.hit | apply Plc.miss)); (first | (focus (apply Sees.vw; (repeat (first | exact List.Mem.head _ | apply List.Mem.tail)); done)) | (focus (apply Sees.own; (repeat (first | exact List.Mem.head _ | apply List.Mem.tail)); done)) | exact Sees.nil | assumption); (first | rfl | assumption | (focus (simp; done)) | (focus (simp; omega))); (first | rfl | assumption | (focus (simp; done)) | (focus (simp; omega))); (first | assumption | omega | (focus (simp; done)) | (focus (simp; omega))); kernel_rfl; rfl; intro _ _) | apply s_st | apply st_go | (focus (first | (apply y_move; rfl) | (apply y_assign; rfl) | (apply y_load; rfl; (repeat (first | exact List.Mem.head _ | apply List.Mem.tail)); (repeat (first | exact Sub.nil | apply Sub.take | apply Sub.drop)); done) | (apply y_eload; rfl; (first | (focus (apply Sees.vw; (repeat (first | exact List.Mem.head _ | apply List.Mem.tail)); done)) | (focus (apply Sees.own; (repeat (first | exact List.Mem.head _ | apply List.Mem.tail)); done)) | exact Sees.nil | assumption); (first | assumption | rfl); (repeat (first | exact Sub.nil | apply Sub.take | apply Sub.drop)); done) | (apply y_calls; rfl; rfl; rfl; (first | assumption); done) | (apply y_ixaddr; rfl; rfl; (first | (focus (apply Sees.vw; (repeat (first | exact List.Mem.head _ | apply List.Mem.tail)); done)) | (focus (apply Sees.own; (repeat (first | exact List.Mem.head _ | apply List.Mem.tail)); done)) | exact Sees.nil | assumption); (first | rfl | assumption | (focus (simp; done)) | (focus (simp; omega))); (first | assumption | rfl | exact (show (0 : Int) = ((0 : Nat) : Int) from rfl) | exact (show (1 : Int) = ((1 : Nat) : Int) from rfl) | exact (show (2 : Int) = ((2 : Nat) : Int) from rfl) | exact (show (3 : Int) = ((3 : Nat) : Int) from rfl)); (first | assumption | omega | (focus (simp; done)) | (focus (simp; omega))); done) | (apply y_lt; rfl; rfl) | (apply y_add; rfl; rfl))) | apply s_nil | apply w_seq | apply f_then | apply w_block | apply f_norm_block | (apply f_backs; assumption; (repeat (first | exact Cov.nil | (apply Cov.cons; rfl) | (apply Cov.seen; rfl))); (focus ((repeat (first | exact List.Sublist.refl _ | apply List.Sublist.cons_cons | apply List.Sublist.cons)); done))) | apply w_skip | (apply w_cond_tt; rfl; (focus ((repeat (first | assumption | rfl | exact beq_self_eq_true _ | exact bne_self_eq_false _ | apply bOrF | apply bAndT | apply bNotF | apply bNotT | (focus (apply decide_eq_true; omega)) | (focus (apply decide_eq_false; omega)) | (focus (apply bEqT; omega)) | (focus (apply bEqF; omega)) | (focus (apply bNeT; omega)) | (focus (apply bNeF; omega)) | (focus (apply bOrT1; first | assumption | (apply decide_eq_true; omega))) | (focus (apply bOrT2; first | assumption | (apply decide_eq_true; omega))) | (focus (apply bAndF1; first | assumption | (apply decide_eq_false; omega))) | (focus (apply bAndF2; first | assumption | (apply decide_eq_false; omega))))); done))) | (apply w_reg_l; rfl) | exact rfl)
        · obtain rfl : j = U.length := by omega
          have hB := hB A c
          dsimp only at hB
          rw [← hn, List.length_append, List.map_append, ← wrap_suc (i := i) (by omega)] at hB
          rw [List.take_length]
          clear hR hl1 hl1'
          repeat (first | apply s_st | apply st_go | (focus (first | (apply y_move; rfl) | (apply y_lt; rfl; rfl) | (apply y_add; rfl; rfl))) | apply s_nil | apply w_seq | apply f_then | apply w_exit | apply f_out | apply f_norm_block | apply f_exit_block | (apply f_back; assumption; (repeat (first | exact Cov.nil | (apply Cov.cons; rfl) | (apply Cov.seen; rfl))); (focus ((repeat (first | exact List.Sublist.refl _ | apply List.Sublist.cons_cons | apply List.Sublist.cons)); done))) | (apply w_cond_ff; rfl; (focus ((repeat (first | assumption | rfl | exact beq_self_eq_true _ | exact bne_self_eq_false _ | apply bOrF | apply bAndT | apply bNotF | apply bNotT | (focus (apply decide_eq_true; omega)) | (focus (apply decide_eq_false; omega)) | (focus (apply bEqT; omega)) | (focus (apply bEqF; omega)) | (focus (apply bNeT; omega)) | (focus (apply bNeF; omega)) | (focus (apply bOrT1; first | assumption | (apply decide_eq_true; omega))) | (focus (apply bOrT2; first | assumption | (apply decide_eq_true; omega))) | (focus (apply bAndF1; first | assumption | (apply decide_eq_false; omega))) | (focus (apply bAndF2; first | assumption | (apply decide_eq_false; omega))))); done))) | (apply w_reg_l; rfl) | exact rfl)
    · obtain rfl : i = 2 := by omega
      rw [hd2]
      clear hR k2 hul hd hd1
      repeat (first | apply s_st | apply st_go | (focus (first | (apply y_move; rfl) | (apply y_assign; rfl) | (apply y_lt; rfl; rfl))) | apply s_nil | apply w_seq | apply f_then | apply w_exit | apply f_out | apply f_exit_block | apply w_ret | refine w_cond_f rfl ?_ | (apply f_end; rfl; rfl; rfl; intro w hw; first | exact ans hw | (refine ans_b ?_ hw; (focus ((repeat (first | assumption | rfl | exact beq_self_eq_true _ | exact bne_self_eq_false _ | apply bOrF | apply bAndT | apply bNotF | apply bNotT | (focus (apply decide_eq_true; omega)) | (focus (apply decide_eq_false; omega)) | (focus (apply bEqT; omega)) | (focus (apply bEqF; omega)) | (focus (apply bNeT; omega)) | (focus (apply bNeF; omega)) | (focus (apply bOrT1; first | assumption | (apply decide_eq_true; omega))) | (focus (apply bOrT2; first | assumption | (apply decide_eq_true; omega))) | (focus (apply bAndF1; first | assumption | (apply decide_eq_false; omega))) | (focus (apply bAndF2; first | assumption | (apply decide_eq_false; omega))))); done))) | (apply t_endS1 hw; rfl; (focus ((repeat (first | exact List.Sublist.refl _ | apply List.Sublist.cons_cons | apply List.Sublist.cons)); done))) | (apply t_endU hw; rfl; (focus ((repeat (first | exact List.Sublist.refl _ | apply List.Sublist.cons_cons | apply List.Sublist.cons)); done))) | (apply t_endX1 hw; rfl; (focus ((repeat (first | exact List.Sublist.refl _ | apply List.Sublist.cons_cons | apply List.Sublist.cons)); done))) | (refine t_end ⟨rfl, rfl⟩ ?_ w hw; (focus ((repeat (first | exact List.Sublist.refl _ | apply List.Sublist.cons_cons | apply List.Sublist.cons)); done))) | (apply t_endUT hw; rfl; (focus ((repeat (first | exact Tk.nil | (apply Tk.see; (first | (focus (apply VSees.vw; (repeat (first | exact List.Mem.head _ | apply List.Mem.tail)); done)) | exact VSees.nil | assumption)) | (apply Tk.see; exact VSees.nil) | (apply Tk.take; (repeat (first | exact Plc.hit | apply Plc.miss))))); done)); (focus ((repeat (first | exact List.Sublist.refl _ | apply List.Sublist.cons_cons | apply List.Sublist.cons)); done))) | (apply t_endXT hw; rfl; (repeat (first | exact Tk.nil | (apply Tk.see; (first | (focus (apply VSees.vw; (repeat (first | exact List.Mem.head _ | apply List.Mem.tail)); done)) | exact VSees.nil | assumption)) | (apply Tk.see; exact VSees.nil) | (apply Tk.take; (repeat (first | exact Plc.hit | apply Plc.miss))))); (focus ((repeat (first | exact List.Sublist.refl _ | apply List.Sublist.cons_cons | apply List.Sublist.cons)); done)))) | (apply w_reg_l; rfl) | exact rfl)
end
end Go.Proofs.Ytjhapdcojcmjlaa.Hand
