/-
  The queue: from, and as, the document's; when two are the same.
-/
import Derived.Test.YtlmcfjadhahlpaaQe
namespace Go.Proofs.Ytlmcfjadhahlpaa.Hand
open Go.RowKit Go.Proofs.Ytlmcfjadhahlpaa.Bits Go.Proofs.Ytlmcfjadhahlpaa.Dig Go.Proofs.Ytlmcfjadhahlpaa.Sq
set_option linter.unusedVariables false
set_option linter.unusedSimpArgs false
set_option maxRecDepth 100000
set_option maxHeartbeats 1000000
theorem take_cells (l : List En) {i : Nat} (h : i < l.length) : (l.take (i + 1)).map En.cells = (l.take i).map En.cells ++ [l[i].cells] := by
  rw [List.take_add_one, List.getElem?_eq_getElem h, List.map_append]
  rfl
theorem theirs_s (l : List En) (hl : l.length ≤ 100000000) (b : Int) (A : Option Addr) (c : Nat) :
    Tri Try.prog 25 [.agg #[.slice A l.length c, .int .i64 b]] [.vw A c 9 (l.map En.cells)] (RetS fun A' c' => (.agg #[.slice A' l.length c', .int .i64 b], [.vw A' c' 9 (l.map En.cells)])) := by
  refine Tri.mono (R := RetS fun A' c' => (.agg #[.slice A' l.length c', .int .i64 b], [.vw A' c' 9 ((l.take l.length).map En.cells)])) ?_ (fun v m' ⟨A', c', h1, h2⟩ => ⟨A', c', h1, by rw [h2, List.take_length]⟩)
  refine enter_t Try.func25 rfl Try.ntmps25 rfl (fun Wo Fo fro => ?_)
  repeat (first | (apply s_box; rfl; constructor; rfl; intro _) | (apply s_alloc; rfl; intro _) | (apply s_store; rfl; rfl; (repeat (first | exact Plc.hit | apply Plc.miss)); constructor; (focus ((simp only [setAt, List.set_cons_zero, List.set_cons_succ, Nat.zero_add, Nat.reduceAdd, Nat.reduceMul]); try rfl)); kernel_rfl; rfl) | apply s_st | apply st_go | (focus (first | (apply y_assign; rfl) | (apply y_cell; rfl; (repeat (first | exact List.Mem.head _ | apply List.Mem.tail)); (repeat (first | exact At.hit | apply At.miss)); kernel_rfl; done) | (apply y_faddr; kernel_rfl; rfl) | (apply y_build; kernel_rfl; (repeat (first | exact Bld.nil | (apply Bld.cons; exact inferInstance; rfl; constructor; kernel_rfl; (focus ((simp only [setAt, List.set_cons_zero, List.set_cons_succ, Nat.zero_add, Nat.reduceAdd, Nat.reduceMul]); try rfl))))); done))) | apply s_nil | apply w_seq | apply f_then | apply w_block | (apply w_reg_l; rfl) | exact rfl)
  rename_i g1 g2 g3
  refine w_nilown (k := 9) (t := 51) ?_
  refine w_loopm (fun s : Nat × Option Addr × Nat => [(4, .int .i64 ((s.1 : Nat) : Int))]) (fun s => .own s.2.1 s.2.2 9 ((l.take s.1).map En.cells) 51 :: .blk g3 [.slice s.2.1 s.1 s.2.2, .int .i64 b] 30 :: .blk g2 [.slice none 0 0, .int .i64 0] 30 :: .blk g1 [.slice A l.length c, .int .i64 b] 26 :: .vw A c 9 (l.map En.cells) :: fro) (fun s => s.1 ≤ l.length) (fun s => l.length - s.1) (0, none, 0) (Nat.zero_le _) ?_ ?_ ?_
  · (repeat (first | exact Cov.nil | (apply Cov.cons; rfl) | (apply Cov.seen; rfl)))
  · (repeat (first | exact List.Sublist.refl _ | apply List.Sublist.cons_cons | apply List.Sublist.cons))
  · rintro ⟨i, A', c'⟩ hi R hR
    dsimp only at hi hR ⊢
    have hl0 : ((l.take i).map En.cells).length = i := by simp; omega
    have hl0' := hl0.symm
    by_cases hlt : i < l.length
    · have hE2 : decide (((i : Nat) : Int) < ((l.length : Nat) : Int)) = true := by simp; exact hlt
      have hrow := map_get (f := En.cells) hlt
      have hts := take_cells l hlt
      have hB := fun A' c' => hR (i + 1, A', c') hlt (by dsimp only; omega)
      dsimp only at hB
      rw [hts, ← wrap_suc (i := i) (by omega)] at hB
      clear hR hts
      repeat (first | (apply s_store; rfl; rfl; (repeat (first | exact Plc.hit | apply Plc.miss)); constructor; (focus ((simp only [setAt, List.set_cons_zero, List.set_cons_succ, Nat.zero_add, Nat.reduceAdd, Nat.reduceMul]); try rfl)); kernel_rfl; rfl) | (apply s_append; rfl; rfl; (repeat (first | exact Plc.hit | apply Plc.miss)); (first | (focus (apply Sees.vw; (repeat (first | exact List.Mem.head _ | apply List.Mem.tail)); done)) | (focus (apply Sees.own; (repeat (first | exact List.Mem.head _ | apply List.Mem.tail)); done)) | exact Sees.nil | assumption); (first | rfl | assumption | (focus (simp; done)) | (focus (simp; omega))); (first | rfl | assumption | (focus (simp; done)) | (focus (simp; omega))); (first | assumption | omega | (focus (simp; done)) | (focus (simp; omega))); kernel_rfl; rfl; intro _ _) | (apply g_bslice; (repeat (first | exact PRows.nil | (apply PRows.cons; rfl; constructor; rfl))); rfl; rfl; intro _) | apply s_st | apply st_go | (focus (first | (apply y_move; rfl) | (apply y_assign; rfl) | (apply y_cell; rfl; (repeat (first | exact List.Mem.head _ | apply List.Mem.tail)); (repeat (first | exact At.hit | apply At.miss)); kernel_rfl; done) | (apply y_eload; rfl; (first | (focus (apply Sees.vw; (repeat (first | exact List.Mem.head _ | apply List.Mem.tail)); done)) | (focus (apply Sees.own; (repeat (first | exact List.Mem.head _ | apply List.Mem.tail)); done)) | exact Sees.nil | assumption); (first | assumption | rfl); (repeat (first | exact Sub.nil | apply Sub.take | apply Sub.drop)); done) | (apply y_ecell; rfl; (first | (focus (apply Sees.vw; (repeat (first | exact List.Mem.head _ | apply List.Mem.tail)); done)) | (focus (apply Sees.own; (repeat (first | exact List.Mem.head _ | apply List.Mem.tail)); done)) | exact Sees.nil | assumption); (first | assumption | rfl); (repeat (first | exact At.hit | apply At.miss)); kernel_rfl; done) | (apply y_efaddr; kernel_rfl; rfl) | (apply y_faddr; kernel_rfl; rfl) | (apply y_ixaddr; rfl; rfl; (first | (focus (apply Sees.vw; (repeat (first | exact List.Mem.head _ | apply List.Mem.tail)); done)) | (focus (apply Sees.own; (repeat (first | exact List.Mem.head _ | apply List.Mem.tail)); done)) | exact Sees.nil | assumption); (first | rfl | assumption | (focus (simp; done)) | (focus (simp; omega))); (first | assumption | rfl | exact (show (0 : Int) = ((0 : Nat) : Int) from rfl) | exact (show (1 : Int) = ((1 : Nat) : Int) from rfl) | exact (show (2 : Int) = ((2 : Nat) : Int) from rfl) | exact (show (3 : Int) = ((3 : Nat) : Int) from rfl)); (first | assumption | omega | (focus (simp; done)) | (focus (simp; omega))); done) | (apply y_len; rfl) | (apply y_lt; rfl; rfl) | (apply y_add; rfl; rfl) | (apply y_build; kernel_rfl; (repeat (first | exact Bld.nil | (apply Bld.cons; exact inferInstance; rfl; constructor; kernel_rfl; (focus ((simp only [setAt, List.set_cons_zero, List.set_cons_succ, Nat.zero_add, Nat.reduceAdd, Nat.reduceMul]); try rfl))))); done))) | apply s_nil | apply w_seq | apply f_then | apply w_block | apply f_norm_block | (apply f_backs; assumption; (repeat (first | exact Cov.nil | (apply Cov.cons; rfl) | (apply Cov.seen; rfl))); (focus ((repeat (first | exact List.Sublist.refl _ | apply List.Sublist.cons_cons | apply List.Sublist.cons)); done))) | apply w_skip | (apply w_cond_tt; rfl; assumption) | (apply w_mixed_r rfl 5 [0, 1, 2, 3, 4, 5, 6, 7, 8, 9, 10, 11, 12, 13, 14, 15, 16, 17, 18, 19, 20, 21] [0, 0, 0, 0, 0, 0, 0, 0, 0, 0, 0, 0, 0, 0, 0, 0, 2, 2, 2, 2, 2, 2] _ ; kernel_rfl; kernel_rfl; exact List.Sublist.refl _; rfl) | (apply g_st1; rfl; intro W0) | (apply g_st; rfl; intro W0) | apply g_done | (apply w_reg_l; rfl) | exact rfl)
    · have hE2 : decide (((i : Nat) : Int) < ((l.length : Nat) : Int)) = false := by simp; omega
      obtain rfl : i = l.length := by omega
      clear hR
      repeat (first | (apply s_store; rfl; rfl; (repeat (first | exact Plc.hit | apply Plc.miss)); constructor; (focus ((simp only [setAt, List.set_cons_zero, List.set_cons_succ, Nat.zero_add, Nat.reduceAdd, Nat.reduceMul]); try rfl)); kernel_rfl; rfl) | apply s_st | apply st_go | (focus (first | (apply y_move; rfl) | (apply y_load; rfl; (repeat (first | exact List.Mem.head _ | apply List.Mem.tail)); (repeat (first | exact Sub.nil | apply Sub.take | apply Sub.drop)); done) | (apply y_cell; rfl; (repeat (first | exact List.Mem.head _ | apply List.Mem.tail)); (repeat (first | exact At.hit | apply At.miss)); kernel_rfl; done) | (apply y_faddr; kernel_rfl; rfl) | (apply y_len; rfl) | (apply y_lt; rfl; rfl))) | apply s_nil | apply w_seq | apply f_then | apply w_exit | apply f_out | apply f_exit_block | apply w_ret | (apply w_cond_ff; rfl; assumption) | (apply f_ends1; rfl; rfl; (repeat (first | exact Res.nil | (apply Res.tmp; rfl) | (apply Res.agg; exact inferInstance; rfl; (repeat (first | exact List.Mem.head _ | apply List.Mem.tail)); (repeat (first | exact Sub.nil | apply Sub.take | apply Sub.drop))) | (apply Res.cell; kernel_rfl; rfl; (repeat (first | exact List.Mem.head _ | apply List.Mem.tail)); (repeat (first | exact At.hit | apply At.miss))))); intro w hw; first | exact ans hw | (refine ans_b ?_ hw; assumption) | (apply t_endS1 hw; rfl; (focus ((repeat (first | exact List.Sublist.refl _ | apply List.Sublist.cons_cons | apply List.Sublist.cons)); done))) | (apply t_endX1 hw; rfl; (focus ((repeat (first | exact List.Sublist.refl _ | apply List.Sublist.cons_cons | apply List.Sublist.cons)); done))) | (refine t_end ⟨rfl, rfl⟩ ?_ w hw; (focus ((repeat (first | exact List.Sublist.refl _ | apply List.Sublist.cons_cons | apply List.Sublist.cons)); done)))) | (apply fin_shut (e := .ret); (repeat (first | exact Plc.hit | apply Plc.miss))) | (apply w_reg_l; rfl) | exact rfl)
theorem ours_s (l : List En) (hl : l.length ≤ 100000000) (b : Int) (A : Option Addr) (c : Nat) :
    Tri Try.prog 27 [.agg #[.slice A l.length c, .int .i64 b]] [.vw A c 9 (l.map En.cells)] (RetS fun A' c' => (.agg #[.slice A' l.length c', .int .i64 b], [.vw A' c' 9 (l.map En.cells)])) := by
  refine Tri.mono (R := RetS fun A' c' => (.agg #[.slice A' l.length c', .int .i64 b], [.vw A' c' 9 ((l.take l.length).map En.cells)])) ?_ (fun v m' ⟨A', c', h1, h2⟩ => ⟨A', c', h1, by rw [h2, List.take_length]⟩)
  refine enter_t Try.func27 rfl Try.ntmps27 rfl (fun Wo Fo fro => ?_)
  repeat (first | (apply s_box; rfl; constructor; rfl; intro _) | (apply s_alloc; rfl; intro _) | (apply s_store; rfl; rfl; (repeat (first | exact Plc.hit | apply Plc.miss)); constructor; (focus ((simp only [setAt, List.set_cons_zero, List.set_cons_succ, Nat.zero_add, Nat.reduceAdd, Nat.reduceMul]); try rfl)); kernel_rfl; rfl) | apply s_st | apply st_go | (focus (first | (apply y_assign; rfl) | (apply y_cell; rfl; (repeat (first | exact List.Mem.head _ | apply List.Mem.tail)); (repeat (first | exact At.hit | apply At.miss)); kernel_rfl; done) | (apply y_faddr; kernel_rfl; rfl) | (apply y_build; kernel_rfl; (repeat (first | exact Bld.nil | (apply Bld.cons; exact inferInstance; rfl; constructor; kernel_rfl; (focus ((simp only [setAt, List.set_cons_zero, List.set_cons_succ, Nat.zero_add, Nat.reduceAdd, Nat.reduceMul]); try rfl))))); done))) | apply s_nil | apply w_seq | apply f_then | apply w_block | (apply w_reg_l; rfl) | exact rfl)
  rename_i g1 g2 g3
  refine w_nilown (k := 9) (t := 48) ?_
  refine w_loopm (fun s : Nat × Option Addr × Nat => [(4, .int .i64 ((s.1 : Nat) : Int))]) (fun s => .own s.2.1 s.2.2 9 ((l.take s.1).map En.cells) 48 :: .blk g3 [.slice s.2.1 s.1 s.2.2, .int .i64 b] 26 :: .blk g2 [.slice none 0 0, .int .i64 0] 26 :: .blk g1 [.slice A l.length c, .int .i64 b] 30 :: .vw A c 9 (l.map En.cells) :: fro) (fun s => s.1 ≤ l.length) (fun s => l.length - s.1) (0, none, 0) (Nat.zero_le _) ?_ ?_ ?_
  · (repeat (first | exact Cov.nil | (apply Cov.cons; rfl) | (apply Cov.seen; rfl)))
  · (repeat (first | exact List.Sublist.refl _ | apply List.Sublist.cons_cons | apply List.Sublist.cons))
  · rintro ⟨i, A', c'⟩ hi R hR
    dsimp only at hi hR ⊢
    have hl0 : ((l.take i).map En.cells).length = i := by simp; omega
    have hl0' := hl0.symm
    by_cases hlt : i < l.length
    · have hE2 : decide (((i : Nat) : Int) < ((l.length : Nat) : Int)) = true := by simp; exact hlt
      have hrow := map_get (f := En.cells) hlt
      have hts := take_cells l hlt
      have hB := fun A' c' => hR (i + 1, A', c') hlt (by dsimp only; omega)
      dsimp only at hB
      rw [hts, ← wrap_suc (i := i) (by omega)] at hB
      clear hR hts
      repeat (first | (apply s_store; rfl; rfl; (repeat (first | exact Plc.hit | apply Plc.miss)); constructor; (focus ((simp only [setAt, List.set_cons_zero, List.set_cons_succ, Nat.zero_add, Nat.reduceAdd, Nat.reduceMul]); try rfl)); kernel_rfl; rfl) | (apply s_append; rfl; rfl; (repeat (first | exact Plc.hit | apply Plc.miss)); (first | (focus (apply Sees.vw; (repeat (first | exact List.Mem.head _ | apply List.Mem.tail)); done)) | (focus (apply Sees.own; (repeat (first | exact List.Mem.head _ | apply List.Mem.tail)); done)) | exact Sees.nil | assumption); (first | rfl | assumption | (focus (simp; done)) | (focus (simp; omega))); (first | rfl | assumption | (focus (simp; done)) | (focus (simp; omega))); (first | assumption | omega | (focus (simp; done)) | (focus (simp; omega))); kernel_rfl; rfl; intro _ _) | (apply g_bslice; (repeat (first | exact PRows.nil | (apply PRows.cons; rfl; constructor; rfl))); rfl; rfl; intro _) | apply s_st | apply st_go | (focus (first | (apply y_move; rfl) | (apply y_assign; rfl) | (apply y_cell; rfl; (repeat (first | exact List.Mem.head _ | apply List.Mem.tail)); (repeat (first | exact At.hit | apply At.miss)); kernel_rfl; done) | (apply y_eload; rfl; (first | (focus (apply Sees.vw; (repeat (first | exact List.Mem.head _ | apply List.Mem.tail)); done)) | (focus (apply Sees.own; (repeat (first | exact List.Mem.head _ | apply List.Mem.tail)); done)) | exact Sees.nil | assumption); (first | assumption | rfl); (repeat (first | exact Sub.nil | apply Sub.take | apply Sub.drop)); done) | (apply y_ecell; rfl; (first | (focus (apply Sees.vw; (repeat (first | exact List.Mem.head _ | apply List.Mem.tail)); done)) | (focus (apply Sees.own; (repeat (first | exact List.Mem.head _ | apply List.Mem.tail)); done)) | exact Sees.nil | assumption); (first | assumption | rfl); (repeat (first | exact At.hit | apply At.miss)); kernel_rfl; done) | (apply y_efaddr; kernel_rfl; rfl) | (apply y_faddr; kernel_rfl; rfl) | (apply y_ixaddr; rfl; rfl; (first | (focus (apply Sees.vw; (repeat (first | exact List.Mem.head _ | apply List.Mem.tail)); done)) | (focus (apply Sees.own; (repeat (first | exact List.Mem.head _ | apply List.Mem.tail)); done)) | exact Sees.nil | assumption); (first | rfl | assumption | (focus (simp; done)) | (focus (simp; omega))); (first | assumption | rfl | exact (show (0 : Int) = ((0 : Nat) : Int) from rfl) | exact (show (1 : Int) = ((1 : Nat) : Int) from rfl) | exact (show (2 : Int) = ((2 : Nat) : Int) from rfl) | exact (show (3 : Int) = ((3 : Nat) : Int) from rfl)); (first | assumption | omega | (focus (simp; done)) | (focus (simp; omega))); done) | (apply y_len; rfl) | (apply y_lt; rfl; rfl) | (apply y_add; rfl; rfl) | (apply y_build; kernel_rfl; (repeat (first | exact Bld.nil | (apply Bld.cons; exact inferInstance; rfl; constructor; kernel_rfl; (focus ((simp only [setAt, List.set_cons_zero, List.set_cons_succ, Nat.zero_add, Nat.reduceAdd, Nat.reduceMul]); try rfl))))); done))) | apply s_nil | apply w_seq | apply f_then | apply w_block | apply f_norm_block | (apply f_backs; assumption; (repeat (first | exact Cov.nil | (apply Cov.cons; rfl) | (apply Cov.seen; rfl))); (focus ((repeat (first | exact List.Sublist.refl _ | apply List.Sublist.cons_cons | apply List.Sublist.cons)); done))) | apply w_skip | (apply w_cond_tt; rfl; assumption) | (apply w_mixed_r rfl 5 [0, 1, 2, 3, 4, 5, 6, 7, 8, 9, 10, 11, 12, 13, 14, 15, 16, 17, 18, 19, 20, 21] [0, 0, 0, 0, 0, 0, 0, 0, 0, 0, 0, 0, 0, 0, 0, 0, 2, 2, 2, 2, 2, 2] _ ; kernel_rfl; kernel_rfl; exact List.Sublist.refl _; rfl) | (apply g_st1; rfl; intro W0) | (apply g_st; rfl; intro W0) | apply g_done | (apply w_reg_l; rfl) | exact rfl)
    · have hE2 : decide (((i : Nat) : Int) < ((l.length : Nat) : Int)) = false := by simp; omega
      obtain rfl : i = l.length := by omega
      clear hR
      repeat (first | (apply s_store; rfl; rfl; (repeat (first | exact Plc.hit | apply Plc.miss)); constructor; (focus ((simp only [setAt, List.set_cons_zero, List.set_cons_succ, Nat.zero_add, Nat.reduceAdd, Nat.reduceMul]); try rfl)); kernel_rfl; rfl) | apply s_st | apply st_go | (focus (first | (apply y_move; rfl) | (apply y_load; rfl; (repeat (first | exact List.Mem.head _ | apply List.Mem.tail)); (repeat (first | exact Sub.nil | apply Sub.take | apply Sub.drop)); done) | (apply y_cell; rfl; (repeat (first | exact List.Mem.head _ | apply List.Mem.tail)); (repeat (first | exact At.hit | apply At.miss)); kernel_rfl; done) | (apply y_faddr; kernel_rfl; rfl) | (apply y_len; rfl) | (apply y_lt; rfl; rfl))) | apply s_nil | apply w_seq | apply f_then | apply w_exit | apply f_out | apply f_exit_block | apply w_ret | (apply w_cond_ff; rfl; assumption) | (apply f_ends1; rfl; rfl; (repeat (first | exact Res.nil | (apply Res.tmp; rfl) | (apply Res.agg; exact inferInstance; rfl; (repeat (first | exact List.Mem.head _ | apply List.Mem.tail)); (repeat (first | exact Sub.nil | apply Sub.take | apply Sub.drop))) | (apply Res.cell; kernel_rfl; rfl; (repeat (first | exact List.Mem.head _ | apply List.Mem.tail)); (repeat (first | exact At.hit | apply At.miss))))); intro w hw; first | exact ans hw | (refine ans_b ?_ hw; assumption) | (apply t_endS1 hw; rfl; (focus ((repeat (first | exact List.Sublist.refl _ | apply List.Sublist.cons_cons | apply List.Sublist.cons)); done))) | (apply t_endX1 hw; rfl; (focus ((repeat (first | exact List.Sublist.refl _ | apply List.Sublist.cons_cons | apply List.Sublist.cons)); done))) | (refine t_end ⟨rfl, rfl⟩ ?_ w hw; (focus ((repeat (first | exact List.Sublist.refl _ | apply List.Sublist.cons_cons | apply List.Sublist.cons)); done)))) | (apply fin_shut (e := .ret); (repeat (first | exact Plc.hit | apply Plc.miss))) | (apply w_reg_l; rfl) | exact rfl)
def eqA (a b : Ad) : Bool := a.hi == b.hi && (a.lo == b.lo && a.v6 == b.v6)
def eqX (x y : Rt) : Bool := (eqA x.p.a y.p.a && x.p.n == y.p.n) && x.hop == y.hop
def eqE (e f : En) : Bool := eqA e.a f.a && (eqX e.x f.x && e.stale == f.stale)
theorem eqA_iff {a b : Ad} : eqA a b = true ↔ a = b := by
  obtain ⟨a1, a2, a3⟩ := a
  obtain ⟨b1, b2, b3⟩ := b
  simp [eqA]
theorem eqX_iff {x y : Rt} : eqX x y = true ↔ x = y := by
  obtain ⟨⟨xa, xn⟩, xh⟩ := x
  obtain ⟨⟨ya, yn⟩, yh⟩ := y
  simp only [eqX, Bool.and_eq_true, eqA_iff, beq_iff_eq, Rt.mk.injEq, Px.mk.injEq]
theorem eqE_iff {e f : En} : eqE e f = true ↔ e = f := by
  obtain ⟨a, x, s⟩ := e
  obtain ⟨b, y, t⟩ := f
  simp only [eqE, Bool.and_eq_true, eqA_iff, eqX_iff, beq_iff_eq, En.mk.injEq]
theorem same_s (l m : List En) (hl : l.length ≤ 100000000) (b d : Int) (A : Option Addr) (c : Nat) (A2 : Option Addr) (c2 : Nat) :
    RCal Try.prog 24 [.agg #[.slice A l.length c, .int .i64 b], .agg #[.slice A2 m.length c2, .int .i64 d]] [.vw A c 9 (l.map En.cells), .vw A2 c2 9 (m.map En.cells)] (.bool (bP (l = m ∧ b = d))) := by
  by_cases hb : l.length = m.length ∧ b = d
  · obtain ⟨h1, rfl⟩ := hb
    have hE : ((((l.length : Nat) : Int) != ((m.length : Nat) : Int)) || b != b) = false := by simp [h1]
    refine enter_r rfl Try.func24 rfl Try.ntmps24 rfl (fun Wo => ?_)
    repeat (first | (apply s_box; rfl; constructor; rfl; intro _) | apply s_st | apply st_go | (apply st_if; rfl; intro h1; (try simp only [h1, gv_true, gv_tt])) | (focus (first | (apply y_move; rfl) | (apply y_assign; rfl) | (apply y_cell; rfl; (repeat (first | exact List.Mem.head _ | apply List.Mem.tail)); (repeat (first | exact At.hit | apply At.miss)); kernel_rfl; done) | (apply y_or; rfl; rfl; done) | (apply y_faddr; kernel_rfl; rfl) | (apply y_len; rfl) | (apply y_ne; rfl; rfl))) | apply s_nil | apply w_seq | apply f_then | apply w_block | apply w_skip | (apply w_cond_ff; rfl; assumption) | (apply w_reg_l; rfl) | exact rfl)
    refine w_loop0 (fun i : Nat => [(5, .int .i64 ((i : Nat) : Int))]) (fun i => i ≤ l.length ∧ ∀ k, k < i → l[k]? = m[k]?) (fun i => l.length - i) 0 ⟨Nat.zero_le _, fun k h => absurd h (Nat.not_lt_zero _)⟩ ?_ ?_
    · (repeat (first | exact Cov.nil | (apply Cov.cons; rfl) | (apply Cov.seen; rfl)))
    · rintro i ⟨hi, he⟩ R hR
      by_cases hlt : i < l.length
      · have hE2 : decide (((i : Nat) : Int) < ((l.length : Nat) : Int)) = true := by simp; exact hlt
        have hrow := map_get (f := En.cells) hlt
        have hlt2 : i < m.length := by omega
        have hrow2 := map_get (f := En.cells) hlt2
        cases hq : eqE l[i] m[i] with
        | true =>
          have hE3 : (!eqE l[i] m[i]) = false := by rw [hq]; rfl
          have hB := hR (i + 1) ⟨hlt, fun k hk => by
            by_cases hki : k = i
            · subst hki
              rw [List.getElem?_eq_getElem hlt, List.getElem?_eq_getElem hlt2, eqE_iff.1 hq]
            · exact he k (by omega)⟩ (by omega)
          rw [← wrap_suc (by omega)] at hB
          clear hR he hq
          unfold eqE eqX eqA at hE3
          repeat (first | apply s_st | apply q_st | apply st_go | (focus (first | (apply y_move; rfl) | (apply y_assign; rfl) | (apply y_cell; rfl; (repeat (first | exact List.Mem.head _ | apply List.Mem.tail)); (repeat (first | exact At.hit | apply At.miss)); kernel_rfl; done) | (apply y_eload; rfl; (first | (focus (apply Sees.vw; (repeat (first | exact List.Mem.head _ | apply List.Mem.tail)); done)) | (focus (apply Sees.own; (repeat (first | exact List.Mem.head _ | apply List.Mem.tail)); done)) | exact Sees.nil | assumption); (first | assumption | rfl); (repeat (first | exact Sub.nil | apply Sub.take | apply Sub.drop)); done) | (apply y_faddr; kernel_rfl; rfl) | (apply y_ixaddr; rfl; rfl; (first | (focus (apply Sees.vw; (repeat (first | exact List.Mem.head _ | apply List.Mem.tail)); done)) | (focus (apply Sees.own; (repeat (first | exact List.Mem.head _ | apply List.Mem.tail)); done)) | exact Sees.nil | assumption); (first | rfl | assumption | (focus (simp; done)) | (focus (simp; omega))); (first | assumption | rfl | exact (show (0 : Int) = ((0 : Nat) : Int) from rfl) | exact (show (1 : Int) = ((1 : Nat) : Int) from rfl) | exact (show (2 : Int) = ((2 : Nat) : Int) from rfl) | exact (show (3 : Int) = ((3 : Nat) : Int) from rfl)); (first | assumption | omega | (focus (simp; done)) | (focus (simp; omega))); done) | (apply y_len; rfl) | (apply y_lt; rfl; rfl) | (apply y_add; rfl; rfl) | (apply y_nes; rfl; rfl; kernel_rfl; exact inferInstance))) | apply q_nil | apply s_nil | apply w_seq | apply f_then | apply w_block | apply f_norm_block | (apply f_back; assumption; (repeat (first | exact Cov.nil | (apply Cov.cons; rfl) | (apply Cov.seen; rfl))); (focus ((repeat (first | exact List.Sublist.refl _ | apply List.Sublist.cons_cons | apply List.Sublist.cons)); done))) | apply w_skip | (apply w_cond_tt; rfl; assumption) | (apply w_cond_ff; rfl; assumption) | (apply w_draw_l; rfl; kernel_rfl; rfl; kernel_rfl) | (apply w_reg_l; rfl) | exact rfl)
        | false =>
          have hE3 : (!eqE l[i] m[i]) = true := by rw [hq]; rfl
          rw [bP_f (fun h => by
            have h2 := h.1
            subst h2
            rw [eqE_iff.2 rfl] at hq
            cases hq)]
          clear hR he hq
          unfold eqE eqX eqA at hE3
          repeat (first | apply s_st | apply q_st | apply st_go | (focus (first | (apply y_move; rfl) | (apply y_assign; rfl) | (apply y_cell; rfl; (repeat (first | exact List.Mem.head _ | apply List.Mem.tail)); (repeat (first | exact At.hit | apply At.miss)); kernel_rfl; done) | (apply y_eload; rfl; (first | (focus (apply Sees.vw; (repeat (first | exact List.Mem.head _ | apply List.Mem.tail)); done)) | (focus (apply Sees.own; (repeat (first | exact List.Mem.head _ | apply List.Mem.tail)); done)) | exact Sees.nil | assumption); (first | assumption | rfl); (repeat (first | exact Sub.nil | apply Sub.take | apply Sub.drop)); done) | (apply y_faddr; kernel_rfl; rfl) | (apply y_ixaddr; rfl; rfl; (first | (focus (apply Sees.vw; (repeat (first | exact List.Mem.head _ | apply List.Mem.tail)); done)) | (focus (apply Sees.own; (repeat (first | exact List.Mem.head _ | apply List.Mem.tail)); done)) | exact Sees.nil | assumption); (first | rfl | assumption | (focus (simp; done)) | (focus (simp; omega))); (first | assumption | rfl | exact (show (0 : Int) = ((0 : Nat) : Int) from rfl) | exact (show (1 : Int) = ((1 : Nat) : Int) from rfl) | exact (show (2 : Int) = ((2 : Nat) : Int) from rfl) | exact (show (3 : Int) = ((3 : Nat) : Int) from rfl)); (first | assumption | omega | (focus (simp; done)) | (focus (simp; omega))); done) | (apply y_len; rfl) | (apply y_lt; rfl; rfl) | (apply y_nes; rfl; rfl; kernel_rfl; exact inferInstance))) | apply q_nil | apply s_nil | apply w_seq | apply f_then | apply w_block | apply f_ret | apply f_ret_block | apply w_skip | apply w_ret | (apply w_cond_tt; rfl; assumption) | (apply f_end; rfl; rfl; rfl; intro w hw; first | exact ans hw | (refine ans_b ?_ hw; assumption)) | (apply w_draw_l; rfl; kernel_rfl; rfl; kernel_rfl) | (apply w_reg_l; rfl) | exact rfl)
      · have hE2 : decide (((i : Nat) : Int) < ((l.length : Nat) : Int)) = false := by simp; omega
        have hv : bP (l = m ∧ b = b) = true := bP_t ⟨List.ext_getElem? fun k => by
          by_cases hk : k < l.length
          · exact he k (by omega)
          · rw [List.getElem?_eq_none (by omega), List.getElem?_eq_none (by omega)], rfl⟩
        rw [hv]
        clear hR he hv
        repeat (first | apply s_st | apply st_go | (focus (first | (apply y_move; rfl) | (apply y_assign; rfl) | (apply y_cell; rfl; (repeat (first | exact List.Mem.head _ | apply List.Mem.tail)); (repeat (first | exact At.hit | apply At.miss)); kernel_rfl; done) | (apply y_faddr; kernel_rfl; rfl) | (apply y_len; rfl) | (apply y_lt; rfl; rfl))) | apply s_nil | apply w_seq | apply f_then | apply w_exit | apply f_out | apply f_exit_block | apply w_ret | (apply w_cond_ff; rfl; assumption) | (apply f_end; rfl; rfl; rfl; intro w hw; first | exact ans hw | (refine ans_b ?_ hw; assumption)) | (apply w_reg_l; rfl) | exact rfl)
  · have hE : ((((l.length : Nat) : Int) != ((m.length : Nat) : Int)) || b != d) = true := by
      by_cases h1 : l.length = m.length
      · have : b ≠ d := fun h => hb ⟨h1, h⟩
        simp [this]
      · simp; left; omega
    rw [bP_f (fun h => hb ⟨by rw [h.1], h.2⟩)]
    refine enter_r rfl Try.func24 rfl Try.ntmps24 rfl (fun Wo => ?_)
    repeat (first | (apply s_box; rfl; constructor; rfl; intro _) | apply s_st | apply st_go | (apply st_if; rfl; intro h1; (try simp only [h1, gv_true, gv_tt])) | (focus (first | (apply y_move; rfl) | (apply y_assign; rfl) | (apply y_cell; rfl; (repeat (first | exact List.Mem.head _ | apply List.Mem.tail)); (repeat (first | exact At.hit | apply At.miss)); kernel_rfl; done) | (apply y_or; rfl; rfl; done) | (apply y_faddr; kernel_rfl; rfl) | (apply y_len; rfl) | (apply y_ne; rfl; rfl))) | apply s_nil | apply w_seq | apply f_then | apply f_ret | apply w_ret | (apply w_cond_tt; rfl; assumption) | (apply f_end; rfl; rfl; rfl; intro w hw; first | exact ans hw | (refine ans_b ?_ hw; assumption)) | (apply w_reg_l; rfl) | exact rfl)
end Go.Proofs.Ytlmcfjadhahlpaa.Hand
