/-
  The document's digits set, its children; its pieces.
-/
import Derived.Test.YtfcffemglcgbnaaCa
import Derived.Test.YtfcffemglcgbnaaLh
namespace Go.Proofs.Ytfcffemglcgbnaa.Hand
open Go.RowKit Go.Proofs.Ytfcffemglcgbnaa.Bits Go.Proofs.Ytfcffemglcgbnaa.Dig Go.Proofs.Ytfcffemglcgbnaa.Sq
set_option linter.unusedVariables false
set_option linter.unusedSimpArgs false
set_option maxRecDepth 100000
set_option maxHeartbeats 8000000
theorem digs_map_put (d : Nat → Bool) {n i : Nat} (hi : i < n) (b : Bool) : ((digs d n).map i64c).set i [.int .i64 (bits .and .i64 (bitI b) 1)] = (digs (putd d i b) n).map i64c := by
  have hb : bits .and .i64 (bitI b) 1 = bitI b := by cases b <;> decide
  rw [hb]
  refine List.ext_getElem? fun j => ?_
  rw [List.getElem?_set]
  by_cases hj : i = j
  · subst hj
    rw [if_pos rfl, if_pos (by simpa [digs_len] using hi), digs_get _ hi]
    unfold putd
    rw [if_pos rfl]
    rfl
  · rw [if_neg hj]
    by_cases hjn : j < n
    · rw [digs_get _ hjn, digs_get _ hjn]
      unfold putd
      rw [if_neg (by omega)]
    · rw [List.getElem?_eq_none (by simp [digs_len]; omega), List.getElem?_eq_none (by simp [digs_len]; omega)]
theorem rset_s {a0 a1 : Int} (h : u64 a0 ∧ u64 a1) (a2 : Bool) (i : Nat) (hi : i < W a2) (b : Bool) : Cal Try.prog 143 [.agg #[.int .u64 a0, .int .u64 a1, .bool a2], .int .i64 ((i : Nat) : Int), .int .i64 (bitI b)] (.agg #[.int .u64 (hiA a2 (putd (D a0 a1) i b)), .int .u64 (loA a2 (putd (D a0 a1) i b)), .bool a2]) := by
  have hW := W_le a2
  have k1 := rdigits_s h a2
  have k2 := fun A c => rof_s (putd (D a0 a1) i b) a2 A c
  rw [← digs_map_put (D a0 a1) hi b] at k2
  have hl : ((digs (D a0 a1) (W a2)).map i64c).length = W a2 := by simp [digs_len]
  have hl' := hl.symm
  have hrow := digs_get (D a0 a1) hi
  have hE1 : decide (((i : Nat) : Int) ≥ 0) = true := decide_eq_true (by omega)
  have hE2 : decide (((i : Nat) : Int) < ((W a2 : Nat) : Int)) = true := decide_eq_true (by omega)
  generalize (digs (D a0 a1) (W a2)).map i64c = rows at *
  generalize putd (D a0 a1) i b = d2 at *
  generalize bitI b = bi at *
  generalize bitI (D a0 a1 i) = bj at *
  dsimp only [i64c] at hrow
  refine Cal.mk fun Wo => enter (F := fun _ => False) Try.func143 rfl Try.ntmps143 rfl ?_
  repeat (first | (apply s_box; rfl; constructor; rfl; intro _) | (apply s_alloc; rfl; intro _) | (apply s_store; rfl; rfl; (repeat (first | exact Plc.hit | apply Plc.miss)); constructor; (focus ((simp only [setAt, List.set_cons_zero, List.set_cons_succ, Nat.zero_add, Nat.reduceAdd, Nat.reduceMul]); try rfl)); kernel_rfl; rfl) | (apply s_estore; rfl; rfl; (repeat (first | exact Plc.hit | apply Plc.miss)); (first | assumption | rfl); constructor; (focus ((simp only [setAt, List.set_cons_zero, List.set_cons_succ, Nat.zero_add, Nat.reduceAdd, Nat.reduceMul]); try rfl)); kernel_rfl; rfl) | (apply s_tris; rfl; rfl; rfl; assumption; (repeat (first | exact Tk.nil | (apply Tk.see; (first | (focus (apply VSees.vw; (repeat (first | exact List.Mem.head _ | apply List.Mem.tail)); done)) | exact VSees.nil | assumption)) | (apply Tk.see; exact VSees.nil) | (apply Tk.take; (repeat (first | exact Plc.hit | apply Plc.miss))))); rfl; intro _ _; (try dsimp only [List.cons_append, List.nil_append])) | apply s_st | apply st_go | (apply st_on; rfl) | (focus (first | (apply y_move; rfl) | (apply y_assign; rfl) | (apply y_load; rfl; (repeat (first | exact List.Mem.head _ | apply List.Mem.tail)); (repeat (first | exact Sub.nil | apply Sub.take | apply Sub.drop)); done) | (apply y_rcal; rfl; rfl; rfl; (exact k2 _ _); (repeat (first | exact SeesAll.nil | (apply SeesAll.cons; (first | (focus (apply Sees.vw; (repeat (first | exact List.Mem.head _ | apply List.Mem.tail)); done)) | (focus (apply Sees.own; (repeat (first | exact List.Mem.head _ | apply List.Mem.tail)); done)) | exact Sees.nil | assumption)) | (apply SeesAll.mem; (repeat (first | exact List.Mem.head _ | apply List.Mem.tail))))); done) | (apply y_and; rfl; rfl; done) | (apply y_ixaddr; rfl; rfl; (first | (focus (apply Sees.vw; (repeat (first | exact List.Mem.head _ | apply List.Mem.tail)); done)) | (focus (apply Sees.own; (repeat (first | exact List.Mem.head _ | apply List.Mem.tail)); done)) | exact Sees.nil | assumption); (first | rfl | assumption | (focus (simp; done)) | (focus (simp; omega))); (first | assumption | rfl | exact (show (0 : Int) = ((0 : Nat) : Int) from rfl) | exact (show (1 : Int) = ((1 : Nat) : Int) from rfl) | exact (show (2 : Int) = ((2 : Nat) : Int) from rfl) | exact (show (3 : Int) = ((3 : Nat) : Int) from rfl)); (first | assumption | omega | (focus (simp; done)) | (focus (simp; omega))); done) | (apply y_len; rfl) | (apply y_lt; rfl; rfl) | (apply y_ge; rfl; rfl) | (apply y_band; rfl; rfl))) | apply s_nil | apply w_seq | apply f_then | apply w_ret | (apply w_cond_tt; rfl; assumption) | (apply f_ends1; rfl; rfl; (repeat (first | exact Res.nil | (apply Res.tmp; rfl) | (apply Res.agg; exact inferInstance; rfl; (repeat (first | exact List.Mem.head _ | apply List.Mem.tail)); (repeat (first | exact Sub.nil | apply Sub.take | apply Sub.drop))) | (apply Res.cell; kernel_rfl; rfl; (repeat (first | exact List.Mem.head _ | apply List.Mem.tail)); (repeat (first | exact At.hit | apply At.miss))))); intro w hw; first | exact ans hw | (refine ans_b ?_ hw; (focus ((repeat (first | assumption | rfl | exact beq_self_eq_true _ | exact bne_self_eq_false _ | apply bOrF | apply bAndT | apply bNotF | apply bNotT | (focus (apply decide_eq_true; omega)) | (focus (apply decide_eq_false; omega)) | (focus (apply bEqT; omega)) | (focus (apply bEqF; omega)) | (focus (apply bNeT; omega)) | (focus (apply bNeF; omega)) | (focus (apply bOrT1; first | assumption | (apply decide_eq_true; omega))) | (focus (apply bOrT2; first | assumption | (apply decide_eq_true; omega))) | (focus (apply bAndF1; first | assumption | (apply decide_eq_false; omega))) | (focus (apply bAndF2; first | assumption | (apply decide_eq_false; omega))))); done))) | (apply t_endS1 hw; rfl; (focus ((repeat (first | exact List.Sublist.refl _ | apply List.Sublist.cons_cons | apply List.Sublist.cons)); done))) | (apply t_endU hw; rfl; (focus ((repeat (first | exact List.Sublist.refl _ | apply List.Sublist.cons_cons | apply List.Sublist.cons)); done))) | (apply t_endX1 hw; rfl; (focus ((repeat (first | exact List.Sublist.refl _ | apply List.Sublist.cons_cons | apply List.Sublist.cons)); done))) | (refine t_end ⟨rfl, rfl⟩ ?_ w hw; (focus ((repeat (first | exact List.Sublist.refl _ | apply List.Sublist.cons_cons | apply List.Sublist.cons)); done))) | (apply t_endUT hw; rfl; (focus ((repeat (first | exact Tk.nil | (apply Tk.see; (first | (focus (apply VSees.vw; (repeat (first | exact List.Mem.head _ | apply List.Mem.tail)); done)) | exact VSees.nil | assumption)) | (apply Tk.see; exact VSees.nil) | (apply Tk.take; (repeat (first | exact Plc.hit | apply Plc.miss))))); done)); (focus ((repeat (first | exact List.Sublist.refl _ | apply List.Sublist.cons_cons | apply List.Sublist.cons)); done))) | (apply t_endXT hw; rfl; (repeat (first | exact Tk.nil | (apply Tk.see; (first | (focus (apply VSees.vw; (repeat (first | exact List.Mem.head _ | apply List.Mem.tail)); done)) | exact VSees.nil | assumption)) | (apply Tk.see; exact VSees.nil) | (apply Tk.take; (repeat (first | exact Plc.hit | apply Plc.miss))))); (focus ((repeat (first | exact List.Sublist.refl _ | apply List.Sublist.cons_cons | apply List.Sublist.cons)); done)))) | (apply w_reg_l; rfl) | exact rfl)
theorem kid_dig {v : Bool} {q : List Bool} (hq : q.length < W v) (b : Bool) : hiA v (putd (D (pxK (v, q)).a.hi (pxK (v, q)).a.lo) q.length b) = (pxK (v, q ++ [b])).a.hi ∧ loA v (putd (D (pxK (v, q)).a.hi (pxK (v, q)).a.lo) q.length b) = (pxK (v, q ++ [b])).a.lo := by
  have e : ∀ i, i < W v → putd (D (pxK (v, q)).a.hi (pxK (v, q)).a.lo) q.length b i = digK (q ++ [b]) i := fun i hi => by
    rw [← dig_snoc]
    show putd (D (hiA v (digK q)) (loA v (digK q))) q.length b i = _
    unfold putd cutd
    dsimp only
    by_cases h : i = q.length
    · subst h; simp
    · rw [if_neg h, if_neg h, D_mk, decide_eq_true hi, Bool.true_and]
      by_cases h2 : i < q.length
      · rw [decide_eq_true (by omega), Bool.true_and]
      · rw [decide_eq_false (by omega), Bool.false_and]
        unfold digK
        rw [List.getD_eq_getElem?_getD, List.getElem?_eq_none (by omega)]
        rfl
  exact ⟨hi_congr e, lo_congr e⟩
theorem rchild_k {v : Bool} {q : List Bool} (hq : q.length < W v) (b : Bool) : Cal Try.prog 112 [(pxK (v, q)).val, .int .i64 (bitI b)] (.tuple #[(pxK (v, q ++ [b])).val, .bool true]) := by
  have hs := sanB_pxK (k := (v, q)) (Nat.le_of_lt hq)
  have hw := pxK_wf (v, q)
  have k1 : Cal Try.prog 107 [(pxK (v, q)).val] (.bool (sanB (pxK (v, q)))) := r2sane_s hw _ _
  rw [hs] at k1
  have k2 := rwidth_s (pxK (v, q)).a.v6
  have k3 := rset_s hw (pxK (v, q)).a.v6 q.length hq b
  obtain ⟨e1, e2⟩ := kid_dig hq b
  have hv : (pxK (v, q)).a.v6 = v := rfl
  have hv2 : (pxK (v, q ++ [b])).a.v6 = v := rfl
  have hn : (pxK (v, q)).n = ((q.length : Nat) : Int) := rfl
  have hn2 : (pxK (v, q ++ [b])).n = IntKind.i64.wrap (((q.length : Nat) : Int) + 1) := by
    rw [wrap_suc (by have := W_le v; omega)]
    show (((q ++ [b]).length : Nat) : Int) = _
    rw [List.length_append, List.length_singleton]
  rw [hv] at k2 k3
  rw [e1, e2] at k3
  have hE : (((q.length : Nat) : Int) == ((W v : Nat) : Int)) = false := bEqF (by omega)
  unfold Px.val at k1 ⊢
  rw [hv, hn] at k1 ⊢
  rw [hv2, hn2]
  generalize (pxK (v, q)).a.hi = h1 at *
  generalize (pxK (v, q)).a.lo = l1 at *
  generalize (pxK (v, q ++ [b])).a.hi = h2 at *
  generalize (pxK (v, q ++ [b])).a.lo = l2 at *
  generalize bitI b = bi at *
  clear e1 e2 hs hw hn2
  refine Cal.mk fun Wo => enter (F := fun _ => False) Try.func112 rfl Try.ntmps112 rfl ?_
  repeat (first | (apply s_box; rfl; constructor; rfl; intro _) | (apply s_alloc; rfl; intro _) | (apply s_store; rfl; rfl; (repeat (first | exact Plc.hit | apply Plc.miss)); constructor; (focus ((simp only [setAt, List.set_cons_zero, List.set_cons_succ, Nat.zero_add, Nat.reduceAdd, Nat.reduceMul]); try rfl)); kernel_rfl; rfl) | apply s_st | apply q_st | apply st_go | (apply st_on; rfl) | (focus (first | (apply y_move; rfl) | (apply y_assign; rfl) | (apply y_not; rfl) | (apply y_load; rfl; (repeat (first | exact List.Mem.head _ | apply List.Mem.tail)); (repeat (first | exact Sub.nil | apply Sub.take | apply Sub.drop)); done) | (apply y_cell; rfl; (repeat (first | exact List.Mem.head _ | apply List.Mem.tail)); (repeat (first | exact At.hit | apply At.miss)); kernel_rfl; done) | (apply y_calls; rfl; rfl; rfl; (first | assumption); done) | (apply y_or; rfl; rfl; done) | (apply y_faddr; kernel_rfl; rfl) | (apply y_eq; rfl; rfl) | (apply y_add; rfl; rfl) | (apply y_build; kernel_rfl; (repeat (first | exact Bld.nil | (apply Bld.cons; exact inferInstance; rfl; constructor; kernel_rfl; (focus ((simp only [setAt, List.set_cons_zero, List.set_cons_succ, Nat.zero_add, Nat.reduceAdd, Nat.reduceMul]); try rfl))))); done))) | apply q_nil | apply s_nil | apply w_seq | apply f_then | apply w_skip | apply w_ret | (apply w_cond_ff; rfl; assumption) | (apply f_ends; rfl; rfl; (repeat (first | exact Res.nil | (apply Res.tmp; rfl) | (apply Res.agg; exact inferInstance; rfl; (repeat (first | exact List.Mem.head _ | apply List.Mem.tail)); (repeat (first | exact Sub.nil | apply Sub.take | apply Sub.drop))) | (apply Res.cell; kernel_rfl; rfl; (repeat (first | exact List.Mem.head _ | apply List.Mem.tail)); (repeat (first | exact At.hit | apply At.miss))))); intro w hw; first | exact ans hw | (refine ans_b ?_ hw; (focus ((repeat (first | assumption | rfl | exact beq_self_eq_true _ | exact bne_self_eq_false _ | apply bOrF | apply bAndT | apply bNotF | apply bNotT | (focus (apply decide_eq_true; omega)) | (focus (apply decide_eq_false; omega)) | (focus (apply bEqT; omega)) | (focus (apply bEqF; omega)) | (focus (apply bNeT; omega)) | (focus (apply bNeF; omega)) | (focus (apply bOrT1; first | assumption | (apply decide_eq_true; omega))) | (focus (apply bOrT2; first | assumption | (apply decide_eq_true; omega))) | (focus (apply bAndF1; first | assumption | (apply decide_eq_false; omega))) | (focus (apply bAndF2; first | assumption | (apply decide_eq_false; omega))))); done)))) | (apply w_draw_l; rfl; kernel_rfl; rfl; kernel_rfl) | (apply w_mixed_r rfl 3 [0, 1, 2, 3, 4, 6, 7, 8, 5] [0, 0, 0, 0, 0, 0, 0, 0, 2] _ ; kernel_rfl; kernel_rfl; exact List.Sublist.refl _; rfl) | (apply g_st1; rfl; intro W0) | (apply g_st; rfl; intro W0) | apply g_done | (apply w_reg_l; rfl) | exact rfl)
theorem rpiece_s (L : List Pr) (hw : ∀ e ∈ L, e.p.a.wf) (hl : L.length ≤ 100000000) {p : Px} (hp : p.a.wf) (mo N H : Int) (A : Option Addr) (c : Nat) :
    RCal Try.prog 113 [rbC A L.length c mo N H, p.val] [.vw A c 5 (L.map Pr.cells)] (.agg (pieceN L p).cells.toArray) := by
  have k1 := rrgov_s L hw hl hp mo N H A c
  unfold pieceN
  generalize govN L p = y at *
  dsimp only [Pr.cells, P8.cells] at k1 ⊢
  refine enter_r rfl Try.func113 rfl Try.ntmps113 rfl (fun Wo => ?_)
  repeat (first | (apply s_box; rfl; constructor; rfl; intro _) | (apply s_alloc; rfl; intro _) | (apply s_store; rfl; rfl; (repeat (first | exact Plc.hit | apply Plc.miss)); constructor; (focus ((simp only [setAt, List.set_cons_zero, List.set_cons_succ, Nat.zero_add, Nat.reduceAdd, Nat.reduceMul]); try rfl)); kernel_rfl; rfl) | apply s_st | apply st_go | (focus (first | (apply y_move; rfl) | (apply y_assign; rfl) | (apply y_load; rfl; (repeat (first | exact List.Mem.head _ | apply List.Mem.tail)); (repeat (first | exact Sub.nil | apply Sub.take | apply Sub.drop)); done) | (apply y_cell; rfl; (repeat (first | exact List.Mem.head _ | apply List.Mem.tail)); (repeat (first | exact At.hit | apply At.miss)); kernel_rfl; done) | (apply y_rcal; rfl; rfl; rfl; (first | assumption); (repeat (first | exact SeesAll.nil | (apply SeesAll.cons; (first | (focus (apply Sees.vw; (repeat (first | exact List.Mem.head _ | apply List.Mem.tail)); done)) | (focus (apply Sees.own; (repeat (first | exact List.Mem.head _ | apply List.Mem.tail)); done)) | exact Sees.nil | assumption)) | (apply SeesAll.mem; (repeat (first | exact List.Mem.head _ | apply List.Mem.tail))))); done) | (apply y_extract; rfl; (repeat (first | exact At.hit | apply At.miss)); done) | (apply y_faddr; kernel_rfl; rfl) | (apply y_build; kernel_rfl; (repeat (first | exact Bld.nil | (apply Bld.cons; exact inferInstance; rfl; constructor; kernel_rfl; (focus ((simp only [setAt, List.set_cons_zero, List.set_cons_succ, Nat.zero_add, Nat.reduceAdd, Nat.reduceMul]); try rfl))))); done))) | apply s_nil | apply w_seq | apply f_then | apply w_ret | (apply f_ends1; rfl; rfl; (repeat (first | exact Res.nil | (apply Res.tmp; rfl) | (apply Res.agg; exact inferInstance; rfl; (repeat (first | exact List.Mem.head _ | apply List.Mem.tail)); (repeat (first | exact Sub.nil | apply Sub.take | apply Sub.drop))) | (apply Res.cell; kernel_rfl; rfl; (repeat (first | exact List.Mem.head _ | apply List.Mem.tail)); (repeat (first | exact At.hit | apply At.miss))))); intro w hw; first | exact ans hw | (refine ans_b ?_ hw; (focus ((repeat (first | assumption | rfl | exact beq_self_eq_true _ | exact bne_self_eq_false _ | apply bOrF | apply bAndT | apply bNotF | apply bNotT | (focus (apply decide_eq_true; omega)) | (focus (apply decide_eq_false; omega)) | (focus (apply bEqT; omega)) | (focus (apply bEqF; omega)) | (focus (apply bNeT; omega)) | (focus (apply bNeF; omega)) | (focus (apply bOrT1; first | assumption | (apply decide_eq_true; omega))) | (focus (apply bOrT2; first | assumption | (apply decide_eq_true; omega))) | (focus (apply bAndF1; first | assumption | (apply decide_eq_false; omega))) | (focus (apply bAndF2; first | assumption | (apply decide_eq_false; omega))))); done)))) | (apply w_reg_l; rfl) | exact rfl)
end Go.Proofs.Ytfcffemglcgbnaa.Hand
