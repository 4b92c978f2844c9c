/-
  Addresses and prefixes by their bytes.
-/
import Derived.Test.YtfcffemglcgbnaaPb
import Derived.Test.YtfcffemglcgbnaaRd
import Derived.Test.YtfcffemglcgbnaaTs
namespace Go.Proofs.Ytfcffemglcgbnaa.Hand
open Go.RowKit Go.Proofs.Ytfcffemglcgbnaa.Bits Go.Proofs.Ytfcffemglcgbnaa.Dig Go.Proofs.Ytfcffemglcgbnaa.Sq
set_option linter.unusedVariables false
set_option linter.unusedSimpArgs false
set_option maxRecDepth 100000
set_option maxHeartbeats 1000000
noncomputable def adL (l : List Int) : Ad := ⟨hiA false (byD l), loA false (byD l), false⟩
noncomputable def pxL (l : List Int) (c : Nat) : Px := ⟨⟨hiA false (cutd (byD l) c), loA false (cutd (byD l) c), false⟩, (c : Int)⟩
theorem pxL_wf (l : List Int) (c : Nat) : (pxL l c).a.wf := u_mk false _
theorem pxL_sane (l : List Int) {c : Nat} (hc : c ≤ 32) : sanB (pxL l c) = true := saneB_pk false (byD l) c hc
theorem pxL_cov (l m : List Int) {c k : Nat} (hc : c ≤ 32) (hk : k ≤ 32) : cvB (pxL l c) (pxL m k) = (decide (c ≤ k) && conD false (byD l) c false (byD m)) := covB_pk false (byD l) c hc false (byD m) k hk
theorem of_L (l : List Int) {c : Nat} (hc : c ≤ 32) : Cal Try.prog 19 [(adL l).val, .int .i64 ((c : Nat) : Int)] (pxL l c).val := by
  have h := of_s (u_mk false (byD l)) false (c : Int)
  have e : ∀ i, i < W false → cutd (D (hiA false (byD l)) (loA false (byD l))) c i = cutd (byD l) c i := fun i hi => by unfold cutd; rw [D_mk, decide_eq_true hi, Bool.true_and]
  have hcl : clampW false (c : Int) = c := by unfold clampW mxi mni; have : W false = 32 := rfl; split <;> (try split) <;> omega
  rw [hcl, hi_congr e, lo_congr e] at h
  exact h
abbrev lA : List Int := [10, 0, 0, 1]
abbrev lC : List Int := [10, 1, 0, 0]
theorem con_not {l m : List Int} {c i : Nat} (hi : i < c) (h : byD l i ≠ byD m i) : conD false (byD l) c false (byD m) = false := by
  cases q : conD false (byD l) c false (byD m) with
  | false => rfl
  | true => exact absurd ((conD_true.1 q).2 i hi) h
end Go.Proofs.Ytfcffemglcgbnaa.Hand
namespace Go.Proofs.Ytfcffemglcgbnaa.Hand
open Go.RowKit Go.Proofs.Ytfcffemglcgbnaa.Bits Go.Proofs.Ytfcffemglcgbnaa.Dig Go.Proofs.Ytfcffemglcgbnaa.Sq
set_option linter.unusedVariables false
set_option linter.unusedSimpArgs false
set_option maxRecDepth 100000
set_option maxHeartbeats 1000000
section
variable {T : Ts} {lab : Lab} {L : List Pr} (h : InvX T lab L (false, [])) (g gt gm : Nat) (N H : Int) (Aa : Option Addr) (ca : Nat) (Af : Option Addr) (cf : Nat)
include h
theorem rlong_v (hL : L.length ≤ 100000) {a : Ad} (ha : a.wf) : RCal Try.prog 50 [.pointer (some ⟨g, 0, none⟩), a.val] (.vw (some ⟨g, 0, none⟩) 1 4 [ribC gt gm N H] :: tv gt T Aa ca Af cf) (.tuple #[.agg (govN L (wholeP a)).1.cells.toArray, .bool (govN L (wholeP a)).2]) := by
  have k1 := width_s a.v6
  have k2 := wholeA_s ha
  have k3 := governs_v h hL (p := wholeP a) (u_mk _ _) g gt gm N H Aa ca Af cf
  generalize govN L (wholeP a) = gv at *
  dsimp only [Pr.cells] at k3 ⊢
  refine enter_r rfl Try.func50 rfl Try.ntmps50 rfl (fun Wo => ?_)
  repeat (first | (apply s_box; rfl; constructor; rfl; intro _) | (apply s_alloc; rfl; intro _) | (apply s_store; rfl; rfl; (repeat (first | exact Plc.hit | apply Plc.miss)); constructor; (focus ((simp only [setAt, List.set_cons_zero, List.set_cons_succ, Nat.zero_add, Nat.reduceAdd, Nat.reduceMul]); try rfl)); kernel_rfl; rfl) | apply s_st | apply st_go | (focus (first | (apply y_move; rfl) | (apply y_assign; rfl) | (apply y_load; rfl; (repeat (first | exact List.Mem.head _ | apply List.Mem.tail)); (repeat (first | exact Sub.nil | apply Sub.take | apply Sub.drop)); done) | (apply y_cell; rfl; (repeat (first | exact List.Mem.head _ | apply List.Mem.tail)); (repeat (first | exact At.hit | apply At.miss)); kernel_rfl; done) | (apply y_calls; rfl; rfl; rfl; (first | assumption); done) | (apply y_rcal; rfl; rfl; rfl; (first | assumption); (repeat (first | exact SeesAll.nil | (apply SeesAll.cons; (first | (focus (apply Sees.vw; (repeat (first | exact List.Mem.head _ | apply List.Mem.tail)); done)) | (focus (apply Sees.own; (repeat (first | exact List.Mem.head _ | apply List.Mem.tail)); done)) | exact Sees.nil | assumption)) | (apply SeesAll.mem; (repeat (first | exact List.Mem.head _ | apply List.Mem.tail))))); done) | (apply y_extract; rfl; (repeat (first | exact At.hit | apply At.miss)); done) | (apply y_faddr; kernel_rfl; rfl))) | apply s_nil | apply w_seq | apply f_then | apply w_ret | (apply f_ends; rfl; rfl; (repeat (first | exact Res.nil | (apply Res.tmp; rfl) | (apply Res.agg; exact inferInstance; rfl; (repeat (first | exact List.Mem.head _ | apply List.Mem.tail)); (repeat (first | exact Sub.nil | apply Sub.take | apply Sub.drop))) | (apply Res.cell; kernel_rfl; rfl; (repeat (first | exact List.Mem.head _ | apply List.Mem.tail)); (repeat (first | exact At.hit | apply At.miss))))); intro w hw; first | exact ans hw | (refine ans_b ?_ hw; (focus ((repeat (first | assumption | rfl | exact beq_self_eq_true _ | exact bne_self_eq_false _ | apply bOrF | apply bAndT | apply bNotF | apply bNotT | (focus (apply decide_eq_true; omega)) | (focus (apply decide_eq_false; omega)) | (focus (apply bEqT; omega)) | (focus (apply bEqF; omega)) | (focus (apply bNeT; omega)) | (focus (apply bNeF; omega)) | (focus (apply bOrT1; first | assumption | (apply decide_eq_true; omega))) | (focus (apply bOrT2; first | assumption | (apply decide_eq_true; omega))) | (focus (apply bAndF1; first | assumption | (apply decide_eq_false; omega))) | (focus (apply bAndF2; first | assumption | (apply decide_eq_false; omega))))); done)))) | (apply w_mixed_r rfl 1 [0, 1, 2, 3, 4, 5, 6, 7, 8] [0, 0, 2, 2, 2, 2, 2, 0, 2] _ ; kernel_rfl; kernel_rfl; exact List.Sublist.refl _; rfl) | (apply g_st1; rfl; intro W0) | (apply g_st; rfl; intro W0) | apply g_done | (apply w_reg_l; rfl) | exact rfl)
theorem rins_v {p : Px} (hp : p.a.wf) : RCal Try.prog 18 [.pointer (some ⟨g, 0, none⟩), p.val] (.vw (some ⟨g, 0, none⟩) 1 4 [ribC gt gm N H] :: tv gt T Aa ca Af cf) (.bool (insN L p)) := by
  have k1 := all_v g gt gm N H
  have k2 := inside_v h hp gt Aa ca Af cf
  refine enter_r rfl Try.func18 rfl Try.ntmps18 rfl (fun Wo => ?_)
  repeat (first | (apply s_box; rfl; constructor; rfl; intro _) | apply s_st | apply q_st | apply st_go | (focus (first | (apply y_move; rfl) | (apply y_assign; rfl) | (apply y_load; rfl; (repeat (first | exact List.Mem.head _ | apply List.Mem.tail)); (repeat (first | exact Sub.nil | apply Sub.take | apply Sub.drop)); done) | (apply y_rcal; rfl; rfl; rfl; (first | assumption); (repeat (first | exact SeesAll.nil | (apply SeesAll.cons; (first | (focus (apply Sees.vw; (repeat (first | exact List.Mem.head _ | apply List.Mem.tail)); done)) | (focus (apply Sees.own; (repeat (first | exact List.Mem.head _ | apply List.Mem.tail)); done)) | exact Sees.nil | assumption)) | (apply SeesAll.mem; (repeat (first | exact List.Mem.head _ | apply List.Mem.tail))))); done))) | apply q_nil | apply s_nil | apply w_seq | apply f_then | apply w_ret | (apply f_end; rfl; rfl; rfl; intro w hw; first | exact ans hw | (refine ans_b ?_ hw; (focus ((repeat (first | assumption | rfl | exact beq_self_eq_true _ | exact bne_self_eq_false _ | apply bOrF | apply bAndT | apply bNotF | apply bNotT | (focus (apply decide_eq_true; omega)) | (focus (apply decide_eq_false; omega)) | (focus (apply bEqT; omega)) | (focus (apply bEqF; omega)) | (focus (apply bNeT; omega)) | (focus (apply bNeF; omega)) | (focus (apply bOrT1; first | assumption | (apply decide_eq_true; omega))) | (focus (apply bOrT2; first | assumption | (apply decide_eq_true; omega))) | (focus (apply bAndF1; first | assumption | (apply decide_eq_false; omega))) | (focus (apply bAndF2; first | assumption | (apply decide_eq_false; omega))))); done)))) | (apply w_draw_l; rfl; kernel_rfl; rfl; kernel_rfl) | (apply w_reg_l; rfl) | exact rfl)
end
end Go.Proofs.Ytfcffemglcgbnaa.Hand
