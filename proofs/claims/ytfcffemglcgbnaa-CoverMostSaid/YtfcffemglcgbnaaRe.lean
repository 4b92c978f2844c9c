/-
  package rib: Longest, Inside, Size, Dump; told of views.
-/
import Derived.Test.YtfcffemglcgbnaaRd
import Derived.Test.YtfcffemglcgbnaaTt
namespace Go.Proofs.Ytfcffemglcgbnaa.Hand
open Go.RowKit Go.Proofs.Ytfcffemglcgbnaa.Bits Go.Proofs.Ytfcffemglcgbnaa.Dig Go.Proofs.Ytfcffemglcgbnaa.Sq
set_option linter.unusedVariables false
set_option linter.unusedSimpArgs false
set_option maxRecDepth 100000
set_option maxHeartbeats 1000000
section
variable {T : Ts} {lab : Lab} {L : List Pr} (h : InvX T lab L (false, [])) (g gt gm : Nat) (N H : Int) (Aa : Option Addr) (ca : Nat) (Af : Option Addr) (cf : Nat)
include h
theorem rins_v {p : Px} (hp : p.a.wf) : RCal Try.prog 18 [.pointer (some ⟨g, 0, none⟩), p.val] (.vw (some ⟨g, 0, none⟩) 1 4 [ribC gt gm N H] :: tv gt T Aa ca Af cf) (.bool (insN L p)) := by
  have k1 := all_v g gt gm N H
  have k2 := inside_v h hp gt Aa ca Af cf
  refine enter_r rfl Try.func18 rfl Try.ntmps18 rfl (fun Wo => ?_)
  repeat (first | (apply s_box; rfl; constructor; rfl; intro _) | apply s_st | apply q_st | apply st_go | (focus (first | (apply y_move; rfl) | (apply y_assign; rfl) | (apply y_load; rfl; (repeat (first | exact List.Mem.head _ | apply List.Mem.tail)); (repeat (first | exact Sub.nil | apply Sub.take | apply Sub.drop)); done) | (apply y_rcal; rfl; rfl; rfl; (first | assumption); (repeat (first | exact SeesAll.nil | (apply SeesAll.cons; (first | (focus (apply Sees.vw; (repeat (first | exact List.Mem.head _ | apply List.Mem.tail)); done)) | (focus (apply Sees.own; (repeat (first | exact List.Mem.head _ | apply List.Mem.tail)); done)) | exact Sees.nil | assumption)) | (apply SeesAll.mem; (repeat (first | exact List.Mem.head _ | apply List.Mem.tail))))); done))) | apply q_nil | apply s_nil | apply w_seq | apply f_then | apply w_ret | (apply f_end; rfl; rfl; rfl; intro w hw; first | exact ans hw | (refine ans_b ?_ hw; (focus ((repeat (first | assumption | rfl | exact beq_self_eq_true _ | exact bne_self_eq_false _ | apply bOrF | apply bAndT | apply bNotF | apply bNotT | (focus (apply decide_eq_true; omega)) | (focus (apply decide_eq_false; omega)) | (focus (apply bEqT; omega)) | (focus (apply bEqF; omega)) | (focus (apply bNeT; omega)) | (focus (apply bNeF; omega)) | (focus (apply bOrT1; first | assumption | (apply decide_eq_true; omega))) | (focus (apply bOrT2; first | assumption | (apply decide_eq_true; omega))) | (focus (apply bAndF1; first | assumption | (apply decide_eq_false; omega))) | (focus (apply bAndF2; first | assumption | (apply decide_eq_false; omega))))); done)))) | (apply w_draw_l; rfl; kernel_rfl; rfl; kernel_rfl) | (apply w_reg_l; rfl) | exact rfl)
end
end Go.Proofs.Ytfcffemglcgbnaa.Hand
