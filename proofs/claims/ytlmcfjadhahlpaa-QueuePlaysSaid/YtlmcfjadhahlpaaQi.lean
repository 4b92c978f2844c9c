/-
  The queue: the document's example.
-/
import Derived.Test.YtlmcfjadhahlpaaQh
import Derived.Test.YtlmcfjadhahlpaaQg
namespace Go.Proofs.Ytlmcfjadhahlpaa.Hand
open Go.RowKit Go.Proofs.Ytlmcfjadhahlpaa.Bits Go.Proofs.Ytlmcfjadhahlpaa.Dig Go.Proofs.Ytlmcfjadhahlpaa.Sq
set_option linter.unusedVariables false
set_option linter.unusedSimpArgs false
set_option maxRecDepth 100000
set_option maxHeartbeats 1000000
noncomputable def adL (l : List Int) : Ad := ⟨hiA false (byD l), loA false (byD l), false⟩
noncomputable def pxL (l : List Int) (c : Nat) : Px := ⟨⟨hiA false (cutd (byD l) c), loA false (cutd (byD l) c), false⟩, (c : Int)⟩
theorem adL_wf (l : List Int) : (adL l).wf := u_mk false (byD l)
theorem pxL_wf (l : List Int) (c : Nat) : (pxL l c).a.wf := u_mk false _
theorem adL_sane (l : List Int) : sanA (adL l) = true := by
  unfold sanA adL
  dsimp only
  rw [sane_b]
  have e : ∀ i, i < W false → D (hiA false (byD l)) (loA false (byD l)) i = byD l i := fun i hi => by rw [D_mk, decide_eq_true hi, Bool.true_and]
  rw [hi_congr e, lo_congr e]
  simp
theorem pxL_sane (l : List Int) {c : Nat} (hc : c ≤ 32) : sanB (pxL l c) = true := saneB_pk false (byD l) c hc
theorem pxL_con (l m : List Int) {c : Nat} (hc : c ≤ 32) : conB (pxL l c) (adL m) = conD false (byD l) c false (byD m) := by
  unfold conB pxL adL
  dsimp only
  rw [contB_pk false (byD l) c hc]
  exact conD_congr fun _ i hi => by rw [D_mk, decide_eq_true (show i < W false from Nat.lt_of_lt_of_le hi hc), Bool.true_and]
theorem pxL_cov (l m : List Int) {c k : Nat} (hc : c ≤ 32) (hk : k ≤ 32) : cvB (pxL l c) (pxL m k) = (decide (c ≤ k) && conD false (byD l) c false (byD m)) := covB_pk false (byD l) c hc false (byD m) k hk
theorem whole_L (l : List Int) : wholeP (adL l) = pxL l 32 := by
  unfold wholeP adL pxL
  dsimp only
  have e : ∀ i, i < W false → cutd (D (hiA false (byD l)) (loA false (byD l))) (W false) i = cutd (byD l) 32 i := fun i hi => by
    unfold cutd
    rw [D_mk, decide_eq_true hi, Bool.true_and]
    rw [show decide (i < 32) = true from decide_eq_true hi, Bool.true_and]
  rw [hi_congr e, lo_congr e]
  rfl
theorem of_L (l : List Int) {c : Nat} (hc : c ≤ 32) : Cal Try.prog 57 [(adL l).val, .int .i64 ((c : Nat) : Int)] (pxL l c).val := by
  have h := of_s (u_mk false (byD l)) false (c : Int)
  have e : ∀ i, i < W false → cutd (D (hiA false (byD l)) (loA false (byD l))) c i = cutd (byD l) c i := fun i hi => by unfold cutd; rw [D_mk, decide_eq_true hi, Bool.true_and]
  have hcl : clampW false (c : Int) = c := by unfold clampW mxi mni; have : W false = 32 := rfl; split <;> (try split) <;> omega
  rw [hcl, hi_congr e, lo_congr e] at h
  exact h
abbrev lA : List Int := [10, 0, 0, 1]
abbrev lB : List Int := [10, 0, 0, 2]
abbrev lC : List Int := [10, 1, 0, 0]
theorem con_same {l m : List Int} {c : Nat} (h : ∀ i, i < c → byD l i = byD m i) : conD false (byD l) c false (byD m) = true := conD_true.2 ⟨rfl, h⟩
theorem con_not {l m : List Int} {c i : Nat} (hi : i < c) (h : byD l i ≠ byD m i) : conD false (byD l) c false (byD m) = false := by
  cases q : conD false (byD l) c false (byD m) with
  | false => rfl
  | true => exact absurd ((conD_true.1 q).2 i hi) h
noncomputable def xA : Rt := ⟨pxL lA 8, 3⟩
theorem fit_a : fitB (adL lA) xA = true := by
  unfold fitB goodB xA
  dsimp only
  rw [adL_sane, pxL_sane lA (by decide), pxL_con lA lA (by decide), conD_self]
  decide
theorem fit_b : fitB (adL lB) xA = true := by
  unfold fitB goodB xA
  dsimp only
  rw [adL_sane, pxL_sane lA (by decide), pxL_con lA lB (by decide), con_same (by decide)]
  decide
theorem fit_w : fitB (adL lA) ⟨pxL lA 32, 3⟩ = true := by
  unfold fitB goodB
  dsimp only
  rw [adL_sane, pxL_sane lA (by decide), pxL_con lA lA (by decide), conD_self]
  decide
theorem sane_nil (b : Int) (h0 : 0 ≤ b) (h1 : b ≤ 1024) : SaneQ [] b := ⟨h0, h1, h0, fun k hk => absurd hk (Nat.not_lt_zero _)⟩
theorem sane_one {e : En} (hf : fitB e.a e.x = true) (hs : e.stale = true → e.x.p.n = ((W e.a.v6 : Nat) : Int)) : SaneQ [e] 4 := ⟨by decide, by decide, by simp, fun k hk => by
  obtain rfl : k = 0 := by simp at hk; omega
  intro e' he
  obtain rfl : e = e' := by simpa using he
  exact ⟨hf, hs, rfl⟩⟩
theorem off1 : offerN [] 4 (adL lA) xA = ([⟨adL lA, xA, false⟩], 4, 3) := by
  unfold offerN
  rw [if_pos (bP_t (sane_nil 4 (by decide) (by decide))), if_pos (show firN [] (adL lA) 0 = -1 from rfl), fit_a, if_neg (by decide)]
  rfl
theorem off2 : offerN [⟨adL lA, xA, false⟩] 4 (adL lB) xA = ([⟨adL lA, xA, false⟩], 4, 1) := by
  unfold offerN
  have hc : conB xA.p (adL lB) = true := by unfold xA; rw [pxL_con lA lB (by decide)]; exact con_same (by decide)
  have hf : firN [⟨adL lA, xA, false⟩] (adL lB) 0 = 0 := by rw [firN, if_pos hc]; rfl
  rw [if_pos (bP_t (sane_one fit_a (fun h => by cases h))), hf, if_neg (by decide)]
theorem nar1 : narN [⟨adL lA, xA, false⟩] 4 (pxL lC 16) = ([⟨adL lA, ⟨pxL lA 32, 3⟩, true⟩], 4, 1) := by
  have hc : ovB (pxL lC 16) xA.p = true := by
    unfold ovB xA
    dsimp only
    rw [pxL_cov lA lC (by decide) (by decide), con_same (by decide)]
    simp
  unfold narN
  rw [if_pos (bP_t (sane_one fit_a (fun h => by cases h)))]
  have h1 : narE (pxL lC 16) ⟨adL lA, xA, false⟩ = ⟨adL lA, ⟨pxL lA 32, 3⟩, true⟩ := by
    unfold narE
    rw [if_pos hc, whole_L]
    rfl
  have h2 : cntN (pxL lC 16) [⟨adL lA, xA, false⟩] 1 = 1 := by
    unfold cntN
    rw [List.take_of_length_le (by simp), List.filter_cons, if_pos hc]
    rfl
  rw [List.map_cons, h1]
  show (_, _, ((cntN _ _ 1 : Nat) : Int)) = _
  rw [h2]
  rfl
theorem off3 : offerN [⟨adL lA, ⟨pxL lA 32, 3⟩, true⟩] 4 (adL lB) xA = ([⟨adL lA, ⟨pxL lA 32, 3⟩, true⟩, ⟨adL lB, xA, false⟩], 4, 3) := by
  unfold offerN
  have hc : conB (pxL lA 32) (adL lB) = false := by rw [pxL_con lA lB (by decide)]; exact con_not (i := 30) (by decide) (by decide)
  have hf : firN [⟨adL lA, ⟨pxL lA 32, 3⟩, true⟩] (adL lB) 0 = -1 := by rw [firN, if_neg (by rw [hc]; decide)]; rfl
  rw [if_pos (bP_t (sane_one fit_w (fun _ => rfl))), if_pos hf, fit_b, if_neg (by decide)]
  rfl
theorem awake14_s : Cal Try.prog 15 [] (.bool true) := by
  have f1 : ∀ A c, RCal Try.prog 59 [.slice A 4 c] [.vw A c 1 (lA.map u8c)] (.tuple #[(adL lA).val, .int .i64 0]) := from_s lA false rfl (by decide)
  have f2 : ∀ A c, RCal Try.prog 59 [.slice A 4 c] [.vw A c 1 (lB.map u8c)] (.tuple #[(adL lB).val, .int .i64 0]) := from_s lB false rfl (by decide)
  have f3 : ∀ A c, RCal Try.prog 59 [.slice A 4 c] [.vw A c 1 (lC.map u8c)] (.tuple #[(adL lC).val, .int .i64 0]) := from_s lC false rfl (by decide)
  have k1 : Cal Try.prog 57 [(adL lA).val, .int .i64 8] xA.p.val := of_L lA (c := 8) (by decide)
  have k2 : Cal Try.prog 57 [(adL lC).val, .int .i64 16] (pxL lC 16).val := of_L lC (c := 16) (by decide)
  have k3 : Cal Try.prog 16 [.int .i64 4] (.agg #[.slice none 0 0, .int .i64 4]) := new_s 4
  have wx : xA.p.a.wf := pxL_wf lA 8
  have w1 : ∀ e ∈ [(⟨adL lA, xA, false⟩ : En)], e.wf := fun e he => by obtain rfl := List.mem_singleton.1 he; exact ⟨adL_wf lA, wx⟩
  have w2 : ∀ e ∈ [(⟨adL lA, ⟨pxL lA 32, 3⟩, true⟩ : En)], e.wf := fun e he => by obtain rfl := List.mem_singleton.1 he; exact ⟨adL_wf lA, pxL_wf lA 32⟩
  have o1 := offer_s [] (fun e he => by cases he) (by decide) 4 (adL_wf lA) wx none 0
  have o2 := fun A c => offer_s [⟨adL lA, xA, false⟩] w1 (by decide) 4 (adL_wf lB) wx A c
  have o3 := fun A c => narrow_s [⟨adL lA, xA, false⟩] w1 (by decide) 4 (pxL_wf lC 16) A c
  have o4 := fun A c => offer_s [⟨adL lA, ⟨pxL lA 32, 3⟩, true⟩] w2 (by decide) 4 (adL_wf lB) wx A c
  rw [off1] at o1
  rw [off2] at o2
  rw [nar1] at o3
  rw [off3] at o4
  refine Cal.mk fun Wo => enter (F := fun _ => False) Try.func15 rfl Try.ntmps15 rfl ?_
  repeat (first | (apply s_alloc; rfl; intro _) | (apply s_bslice; (repeat (first | exact PRows.nil | (apply PRows.cons; rfl; constructor; rfl))); rfl; rfl; intro _) | (apply s_store; rfl; rfl; (repeat (first | exact Plc.hit | apply Plc.miss)); constructor; (focus ((simp only [setAt, List.set_cons_zero, List.set_cons_succ, Nat.zero_add, Nat.reduceAdd, Nat.reduceMul]); try rfl)); kernel_rfl; rfl) | (apply s_tris; rfl; rfl; rfl; (exact o2 _ _); (repeat (first | exact Tk.nil | (apply Tk.see; (first | (focus (apply VSees.vw; (repeat (first | exact List.Mem.head _ | apply List.Mem.tail)); done)) | exact VSees.nil | assumption)) | (apply Tk.see; exact VSees.nil) | (apply Tk.take; (repeat (first | exact Plc.hit | apply Plc.miss))))); rfl; intro _ _; (try dsimp only [List.cons_append, List.nil_append])) | (apply s_tris; rfl; rfl; rfl; (exact o4 _ _); (repeat (first | exact Tk.nil | (apply Tk.see; (first | (focus (apply VSees.vw; (repeat (first | exact List.Mem.head _ | apply List.Mem.tail)); done)) | exact VSees.nil | assumption)) | (apply Tk.see; exact VSees.nil) | (apply Tk.take; (repeat (first | exact Plc.hit | apply Plc.miss))))); rfl; intro _ _; (try dsimp only [List.cons_append, List.nil_append])) | (apply g_tris; rfl; rfl; rfl; rfl; assumption; (repeat (first | exact VSeesAll.nil | (apply VSeesAll.cons; (first | (focus (apply VSees.vw; (repeat (first | exact List.Mem.head _ | apply List.Mem.tail)); done)) | exact VSees.nil | assumption)))); (focus ((repeat (first | exact List.Sublist.refl _ | apply List.Sublist.cons_cons | apply List.Sublist.cons)); done)); (first | exact want_none rfl | (apply want_on; rfl; (first | rfl | assumption | (focus ((repeat (first | assumption | rfl | exact beq_self_eq_true _ | exact bne_self_eq_false _ | apply bOrF | apply bAndT | apply bNotF | apply bNotT | (focus (apply decide_eq_true; omega)) | (focus (apply decide_eq_false; omega)) | (focus (apply bEqT; omega)) | (focus (apply bEqF; omega)) | (focus (apply bNeT; omega)) | (focus (apply bNeF; omega)) | (focus (apply bOrT1; first | assumption | (apply decide_eq_true; omega))) | (focus (apply bOrT2; first | assumption | (apply decide_eq_true; omega))) | (focus (apply bAndF1; first | assumption | (apply decide_eq_false; omega))) | (focus (apply bAndF2; first | assumption | (apply decide_eq_false; omega))))); done))))); rfl; intro _ _; (try dsimp only [List.cons_append, List.nil_append])) | (apply g_tris; rfl; rfl; rfl; rfl; (exact o3 _ _); (repeat (first | exact VSeesAll.nil | (apply VSeesAll.cons; (first | (focus (apply VSees.vw; (repeat (first | exact List.Mem.head _ | apply List.Mem.tail)); done)) | exact VSees.nil | assumption)))); (focus ((repeat (first | exact List.Sublist.refl _ | apply List.Sublist.cons_cons | apply List.Sublist.cons)); done)); (first | exact want_none rfl | (apply want_on; rfl; (first | rfl | assumption | (focus ((repeat (first | assumption | rfl | exact beq_self_eq_true _ | exact bne_self_eq_false _ | apply bOrF | apply bAndT | apply bNotF | apply bNotT | (focus (apply decide_eq_true; omega)) | (focus (apply decide_eq_false; omega)) | (focus (apply bEqT; omega)) | (focus (apply bEqF; omega)) | (focus (apply bNeT; omega)) | (focus (apply bNeF; omega)) | (focus (apply bOrT1; first | assumption | (apply decide_eq_true; omega))) | (focus (apply bOrT2; first | assumption | (apply decide_eq_true; omega))) | (focus (apply bAndF1; first | assumption | (apply decide_eq_false; omega))) | (focus (apply bAndF2; first | assumption | (apply decide_eq_false; omega))))); done))))); rfl; intro _ _; (try dsimp only [List.cons_append, List.nil_append])) | (apply g_store; rfl; rfl; (repeat (first | exact Plc.hit | apply Plc.miss)); constructor; (focus ((simp only [setAt, List.set_cons_zero, List.set_cons_succ, Nat.zero_add, Nat.reduceAdd, Nat.reduceMul]); try rfl)); kernel_rfl; rfl; (focus ((repeat (first | exact List.Sublist.refl _ | apply List.Sublist.cons_cons | apply List.Sublist.cons)); done))) | (apply g_new; rfl; intro _) | apply s_st | apply st_go | (apply st_on; rfl) | (focus (first | (apply y_move; rfl) | (apply y_assign; rfl) | (apply y_load; rfl; (repeat (first | exact List.Mem.head _ | apply List.Mem.tail)); (repeat (first | exact Sub.nil | apply Sub.take | apply Sub.drop)); done) | (apply y_cell; rfl; (repeat (first | exact List.Mem.head _ | apply List.Mem.tail)); (repeat (first | exact At.hit | apply At.miss)); kernel_rfl; done) | (apply y_ecell; rfl; (first | (focus (apply Sees.vw; (repeat (first | exact List.Mem.head _ | apply List.Mem.tail)); done)) | (focus (apply Sees.own; (repeat (first | exact List.Mem.head _ | apply List.Mem.tail)); done)) | exact Sees.nil | assumption); (first | assumption | rfl); (repeat (first | exact At.hit | apply At.miss)); kernel_rfl; done) | (apply y_calls; rfl; rfl; rfl; (first | assumption | exact f1 _ _ | exact f2 _ _ | exact f3 _ _ | exact o2 _ _ | exact o3 _ _ | exact o4 _ _); done) | (apply y_rcal; rfl; rfl; rfl; (exact f1 _ _); (repeat (first | exact SeesAll.nil | (apply SeesAll.cons; (first | (focus (apply Sees.vw; (repeat (first | exact List.Mem.head _ | apply List.Mem.tail)); done)) | (focus (apply Sees.own; (repeat (first | exact List.Mem.head _ | apply List.Mem.tail)); done)) | exact Sees.nil | assumption)))); done) | (apply y_rcal; rfl; rfl; rfl; (exact f2 _ _); (repeat (first | exact SeesAll.nil | (apply SeesAll.cons; (first | (focus (apply Sees.vw; (repeat (first | exact List.Mem.head _ | apply List.Mem.tail)); done)) | (focus (apply Sees.own; (repeat (first | exact List.Mem.head _ | apply List.Mem.tail)); done)) | exact Sees.nil | assumption)))); done) | (apply y_rcal; rfl; rfl; rfl; (exact f3 _ _); (repeat (first | exact SeesAll.nil | (apply SeesAll.cons; (first | (focus (apply Sees.vw; (repeat (first | exact List.Mem.head _ | apply List.Mem.tail)); done)) | (focus (apply Sees.own; (repeat (first | exact List.Mem.head _ | apply List.Mem.tail)); done)) | exact Sees.nil | assumption)))); done) | (apply y_and; rfl; rfl; done) | (apply y_extract; rfl; (repeat (first | exact At.hit | apply At.miss)); done) | (apply y_efaddr; kernel_rfl; rfl) | (apply y_faddr; kernel_rfl; rfl) | (apply y_ixaddr; rfl; rfl; (first | (focus (apply Sees.vw; (repeat (first | exact List.Mem.head _ | apply List.Mem.tail)); done)) | (focus (apply Sees.own; (repeat (first | exact List.Mem.head _ | apply List.Mem.tail)); done)) | exact Sees.nil | assumption); (first | rfl | assumption | (focus (simp; done)) | (focus (simp; omega))); (first | assumption | rfl | exact (show (0 : Int) = ((0 : Nat) : Int) from rfl) | exact (show (1 : Int) = ((1 : Nat) : Int) from rfl) | exact (show (2 : Int) = ((2 : Nat) : Int) from rfl) | exact (show (3 : Int) = ((3 : Nat) : Int) from rfl)); (first | assumption | omega | (focus (simp; done)) | (focus (simp; omega))); done) | (apply y_len; rfl) | (apply y_eq; rfl; rfl) | (apply y_build; kernel_rfl; (repeat (first | exact Bld.nil | (apply Bld.cons; exact inferInstance; rfl; constructor; kernel_rfl; (focus ((simp only [setAt, List.set_cons_zero, List.set_cons_succ, Nat.zero_add, Nat.reduceAdd, Nat.reduceMul]); try rfl))))); done))) | apply s_nil | apply w_seq | apply f_then | apply w_ret | (apply f_end; rfl; rfl; rfl; intro w hw; first | exact ans hw | (refine ans_b ?_ hw; (focus ((repeat (first | assumption | rfl | exact beq_self_eq_true _ | exact bne_self_eq_false _ | apply bOrF | apply bAndT | apply bNotF | apply bNotT | (focus (apply decide_eq_true; omega)) | (focus (apply decide_eq_false; omega)) | (focus (apply bEqT; omega)) | (focus (apply bEqF; omega)) | (focus (apply bNeT; omega)) | (focus (apply bNeF; omega)) | (focus (apply bOrT1; first | assumption | (apply decide_eq_true; omega))) | (focus (apply bOrT2; first | assumption | (apply decide_eq_true; omega))) | (focus (apply bAndF1; first | assumption | (apply decide_eq_false; omega))) | (focus (apply bAndF2; first | assumption | (apply decide_eq_false; omega))))); done))) | (apply t_endS1 hw; rfl; (focus ((repeat (first | exact List.Sublist.refl _ | apply List.Sublist.cons_cons | apply List.Sublist.cons)); done))) | (apply t_endX1 hw; rfl; (focus ((repeat (first | exact List.Sublist.refl _ | apply List.Sublist.cons_cons | apply List.Sublist.cons)); done))) | (refine t_end ⟨rfl, rfl⟩ ?_ w hw; (focus ((repeat (first | exact List.Sublist.refl _ | apply List.Sublist.cons_cons | apply List.Sublist.cons)); done)))) | (apply w_mixed_r rfl 5 [1, 2, 0, 3, 4, 5, 6, 7, 8] [0, 0, 1, 1, 1, 0, 0, 2, 2] _ ; kernel_rfl; kernel_rfl; exact List.Sublist.refl _; rfl) | (apply w_mixed_r rfl 7 [0, 1, 2, 3, 4, 5, 6, 7, 8] [0, 1, 1, 1, 1, 0, 0, 2, 2] _ ; kernel_rfl; kernel_rfl; exact List.Sublist.refl _; rfl) | (apply g_st; rfl; intro W0) | apply g_done | (apply w_reg_l; rfl) | exact rfl)
end Go.Proofs.Ytlmcfjadhahlpaa.Hand
