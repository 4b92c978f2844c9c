/-
  kedgelaw08: the document's example.
-/
import Derived.Test.YtfcffemglcgbnaaCb
import Derived.Test.YtfcffemglcgbnaaCd
import Derived.Test.YtfcffemglcgbnaaRe
namespace Go.Proofs.Ytfcffemglcgbnaa.Hand
open Go.RowKit Go.Proofs.Ytfcffemglcgbnaa.Bits Go.Proofs.Ytfcffemglcgbnaa.Dig Go.Proofs.Ytfcffemglcgbnaa.Sq
set_option linter.unusedVariables false
set_option linter.unusedSimpArgs false
set_option maxRecDepth 100000
set_option maxHeartbeats 8000000
noncomputable def pcs1 (L : List Pr) (v : Bool) : List Bool → List Bool → List P8
  | q, [] => [pieceN L (pxK (v, q))]
  | q, b :: t => if b = true then pieceN L (pxK (v, q ++ [false])) :: pcs1 L v (q ++ [true]) t else pcs1 L v (q ++ [false]) t ++ [pieceN L (pxK (v, q ++ [true]))]
theorem pcs1_eq {e : Pr} (hs : sanB e.p = true) {v : Bool} {r : List Bool} (hk : keyP e.p = (v, r)) : ∀ (t q : List Bool), q ++ t = r → pcsQ [e] v q = pcs1 [e] v q t := by
  have hg : GoodL [e] := ⟨fun f hf => by obtain rfl := List.mem_singleton.1 hf; exact hs, List.pairwise_singleton _ _⟩
  have hr : r.length ≤ W v := by have := key_le hs; rw [hk] at this; exact this
  have key : ∀ q : List Bool, q.length ≤ W v → (insN [e] (pxK (v, q)) = true ↔ q <+: r ∧ r ≠ q) := fun q hq => by
    rw [insK hg hq]
    constructor
    · rintro ⟨f, hf, h1, h2, h3⟩
      obtain rfl := List.mem_singleton.1 hf
      rw [hk] at h2 h3
      exact ⟨h2, h3⟩
    · rintro ⟨h2, h3⟩
      exact ⟨e, List.mem_singleton.2 rfl, by rw [hk], by rw [hk]; exact h2, by rw [hk]; exact h3⟩
  have no : ∀ q : List Bool, q.length ≤ W v → ¬ (q <+: r ∧ r ≠ q) → insN [e] (pxK (v, q)) = false := fun q hq h => by
    cases hi : insN [e] (pxK (v, q)) with
    | false => rfl
    | true => exact absurd ((key q hq).1 hi) h
  intro t
  induction t with
  | nil =>
    intro q hq
    rw [List.append_nil] at hq
    subst hq
    exact pcsQ_no (no _ hr fun h => h.2 rfl)
  | cons b t ih =>
    intro q hq
    have hl : r.length = q.length + (t.length + 1) := by rw [← hq]; simp
    have hin := (key q (by omega)).2 ⟨⟨_, hq⟩, fun h => by rw [h] at hl; omega⟩
    have hb := ih (q ++ [b]) (by rw [List.append_assoc]; exact hq)
    have hnb : pcsQ [e] v (q ++ [!b]) = [pieceN [e] (pxK (v, q ++ [!b]))] := pcsQ_no (no _ (by rw [List.length_append, List.length_singleton]; omega) fun h => by
      have h2 : q ++ [b] <+: r := ⟨t, by rw [List.append_assoc]; exact hq⟩
      have := (List.prefix_of_prefix_length_le h.1 h2 (by simp)).eq_of_length (by simp)
      have := List.append_cancel_left this
      cases b <;> cases this)
    rw [(pcsQ_in hg (by omega) hin).2]
    cases b with
    | true => rw [hb]; show pcsQ [e] v (q ++ [!true]) ++ _ = _; rw [hnb]; rfl
    | false => rw [hb]; show _ ++ pcsQ [e] v (q ++ [!false]) = _; rw [hnb]; rfl
theorem pxL_keyC {l : List Int} {c : Nat} (hc : c ≤ 32) : keyP (pxL l c) = (false, pth (byD l) c) := by
  unfold keyP pxL
  dsimp only
  rw [Int.toNat_natCast]
  refine congrArg _ (pth_congr fun i hi => ?_)
  rw [D_mk, decide_eq_true (show i < W false by rw [W_f]; omega), cutd_lt hi, Bool.true_and]
noncomputable def c8E : Pr := ⟨pxL lC 16, 4⟩
abbrev q8 : List Bool := [false, false, false, false, true, false, true, false]
abbrev t8 : List Bool := [false, false, false, false, false, false, false, true]
theorem c8_fill : (fillN [c8E]).1 = [c8E] := by
  have hc := pxL_sane lC (c := 16) (by decide)
  show (fillS ([], 2) c8E).1 = _
  unfold fillS addN fitB c8E
  dsimp only
  rw [if_pos hc, if_pos (by decide), put_nil, if_pos (decide_eq_true ⟨by show ((1 : Nat) : Int) ≤ 200; decide, by have := hops_le [(⟨pxL lC 16, 4⟩ : Pr)]; simp only [List.length_singleton] at this; omega⟩)]
theorem c8_pcs : pcsN [c8E] (pxL lC 8) = pcs1 [c8E] false q8 t8 := by
  have e8 : pth (byD lC) 8 = q8 := by decide
  have e16 : pth (byD lC) 16 = q8 ++ t8 := by decide
  unfold pcsN
  rw [if_pos (pxL_sane lC (by decide)), pxL_keyC (by decide), e8]
  exact pcs1_eq (e := c8E) (pxL_sane lC (by decide)) (r := q8 ++ t8) (by show keyP (pxL lC 16) = _; rw [pxL_keyC (by decide), e16]) t8 q8 rfl
theorem c8_one : ∃ (x y : P8) (l : List P8), pcs1 [c8E] false q8 t8 = x :: y :: l ∧ l.length = 7 ∧ x.ok = false ∧ y = ⟨pxL lC 16, 4, true⟩ := by
  refine ⟨pieceN [c8E] (pxK (false, [false, false, false, false, true, false, true, false, false, false, false, false, false, false, false, false])), pieceN [c8E] (pxK (false, q8 ++ t8)), _, rfl, rfl, ?_, ?_⟩
  · have hq : (pxK (false, [false, false, false, false, true, false, true, false, false, false, false, false, false, false, false, false])) = pxL lA 16 := by
      rw [← pxK_keyP (pxL_sane lA (c := 16) (by decide)), pxL_keyC (by decide)]
      exact congrArg pxK (Prod.ext rfl (by decide))
    have h2 : cvB (pxL lC 16) (pxL lA 16) = false := by rw [pxL_cov lC lA (by decide) (by decide), con_not (i := 15) (by decide) (by decide)]; rfl
    unfold pieceN
    dsimp only
    rw [hq, gov_none (by show List.filter _ [c8E] = []; rw [List.filter_cons, if_neg (by show ¬ cvB (pxL lC 16) (pxL lA 16) = true; rw [h2]; decide), List.filter_nil])]
  · have hq : pxK (false, q8 ++ t8) = pxL lC 16 := by
      rw [← pxK_keyP (pxL_sane lC (c := 16) (by decide)), pxL_keyC (by decide)]
      exact congrArg pxK (Prod.ext rfl (by decide))
    have hs := pxL_sane lC (c := 16) (by decide)
    have h2 : cvB (pxL lC 16) (pxL lC 16) = true := cov_key.2 ⟨hs, hs, rfl, List.prefix_refl _⟩
    have e : aboveN [c8E] (pxL lC 16) = [c8E] := by show List.filter _ [c8E] = _; rw [List.filter_cons, if_pos (by exact h2), List.filter_nil]
    unfold pieceN
    rw [hq, gov_some (e := c8E) (by rw [e]; rfl)]
    rfl
theorem awake08_s : Cal Try.prog 20 [] (.bool true) := by
  have f2 : ∀ A c, RCal Try.prog 63 [.slice A 4 c] [.vw A c 1 (lC.map u8c)] (.tuple #[(adL lC).val, .int .i64 0]) := from_s lC false rfl (by decide)
  have k2 : Cal Try.prog 19 [(adL lC).val, .int .i64 16] (pxL lC 16).val := of_L lC (c := 16) (by decide)
  have k3 : Cal Try.prog 19 [(adL lC).val, .int .i64 8] (pxL lC 8).val := of_L lC (c := 8) (by decide)
  have hw : ∀ e ∈ [c8E], e.p.a.wf := fun e he => by obtain rfl := List.mem_singleton.1 he; exact pxL_wf lC 16
  have k1 := fun A c => filled8_f [c8E] hw (by decide) A c
  rw [c8_fill] at k1
  have k4 := fun g bs => pieces_p (g := g) (L := [c8E]) (mo := (fillN [c8E]).2) (N := 200) (H := 200) (bs := bs) (by decide) (pxL_wf lC 8) 99 99 rfl
  have k5 := fun g bs => count_p (g := g) (L := [c8E]) (mo := (fillN [c8E]).2) (N := 200) (H := 200) (bs := bs) (by decide) (pxL_wf lC 8) (by decide)
  obtain ⟨x, y, l, e1, e2, e3, e4⟩ := c8_one
  rw [c8_pcs, e1] at k4 k5
  have hl : (x :: y :: l).length = 9 := by rw [List.length_cons, List.length_cons, e2]
  have ht : (x :: y :: l).take 99 = x :: y :: l := List.take_of_length_le (by rw [hl]; decide)
  rw [ht] at k4
  rw [hl] at k4 k5
  subst e4
  have hm : ([c8E].map Pr.cells) = [Pr.cells ⟨pxL lC 16, 4⟩] := rfl
  rw [hm] at k1
  dsimp only [List.length_singleton] at k1
  have hrow0 : ((x :: (⟨pxL lC 16, 4, true⟩ : P8) :: l).map P8.cells)[0]? = some [.int .u64 x.p.a.hi, .int .u64 x.p.a.lo, .bool x.p.a.v6, .int .i64 x.p.n, .int .i64 x.v, .bool false] := by simp [P8.cells, e3]
  have hrow1 : ((x :: (⟨pxL lC 16, 4, true⟩ : P8) :: l).map P8.cells)[1]? = some [.int .u64 (pxL lC 16).a.hi, .int .u64 (pxL lC 16).a.lo, .bool (pxL lC 16).a.v6, .int .i64 (pxL lC 16).n, .int .i64 4, .bool true] := by simp [P8.cells]
  have hlen : ((x :: (⟨pxL lC 16, 4, true⟩ : P8) :: l).map P8.cells).length = 9 := by simp [e2]
  have hlen' := hlen.symm
  rw [decide_eq_true (by decide)] at k4
  generalize (x :: (⟨pxL lC 16, 4, true⟩ : P8) :: l).map P8.cells = rows at *
  generalize (fillN [c8E]).2 = mo at *
  generalize [c8E] = LL at *
  dsimp only [Pr.cells] at k1
  clear e1 e2 e3 hl ht hm hw
  generalize pxL lC 16 = z at *
  generalize pxL lC 8 = w at *
  refine Cal.mk fun Wo => enter (F := fun _ => False) Try.func20 rfl Try.ntmps20 rfl ?_
  repeat (first | (apply s_alloc; rfl; intro _) | (apply s_bslice; (repeat (first | exact PRows.nil | (apply PRows.cons; rfl; constructor; rfl))); rfl; rfl; intro _) | (apply s_store; rfl; rfl; (repeat (first | exact Plc.hit | apply Plc.miss)); constructor; (focus ((simp only [setAt, List.set_cons_zero, List.set_cons_succ, Nat.zero_add, Nat.reduceAdd, Nat.reduceMul]); try rfl)); kernel_rfl; rfl) | (apply s_fcal; rfl; rfl; rfl; (exact k1 _ _); (focus ((repeat (first | exact SeesAll.nil | (apply SeesAll.cons; (first | (focus (apply Sees.vw; (repeat (first | exact List.Mem.head _ | apply List.Mem.tail)); done)) | (focus (apply Sees.own; (repeat (first | exact List.Mem.head _ | apply List.Mem.tail)); done)) | exact Sees.nil | assumption)) | (apply SeesAll.mem; (repeat (first | exact List.Mem.head _ | apply List.Mem.tail))))); done)); (first | exact want_none rfl | (apply want_on; rfl; (first | rfl | assumption | (focus ((repeat (first | assumption | rfl | exact beq_self_eq_true _ | exact bne_self_eq_false _ | apply bOrF | apply bAndT | apply bNotF | apply bNotT | (focus (apply decide_eq_true; omega)) | (focus (apply decide_eq_false; omega)) | (focus (apply bEqT; omega)) | (focus (apply bEqF; omega)) | (focus (apply bNeT; omega)) | (focus (apply bNeF; omega)) | (focus (apply bOrT1; first | assumption | (apply decide_eq_true; omega))) | (focus (apply bOrT2; first | assumption | (apply decide_eq_true; omega))) | (focus (apply bAndF1; first | assumption | (apply decide_eq_false; omega))) | (focus (apply bAndF2; first | assumption | (apply decide_eq_false; omega))))); done))))); rfl; intro _; (try dsimp only [List.cons_append, List.nil_append])) | (apply s_fcalq; rfl; rfl; rfl; (exact k4 _); (focus ((repeat (first | exact SeesAll.nil | (apply SeesAll.cons; (first | (focus (apply Sees.vw; (repeat (first | exact List.Mem.head _ | apply List.Mem.tail)); done)) | (focus (apply Sees.own; (repeat (first | exact List.Mem.head _ | apply List.Mem.tail)); done)) | exact Sees.nil | assumption)) | (apply SeesAll.mem; (repeat (first | exact List.Mem.head _ | apply List.Mem.tail))))); done)); (first | exact want_none rfl | (apply want_on; rfl; (first | rfl | assumption | (focus ((repeat (first | assumption | rfl | exact beq_self_eq_true _ | exact bne_self_eq_false _ | apply bOrF | apply bAndT | apply bNotF | apply bNotT | (focus (apply decide_eq_true; omega)) | (focus (apply decide_eq_false; omega)) | (focus (apply bEqT; omega)) | (focus (apply bEqF; omega)) | (focus (apply bNeT; omega)) | (focus (apply bNeF; omega)) | (focus (apply bOrT1; first | assumption | (apply decide_eq_true; omega))) | (focus (apply bOrT2; first | assumption | (apply decide_eq_true; omega))) | (focus (apply bAndF1; first | assumption | (apply decide_eq_false; omega))) | (focus (apply bAndF2; first | assumption | (apply decide_eq_false; omega))))); done))))); rfl; intro _; (try dsimp only [List.cons_append, List.nil_append])) | apply s_st | apply q_st | apply st_go | (apply st_on; rfl) | (apply st_one; rfl; (focus ((repeat (first | assumption | rfl | exact beq_self_eq_true _ | exact bne_self_eq_false _ | apply bOrF | apply bAndT | apply bNotF | apply bNotT | (focus (apply decide_eq_true; omega)) | (focus (apply decide_eq_false; omega)) | (focus (apply bEqT; omega)) | (focus (apply bEqF; omega)) | (focus (apply bNeT; omega)) | (focus (apply bNeF; omega)) | (focus (apply bOrT1; first | assumption | (apply decide_eq_true; omega))) | (focus (apply bOrT2; first | assumption | (apply decide_eq_true; omega))) | (focus (apply bAndF1; first | assumption | (apply decide_eq_false; omega))) | (focus (apply bAndF2; first | assumption | (apply decide_eq_false; omega))))); done))) | (focus (first | (apply y_move; rfl) | (apply y_assign; rfl) | (apply y_not; rfl) | (apply y_load; rfl; (repeat (first | exact List.Mem.head _ | apply List.Mem.tail)); (repeat (first | exact Sub.nil | apply Sub.take | apply Sub.drop)); done) | (apply y_eload; rfl; (first | (focus (apply Sees.vw; (repeat (first | exact List.Mem.head _ | apply List.Mem.tail)); done)) | (focus (apply Sees.own; (repeat (first | exact List.Mem.head _ | apply List.Mem.tail)); done)) | exact Sees.nil | assumption); (first | assumption | rfl); (repeat (first | exact Sub.nil | apply Sub.take | apply Sub.drop)); done) | (apply y_ecell; rfl; (first | (focus (apply Sees.vw; (repeat (first | exact List.Mem.head _ | apply List.Mem.tail)); done)) | (focus (apply Sees.own; (repeat (first | exact List.Mem.head _ | apply List.Mem.tail)); done)) | exact Sees.nil | assumption); (first | assumption | rfl); (repeat (first | exact At.hit | apply At.miss)); kernel_rfl; done) | (apply y_calls; rfl; rfl; rfl; (first | assumption | exact f2 _ _ | exact k1 _ _ | exact k4 _ | exact k5 _); done) | (apply y_rcal; rfl; rfl; rfl; (exact f2 _ _); (repeat (first | exact SeesAll.nil | (apply SeesAll.cons; (first | (focus (apply Sees.vw; (repeat (first | exact List.Mem.head _ | apply List.Mem.tail)); done)) | (focus (apply Sees.own; (repeat (first | exact List.Mem.head _ | apply List.Mem.tail)); done)) | exact Sees.nil | assumption)) | (apply SeesAll.mem; (repeat (first | exact List.Mem.head _ | apply List.Mem.tail))))); done) | (apply y_rcalq; rfl; rfl; rfl; (exact k5 _); (repeat (first | exact SeesAll.nil | (apply SeesAll.cons; (first | (focus (apply Sees.vw; (repeat (first | exact List.Mem.head _ | apply List.Mem.tail)); done)) | (focus (apply Sees.own; (repeat (first | exact List.Mem.head _ | apply List.Mem.tail)); done)) | exact Sees.nil | assumption)) | (apply SeesAll.mem; (repeat (first | exact List.Mem.head _ | apply List.Mem.tail))))); done) | (apply y_and; rfl; rfl; done) | (apply y_andp; rfl; rfl; done) | (apply y_extract; rfl; (repeat (first | exact At.hit | apply At.miss)); done) | (apply y_efaddr; kernel_rfl; rfl) | (apply y_ixaddr; rfl; rfl; (first | (focus (apply Sees.vw; (repeat (first | exact List.Mem.head _ | apply List.Mem.tail)); done)) | (focus (apply Sees.own; (repeat (first | exact List.Mem.head _ | apply List.Mem.tail)); done)) | exact Sees.nil | assumption); (first | rfl | assumption | (focus (simp; done)) | (focus (simp; omega))); (first | assumption | rfl | exact (show (0 : Int) = ((0 : Nat) : Int) from rfl) | exact (show (1 : Int) = ((1 : Nat) : Int) from rfl) | exact (show (2 : Int) = ((2 : Nat) : Int) from rfl) | exact (show (3 : Int) = ((3 : Nat) : Int) from rfl)); (first | assumption | omega | (focus (simp; done)) | (focus (simp; omega))); done) | (apply y_len; rfl) | (apply y_eq; rfl; rfl) | (apply y_eqs; rfl; rfl; kernel_rfl; exact inferInstance) | (apply y_build; kernel_rfl; (repeat (first | exact Bld.nil | (apply Bld.cons; exact inferInstance; rfl; constructor; kernel_rfl; (focus ((simp only [setAt, List.set_cons_zero, List.set_cons_succ, Nat.zero_add, Nat.reduceAdd, Nat.reduceMul]); try rfl))))); done))) | apply q_nil | apply s_nil | apply w_seq | apply f_then | apply w_ret | (apply f_end; rfl; rfl; rfl; intro w hw; first | exact ans hw | (refine ans_b ?_ hw; (focus ((repeat (first | assumption | rfl | exact beq_self_eq_true _ | exact bne_self_eq_false _ | apply bOrF | apply bAndT | apply bNotF | apply bNotT | (focus (apply decide_eq_true; omega)) | (focus (apply decide_eq_false; omega)) | (focus (apply bEqT; omega)) | (focus (apply bEqF; omega)) | (focus (apply bNeT; omega)) | (focus (apply bNeF; omega)) | (focus (apply bOrT1; first | assumption | (apply decide_eq_true; omega))) | (focus (apply bOrT2; first | assumption | (apply decide_eq_true; omega))) | (focus (apply bAndF1; first | assumption | (apply decide_eq_false; omega))) | (focus (apply bAndF2; first | assumption | (apply decide_eq_false; omega))))); done))) | (apply t_endS1 hw; rfl; (focus ((repeat (first | exact List.Sublist.refl _ | apply List.Sublist.cons_cons | apply List.Sublist.cons)); done))) | (apply t_endU hw; rfl; (focus ((repeat (first | exact List.Sublist.refl _ | apply List.Sublist.cons_cons | apply List.Sublist.cons)); done))) | (apply t_endX1 hw; rfl; (focus ((repeat (first | exact List.Sublist.refl _ | apply List.Sublist.cons_cons | apply List.Sublist.cons)); done))) | (refine t_end ⟨rfl, rfl⟩ ?_ w hw; (focus ((repeat (first | exact List.Sublist.refl _ | apply List.Sublist.cons_cons | apply List.Sublist.cons)); done))) | (apply t_endUT hw; rfl; (focus ((repeat (first | exact Tk.nil | (apply Tk.see; (first | (focus (apply VSees.vw; (repeat (first | exact List.Mem.head _ | apply List.Mem.tail)); done)) | exact VSees.nil | assumption)) | (apply Tk.see; exact VSees.nil) | (apply Tk.take; (repeat (first | exact Plc.hit | apply Plc.miss))))); done)); (focus ((repeat (first | exact List.Sublist.refl _ | apply List.Sublist.cons_cons | apply List.Sublist.cons)); done))) | (apply t_endXT hw; rfl; (repeat (first | exact Tk.nil | (apply Tk.see; (first | (focus (apply VSees.vw; (repeat (first | exact List.Mem.head _ | apply List.Mem.tail)); done)) | exact VSees.nil | assumption)) | (apply Tk.see; exact VSees.nil) | (apply Tk.take; (repeat (first | exact Plc.hit | apply Plc.miss))))); (focus ((repeat (first | exact List.Sublist.refl _ | apply List.Sublist.cons_cons | apply List.Sublist.cons)); done)))) | (apply w_draw_l; rfl; kernel_rfl; rfl; kernel_rfl) | (apply w_reg_l; rfl) | exact rfl)
end Go.Proofs.Ytfcffemglcgbnaa.Hand
