/-
  CoverSame.
-/
import Derived.Test.YtfcffemglcgbnaaCl
import Derived.Test.YtfcffemglcgbnaaCf
import Derived.Test.YtfcffemglcgbnaaCh
namespace Go.Proofs.Ytfcffemglcgbnaa.Hand
open Go.RowKit Go.Proofs.Ytfcffemglcgbnaa.Bits Go.Proofs.Ytfcffemglcgbnaa.Dig Go.Proofs.Ytfcffemglcgbnaa.Sq
set_option linter.unusedVariables false
set_option linter.unusedSimpArgs false
set_option maxRecDepth 100000
set_option maxHeartbeats 8000000
theorem sq1_all : ∀ {l m : List P8}, sq1 l = some m → (∀ x ∈ l, x.p.a.wf) → ∀ x ∈ m, x.p.a.wf
  | [], m, h, _ => by cases h
  | [x], m, h, _ => by cases h
  | x :: y :: l, m, h, hw => by
    rw [sq1] at h
    split at h
    · cases h
      intro z hz
      rcases List.mem_cons.1 hz with rfl | hz
      · exact pxK_wf _
      · exact hw z (List.mem_cons_of_mem _ (List.mem_cons_of_mem _ hz))
    · cases hm : sq1 (y :: l) with
      | none => rw [hm] at h; cases h
      | some m' =>
        rw [hm] at h
        cases h
        intro z hz
        rcases List.mem_cons.1 hz with rfl | hz
        · exact hw z (List.mem_cons_self ..)
        · exact sq1_all hm (fun u hu => hw u (List.mem_cons_of_mem _ hu)) z hz
theorem sqz_wf {l : List P8} (hw : ∀ x ∈ l, x.p.a.wf) : ∀ x ∈ sqz l, x.p.a.wf := sqz_ind (P := fun l m => (∀ x ∈ l, x.p.a.wf) → ∀ x ∈ m, x.p.a.wf) (fun _ h => h) (fun l m n h hn hl => hn (sq1_all h hl)) _ l (Nat.le_refl _) hw
theorem squeeze_f (l : List P8) (hw : ∀ x ∈ l, x.p.a.wf) (hl : l.length ≤ 1000000) (A : Option Addr) (c : Nat) : FCal Try.prog 48 [.slice A l.length c] [.vw A c 6 (l.map P8.cells)] (RetX fun b : Option Addr × Nat => (.slice b.1 (sqz l).length b.2, [.own b.1 b.2 6 ((sqz l).map P8.cells) 56])) := FCal.ofS rfl (fun _ _ => noVw_own) (squeeze_t l hw hl A c)
theorem atN_one {L : List Pr} (v : Bool) (q : List Bool) (a : Ad) : (atN [pieceN L (pxK (v, q))] a).isSome = conB (pxK (v, q)) a := by
  unfold atN
  rw [List.find?_singleton]
  cases hc : conB (pxK (v, q)) a with
  | true => rw [if_pos (show conB (pieceN L (pxK (v, q))).p a = true from hc)]; rfl
  | false => rw [if_neg (show ¬ conB (pieceN L (pxK (v, q))).p a = true from fun h => by rw [show conB (pieceN L (pxK (v, q))).p a = conB (pxK (v, q)) a from rfl, hc] at h; cases h)]; rfl
theorem pcs_con {L : List Pr} {v : Bool} (a : Ad) : ∀ (k : Nat) (q : List Bool), q.length + k = W v → (atN (pcsK L v k q) a).isSome = conB (pxK (v, q)) a
  | 0, q, h => by
    rw [pcsK]
    exact atN_one v q a
  | k + 1, q, h => by
    rw [pcsK]
    split
    · have h1 := pcs_con (L := L) (v := v) a k (q ++ [false]) (by rw [List.length_append, List.length_singleton]; omega)
      have h2 := pcs_con (L := L) (v := v) a k (q ++ [true]) (by rw [List.length_append, List.length_singleton]; omega)
      rw [con_kids (v := v) (by omega), ← h1, ← h2]
      unfold atN
      rw [List.find?_append]
      cases (pcsK L v k (q ++ [false])).find? fun x => conB x.p a <;> simp
    · exact atN_one v q a
theorem pcsN_con {L : List Pr} (p : Px) (a : Ad) : (atN (pcsN L p) a).isSome = conB p a := by
  unfold pcsN
  split
  · rename_i hs
    have hk := key_le hs
    have h := pcs_con (L := L) (v := (keyP p).1) a (W (keyP p).1 - (keyP p).2.length) (keyP p).2 (by omega)
    have e : pxK ((keyP p).1, (keyP p).2) = p := pxK_keyP hs
    rw [e] at h
    exact h
  · rename_i hs
    cases hc : conB p a with
    | true => exact absurd (con_sane hc) hs
    | false => rfl
theorem at_mem {l : List P8} {a : Ad} {x : P8} (h : atN l a = some x) : x ∈ l ∧ conB x.p a = true := by
  unfold atN at h
  exact ⟨List.mem_of_find?_eq_some h, List.find?_some (p := fun x : P8 => conB x.p a) h⟩
theorem same_raw {L : List Pr} (hg : GoodL L) (p : Px) (a : Ad) :
    (((((atV (pcsN L p) a).2 != conB p a) || ((atV (sqz (pcsN L p)) a).2 != (atV (pcsN L p) a).2)) || ((atV (pcsN L p) a).1.v != (atV (sqz (pcsN L p)) a).1.v)) || ((atV (pcsN L p) a).1.ok != (atV (sqz (pcsN L p)) a).1.ok)) = false ∧
    ((atV (pcsN L p) a).2 && (((atV (pcsN L p) a).1.ok != (govN L (wholeP a)).2) || ((atV (pcsN L p) a).1.v != (govN L (wholeP a)).1.v))) = false := by
  have h1 := pcsN_con (L := L) p a
  have h2 := sqz_at (pcsN L p) a
  have h3 : ∀ x, atN (pcsN L p) a = some x → x.ok = (govN L (wholeP a)).2 ∧ x.v = (govN L (wholeP a)).1.v := fun x hx => by
    obtain ⟨hm, hc⟩ := at_mem hx
    unfold pcsN at hm
    split at hm
    · rename_i hs
      have hk := key_le hs
      obtain ⟨q, _, _, rfl, h4, _⟩ := pcs_mem hg _ _ (by omega) x hm
      have := gov_con hg hc h4
      unfold pieceN at this ⊢
      dsimp only at this ⊢
      rw [this]
      exact ⟨rfl, rfl⟩
    · cases hm
  unfold atV
  cases ha : atN (pcsN L p) a with
  | none =>
    rw [ha] at h1 h2
    cases hb : atN (sqz (pcsN L p)) a with
    | none =>
      rw [← h1]
      exact ⟨by simp, rfl⟩
    | some y => rw [hb] at h2; cases h2
  | some x =>
    rw [ha] at h1 h2
    obtain ⟨e1, e2⟩ := h3 x ha
    cases hb : atN (sqz (pcsN L p)) a with
    | none => rw [hb] at h2; cases h2
    | some y =>
      rw [hb] at h2
      obtain ⟨e3, e4⟩ := Prod.mk.inj (Option.some.inj h2)
      rw [← h1]
      dsimp only
      rw [e3, e4, e1, e2]
      exact ⟨by simp, by simp⟩
theorem coverSame_s (l : List Pr) (hw : ∀ e ∈ l, e.p.a.wf) {p : Px} (hp : p.a.wf) {a : Ad} (ha : a.wf) (A0 : Option Addr) (c0 : Nat) :
    RCal Try.prog 10 [.slice A0 l.length c0, p.val, a.val] [.vw A0 c0 5 (l.map Pr.cells)] (.bool true) := by
  have k0 := awake08_s
  by_cases hl : l.length ≤ 12
  · have k1 := filled8_p l hw (by omega) A0 c0
    have hti := fillN_ri l
    generalize fillN l = s at *
    obtain ⟨L, mo⟩ := s
    dsimp only at k1 hti
    have hg := hti.good
    have hLl := hti.len
    have hL : L.length ≤ 100000 := by omega
    have a1 := fun g bs => pieces_p (g := g) (L := L) (mo := mo) (N := 200) (H := 200) (bs := bs) hL hp 4096 4096 rfl
    have hpl := pcsN_le hg p
    have hR4 : (pcsN L p).length ≤ 4096 := by omega
    rw [List.take_of_length_le hR4, decide_eq_true hR4] at a1
    have a2 := fun g bs => rlong_p (g := g) (L := L) (mo := mo) (N := 200) (H := 200) (bs := bs) hL ha
    have a3 := con_s hp ha
    obtain ⟨hE1, hE2⟩ := same_raw hg p a
    have hRw : ∀ x ∈ pcsN L p, x.p.a.wf := fun x hx => (pcs_leaf hg hx).1
    have hSw := sqz_wf hRw
    have hSl := sqz_len (pcsN L p)
    have hSS := sqz_none (sqz_done (pcsN L p))
    have a4 := fun A c => squeeze_f (pcsN L p) hRw (by omega) A c
    have a5 := fun A c => squeeze_f (sqz (pcsN L p)) hSw (by omega) A c
    rw [hSS] at a5
    have a6 := fun A c => at8_s ha (pcsN L p) hRw (by omega) A c
    have a7 := fun A c => at8_s ha (sqz (pcsN L p)) hSw (by omega) A c
    have a8 := fun A c => theirs8_f (sqz (pcsN L p)) (by omega) A c
    have a9 := fun A c A2 c2 => same8_s (sqz (pcsN L p)) (by omega) A c A2 c2
    have hE3 : decide ((((sqz (pcsN L p)).length : Nat) : Int) ≤ (((pcsN L p).length : Nat) : Int)) = true := decide_eq_true (by omega)
    clear hti hLl hL hpl hR4 hRw hSw hSl hSS hw hg
    generalize sqz (pcsN L p) = S at *
    generalize pcsN L p = R at *
    generalize atV R a = x at *
    generalize atV S a = y at *
    generalize govN L (wholeP a) = z at *
    generalize conB p a = cn at *
    obtain ⟨x, ok⟩ := x
    obtain ⟨y, also⟩ := y
    obtain ⟨z, is⟩ := z
    dsimp only [Pr.cells, P8.cells] at a2 a6 a7 hE1 hE2
    refine enter_r rfl Try.func10 rfl Try.ntmps10 rfl (fun Wo => ?_)
    repeat (first | (apply s_box; rfl; constructor; rfl; intro _) | (apply s_alloc; rfl; intro _) | (apply s_store; rfl; rfl; (repeat (first | exact Plc.hit | apply Plc.miss)); constructor; (focus ((simp only [setAt, List.set_cons_zero, List.set_cons_succ, Nat.zero_add, Nat.reduceAdd, Nat.reduceMul]); try rfl)); kernel_rfl; rfl) | (apply s_trix; rfl; rfl; rfl; assumption; (repeat (first | exact Tk.nil | (apply Tk.see; (first | (focus (apply VSees.vw; (repeat (first | exact List.Mem.head _ | apply List.Mem.tail)); done)) | exact VSees.nil | assumption)) | (apply Tk.see; exact VSees.nil) | (apply Tk.take; (repeat (first | exact Plc.hit | apply Plc.miss))))); rfl; intro _; (try dsimp only [List.cons_append, List.nil_append])) | (apply s_fcal; rfl; rfl; rfl; (exact a4 _ _); (focus ((repeat (first | exact SeesAll.nil | (apply SeesAll.cons; (first | (focus (apply Sees.vw; (repeat (first | exact List.Mem.head _ | apply List.Mem.tail)); done)) | (focus (apply Sees.own; (repeat (first | exact List.Mem.head _ | apply List.Mem.tail)); done)) | exact Sees.nil | assumption)) | (apply SeesAll.mem; (repeat (first | exact List.Mem.head _ | apply List.Mem.tail))))); done)); (first | exact want_none rfl | (apply want_on; rfl; (first | rfl | assumption | (focus ((repeat (first | assumption | rfl | exact beq_self_eq_true _ | exact bne_self_eq_false _ | apply bOrF | apply bAndT | apply bNotF | apply bNotT | (focus (apply decide_eq_true; omega)) | (focus (apply decide_eq_false; omega)) | (focus (apply bEqT; omega)) | (focus (apply bEqF; omega)) | (focus (apply bNeT; omega)) | (focus (apply bNeF; omega)) | (focus (apply bOrT1; first | assumption | (apply decide_eq_true; omega))) | (focus (apply bOrT2; first | assumption | (apply decide_eq_true; omega))) | (focus (apply bAndF1; first | assumption | (apply decide_eq_false; omega))) | (focus (apply bAndF2; first | assumption | (apply decide_eq_false; omega))))); done))))); rfl; intro _; (try dsimp only [List.cons_append, List.nil_append])) | (apply s_fcal; rfl; rfl; rfl; (exact a5 _ _); (focus ((repeat (first | exact SeesAll.nil | (apply SeesAll.cons; (first | (focus (apply Sees.vw; (repeat (first | exact List.Mem.head _ | apply List.Mem.tail)); done)) | (focus (apply Sees.own; (repeat (first | exact List.Mem.head _ | apply List.Mem.tail)); done)) | exact Sees.nil | assumption)) | (apply SeesAll.mem; (repeat (first | exact List.Mem.head _ | apply List.Mem.tail))))); done)); (first | exact want_none rfl | (apply want_on; rfl; (first | rfl | assumption | (focus ((repeat (first | assumption | rfl | exact beq_self_eq_true _ | exact bne_self_eq_false _ | apply bOrF | apply bAndT | apply bNotF | apply bNotT | (focus (apply decide_eq_true; omega)) | (focus (apply decide_eq_false; omega)) | (focus (apply bEqT; omega)) | (focus (apply bEqF; omega)) | (focus (apply bNeT; omega)) | (focus (apply bNeF; omega)) | (focus (apply bOrT1; first | assumption | (apply decide_eq_true; omega))) | (focus (apply bOrT2; first | assumption | (apply decide_eq_true; omega))) | (focus (apply bAndF1; first | assumption | (apply decide_eq_false; omega))) | (focus (apply bAndF2; first | assumption | (apply decide_eq_false; omega))))); done))))); rfl; intro _; (try dsimp only [List.cons_append, List.nil_append])) | (apply s_fcal; rfl; rfl; rfl; (exact a8 _ _); (focus ((repeat (first | exact SeesAll.nil | (apply SeesAll.cons; (first | (focus (apply Sees.vw; (repeat (first | exact List.Mem.head _ | apply List.Mem.tail)); done)) | (focus (apply Sees.own; (repeat (first | exact List.Mem.head _ | apply List.Mem.tail)); done)) | exact Sees.nil | assumption)) | (apply SeesAll.mem; (repeat (first | exact List.Mem.head _ | apply List.Mem.tail))))); done)); (first | exact want_none rfl | (apply want_on; rfl; (first | rfl | assumption | (focus ((repeat (first | assumption | rfl | exact beq_self_eq_true _ | exact bne_self_eq_false _ | apply bOrF | apply bAndT | apply bNotF | apply bNotT | (focus (apply decide_eq_true; omega)) | (focus (apply decide_eq_false; omega)) | (focus (apply bEqT; omega)) | (focus (apply bEqF; omega)) | (focus (apply bNeT; omega)) | (focus (apply bNeF; omega)) | (focus (apply bOrT1; first | assumption | (apply decide_eq_true; omega))) | (focus (apply bOrT2; first | assumption | (apply decide_eq_true; omega))) | (focus (apply bAndF1; first | assumption | (apply decide_eq_false; omega))) | (focus (apply bAndF2; first | assumption | (apply decide_eq_false; omega))))); done))))); rfl; intro _; (try dsimp only [List.cons_append, List.nil_append])) | (apply s_fcalq; rfl; rfl; rfl; (exact a1 _); (focus ((repeat (first | exact SeesAll.nil | (apply SeesAll.cons; (first | (focus (apply Sees.vw; (repeat (first | exact List.Mem.head _ | apply List.Mem.tail)); done)) | (focus (apply Sees.own; (repeat (first | exact List.Mem.head _ | apply List.Mem.tail)); done)) | exact Sees.nil | assumption)) | (apply SeesAll.mem; (repeat (first | exact List.Mem.head _ | apply List.Mem.tail))))); done)); (first | exact want_none rfl | (apply want_on; rfl; (first | rfl | assumption | (focus ((repeat (first | assumption | rfl | exact beq_self_eq_true _ | exact bne_self_eq_false _ | apply bOrF | apply bAndT | apply bNotF | apply bNotT | (focus (apply decide_eq_true; omega)) | (focus (apply decide_eq_false; omega)) | (focus (apply bEqT; omega)) | (focus (apply bEqF; omega)) | (focus (apply bNeT; omega)) | (focus (apply bNeF; omega)) | (focus (apply bOrT1; first | assumption | (apply decide_eq_true; omega))) | (focus (apply bOrT2; first | assumption | (apply decide_eq_true; omega))) | (focus (apply bAndF1; first | assumption | (apply decide_eq_false; omega))) | (focus (apply bAndF2; first | assumption | (apply decide_eq_false; omega))))); done))))); rfl; intro _; (try dsimp only [List.cons_append, List.nil_append])) | apply s_st | apply st_go | (apply st_on; rfl) | (apply st_one; rfl; assumption) | (apply st_if2; rfl; intro h1 h2; (try simp only [h1, h2, gv_true, gv_tt])) | (apply st_if; rfl; intro h1; (try simp only [h1, gv_true, gv_tt])) | (focus (first | (apply y_move; rfl) | (apply y_assign; rfl) | (apply y_load; rfl; (repeat (first | exact List.Mem.head _ | apply List.Mem.tail)); (repeat (first | exact Sub.nil | apply Sub.take | apply Sub.drop)); done) | (apply y_cell; rfl; (repeat (first | exact List.Mem.head _ | apply List.Mem.tail)); (repeat (first | exact At.hit | apply At.miss)); kernel_rfl; done) | (apply y_calls; rfl; rfl; rfl; (first | assumption | exact a1 _ | exact a2 _ | exact a4 _ _ | exact a5 _ _ | exact a6 _ _ | exact a7 _ _ | exact a8 _ _ | exact a9 _ _ _ _); done) | (apply y_rcal; rfl; rfl; rfl; (exact a6 _ _); (repeat (first | exact SeesAll.nil | (apply SeesAll.cons; (first | (focus (apply Sees.vw; (repeat (first | exact List.Mem.head _ | apply List.Mem.tail)); done)) | (focus (apply Sees.own; (repeat (first | exact List.Mem.head _ | apply List.Mem.tail)); done)) | exact Sees.nil | assumption)) | (apply SeesAll.mem; (repeat (first | exact List.Mem.head _ | apply List.Mem.tail))))); done) | (apply y_rcal; rfl; rfl; rfl; (exact a7 _ _); (repeat (first | exact SeesAll.nil | (apply SeesAll.cons; (first | (focus (apply Sees.vw; (repeat (first | exact List.Mem.head _ | apply List.Mem.tail)); done)) | (focus (apply Sees.own; (repeat (first | exact List.Mem.head _ | apply List.Mem.tail)); done)) | exact Sees.nil | assumption)) | (apply SeesAll.mem; (repeat (first | exact List.Mem.head _ | apply List.Mem.tail))))); done) | (apply y_rcal; rfl; rfl; rfl; (exact a9 _ _ _ _); (repeat (first | exact SeesAll.nil | (apply SeesAll.cons; (first | (focus (apply Sees.vw; (repeat (first | exact List.Mem.head _ | apply List.Mem.tail)); done)) | (focus (apply Sees.own; (repeat (first | exact List.Mem.head _ | apply List.Mem.tail)); done)) | exact Sees.nil | assumption)) | (apply SeesAll.mem; (repeat (first | exact List.Mem.head _ | apply List.Mem.tail))))); done) | (apply y_rcalq; rfl; rfl; rfl; (exact a2 _); (repeat (first | exact SeesAll.nil | (apply SeesAll.cons; (first | (focus (apply Sees.vw; (repeat (first | exact List.Mem.head _ | apply List.Mem.tail)); done)) | (focus (apply Sees.own; (repeat (first | exact List.Mem.head _ | apply List.Mem.tail)); done)) | exact Sees.nil | assumption)) | (apply SeesAll.mem; (repeat (first | exact List.Mem.head _ | apply List.Mem.tail))))); done) | (apply y_and; rfl; rfl; done) | (apply y_or; rfl; rfl; done) | (apply y_andp; rfl; rfl; done) | (apply y_orp; rfl; rfl; done) | (apply y_extract; rfl; (repeat (first | exact At.hit | apply At.miss)); done) | (apply y_faddr; kernel_rfl; rfl) | (apply y_len; rfl) | (apply y_ne; rfl; rfl) | (apply y_le; rfl; rfl) | (apply y_gt; rfl; rfl) | (apply y_bne; kernel_rfl; rfl; rfl))) | apply s_nil | apply w_seq | apply f_then | apply w_skip | apply w_ret | (apply w_cond_ff; rfl; (focus ((repeat (first | assumption | rfl | exact beq_self_eq_true _ | exact bne_self_eq_false _ | apply bOrF | apply bAndT | apply bNotF | apply bNotT | (focus (apply decide_eq_true; omega)) | (focus (apply decide_eq_false; omega)) | (focus (apply bEqT; omega)) | (focus (apply bEqF; omega)) | (focus (apply bNeT; omega)) | (focus (apply bNeF; omega)) | (focus (apply bOrT1; first | assumption | (apply decide_eq_true; omega))) | (focus (apply bOrT2; first | assumption | (apply decide_eq_true; omega))) | (focus (apply bAndF1; first | assumption | (apply decide_eq_false; omega))) | (focus (apply bAndF2; first | assumption | (apply decide_eq_false; omega))))); done))) | (apply f_end; rfl; rfl; rfl; intro w hw; first | exact ans hw | (refine ans_b ?_ hw; (focus ((repeat (first | assumption | rfl | exact beq_self_eq_true _ | exact bne_self_eq_false _ | apply bOrF | apply bAndT | apply bNotF | apply bNotT | (focus (apply decide_eq_true; omega)) | (focus (apply decide_eq_false; omega)) | (focus (apply bEqT; omega)) | (focus (apply bEqF; omega)) | (focus (apply bNeT; omega)) | (focus (apply bNeF; omega)) | (focus (apply bOrT1; first | assumption | (apply decide_eq_true; omega))) | (focus (apply bOrT2; first | assumption | (apply decide_eq_true; omega))) | (focus (apply bAndF1; first | assumption | (apply decide_eq_false; omega))) | (focus (apply bAndF2; first | assumption | (apply decide_eq_false; omega))))); done))) | (apply t_endS1 hw; rfl; (focus ((repeat (first | exact List.Sublist.refl _ | apply List.Sublist.cons_cons | apply List.Sublist.cons)); done))) | (apply t_endU hw; rfl; (focus ((repeat (first | exact List.Sublist.refl _ | apply List.Sublist.cons_cons | apply List.Sublist.cons)); done))) | (apply t_endX1 hw; rfl; (focus ((repeat (first | exact List.Sublist.refl _ | apply List.Sublist.cons_cons | apply List.Sublist.cons)); done))) | (refine t_end ⟨rfl, rfl⟩ ?_ w hw; (focus ((repeat (first | exact List.Sublist.refl _ | apply List.Sublist.cons_cons | apply List.Sublist.cons)); done))) | (apply t_endUT hw; rfl; (focus ((repeat (first | exact Tk.nil | (apply Tk.see; (first | (focus (apply VSees.vw; (repeat (first | exact List.Mem.head _ | apply List.Mem.tail)); done)) | exact VSees.nil | assumption)) | (apply Tk.see; exact VSees.nil) | (apply Tk.take; (repeat (first | exact Plc.hit | apply Plc.miss))))); done)); (focus ((repeat (first | exact List.Sublist.refl _ | apply List.Sublist.cons_cons | apply List.Sublist.cons)); done))) | (apply t_endXT hw; rfl; (repeat (first | exact Tk.nil | (apply Tk.see; (first | (focus (apply VSees.vw; (repeat (first | exact List.Mem.head _ | apply List.Mem.tail)); done)) | exact VSees.nil | assumption)) | (apply Tk.see; exact VSees.nil) | (apply Tk.take; (repeat (first | exact Plc.hit | apply Plc.miss))))); (focus ((repeat (first | exact List.Sublist.refl _ | apply List.Sublist.cons_cons | apply List.Sublist.cons)); done)))) | (apply w_reg_l; rfl) | exact rfl)
  · refine enter_r rfl Try.func10 rfl Try.ntmps10 rfl (fun Wo => ?_)
    repeat (first | (apply s_box; rfl; constructor; rfl; intro _) | apply s_st | apply st_go | (focus (first | (apply y_move; rfl) | (apply y_assign; rfl) | (apply y_calls; rfl; rfl; rfl; (first | assumption); done) | (apply y_len; rfl) | (apply y_gt; rfl; rfl))) | apply s_nil | apply w_seq | apply f_then | apply f_ret | apply w_ret | (apply w_cond_tt; rfl; (focus ((repeat (first | assumption | rfl | exact beq_self_eq_true _ | exact bne_self_eq_false _ | apply bOrF | apply bAndT | apply bNotF | apply bNotT | (focus (apply decide_eq_true; omega)) | (focus (apply decide_eq_false; omega)) | (focus (apply bEqT; omega)) | (focus (apply bEqF; omega)) | (focus (apply bNeT; omega)) | (focus (apply bNeF; omega)) | (focus (apply bOrT1; first | assumption | (apply decide_eq_true; omega))) | (focus (apply bOrT2; first | assumption | (apply decide_eq_true; omega))) | (focus (apply bAndF1; first | assumption | (apply decide_eq_false; omega))) | (focus (apply bAndF2; first | assumption | (apply decide_eq_false; omega))))); done))) | (apply f_end; rfl; rfl; rfl; intro w hw; first | exact ans hw | (refine ans_b ?_ hw; (focus ((repeat (first | assumption | rfl | exact beq_self_eq_true _ | exact bne_self_eq_false _ | apply bOrF | apply bAndT | apply bNotF | apply bNotT | (focus (apply decide_eq_true; omega)) | (focus (apply decide_eq_false; omega)) | (focus (apply bEqT; omega)) | (focus (apply bEqF; omega)) | (focus (apply bNeT; omega)) | (focus (apply bNeF; omega)) | (focus (apply bOrT1; first | assumption | (apply decide_eq_true; omega))) | (focus (apply bOrT2; first | assumption | (apply decide_eq_true; omega))) | (focus (apply bAndF1; first | assumption | (apply decide_eq_false; omega))) | (focus (apply bAndF2; first | assumption | (apply decide_eq_false; omega))))); done)))) | (apply w_reg_l; rfl) | exact rfl)
end Go.Proofs.Ytfcffemglcgbnaa.Hand
