/-
  package rib: Withdraw, New; contracts over a rib as one piece.
-/
import Derived.Test.YtfcffemglcgbnaaRg
import Derived.Test.YtfcffemglcgbnaaRe
namespace Go.Proofs.Ytfcffemglcgbnaa.Hand
open Go.RowKit Go.Proofs.Ytfcffemglcgbnaa.Bits Go.Proofs.Ytfcffemglcgbnaa.Dig Go.Proofs.Ytfcffemglcgbnaa.Sq
set_option linter.unusedVariables false
set_option linter.unusedSimpArgs false
set_option maxRecDepth 100000
set_option maxHeartbeats 2000000
def ribP (g : Nat) (L : List Pr) (mo N H : Int) (bs : List Nat) : Pc := packed (fun u : Mp => UsesC u (cntV L)) (fun u (a : Nat × Nat × List Nat) => ribM g a.1 a.2.1 L mo a.2.2 u N H) bs
theorem rib_no (g : Nat) (L : List Pr) (mo N H : Int) : ∀ (u : Mp) (a : Nat × Nat × List Nat), noVw (ribM g a.1 a.2.1 L mo a.2.2 u N H) := fun u a r hr A c k rows e => by
  subst e
  unfold ribM trieP packed mapP at hr
  simp at hr
theorem rib_rcal {g : Nat} {L : List Pr} {mo N H : Int} {bs : List Nat} {f : FuncId} {vs : List Value} {v : Value} (h : ∀ (T : Ts) (lab : Lab), InvX T lab L (false, []) → ((T.ar.length : Nat) : Int) = mo → ∀ gt gm Aa ca Af cf, RCal Try.prog f vs (.vw (some ⟨g, 0, none⟩) 1 4 [ribC gt gm N H] :: tv gt T Aa ca Af cf) v) : RCal Try.prog f vs [ribP g L mo N H bs] v := by
  unfold ribP
  refine RCal.unpack fun u a hu => ?_
  unfold ribM trieP
  refine RCal.unpack fun T d ⟨⟨lab, h1⟩, h2⟩ => ?_
  refine (h T lab h1 h2 a.1 a.2.1 d.1.1 d.1.2 d.2.1 d.2.2).of_view fun w hw z hz => ?_
  rcases List.mem_cons.1 hz with rfl | hz
  · exact blk_reads (hw _ (List.mem_append_right _ (List.mem_cons_of_mem _ (List.mem_cons_self ..)))) (fun v hv => by simp only [List.mem_cons, List.not_mem_nil, or_false] at hv; rcases hv with rfl | rfl | rfl | rfl <;> rfl)
  · exact tm_tv w (fun r hr => hw r (List.mem_append_left _ hr)) z hz
section
variable {g : Nat} {L : List Pr} {mo N H : Int} {bs : List Nat}
theorem rlong_p (hL : L.length ≤ 100000) {a : Ad} (ha : a.wf) : RCal Try.prog 50 [.pointer (some ⟨g, 0, none⟩), a.val] [ribP g L mo N H bs] (.tuple #[.agg (govN L (wholeP a)).1.cells.toArray, .bool (govN L (wholeP a)).2]) := rib_rcal fun T lab h _ gt gm Aa ca Af cf => rlong_v h g gt gm N H Aa ca Af cf hL ha
theorem radd_p (hg : GoodL L) {p : Px} (hp : p.a.wf) (hN : (L.length : Int) ≤ N) (hL : L.length ≤ 10000) (hmo : mo ≤ 10000000) (hop : Int) : Tri Try.prog 56 [.pointer (some ⟨g, 0, none⟩), p.val, .int .i64 hop] [ribP g L mo N H bs] (RetX fun b : List Nat × Unit => (.int .i64 (addN L mo N H p hop).2.2, [ribP g (addN L mo N H p hop).1 (addN L mo N H p hop).2.1 N H b.1])) := by
  unfold ribP
  refine Tri.unpack (mu := []) (rib_no g L mo N H) fun u a hu => ?_
  refine Tri.repack (X := Unit) (val := fun _ => .int .i64 (addN L mo N H p hop).2.2) (mu' := fun _ => []) (rib_no g _ _ N H) ?_
  rw [List.append_nil]
  unfold addN
  cases hs : sanB p with
  | false =>
    rw [if_neg (by decide)]
    exact (add_bad hop g a.1 a.2.1 a.2.2 (.inl ⟨hs, rfl⟩) hp).mono fun v m' ⟨b, h1, h2⟩ => ⟨u, a, (), hu, h1, by rw [h2, List.append_nil]⟩
  | true =>
    rw [if_pos rfl]
    by_cases hh : 0 ≤ hop ∧ hop ≤ 65535
    · rw [if_pos hh]
      cases hf : fitB L N H p hop with
      | true =>
        rw [if_pos rfl]
        exact (add_ok hg hu hp hN hL hop hmo g a.1 a.2.1 a.2.2 hs hh hf).mono fun v m' ⟨b, h1, h2⟩ => ⟨addU L u p hop, (a.1, a.2.1, b.1), (), (add_uses hg hu hs hop).1, h1, by rw [h2, List.append_nil]⟩
      | false =>
        rw [if_neg (by decide)]
        exact (add_full hg hu hp hN hL hop g a.1 a.2.1 a.2.2 hs hh hf).mono fun v m' ⟨b, h1, h2⟩ => ⟨u, a, (), hu, h1, by rw [h2, List.append_nil]⟩
    · rw [if_neg hh]
      exact (add_bad hop g a.1 a.2.1 a.2.2 (.inr ⟨hs, hh, rfl⟩) hp).mono fun v m' ⟨b, h1, h2⟩ => ⟨u, a, (), hu, h1, by rw [h2, List.append_nil]⟩
end
theorem rnew_p (n h : Int) : Tri Try.prog 61 [.int .i64 n, .int .i64 h] [] (RetX fun b : List Nat × Nat => (.pointer (some ⟨b.2, 0, none⟩), [ribP b.2 [] 2 (mx2 0 (mn2 n 4096)) (mx2 0 (mn2 h 65536)) b.1])) := by
  unfold ribP
  refine Tri.repackG (X := Nat) (val := fun g => .pointer (some ⟨g, 0, none⟩)) (mu' := fun _ => []) (I' := fun _ => fun u : Mp => UsesC u (cntV [])) (ps' := fun g u (a : Nat × Nat × List Nat) => ribM g a.1 a.2.1 [] 2 a.2.2 u (mx2 0 (mn2 n 4096)) (mx2 0 (mn2 h 65536))) (fun g => rib_no g _ _ _ _) ?_
  have k1 := new_p
  refine enter_t Try.func61 rfl Try.ntmps61 rfl (fun Wo Fo fro => ?_)
  repeat (first | (apply s_box; rfl; constructor; rfl; intro _) | (apply s_trix; rfl; rfl; rfl; (first | assumption); (repeat (first | exact Tk.nil | (apply Tk.see; (first | (focus (apply VSees.vw; (repeat (first | exact List.Mem.head _ | apply List.Mem.tail)); done)) | exact VSees.nil | assumption)) | (apply Tk.see; exact VSees.nil) | (apply Tk.take; (repeat (first | exact Plc.hit | apply Plc.miss))))); rfl; intro _; (try dsimp only [List.cons_append, List.nil_append])) | (apply s_mkmap; rfl; intro _) | apply s_st | apply st_go | (focus (first | (apply y_move; rfl) | (apply y_assign; rfl) | (apply y_min2; rfl) | (apply y_max2; rfl) | (apply y_build; kernel_rfl; (repeat (first | exact Bld.nil | (apply Bld.cons; exact inferInstance; rfl; constructor; kernel_rfl; (focus ((simp only [setAt, List.set_cons_zero, List.set_cons_succ, Nat.zero_add, Nat.reduceAdd, Nat.reduceMul]); try rfl))))); done))) | apply s_nil | apply w_seq | apply f_then | apply w_ret | (apply w_reg_l; rfl) | exact rfl)
  rename_i b gm g
  first | (apply f_end0; rfl; rfl; intro w hw; exact t_endT hw ⟨g, ⟨[], 0⟩, (b.2, gm, b.1), uses_nil, rfl, rfl⟩ (by (repeat (first | exact Tk.nil | (apply Tk.see; (first | (focus (apply VSees.vw; (repeat (first | exact List.Mem.head _ | apply List.Mem.tail)); done)) | exact VSees.nil | assumption)) | (apply Tk.see; exact VSees.nil) | (apply Tk.take; (repeat (first | exact Plc.hit | apply Plc.miss)))))) (by (repeat (first | exact List.Sublist.refl _ | apply List.Sublist.cons_cons | apply List.Sublist.cons)))) | (apply f_end; rfl; rfl; rfl; intro w hw; exact t_endT hw ⟨g, ⟨[], 0⟩, (b.2, gm, b.1), uses_nil, rfl, rfl⟩ (by (repeat (first | exact Tk.nil | (apply Tk.see; (first | (focus (apply VSees.vw; (repeat (first | exact List.Mem.head _ | apply List.Mem.tail)); done)) | exact VSees.nil | assumption)) | (apply Tk.see; exact VSees.nil) | (apply Tk.take; (repeat (first | exact Plc.hit | apply Plc.miss)))))) (by (repeat (first | exact List.Sublist.refl _ | apply List.Sublist.cons_cons | apply List.Sublist.cons)))) | (apply f_ends; rfl; rfl; (repeat (first | exact Res.nil | (apply Res.tmp; rfl) | (apply Res.agg; exact inferInstance; rfl; (repeat (first | exact List.Mem.head _ | apply List.Mem.tail)); (repeat (first | exact Sub.nil | apply Sub.take | apply Sub.drop))) | (apply Res.cell; kernel_rfl; rfl; (repeat (first | exact List.Mem.head _ | apply List.Mem.tail)); (repeat (first | exact At.hit | apply At.miss))))); intro w hw; exact t_endT hw ⟨g, ⟨[], 0⟩, (b.2, gm, b.1), uses_nil, rfl, rfl⟩ (by (repeat (first | exact Tk.nil | (apply Tk.see; (first | (focus (apply VSees.vw; (repeat (first | exact List.Mem.head _ | apply List.Mem.tail)); done)) | exact VSees.nil | assumption)) | (apply Tk.see; exact VSees.nil) | (apply Tk.take; (repeat (first | exact Plc.hit | apply Plc.miss)))))) (by (repeat (first | exact List.Sublist.refl _ | apply List.Sublist.cons_cons | apply List.Sublist.cons)))) | (apply f_ends1; rfl; rfl; (repeat (first | exact Res.nil | (apply Res.tmp; rfl) | (apply Res.agg; exact inferInstance; rfl; (repeat (first | exact List.Mem.head _ | apply List.Mem.tail)); (repeat (first | exact Sub.nil | apply Sub.take | apply Sub.drop))) | (apply Res.cell; kernel_rfl; rfl; (repeat (first | exact List.Mem.head _ | apply List.Mem.tail)); (repeat (first | exact At.hit | apply At.miss))))); intro w hw; exact t_endT hw ⟨g, ⟨[], 0⟩, (b.2, gm, b.1), uses_nil, rfl, rfl⟩ (by (repeat (first | exact Tk.nil | (apply Tk.see; (first | (focus (apply VSees.vw; (repeat (first | exact List.Mem.head _ | apply List.Mem.tail)); done)) | exact VSees.nil | assumption)) | (apply Tk.see; exact VSees.nil) | (apply Tk.take; (repeat (first | exact Plc.hit | apply Plc.miss)))))) (by (repeat (first | exact List.Sublist.refl _ | apply List.Sublist.cons_cons | apply List.Sublist.cons))))
end Go.Proofs.Ytfcffemglcgbnaa.Hand
namespace Go.Proofs.Ytfcffemglcgbnaa.Hand
open Go.RowKit Go.Proofs.Ytfcffemglcgbnaa.Bits Go.Proofs.Ytfcffemglcgbnaa.Dig Go.Proofs.Ytfcffemglcgbnaa.Sq
set_option linter.unusedVariables false
set_option linter.unusedSimpArgs false
set_option maxRecDepth 100000
set_option maxHeartbeats 1000000
theorem rnd_rng {L : List Pr} (hg : GoodL L) : 2 ≤ nodesN L ∧ nodesN L ≤ 2 + 128 * (L.length : Int) := ndT_rng L hg.sane L.length
structure RI (n : Nat) (L : List Pr) (mo N H : Int) : Prop where
  good : GoodL L
  len : L.length ≤ n
  hi : mo ≤ 2 + 128 * (n : Int)
  room : (L.length : Int) ≤ N
  hops : (hopsN L : Int) ≤ H
  hop : ∀ e ∈ L, 0 ≤ e.v ∧ e.v ≤ 65535
theorem ri_zero {N H : Int} (hN : 0 ≤ N) (hH : 0 ≤ H) : RI 0 [] 2 N H := ⟨GoodL.nil, Nat.le_refl _, by decide, hN, hH, fun _ h => by cases h⟩
theorem RI.more {n : Nat} {L : List Pr} {mo N H : Int} (h : RI n L mo N H) : RI (n + 1) L mo N H := ⟨h.good, by have := h.len; omega, by have := h.hi; omega, h.room, h.hops, h.hop⟩
theorem add_ri {n : Nat} {L : List Pr} {mo N H : Int} (h : RI n L mo N H) (p : Px) (hop : Int) : RI (n + 1) (addN L mo N H p hop).1 (addN L mo N H p hop).2.1 N H := by
  unfold addN
  split
  · rename_i hs
    split
    · rename_i hh
      split
      · rename_i hf
        have hf' := of_decide_eq_true hf
        obtain ⟨h1, h2⟩ := put_spec (v := hop) hs h.good
        have hl := put_len h.good hs hop
        have ho : (outN L p).length ≤ L.length := List.length_filter_le _ _
        have hr := rnd_rng h1
        have := h.len
        have := h.hi
        refine ⟨h1, by dsimp only; omega, ?_, hf'.1, hf'.2, fun e he => ?_⟩
        · dsimp only; unfold mx2; split <;> omega
        · rcases (h2 e).1 he with rfl | ⟨q, _⟩
          · exact hh
          · exact h.hop e q
      · exact h.more
    · exact h.more
  · exact h.more
theorem put_nil {p : Px} (v : Int) : putG p v false [] = [⟨p, v⟩] := by rw [putG, if_neg (by decide)]
end Go.Proofs.Ytfcffemglcgbnaa.Hand
namespace Go.Proofs.Ytfcffemglcgbnaa.Hand
open Go.RowKit Go.Proofs.Ytfcffemglcgbnaa.Bits Go.Proofs.Ytfcffemglcgbnaa.Dig Go.Proofs.Ytfcffemglcgbnaa.Sq
set_option linter.unusedVariables false
set_option linter.unusedSimpArgs false
set_option maxRecDepth 100000
set_option maxHeartbeats 1000000
noncomputable def ofP (a : Ad) (c : Nat) : Px := ⟨⟨hiA a.v6 (cutd (D a.hi a.lo) c), loA a.v6 (cutd (D a.hi a.lo) c), a.v6⟩, (c : Int)⟩
theorem ofP_sane {a : Ad} {c : Nat} (h : c ≤ W a.v6) : sanB (ofP a c) = true := saneB_pk a.v6 (D a.hi a.lo) c h
theorem ofP_key {a : Ad} {c : Nat} (h : c ≤ W a.v6) : keyP (ofP a c) = (a.v6, pth (D a.hi a.lo) c) := by
  unfold keyP ofP
  dsimp only
  rw [Int.toNat_natCast]
  refine congrArg _ (pth_congr fun i hi => ?_)
  rw [D_mk, decide_eq_true (show i < W a.v6 by omega), cutd_lt hi, Bool.true_and]
theorem ofP_con {a : Ad} {c : Nat} (h : c ≤ W a.v6) : conB (ofP a c) a = true := con_key.2 ⟨ofP_sane h, by rw [ofP_key h]; rfl, by rw [ofP_key h]; exact pth_pre.2 ⟨h, fun _ _ => rfl⟩⟩
theorem ofP_cov {a : Ad} {c k : Nat} (h : c ≤ k) (hk : k ≤ W a.v6) : cvB (ofP a c) (ofP a k) = true := cov_key.2 ⟨ofP_sane (by omega), ofP_sane hk, by rw [ofP_key (by omega), ofP_key hk], by rw [ofP_key (show c ≤ W a.v6 by omega), ofP_key hk]; exact pth_pre.2 ⟨h, fun _ _ => rfl⟩⟩
theorem con_ofP {p : Px} {a : Ad} (h : conB p a = true) : p.n.toNat ≤ W a.v6 ∧ p = ofP a p.n.toNat ∧ (p.n.toNat : Int) = p.n := by
  obtain ⟨h1, h2, h3⟩ := con_key.1 h
  have hl := key_len h1
  have hl2 : (keyP p).2.length = p.n.toNat := by omega
  have hW : p.n.toNat ≤ W a.v6 := by
    have := h3.length_le
    unfold keyA at this
    rw [pth_len] at this
    omega
  refine ⟨hW, key_inj h1 (ofP_sane hW) ?_, by omega⟩
  rw [ofP_key hW]
  refine Prod.ext h2 ?_
  have := List.prefix_iff_eq_take.1 h3
  rw [this, hl2]
  unfold keyA
  exact pth_take _ hW
theorem cv_trans {p q r : Px} (h1 : cvB p q = true) (h2 : cvB q r = true) : cvB p r = true := by
  obtain ⟨a1, a2, a3, a4⟩ := cov_key.1 h1
  obtain ⟨b1, b2, b3, b4⟩ := cov_key.1 h2
  exact cov_key.2 ⟨a1, b2, a3.trans b3, a4.trans b4⟩
theorem cv_anti {p q : Px} (h1 : cvB p q = true) (h2 : cvB q p = true) : p = q := by
  obtain ⟨a1, a2, a3, a4⟩ := cov_key.1 h1
  obtain ⟨b1, b2, b3, b4⟩ := cov_key.1 h2
  exact key_inj a1 a2 (Prod.ext a3 (a4.eq_of_length (Nat.le_antisymm a4.length_le b4.length_le)))
theorem con_first {p : Px} (h : sanB p = true) : conB p p.a = true := by
  refine con_key.2 ⟨h, rfl, ?_⟩
  unfold keyP keyA
  obtain ⟨c, hc, hn, _⟩ := sanB_pk h
  dsimp only
  rw [hn, Int.toNat_natCast]
  exact pth_pre.2 ⟨hc, fun _ _ => rfl⟩
theorem insE_iff {L : List Pr} {p : Px} : insN L p = true ↔ ∃ e ∈ L, e.p ≠ p ∧ cvB p e.p = true := by
  unfold insN
  rw [List.any_eq_true]
  constructor
  · rintro ⟨e, he, h⟩
    have h : (!eqPx p e.p && cvB p e.p) = true := h
    simp only [Bool.and_eq_true, Bool.not_eq_true'] at h
    refine ⟨e, he, fun q => ?_, h.2⟩
    rw [q, eqPx_self] at h
    cases h.1
  · rintro ⟨e, he, h1, h2⟩
    refine ⟨e, he, ?_⟩
    show (!eqPx p e.p && cvB p e.p) = true
    rw [eqPx_ne (Ne.symm h1), h2]; rfl
theorem ins_up {L : List Pr} {p q : Px} (h : cvB p q = true) (hi : insN L q = true) : insN L p = true := by
  obtain ⟨e, he, h1, h2⟩ := insE_iff.1 hi
  refine insE_iff.2 ⟨e, he, fun hq => ?_, cv_trans h h2⟩
  subst hq
  exact h1 (cv_anti h h2)
theorem ins_down {L : List Pr} {p q : Px} (h : cvB p q = true) (hi : insN L p = false) : insN L q = false := by
  cases e : insN L q with
  | false => rfl
  | true => rw [ins_up h e] at hi; cases hi
theorem ins_full {L : List Pr} (a : Ad) : insN L (ofP a (W a.v6)) = false := by
  cases h : insN L (ofP a (W a.v6)) with
  | false => rfl
  | true =>
    obtain ⟨e, he, h1, h2⟩ := insE_iff.1 h
    obtain ⟨a1, a2, a3, a4⟩ := cov_key.1 h2
    refine absurd (key_inj a2 a1 ?_) h1
    rw [ofP_key (Nat.le_refl _)] at a3 a4 ⊢
    refine Prod.ext a3.symm (a4.eq_of_length ?_).symm
    have := key_le a2
    have h3 := a4.length_le
    dsimp only at a3
    rw [← a3] at this
    rw [pth_len] at h3 ⊢
    omega
noncomputable def widD (L : List Pr) (a : Ad) : Nat → Nat → Nat
  | 0, n => n
  | k + 1, n => if insN L (ofP a n) = true then widD L a k (n + 1) else n
noncomputable def widN (L : List Pr) (a : Ad) (n : Nat) : Nat := widD L a (W a.v6 - n) n
noncomputable def blkN (L : List Pr) (a : Ad) : Nat := widN L a 0
noncomputable def blkP (L : List Pr) (a : Ad) : Px := ofP a (blkN L a)
theorem widD_spec {L : List Pr} {a : Ad} : ∀ (k n : Nat), n + k = W a.v6 → n ≤ widD L a k n ∧ widD L a k n ≤ W a.v6 ∧ insN L (ofP a (widD L a k n)) = false ∧ ∀ c, n ≤ c → c < widD L a k n → insN L (ofP a c) = true
  | 0, n, h => by
    obtain rfl : n = W a.v6 := h
    exact ⟨Nat.le_refl _, Nat.le_refl _, ins_full a, fun c h1 h2 => absurd h2 (Nat.not_lt.2 h1)⟩
  | k + 1, n, h => by
    unfold widD
    split
    · rename_i hi
      obtain ⟨h1, h2, h3, h4⟩ := widD_spec (L := L) (a := a) k (n + 1) (by omega)
      refine ⟨by omega, h2, h3, fun c hc hl => ?_⟩
      by_cases hcn : c = n
      · subst hcn; exact hi
      · exact h4 c (by omega) hl
    · rename_i hi
      exact ⟨Nat.le_refl _, by omega, by simpa using hi, fun c h1 h2 => absurd h2 (Nat.not_lt.2 h1)⟩
theorem blk_le (L : List Pr) (a : Ad) : blkN L a ≤ W a.v6 := (widD_spec _ _ (by omega)).2.1
theorem blk_no (L : List Pr) (a : Ad) : insN L (blkP L a) = false := (widD_spec _ _ (by omega)).2.2.1
theorem blk_in {L : List Pr} {a : Ad} {c : Nat} (h : c < blkN L a) : insN L (ofP a c) = true := (widD_spec (W a.v6 - 0) 0 (by omega)).2.2.2 c (Nat.zero_le _) h
theorem no_blk {L : List Pr} {a : Ad} {c : Nat} (h : insN L (ofP a c) = false) : blkN L a ≤ c := Nat.le_of_not_lt fun q => by rw [blk_in q] at h; cases h
theorem blk_con (L : List Pr) (a : Ad) : conB (blkP L a) a = true := ofP_con (blk_le L a)
theorem gov_con {L : List Pr} (hg : GoodL L) {p : Px} {a : Ad} (hc : conB p a = true) (hi : insN L p = false) : govN L p = govN L (wholeP a) := by
  have hs : sanB p = true := con_sane hc
  have h : aboveN L p = aboveN L (wholeP a) := List.filter_congr fun e he => by
    rw [← con_cov, Bool.eq_iff_iff, cov_key, con_key]
    obtain ⟨_, hv, hk⟩ := con_key.1 hc
    constructor
    · rintro ⟨h1, h2, h3, h4⟩
      exact ⟨h1, h3.trans hv, h4.trans hk⟩
    · rintro ⟨h1, h2, h3⟩
      refine ⟨h1, hs, h2.trans hv.symm, ?_⟩
      rcases Nat.le_total (keyP e.p).2.length (keyP p).2.length with q | q
      · exact List.prefix_of_prefix_length_le h3 hk q
      · have hpe : (keyP p).2 <+: (keyP e.p).2 := List.prefix_of_prefix_length_le hk h3 q
        by_cases hpq : e.p = p
        · rw [hpq]; exact List.prefix_refl _
        · have hin : insN L p = true := insE_iff.2 ⟨e, he, hpq, cov_key.2 ⟨hs, h1, hv.trans h2.symm, hpe⟩⟩
          rw [hi] at hin; cases hin
  unfold govN
  rw [h]
noncomputable def leafX (L : List Pr) (p : Px) : Pr × Bool := if (govN L p).2 = true then (⟨p, (govN L p).1.v⟩, true) else (zeroPr, false)
theorem leafX_ok (L : List Pr) (p : Px) : (leafX L p).2 = (govN L p).2 := by
  unfold leafX
  split
  · rename_i h; exact h.symm
  · rename_i h; exact (by simpa using h : (govN L p).2 = false).symm
theorem govN_zero {L : List Pr} {p : Px} (h : (govN L p).2 = false) : govN L p = (zeroPr, false) := by
  unfold govN at h ⊢
  split
  · rfl
  · rename_i e he; rw [he] at h; cases h
theorem leafX_t {L : List Pr} {p : Px} (h : (govN L p).2 = true) : leafX L p = (⟨p, (govN L p).1.v⟩, true) := by unfold leafX; rw [if_pos h]
theorem leafX_f {L : List Pr} {p : Px} (h : (govN L p).2 = false) : leafX L p = (zeroPr, false) := by unfold leafX; rw [if_neg (by rw [h]; decide)]
theorem leafX_v (L : List Pr) (p : Px) : (leafX L p).1.v = (govN L p).1.v := by
  cases h : (govN L p).2 with
  | true => rw [leafX_t h]
  | false => rw [leafX_f h, govN_zero h]
noncomputable def fillS (s : List Pr × Int) (e : Pr) : List Pr × Int := ((addN s.1 s.2 200 200 e.p e.v).1, (addN s.1 s.2 200 200 e.p e.v).2.1)
noncomputable def fillN (l : List Pr) : List Pr × Int := l.foldl fillS ([], 2)
theorem fill_ri : ∀ (l : List Pr) (n : Nat) (s : List Pr × Int), RI n s.1 s.2 200 200 → RI (n + l.length) (l.foldl fillS s).1 (l.foldl fillS s).2 200 200
  | [], n, s, h => h
  | e :: l, n, s, h => by
    have := fill_ri l (n + 1) (fillS s e) (add_ri h e.p e.v)
    rw [show n + (e :: l).length = n + 1 + l.length by rw [List.length_cons]; omega]
    exact this
theorem fillN_ri (l : List Pr) : RI l.length (fillN l).1 (fillN l).2 200 200 := by
  have := fill_ri l 0 ([], 2) (ri_zero (by decide) (by decide))
  rwa [Nat.zero_add] at this
theorem fill_take {l : List Pr} {i : Nat} (h : i < l.length) : fillN (l.take (i + 1)) = fillS (fillN (l.take i)) l[i] := by
  unfold fillN
  rw [List.take_add_one, List.getElem?_eq_getElem h, List.foldl_append]
  rfl
end Go.Proofs.Ytfcffemglcgbnaa.Hand
