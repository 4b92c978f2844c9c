/-
  package rib: Withdraw, New; contracts over a rib as one piece.
-/
import Derived.Test.YtfcffemglcgbnaaRg
import Derived.Test.YtfcffemglcgbnaaRe
namespace Go.Proofs.Ytfcffemglcgbnaa.Hand
open Go.RowKit Go.Proofs.Ytfcffemglcgbnaa.Bits Go.Proofs.Ytfcffemglcgbnaa.Dig Go.Proofs.Ytfcffemglcgbnaa.Sq
set_option linter.unusedVariables false
set_option linter.unusedSimpArgs false
set_option maxRecDepth 100000
set_option maxHeartbeats 2000000
def ribP (g : Nat) (L : List Pr) (mo N H : Int) (bs : List Nat) : Pc := packed (fun u : Mp => UsesC u (cntV L)) (fun u (a : Nat × Nat × List Nat) => ribM g a.1 a.2.1 L mo a.2.2 u N H) bs
theorem rib_no (g : Nat) (L : List Pr) (mo N H : Int) : ∀ (u : Mp) (a : Nat × Nat × List Nat), noVw (ribM g a.1 a.2.1 L mo a.2.2 u N H) := fun u a r hr A c k rows e => by
  subst e
  unfold ribM trieP packed mapP at hr
  simp at hr
theorem rib_rcal {g : Nat} {L : List Pr} {mo N H : Int} {bs : List Nat} {f : FuncId} {vs : List Value} {v : Value} (h : ∀ (T : Ts) (lab : Lab), InvX T lab L (false, []) → ((T.ar.length : Nat) : Int) = mo → ∀ gt gm Aa ca Af cf, RCal Try.prog f vs (.vw (some ⟨g, 0, none⟩) 1 4 [ribC gt gm N H] :: tv gt T Aa ca Af cf) v) : RCal Try.prog f vs [ribP g L mo N H bs] v := by
  unfold ribP
  refine RCal.unpack fun u a hu => ?_
  unfold ribM trieP
  refine RCal.unpack fun T d ⟨⟨lab, h1⟩, h2⟩ => ?_
  refine (h T lab h1 h2 a.1 a.2.1 d.1.1 d.1.2 d.2.1 d.2.2).of_view fun w hw z hz => ?_
  rcases List.mem_cons.1 hz with rfl | hz
  · exact blk_reads (hw _ (List.mem_append_right _ (List.mem_cons_of_mem _ (List.mem_cons_self ..)))) (fun v hv => by simp only [List.mem_cons, List.not_mem_nil, or_false] at hv; rcases hv with rfl | rfl | rfl | rfl <;> rfl)
  · exact tm_tv w (fun r hr => hw r (List.mem_append_left _ hr)) z hz
section
variable {g : Nat} {L : List Pr} {mo N H : Int} {bs : List Nat}
theorem rgov_p (hL : L.length ≤ 100000) {p : Px} (hp : p.a.wf) : RCal Try.prog 34 [.pointer (some ⟨g, 0, none⟩), p.val] [ribP g L mo N H bs] (.tuple #[.agg (govN L p).1.cells.toArray, .bool (govN L p).2]) := rib_rcal fun T lab h _ gt gm Aa ca Af cf => governs_v h hL hp g gt gm N H Aa ca Af cf
theorem rins_p {p : Px} (hp : p.a.wf) : RCal Try.prog 18 [.pointer (some ⟨g, 0, none⟩), p.val] [ribP g L mo N H bs] (.bool (insN L p)) := rib_rcal fun T lab h _ gt gm Aa ca Af cf => rins_v h g gt gm N H Aa ca Af cf hp
theorem radd_p (hg : GoodL L) {p : Px} (hp : p.a.wf) (hN : (L.length : Int) ≤ N) (hL : L.length ≤ 10000) (hmo : mo ≤ 10000000) (hop : Int) : Tri Try.prog 56 [.pointer (some ⟨g, 0, none⟩), p.val, .int .i64 hop] [ribP g L mo N H bs] (RetX fun b : List Nat × Unit => (.int .i64 (addN L mo N H p hop).2.2, [ribP g (addN L mo N H p hop).1 (addN L mo N H p hop).2.1 N H b.1])) := by
  unfold ribP
  refine Tri.unpack (mu := []) (rib_no g L mo N H) fun u a hu => ?_
  refine Tri.repack (X := Unit) (val := fun _ => .int .i64 (addN L mo N H p hop).2.2) (mu' := fun _ => []) (rib_no g _ _ N H) ?_
  rw [List.append_nil]
  unfold addN
  cases hs : sanB p with
  | false =>
    rw [if_neg (by decide)]
    exact (add_bad hop g a.1 a.2.1 a.2.2 (.inl ⟨hs, rfl⟩) hp).mono fun v m' ⟨b, h1, h2⟩ => ⟨u, a, (), hu, h1, by rw [h2, List.append_nil]⟩
  | true =>
    rw [if_pos rfl]
    by_cases hh : 0 ≤ hop ∧ hop ≤ 65535
    · rw [if_pos hh]
      cases hf : fitB L N H p hop with
      | true =>
        rw [if_pos rfl]
        exact (add_ok hg hu hp hN hL hop hmo g a.1 a.2.1 a.2.2 hs hh hf).mono fun v m' ⟨b, h1, h2⟩ => ⟨addU L u p hop, (a.1, a.2.1, b.1), (), (add_uses hg hu hs hop).1, h1, by rw [h2, List.append_nil]⟩
      | false =>
        rw [if_neg (by decide)]
        exact (add_full hg hu hp hN hL hop g a.1 a.2.1 a.2.2 hs hh hf).mono fun v m' ⟨b, h1, h2⟩ => ⟨u, a, (), hu, h1, by rw [h2, List.append_nil]⟩
    · rw [if_neg hh]
      exact (add_bad hop g a.1 a.2.1 a.2.2 (.inr ⟨hs, hh, rfl⟩) hp).mono fun v m' ⟨b, h1, h2⟩ => ⟨u, a, (), hu, h1, by rw [h2, List.append_nil]⟩
end
theorem rnew_p (n h : Int) : Tri Try.prog 61 [.int .i64 n, .int .i64 h] [] (RetX fun b : List Nat × Nat => (.pointer (some ⟨b.2, 0, none⟩), [ribP b.2 [] 2 (mx2 0 (mn2 n 4096)) (mx2 0 (mn2 h 65536)) b.1])) := by
  unfold ribP
  refine Tri.repackG (X := Nat) (val := fun g => .pointer (some ⟨g, 0, none⟩)) (mu' := fun _ => []) (I' := fun _ => fun u : Mp => UsesC u (cntV [])) (ps' := fun g u (a : Nat × Nat × List Nat) => ribM g a.1 a.2.1 [] 2 a.2.2 u (mx2 0 (mn2 n 4096)) (mx2 0 (mn2 h 65536))) (fun g => rib_no g _ _ _ _) ?_
  have k1 := new_p
  refine enter_t Try.func61 rfl Try.ntmps61 rfl (fun Wo Fo fro => ?_)
  repeat (first | (apply s_box; rfl; constructor; rfl; intro _) | (apply s_trix; rfl; rfl; rfl; (first | assumption); (repeat (first | exact Tk.nil | (apply Tk.see; (first | (focus (apply VSees.vw; (repeat (first | exact List.Mem.head _ | apply List.Mem.tail)); done)) | exact VSees.nil | assumption)) | (apply Tk.see; exact VSees.nil) | (apply Tk.take; (repeat (first | exact Plc.hit | apply Plc.miss))))); rfl; intro _; (try dsimp only [List.cons_append, List.nil_append])) | (apply s_mkmap; rfl; intro _) | apply s_st | apply st_go | (focus (first | (apply y_move; rfl) | (apply y_assign; rfl) | (apply y_min2; rfl) | (apply y_max2; rfl) | (apply y_build; kernel_rfl; (repeat (first | exact Bld.nil | (apply Bld.cons; exact inferInstance; rfl; constructor; kernel_rfl; (focus ((simp only [setAt, List.set_cons_zero, List.set_cons_succ, Nat.zero_add, Nat.reduceAdd, Nat.reduceMul]); try rfl))))); done))) | apply s_nil | apply w_seq | apply f_then | apply w_ret | (apply w_reg_l; rfl) | exact rfl)
  rename_i b gm g
  first | (apply f_end0; rfl; rfl; intro w hw; exact t_endT hw ⟨g, ⟨[], 0⟩, (b.2, gm, b.1), uses_nil, rfl, rfl⟩ (by (repeat (first | exact Tk.nil | (apply Tk.see; (first | (focus (apply VSees.vw; (repeat (first | exact List.Mem.head _ | apply List.Mem.tail)); done)) | exact VSees.nil | assumption)) | (apply Tk.see; exact VSees.nil) | (apply Tk.take; (repeat (first | exact Plc.hit | apply Plc.miss)))))) (by (repeat (first | exact List.Sublist.refl _ | apply List.Sublist.cons_cons | apply List.Sublist.cons)))) | (apply f_end; rfl; rfl; rfl; intro w hw; exact t_endT hw ⟨g, ⟨[], 0⟩, (b.2, gm, b.1), uses_nil, rfl, rfl⟩ (by (repeat (first | exact Tk.nil | (apply Tk.see; (first | (focus (apply VSees.vw; (repeat (first | exact List.Mem.head _ | apply List.Mem.tail)); done)) | exact VSees.nil | assumption)) | (apply Tk.see; exact VSees.nil) | (apply Tk.take; (repeat (first | exact Plc.hit | apply Plc.miss)))))) (by (repeat (first | exact List.Sublist.refl _ | apply List.Sublist.cons_cons | apply List.Sublist.cons)))) | (apply f_ends; rfl; rfl; (repeat (first | exact Res.nil | (apply Res.tmp; rfl) | (apply Res.agg; exact inferInstance; rfl; (repeat (first | exact List.Mem.head _ | apply List.Mem.tail)); (repeat (first | exact Sub.nil | apply Sub.take | apply Sub.drop))) | (apply Res.cell; kernel_rfl; rfl; (repeat (first | exact List.Mem.head _ | apply List.Mem.tail)); (repeat (first | exact At.hit | apply At.miss))))); intro w hw; exact t_endT hw ⟨g, ⟨[], 0⟩, (b.2, gm, b.1), uses_nil, rfl, rfl⟩ (by (repeat (first | exact Tk.nil | (apply Tk.see; (first | (focus (apply VSees.vw; (repeat (first | exact List.Mem.head _ | apply List.Mem.tail)); done)) | exact VSees.nil | assumption)) | (apply Tk.see; exact VSees.nil) | (apply Tk.take; (repeat (first | exact Plc.hit | apply Plc.miss)))))) (by (repeat (first | exact List.Sublist.refl _ | apply List.Sublist.cons_cons | apply List.Sublist.cons)))) | (apply f_ends1; rfl; rfl; (repeat (first | exact Res.nil | (apply Res.tmp; rfl) | (apply Res.agg; exact inferInstance; rfl; (repeat (first | exact List.Mem.head _ | apply List.Mem.tail)); (repeat (first | exact Sub.nil | apply Sub.take | apply Sub.drop))) | (apply Res.cell; kernel_rfl; rfl; (repeat (first | exact List.Mem.head _ | apply List.Mem.tail)); (repeat (first | exact At.hit | apply At.miss))))); intro w hw; exact t_endT hw ⟨g, ⟨[], 0⟩, (b.2, gm, b.1), uses_nil, rfl, rfl⟩ (by (repeat (first | exact Tk.nil | (apply Tk.see; (first | (focus (apply VSees.vw; (repeat (first | exact List.Mem.head _ | apply List.Mem.tail)); done)) | exact VSees.nil | assumption)) | (apply Tk.see; exact VSees.nil) | (apply Tk.take; (repeat (first | exact Plc.hit | apply Plc.miss)))))) (by (repeat (first | exact List.Sublist.refl _ | apply List.Sublist.cons_cons | apply List.Sublist.cons))))
end Go.Proofs.Ytfcffemglcgbnaa.Hand
namespace Go.Proofs.Ytfcffemglcgbnaa.Hand
open Go.RowKit Go.Proofs.Ytfcffemglcgbnaa.Bits Go.Proofs.Ytfcffemglcgbnaa.Dig Go.Proofs.Ytfcffemglcgbnaa.Sq
set_option linter.unusedVariables false
set_option linter.unusedSimpArgs false
set_option maxRecDepth 100000
set_option maxHeartbeats 1000000
theorem rnd_rng {L : List Pr} (hg : GoodL L) : 2 ≤ nodesN L ∧ nodesN L ≤ 2 + 128 * (L.length : Int) := ndT_rng L hg.sane L.length
structure RI (n : Nat) (L : List Pr) (mo N H : Int) : Prop where
  good : GoodL L
  len : L.length ≤ n
  hi : mo ≤ 2 + 128 * (n : Int)
  room : (L.length : Int) ≤ N
  hops : (hopsN L : Int) ≤ H
  hop : ∀ e ∈ L, 0 ≤ e.v ∧ e.v ≤ 65535
theorem ri_zero {N H : Int} (hN : 0 ≤ N) (hH : 0 ≤ H) : RI 0 [] 2 N H := ⟨GoodL.nil, Nat.le_refl _, by decide, hN, hH, fun _ h => by cases h⟩
theorem RI.more {n : Nat} {L : List Pr} {mo N H : Int} (h : RI n L mo N H) : RI (n + 1) L mo N H := ⟨h.good, by have := h.len; omega, by have := h.hi; omega, h.room, h.hops, h.hop⟩
theorem add_ri {n : Nat} {L : List Pr} {mo N H : Int} (h : RI n L mo N H) (p : Px) (hop : Int) : RI (n + 1) (addN L mo N H p hop).1 (addN L mo N H p hop).2.1 N H := by
  unfold addN
  split
  · rename_i hs
    split
    · rename_i hh
      split
      · rename_i hf
        have hf' := of_decide_eq_true hf
        obtain ⟨h1, h2⟩ := put_spec (v := hop) hs h.good
        have hl := put_len h.good hs hop
        have ho : (outN L p).length ≤ L.length := List.length_filter_le _ _
        have hr := rnd_rng h1
        have := h.len
        have := h.hi
        refine ⟨h1, by dsimp only; omega, ?_, hf'.1, hf'.2, fun e he => ?_⟩
        · dsimp only; unfold mx2; split <;> omega
        · rcases (h2 e).1 he with rfl | ⟨q, _⟩
          · exact hh
          · exact h.hop e q
      · exact h.more
    · exact h.more
  · exact h.more
theorem put_nil {p : Px} (v : Int) : putG p v false [] = [⟨p, v⟩] := by rw [putG, if_neg (by decide)]
end Go.Proofs.Ytfcffemglcgbnaa.Hand
namespace Go.Proofs.Ytfcffemglcgbnaa.Hand
open Go.RowKit Go.Proofs.Ytfcffemglcgbnaa.Bits Go.Proofs.Ytfcffemglcgbnaa.Dig Go.Proofs.Ytfcffemglcgbnaa.Sq
set_option linter.unusedVariables false
set_option linter.unusedSimpArgs false
set_option maxRecDepth 100000
set_option maxHeartbeats 1000000
theorem insE_iff {L : List Pr} {p : Px} : insN L p = true ↔ ∃ e ∈ L, e.p ≠ p ∧ cvB p e.p = true := by
  unfold insN
  rw [List.any_eq_true]
  constructor
  · rintro ⟨e, he, h⟩
    have h : (!eqPx p e.p && cvB p e.p) = true := h
    simp only [Bool.and_eq_true, Bool.not_eq_true'] at h
    refine ⟨e, he, fun q => ?_, h.2⟩
    rw [q, eqPx_self] at h
    cases h.1
  · rintro ⟨e, he, h1, h2⟩
    refine ⟨e, he, ?_⟩
    show (!eqPx p e.p && cvB p e.p) = true
    rw [eqPx_ne (Ne.symm h1), h2]; rfl
noncomputable def fillS (s : List Pr × Int) (e : Pr) : List Pr × Int := ((addN s.1 s.2 200 200 e.p e.v).1, (addN s.1 s.2 200 200 e.p e.v).2.1)
noncomputable def fillN (l : List Pr) : List Pr × Int := l.foldl fillS ([], 2)
theorem fill_ri : ∀ (l : List Pr) (n : Nat) (s : List Pr × Int), RI n s.1 s.2 200 200 → RI (n + l.length) (l.foldl fillS s).1 (l.foldl fillS s).2 200 200
  | [], n, s, h => h
  | e :: l, n, s, h => by
    have := fill_ri l (n + 1) (fillS s e) (add_ri h e.p e.v)
    rw [show n + (e :: l).length = n + 1 + l.length by rw [List.length_cons]; omega]
    exact this
theorem fillN_ri (l : List Pr) : RI l.length (fillN l).1 (fillN l).2 200 200 := by
  have := fill_ri l 0 ([], 2) (ri_zero (by decide) (by decide))
  rwa [Nat.zero_add] at this
theorem fill_take {l : List Pr} {i : Nat} (h : i < l.length) : fillN (l.take (i + 1)) = fillS (fillN (l.take i)) l[i] := by
  unfold fillN
  rw [List.take_add_one, List.getElem?_eq_getElem h, List.foldl_append]
  rfl
end Go.Proofs.Ytfcffemglcgbnaa.Hand
