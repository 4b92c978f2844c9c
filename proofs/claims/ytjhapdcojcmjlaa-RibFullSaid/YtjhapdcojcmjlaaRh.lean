/-
  package rib: Withdraw, New; contracts over a rib as one piece.
-/
import Derived.Test.YtjhapdcojcmjlaaRg
namespace Go.Proofs.Ytjhapdcojcmjlaa.Hand
open Go.RowKit Go.Proofs.Ytjhapdcojcmjlaa.Bits Go.Proofs.Ytjhapdcojcmjlaa.Dig Go.Proofs.Ytjhapdcojcmjlaa.Sq
set_option linter.unusedVariables false
set_option linter.unusedSimpArgs false
set_option maxRecDepth 100000
set_option maxHeartbeats 2000000
theorem del_had {L : List Pr} (hg : GoodL L) {p : Px} (hh : (getN L p).2 = true) : delN L p = (outN L p, 0) := by
  have hm := get_mem hh
  have hs : sanB p = true := hg.sane _ hm
  have hl : (outN L p).length + 1 = L.length := out_len hg hm rfl
  unfold delN
  rw [if_pos hs, if_neg (by omega)]
theorem del_not {L : List Pr} (hg : GoodL L) {p : Px} (hh : (getN L p).2 = false) : delN L p = (L, if sanB p = true then 2 else 1) := by
  unfold delN
  split
  · rw [if_pos (out_same.2 fun e he hq => by
      have h2 : (⟨p, e.v⟩ : Pr) ∈ L := by rw [← hq]; exact he
      rw [get_some hg h2] at hh; cases hh)]
  · rfl
theorem wd_t {L : List Pr} {u : Mp} (hg : GoodL L) (hu : UsesC u (cntV L)) {p : Px} (hp : p.a.wf) (N H : Int) (hL : L.length ≤ 10000) {mo : Int} (hmo : mo ≤ 10000000) (g gt gm : Nat) (bs : List Nat) :
    Tri Try.prog 20 [.pointer (some ⟨g, 0, none⟩), p.val] (ribM g gt gm L mo bs u N H) (RetX fun b : List Nat × Unit => (.int .i64 (delN L p).2, ribM g gt gm (delN L p).1 mo b.1 (if (getN L p).2 = true then dropM u (getN L p).1 else u) N H)) := by
  have k2 := all_b g gt gm N H 32
  have k4 := get_p (g := gt) (L := L) (mo := mo) (bs := bs) hp
  have k5 := del_p (g := gt) (L := L) (mo := mo) (bs := bs) (by omega) hmo hp
  have h0 := cntV_nn L
  have hx := hu.get h0
  have hc := cntV_le L
  have k6 := drop_t g gt gm N H u (getN L p).1 (by rw [hx]; exact h0 _) (by rw [hx]; have := hc (getN L p).1; omega)
  cases hh : (getN L p).2 with
  | true =>
    rw [del_had hg hh] at k5 ⊢
    rw [hh] at k4
    rw [if_pos rfl]
    dsimp only at k5 ⊢
    generalize (getN L p).1 = was at *
    generalize outN L p = L2 at *
    clear hg hu hp hL hmo h0 hx hc
    refine enter_t Try.func20 rfl Try.ntmps20 rfl (fun Wo Fo fro => ?_)
    repeat (first | (apply s_box; rfl; constructor; rfl; intro _) | (apply s_trix; rfl; rfl; rfl; (first | assumption); (repeat (first | exact Tk.nil | (apply Tk.see; (first | (focus (apply VSees.vw; (repeat (first | exact List.Mem.head _ | apply List.Mem.tail)); done)) | exact VSees.nil | assumption)) | (apply Tk.see; exact VSees.nil) | (apply Tk.take; (repeat (first | exact Plc.hit | apply Plc.miss))))); rfl; intro _; (try dsimp only [List.cons_append, List.nil_append])) | apply s_st | apply st_go | (focus (first | (apply y_move; rfl) | (apply y_assign; rfl) | (apply y_load; rfl; (repeat (first | exact List.Mem.head _ | apply List.Mem.tail)); (repeat (first | exact Sub.nil | apply Sub.take | apply Sub.drop)); done) | (apply y_rcal; rfl; rfl; rfl; (first | assumption); (repeat (first | exact SeesAll.nil | (apply SeesAll.cons; (first | (focus (apply Sees.vw; (repeat (first | exact List.Mem.head _ | apply List.Mem.tail)); done)) | (focus (apply Sees.own; (repeat (first | exact List.Mem.head _ | apply List.Mem.tail)); done)) | exact Sees.nil | assumption)) | (apply SeesAll.mem; (repeat (first | exact List.Mem.head _ | apply List.Mem.tail))))); done) | (apply y_extract; rfl; (repeat (first | exact At.hit | apply At.miss)); done) | (apply y_eq; rfl; rfl))) | apply s_nil | apply w_seq | apply f_then | apply w_ret | refine w_cond_t rfl ?_ | (apply f_end; rfl; rfl; rfl; intro w hw; first | exact ans hw | (refine ans_b ?_ hw; (focus ((repeat (first | assumption | rfl | exact beq_self_eq_true _ | exact bne_self_eq_false _ | apply bOrF | apply bAndT | apply bNotF | apply bNotT | (focus (apply decide_eq_true; omega)) | (focus (apply decide_eq_false; omega)) | (focus (apply bEqT; omega)) | (focus (apply bEqF; omega)) | (focus (apply bNeT; omega)) | (focus (apply bNeF; omega)) | (focus (apply bOrT1; first | assumption | (apply decide_eq_true; omega))) | (focus (apply bOrT2; first | assumption | (apply decide_eq_true; omega))) | (focus (apply bAndF1; first | assumption | (apply decide_eq_false; omega))) | (focus (apply bAndF2; first | assumption | (apply decide_eq_false; omega))))); done))) | (apply t_endS1 hw; rfl; (focus ((repeat (first | exact List.Sublist.refl _ | apply List.Sublist.cons_cons | apply List.Sublist.cons)); done))) | (apply t_endU hw; rfl; (focus ((repeat (first | exact List.Sublist.refl _ | apply List.Sublist.cons_cons | apply List.Sublist.cons)); done))) | (apply t_endX1 hw; rfl; (focus ((repeat (first | exact List.Sublist.refl _ | apply List.Sublist.cons_cons | apply List.Sublist.cons)); done))) | (refine t_end ⟨rfl, rfl⟩ ?_ w hw; (focus ((repeat (first | exact List.Sublist.refl _ | apply List.Sublist.cons_cons | apply List.Sublist.cons)); done))) | (apply t_endUT hw; rfl; (focus ((repeat (first | exact Tk.nil | (apply Tk.see; (first | (focus (apply VSees.vw; (repeat (first | exact List.Mem.head _ | apply List.Mem.tail)); done)) | exact VSees.nil | assumption)) | (apply Tk.see; exact VSees.nil) | (apply Tk.take; (repeat (first | exact Plc.hit | apply Plc.miss))))); done)); (focus ((repeat (first | exact List.Sublist.refl _ | apply List.Sublist.cons_cons | apply List.Sublist.cons)); done))) | (apply t_endXT hw; rfl; (repeat (first | exact Tk.nil | (apply Tk.see; (first | (focus (apply VSees.vw; (repeat (first | exact List.Mem.head _ | apply List.Mem.tail)); done)) | exact VSees.nil | assumption)) | (apply Tk.see; exact VSees.nil) | (apply Tk.take; (repeat (first | exact Plc.hit | apply Plc.miss))))); (focus ((repeat (first | exact List.Sublist.refl _ | apply List.Sublist.cons_cons | apply List.Sublist.cons)); done)))) | (apply w_mixed_r rfl 1 [0, 2, 1, 3, 4, 5, 6, 7] [0, 0, 2, 2, 2, 0, 0, 2] _ ; kernel_rfl; kernel_rfl; exact List.Sublist.refl _; rfl) | (apply w_mixed_r rfl 2 [0, 2, 1] [0, 0, 2] _ ; kernel_rfl; kernel_rfl; exact List.Sublist.refl _; rfl) | (apply g_st1; rfl; intro W0) | (apply g_st; rfl; intro W0) | apply g_done | (apply w_reg_l; rfl) | exact rfl)
    all_goals exact ()
  | false =>
    rw [del_not hg hh] at k5 ⊢
    rw [hh] at k4
    rw [if_neg (show ¬ false = true by decide)]
    dsimp only at k5 ⊢
    have hE : ((if sanB p = true then (2 : Int) else 1) == 0) = false := by split <;> rfl
    generalize (if sanB p = true then (2 : Int) else 1) = er at *
    generalize (getN L p).1 = was at *
    clear hg hu hp hL hmo h0 hx hc k6
    refine enter_t Try.func20 rfl Try.ntmps20 rfl (fun Wo Fo fro => ?_)
    repeat (first | (apply s_box; rfl; constructor; rfl; intro _) | (apply s_trix; rfl; rfl; rfl; (first | assumption); (repeat (first | exact Tk.nil | (apply Tk.see; (first | (focus (apply VSees.vw; (repeat (first | exact List.Mem.head _ | apply List.Mem.tail)); done)) | exact VSees.nil | assumption)) | (apply Tk.see; exact VSees.nil) | (apply Tk.take; (repeat (first | exact Plc.hit | apply Plc.miss))))); rfl; intro _; (try dsimp only [List.cons_append, List.nil_append])) | apply s_st | apply st_go | (focus (first | (apply y_move; rfl) | (apply y_assign; rfl) | (apply y_load; rfl; (repeat (first | exact List.Mem.head _ | apply List.Mem.tail)); (repeat (first | exact Sub.nil | apply Sub.take | apply Sub.drop)); done) | (apply y_rcal; rfl; rfl; rfl; (first | assumption); (repeat (first | exact SeesAll.nil | (apply SeesAll.cons; (first | (focus (apply Sees.vw; (repeat (first | exact List.Mem.head _ | apply List.Mem.tail)); done)) | (focus (apply Sees.own; (repeat (first | exact List.Mem.head _ | apply List.Mem.tail)); done)) | exact Sees.nil | assumption)) | (apply SeesAll.mem; (repeat (first | exact List.Mem.head _ | apply List.Mem.tail))))); done) | (apply y_extract; rfl; (repeat (first | exact At.hit | apply At.miss)); done) | (apply y_eq; rfl; rfl))) | apply s_nil | apply w_seq | apply f_then | apply w_skip | apply w_ret | (apply w_cond_ff; rfl; assumption) | (apply f_end; rfl; rfl; rfl; intro w hw; first | exact ans hw | (refine ans_b ?_ hw; (focus ((repeat (first | assumption | rfl | exact beq_self_eq_true _ | exact bne_self_eq_false _ | apply bOrF | apply bAndT | apply bNotF | apply bNotT | (focus (apply decide_eq_true; omega)) | (focus (apply decide_eq_false; omega)) | (focus (apply bEqT; omega)) | (focus (apply bEqF; omega)) | (focus (apply bNeT; omega)) | (focus (apply bNeF; omega)) | (focus (apply bOrT1; first | assumption | (apply decide_eq_true; omega))) | (focus (apply bOrT2; first | assumption | (apply decide_eq_true; omega))) | (focus (apply bAndF1; first | assumption | (apply decide_eq_false; omega))) | (focus (apply bAndF2; first | assumption | (apply decide_eq_false; omega))))); done))) | (apply t_endS1 hw; rfl; (focus ((repeat (first | exact List.Sublist.refl _ | apply List.Sublist.cons_cons | apply List.Sublist.cons)); done))) | (apply t_endU hw; rfl; (focus ((repeat (first | exact List.Sublist.refl _ | apply List.Sublist.cons_cons | apply List.Sublist.cons)); done))) | (apply t_endX1 hw; rfl; (focus ((repeat (first | exact List.Sublist.refl _ | apply List.Sublist.cons_cons | apply List.Sublist.cons)); done))) | (refine t_end ⟨rfl, rfl⟩ ?_ w hw; (focus ((repeat (first | exact List.Sublist.refl _ | apply List.Sublist.cons_cons | apply List.Sublist.cons)); done))) | (apply t_endUT hw; rfl; (focus ((repeat (first | exact Tk.nil | (apply Tk.see; (first | (focus (apply VSees.vw; (repeat (first | exact List.Mem.head _ | apply List.Mem.tail)); done)) | exact VSees.nil | assumption)) | (apply Tk.see; exact VSees.nil) | (apply Tk.take; (repeat (first | exact Plc.hit | apply Plc.miss))))); done)); (focus ((repeat (first | exact List.Sublist.refl _ | apply List.Sublist.cons_cons | apply List.Sublist.cons)); done))) | (apply t_endXT hw; rfl; (repeat (first | exact Tk.nil | (apply Tk.see; (first | (focus (apply VSees.vw; (repeat (first | exact List.Mem.head _ | apply List.Mem.tail)); done)) | exact VSees.nil | assumption)) | (apply Tk.see; exact VSees.nil) | (apply Tk.take; (repeat (first | exact Plc.hit | apply Plc.miss))))); (focus ((repeat (first | exact List.Sublist.refl _ | apply List.Sublist.cons_cons | apply List.Sublist.cons)); done)))) | (apply w_mixed_r rfl 1 [0, 2, 1, 3, 4, 5, 6, 7] [0, 0, 2, 2, 2, 0, 0, 2] _ ; kernel_rfl; kernel_rfl; exact List.Sublist.refl _; rfl) | (apply w_mixed_r rfl 2 [0, 2, 1] [0, 0, 2] _ ; kernel_rfl; kernel_rfl; exact List.Sublist.refl _; rfl) | (apply g_st1; rfl; intro W0) | (apply g_st; rfl; intro W0) | apply g_done | (apply w_reg_l; rfl) | exact rfl)
    all_goals exact ()
/-- A rib: its pairs, how many nodes there ever were, how many prefixes and hops there may be, its blocks. -/
def ribP (g : Nat) (L : List Pr) (mo N H : Int) (bs : List Nat) : Pc := packed (fun u : Mp => UsesC u (cntV L)) (fun u (a : Nat × Nat × List Nat) => ribM g a.1 a.2.1 L mo a.2.2 u N H) bs
theorem rib_no (g : Nat) (L : List Pr) (mo N H : Int) : ∀ (u : Mp) (a : Nat × Nat × List Nat), noVw (ribM g a.1 a.2.1 L mo a.2.2 u N H) := fun u a r hr A c k rows e => by
  subst e
  unfold ribM trieP packed mapP at hr
  simp at hr
theorem rib_rcal {g : Nat} {L : List Pr} {mo N H : Int} {bs : List Nat} {f : FuncId} {vs : List Value} {v : Value} (h : ∀ (T : Ts) (lab : Lab), InvX T lab L (false, []) → ((T.ar.length : Nat) : Int) = mo → ∀ gt gm Aa ca Af cf, RCal Try.prog f vs (.vw (some ⟨g, 0, none⟩) 1 4 [ribC gt gm N H] :: tv gt T Aa ca Af cf) v) : RCal Try.prog f vs [ribP g L mo N H bs] v := by
  unfold ribP
  refine RCal.unpack fun u a hu => ?_
  unfold ribM trieP
  refine RCal.unpack fun T d ⟨⟨lab, h1⟩, h2⟩ => ?_
  refine (h T lab h1 h2 a.1 a.2.1 d.1.1 d.1.2 d.2.1 d.2.2).of_view fun w hw z hz => ?_
  rcases List.mem_cons.1 hz with rfl | hz
  · exact blk_reads (hw _ (List.mem_append_right _ (List.mem_cons_of_mem _ (List.mem_cons_self ..)))) (fun v hv => by simp only [List.mem_cons, List.not_mem_nil, or_false] at hv; rcases hv with rfl | rfl | rfl | rfl <;> rfl)
  · exact tm_tv w (fun r hr => hw r (List.mem_append_left _ hr)) z hz
theorem rib_fcal {g : Nat} {L : List Pr} {mo N H : Int} {bs : List Nat} {f : FuncId} {vs : List Value} {n : Nat} {rows : List (List Value)} {k : Nat} {t : TypeId} (h : ∀ (T : Ts) (lab : Lab), InvX T lab L (false, []) → ((T.ar.length : Nat) : Int) = mo → ∀ gt gm Aa ca Af cf, FCal Try.prog f vs (.vw (some ⟨g, 0, none⟩) 1 4 [ribC gt gm N H] :: tv gt T Aa ca Af cf) (RetX fun b : Option Addr × Nat => (.slice b.1 n b.2, [.own b.1 b.2 k rows t]))) : FCal Try.prog f vs [ribP g L mo N H bs] (RetX fun b : Option Addr × Nat => (.slice b.1 n b.2, [.own b.1 b.2 k rows t])) := by
  unfold ribP
  refine FCal.unpack (fun v m' ⟨b, _, e⟩ => by subst e; exact noVw_own) ⟨_, _, (none, 0), rfl, rfl⟩ fun u a hu => ?_
  unfold ribM trieP
  refine FCal.unpack (fun v m' ⟨b, _, e⟩ => by subst e; exact noVw_own) ⟨_, _, (none, 0), rfl, rfl⟩ fun T d ⟨⟨lab, h1⟩, h2⟩ => ?_
  refine (h T lab h1 h2 a.1 a.2.1 d.1.1 d.1.2 d.2.1 d.2.2).of_view fun w hw z hz => ?_
  rcases List.mem_cons.1 hz with rfl | hz
  · exact blk_reads (hw _ (List.mem_append_right _ (List.mem_cons_of_mem _ (List.mem_cons_self ..)))) (fun v hv => by simp only [List.mem_cons, List.not_mem_nil, or_false] at hv; rcases hv with rfl | rfl | rfl | rfl <;> rfl)
  · exact tm_tv w (fun r hr => hw r (List.mem_append_left _ hr)) z hz
section
variable {g : Nat} {L : List Pr} {mo N H : Int} {bs : List Nat}
theorem rgov_p (hL : L.length ≤ 100000) {p : Px} (hp : p.a.wf) : RCal Try.prog 17 [.pointer (some ⟨g, 0, none⟩), p.val] [ribP g L mo N H bs] (.tuple #[.agg (govN L p).1.cells.toArray, .bool (govN L p).2]) := rib_rcal fun T lab h _ gt gm Aa ca Af cf => governs_v h hL hp g gt gm N H Aa ca Af cf
theorem rlong_p (hL : L.length ≤ 100000) {a : Ad} (ha : a.wf) : RCal Try.prog 16 [.pointer (some ⟨g, 0, none⟩), a.val] [ribP g L mo N H bs] (.tuple #[.agg (govN L (wholeP a)).1.cells.toArray, .bool (govN L (wholeP a)).2]) := rib_rcal fun T lab h _ gt gm Aa ca Af cf => rlong_v h g gt gm N H Aa ca Af cf hL ha
theorem rins_p {p : Px} (hp : p.a.wf) : RCal Try.prog 21 [.pointer (some ⟨g, 0, none⟩), p.val] [ribP g L mo N H bs] (.bool (insN L p)) := rib_rcal fun T lab h _ gt gm Aa ca Af cf => rins_v h g gt gm N H Aa ca Af cf hp
theorem rsize_p (hb : mo ≤ 100000000) : RCal Try.prog 18 [.pointer (some ⟨g, 0, none⟩)] [ribP g L mo N H bs] (.tuple #[.int .i64 ((L.length : Nat) : Int), .int .i64 (nodesN L), .int .i64 mo]) := rib_rcal fun T lab h e gt gm Aa ca Af cf => by rw [← e]; exact rsize_v h g gt gm N H Aa ca Af cf (by omega)
theorem rdump_p (hL : L.length ≤ 100000) : FCal Try.prog 22 [.pointer (some ⟨g, 0, none⟩)] [ribP g L mo N H bs] (RetX fun b : Option Addr × Nat => (.slice b.1 L.length b.2, [.own b.1 b.2 5 (L.map Pr.cells) 37])) := rib_fcal fun T lab h _ gt gm Aa ca Af cf => FCal.ofS rfl (fun _ _ => noVw_own) (dump_t h g gt gm N H Aa ca Af cf hL)
theorem radd_p (hg : GoodL L) {p : Px} (hp : p.a.wf) (hN : (L.length : Int) ≤ N) (hL : L.length ≤ 10000) (hmo : mo ≤ 10000000) (hop : Int) : Tri Try.prog 19 [.pointer (some ⟨g, 0, none⟩), p.val, .int .i64 hop] [ribP g L mo N H bs] (RetX fun b : List Nat × Unit => (.int .i64 (addN L mo N H p hop).2.2, [ribP g (addN L mo N H p hop).1 (addN L mo N H p hop).2.1 N H b.1])) := by
  unfold ribP
  refine Tri.unpack (mu := []) (rib_no g L mo N H) fun u a hu => ?_
  refine Tri.repack (X := Unit) (val := fun _ => .int .i64 (addN L mo N H p hop).2.2) (mu' := fun _ => []) (rib_no g _ _ N H) ?_
  rw [List.append_nil]
  unfold addN
  cases hs : sanB p with
  | false =>
    rw [if_neg (by decide)]
    exact (add_bad hop g a.1 a.2.1 a.2.2 (.inl ⟨hs, rfl⟩) hp).mono fun v m' ⟨b, h1, h2⟩ => ⟨u, a, (), hu, h1, by rw [h2, List.append_nil]⟩
  | true =>
    rw [if_pos rfl]
    by_cases hh : 0 ≤ hop ∧ hop ≤ 65535
    · rw [if_pos hh]
      cases hf : fitB L N H p hop with
      | true =>
        rw [if_pos rfl]
        exact (add_ok hg hu hp hN hL hop hmo g a.1 a.2.1 a.2.2 hs hh hf).mono fun v m' ⟨b, h1, h2⟩ => ⟨addU L u p hop, (a.1, a.2.1, b.1), (), (add_uses hg hu hs hop).1, h1, by rw [h2, List.append_nil]⟩
      | false =>
        rw [if_neg (by decide)]
        exact (add_full hg hu hp hN hL hop g a.1 a.2.1 a.2.2 hs hh hf).mono fun v m' ⟨b, h1, h2⟩ => ⟨u, a, (), hu, h1, by rw [h2, List.append_nil]⟩
    · rw [if_neg hh]
      exact (add_bad hop g a.1 a.2.1 a.2.2 (.inr ⟨hs, hh, rfl⟩) hp).mono fun v m' ⟨b, h1, h2⟩ => ⟨u, a, (), hu, h1, by rw [h2, List.append_nil]⟩
theorem rwd_p (hg : GoodL L) {p : Px} (hp : p.a.wf) (hL : L.length ≤ 10000) (hmo : mo ≤ 10000000) : Tri Try.prog 20 [.pointer (some ⟨g, 0, none⟩), p.val] [ribP g L mo N H bs] (RetX fun b : List Nat × Unit => (.int .i64 (delN L p).2, [ribP g (delN L p).1 mo N H b.1])) := by
  unfold ribP
  refine Tri.unpack (mu := []) (rib_no g L mo N H) fun u a hu => ?_
  refine Tri.repack (X := Unit) (val := fun _ => .int .i64 (delN L p).2) (mu' := fun _ => []) (rib_no g _ _ N H) ?_
  rw [List.append_nil]
  refine (wd_t hg hu hp N H hL hmo g a.1 a.2.1 a.2.2).mono fun v m' ⟨b, h1, h2⟩ => ⟨(if (getN L p).2 = true then dropM u (getN L p).1 else u), (a.1, a.2.1, b.1), (), ?_, h1, by rw [h2, List.append_nil]⟩
  cases hh : (getN L p).2 with
  | true =>
    rw [if_pos rfl, del_had hg hh]
    exact out_uses hg hu hh
  | false =>
    rw [if_neg (by decide), del_not hg hh]
    exact hu
end
theorem rnew_p (n h : Int) : Tri Try.prog 24 [.int .i64 n, .int .i64 h] [] (RetX fun b : List Nat × Nat => (.pointer (some ⟨b.2, 0, none⟩), [ribP b.2 [] 2 (mx2 0 (mn2 n 4096)) (mx2 0 (mn2 h 65536)) b.1])) := by
  unfold ribP
  refine Tri.repackG (X := Nat) (val := fun g => .pointer (some ⟨g, 0, none⟩)) (mu' := fun _ => []) (I' := fun _ => fun u : Mp => UsesC u (cntV [])) (ps' := fun g u (a : Nat × Nat × List Nat) => ribM g a.1 a.2.1 [] 2 a.2.2 u (mx2 0 (mn2 n 4096)) (mx2 0 (mn2 h 65536))) (fun g => rib_no g _ _ _ _) ?_
  have k1 := new_p
  refine enter_t Try.func24 rfl Try.ntmps24 rfl (fun Wo Fo fro => ?_)
  repeat (first | (apply s_box; rfl; constructor; rfl; intro _) | (apply s_trix; rfl; rfl; rfl; (first | assumption); (repeat (first | exact Tk.nil | (apply Tk.see; (first | (focus (apply VSees.vw; (repeat (first | exact List.Mem.head _ | apply List.Mem.tail)); done)) | exact VSees.nil | assumption)) | (apply Tk.see; exact VSees.nil) | (apply Tk.take; (repeat (first | exact Plc.hit | apply Plc.miss))))); rfl; intro _; (try dsimp only [List.cons_append, List.nil_append])) | (apply s_mkmap; rfl; intro _) | apply s_st | apply st_go | (focus (first | (apply y_move; rfl) | (apply y_assign; rfl) | (apply y_min2; rfl) | (apply y_max2; rfl) | (apply y_build; kernel_rfl; (repeat (first | exact Bld.nil | (apply Bld.cons; exact inferInstance; rfl; constructor; kernel_rfl; (focus ((simp only [setAt, List.set_cons_zero, List.set_cons_succ, Nat.zero_add, Nat.reduceAdd, Nat.reduceMul]); try rfl))))); done))) | apply s_nil | apply w_seq | apply f_then | apply w_ret | (apply w_reg_l; rfl) | exact rfl)
  rename_i b gm g
  first | (apply f_end0; rfl; rfl; intro w hw; exact t_endT hw ⟨g, ⟨[], 0⟩, (b.2, gm, b.1), uses_nil, rfl, rfl⟩ (by (repeat (first | exact Tk.nil | (apply Tk.see; (first | (focus (apply VSees.vw; (repeat (first | exact List.Mem.head _ | apply List.Mem.tail)); done)) | exact VSees.nil | assumption)) | (apply Tk.see; exact VSees.nil) | (apply Tk.take; (repeat (first | exact Plc.hit | apply Plc.miss)))))) (by (repeat (first | exact List.Sublist.refl _ | apply List.Sublist.cons_cons | apply List.Sublist.cons)))) | (apply f_end; rfl; rfl; rfl; intro w hw; exact t_endT hw ⟨g, ⟨[], 0⟩, (b.2, gm, b.1), uses_nil, rfl, rfl⟩ (by (repeat (first | exact Tk.nil | (apply Tk.see; (first | (focus (apply VSees.vw; (repeat (first | exact List.Mem.head _ | apply List.Mem.tail)); done)) | exact VSees.nil | assumption)) | (apply Tk.see; exact VSees.nil) | (apply Tk.take; (repeat (first | exact Plc.hit | apply Plc.miss)))))) (by (repeat (first | exact List.Sublist.refl _ | apply List.Sublist.cons_cons | apply List.Sublist.cons)))) | (apply f_ends; rfl; rfl; (repeat (first | exact Res.nil | (apply Res.tmp; rfl) | (apply Res.agg; exact inferInstance; rfl; (repeat (first | exact List.Mem.head _ | apply List.Mem.tail)); (repeat (first | exact Sub.nil | apply Sub.take | apply Sub.drop))) | (apply Res.cell; kernel_rfl; rfl; (repeat (first | exact List.Mem.head _ | apply List.Mem.tail)); (repeat (first | exact At.hit | apply At.miss))))); intro w hw; exact t_endT hw ⟨g, ⟨[], 0⟩, (b.2, gm, b.1), uses_nil, rfl, rfl⟩ (by (repeat (first | exact Tk.nil | (apply Tk.see; (first | (focus (apply VSees.vw; (repeat (first | exact List.Mem.head _ | apply List.Mem.tail)); done)) | exact VSees.nil | assumption)) | (apply Tk.see; exact VSees.nil) | (apply Tk.take; (repeat (first | exact Plc.hit | apply Plc.miss)))))) (by (repeat (first | exact List.Sublist.refl _ | apply List.Sublist.cons_cons | apply List.Sublist.cons)))) | (apply f_ends1; rfl; rfl; (repeat (first | exact Res.nil | (apply Res.tmp; rfl) | (apply Res.agg; exact inferInstance; rfl; (repeat (first | exact List.Mem.head _ | apply List.Mem.tail)); (repeat (first | exact Sub.nil | apply Sub.take | apply Sub.drop))) | (apply Res.cell; kernel_rfl; rfl; (repeat (first | exact List.Mem.head _ | apply List.Mem.tail)); (repeat (first | exact At.hit | apply At.miss))))); intro w hw; exact t_endT hw ⟨g, ⟨[], 0⟩, (b.2, gm, b.1), uses_nil, rfl, rfl⟩ (by (repeat (first | exact Tk.nil | (apply Tk.see; (first | (focus (apply VSees.vw; (repeat (first | exact List.Mem.head _ | apply List.Mem.tail)); done)) | exact VSees.nil | assumption)) | (apply Tk.see; exact VSees.nil) | (apply Tk.take; (repeat (first | exact Plc.hit | apply Plc.miss)))))) (by (repeat (first | exact List.Sublist.refl _ | apply List.Sublist.cons_cons | apply List.Sublist.cons))))
end Go.Proofs.Ytjhapdcojcmjlaa.Hand
