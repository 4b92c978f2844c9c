/-
  TriePut.
-/
import Derived.Test.YtlmcfjadhahlpaaTu
namespace Go.Proofs.Ytlmcfjadhahlpaa.Hand
open Go.RowKit Go.Proofs.Ytlmcfjadhahlpaa.Bits Go.Proofs.Ytlmcfjadhahlpaa.Dig Go.Proofs.Ytlmcfjadhahlpaa.Sq
set_option linter.unusedVariables false
set_option linter.unusedSimpArgs false
set_option maxRecDepth 100000
set_option maxHeartbeats 2000000
/-- What so many acts leave. -/
structure TI (n : Nat) (L : List Pr) (mo : Int) : Prop where
  good : GoodL L
  len : L.length ≤ n
  hi : mo ≤ 2 + 128 * (n : Int)
  lo : nodesN L ≤ mo
theorem ti_zero : TI 0 [] 2 := ⟨GoodL.nil, Nat.le_refl _, by decide, by show (2 : Int) ≤ 2; omega⟩
theorem nodes_rng {L : List Pr} (hg : GoodL L) : 2 ≤ nodesN L ∧ nodesN L ≤ 2 + 128 * (L.length : Int) := ndT_rng L hg.sane L.length
theorem nodes_le {L M : List Pr} (hL : GoodL L) (hM : GoodL M) (h : ∀ e ∈ M, e ∈ L) : nodesN M ≤ nodesN L := by
  obtain ⟨K, k1, k2, k3⟩ := nodes_keys hL
  obtain ⟨J, j1, j2, j3⟩ := nodes_keys hM
  have := nodup_len j1 (m := K) fun k hk => by
    rw [k2]
    rcases (j2 k).1 hk with hn | ⟨e, he, h1, h2⟩
    · exact .inl hn
    · exact .inr ⟨e, h e he, h1, h2⟩
  omega
theorem del_ti {n : Nat} {L : List Pr} {mo : Int} (h : TI n L mo) (p : Px) : TI n (delN L p).1 mo := by
  unfold delN
  split
  · split
    · exact h
    · exact ⟨out_good h.good p, Nat.le_trans (List.length_filter_le _ _) h.len, h.hi, Int.le_trans (nodes_le h.good (out_good h.good p) fun e he => (out_mem.1 he).1) h.lo⟩
  · exact h
theorem TI.more {n : Nat} {L : List Pr} {mo : Int} (h : TI n L mo) : TI (n + 1) L mo := ⟨h.good, by have := h.len; omega, by have := h.hi; omega, h.lo⟩
theorem put_ti {n : Nat} {L : List Pr} {mo : Int} (h : TI n L mo) (p : Px) (v : Int) : TI (n + 1) (putN L mo p v).1 (putN L mo p v).2.1 := by
  unfold putN
  split
  · rename_i hs
    obtain ⟨h1, h2⟩ := put_spec (v := v) hs h.good
    have hl := put_len h.good hs v
    have ho : (outN L p).length ≤ L.length := List.length_filter_le _ _
    have hr := nodes_rng h1
    have := h.len
    have := h.hi
    refine ⟨h1, by dsimp only; omega, ?_, ?_⟩
    · dsimp only; unfold mx2; split <;> omega
    · dsimp only; unfold mx2; split <;> omega
  · exact h.more
theorem do_ti {n : Nat} {L : List Pr} {mo : Int} (h : TI n L mo) (o : Ac5) : TI (n + 1) (doT L mo o).1 (doT L mo o).2.1 := by
  unfold doT
  split
  · exact (del_ti h o.p).more
  · exact put_ti h o.p o.v
theorem put_twice {L : List Pr} (hg : GoodL L) {p : Px} (hs : sanB p = true) (v : Int) : putG p v false (putG p v false L) = putG p v false L := by
  obtain ⟨h1, h2⟩ := put_spec (v := v) hs hg
  obtain ⟨h3, h4⟩ := put_spec (v := v) hs h1
  refine GoodL.ext h3 h1 fun e => ?_
  rw [h4]
  constructor
  · rintro (rfl | ⟨h, _⟩)
    · exact (h2 _).2 (.inl rfl)
    · exact h
  · intro h
    rcases (h2 e).1 h with rfl | ⟨_, hn⟩
    · exact .inl rfl
    · exact .inr ⟨h, hn⟩
theorem get_put {L : List Pr} (hg : GoodL L) {p : Px} (hs : sanB p = true) (v : Int) : getN (putG p v false L) p = (v, true) := by
  obtain ⟨h1, h2⟩ := put_spec (v := v) hs hg
  exact get_some h1 ((h2 _).2 (.inl rfl))
theorem get_ext {L M : List Pr} (hL : GoodL L) (hM : GoodL M) {q : Px} (h : ∀ v, (⟨q, v⟩ : Pr) ∈ L ↔ (⟨q, v⟩ : Pr) ∈ M) : getN L q = getN M q := by
  cases h1 : (getN L q).2 with
  | true =>
    have := (h _).1 (get_mem h1)
    rw [get_some hM this]
    exact Prod.ext rfl h1
  | false =>
    have hn : ∀ e ∈ L, e.p ≠ q := fun e he hq => by
      have hm : (⟨q, e.v⟩ : Pr) ∈ L := by rw [← hq]; exact he
      rw [get_some hL hm] at h1; cases h1
    have hn' : ∀ e ∈ M, e.p ≠ q := fun e he hq => by
      have hm : (⟨q, e.v⟩ : Pr) ∈ M := by rw [← hq]; exact he
      exact hn ⟨q, e.v⟩ ((h _).2 hm) rfl
    rw [get_none hn, get_none hn']
theorem get_put_ne {L : List Pr} (hg : GoodL L) {p q : Px} (hs : sanB p = true) (v : Int) (hne : q ≠ p) : getN (putG p v false L) q = getN L q := by
  obtain ⟨h1, h2⟩ := put_spec (v := v) hs hg
  refine get_ext h1 hg fun u => ?_
  rw [h2]
  constructor
  · rintro (h | h)
    · exact absurd (congrArg Pr.p h) hne
    · exact h.1
  · exact fun h => .inr ⟨h, hne⟩
theorem had_len {L : List Pr} (hg : GoodL L) {p : Px} (hs : sanB p = true) (v : Int) : ((getN L p).2 = true → (putG p v false L).length = L.length) ∧ ((getN L p).2 = false → (putG p v false L).length = L.length + 1) := by
  have hl := put_len hg hs v
  constructor
  · intro h
    have : (outN L p).length + 1 = L.length := out_len hg (get_mem h) rfl
    omega
  · intro h
    rw [hl, out_same.2 fun e he hq => by
      have hm : (⟨p, e.v⟩ : Pr) ∈ L := by rw [← hq]; exact he
      rw [get_some hg hm] at h; cases h]
theorem triePut_s (l : List Ac5) (hw : ∀ o ∈ l, o.wf) {p : Px} (hp : p.a.wf) (v : Int) {q : Px} (hq : q.a.wf) (A0 : Option Addr) (c0 : Nat) :
    RCal Try.prog 8 [.slice A0 l.length c0, p.val, .int .i64 v, q.val] [.vw A0 c0 6 (l.map Ac5.cells)] (.bool true) := by
  have k0 := awake05_s
  have k1 : Cal Try.prog 36 [p.val] (.bool (sanB p)) := r2sane_s hp _ _
  by_cases hl : l.length ≤ 60
  · cases hs : sanB p with
    | false =>
      rw [hs] at k1
      have hE : (decide ((l.length : Int) > 60) || !false) = true := by simp
      refine enter_r rfl Try.func8 rfl Try.ntmps8 rfl (fun Wo => ?_)
      repeat (first | (apply s_box; rfl; constructor; rfl; intro _) | apply s_st | apply st_go | (apply st_one; rfl; (focus ((repeat (first | assumption | rfl | exact beq_self_eq_true _ | exact bne_self_eq_false _ | apply bOrF | apply bAndT | apply bNotF | apply bNotT | (focus (apply decide_eq_true; omega)) | (focus (apply decide_eq_false; omega)) | (focus (apply bEqT; omega)) | (focus (apply bEqF; omega)) | (focus (apply bNeT; omega)) | (focus (apply bNeF; omega)) | (focus (apply bOrT1; first | assumption | (apply decide_eq_true; omega))) | (focus (apply bOrT2; first | assumption | (apply decide_eq_true; omega))) | (focus (apply bAndF1; first | assumption | (apply decide_eq_false; omega))) | (focus (apply bAndF2; first | assumption | (apply decide_eq_false; omega))))); done))) | (focus (first | (apply y_move; rfl) | (apply y_assign; rfl) | (apply y_not; rfl) | (apply y_load; rfl; (repeat (first | exact List.Mem.head _ | apply List.Mem.tail)); (repeat (first | exact Sub.nil | apply Sub.take | apply Sub.drop)); done) | (apply y_calls; rfl; rfl; rfl; (first | assumption); done) | (apply y_orp; rfl; rfl; done) | (apply y_len; rfl) | (apply y_gt; rfl; rfl))) | apply s_nil | apply w_seq | apply f_then | apply f_ret | apply w_ret | (apply w_cond_tt; rfl; assumption) | (apply f_end; rfl; rfl; rfl; intro w hw; first | exact ans hw | (refine ans_b ?_ hw; (focus ((repeat (first | assumption | rfl | exact beq_self_eq_true _ | exact bne_self_eq_false _ | apply bOrF | apply bAndT | apply bNotF | apply bNotT | (focus (apply decide_eq_true; omega)) | (focus (apply decide_eq_false; omega)) | (focus (apply bEqT; omega)) | (focus (apply bEqF; omega)) | (focus (apply bNeT; omega)) | (focus (apply bNeF; omega)) | (focus (apply bOrT1; first | assumption | (apply decide_eq_true; omega))) | (focus (apply bOrT2; first | assumption | (apply decide_eq_true; omega))) | (focus (apply bAndF1; first | assumption | (apply decide_eq_false; omega))) | (focus (apply bAndF2; first | assumption | (apply decide_eq_false; omega))))); done)))) | (apply w_reg_l; rfl) | exact rfl)
    | true =>
      rw [hs] at k1
      have k2 := new_p
      refine enter_r rfl Try.func8 rfl Try.ntmps8 rfl (fun Wo => ?_)
      repeat (first | (apply s_box; rfl; constructor; rfl; intro _) | (apply s_trix; rfl; rfl; rfl; (first | assumption); (repeat (first | exact Tk.nil | (apply Tk.see; (first | (focus (apply VSees.vw; (repeat (first | exact List.Mem.head _ | apply List.Mem.tail)); done)) | exact VSees.nil | assumption)) | (apply Tk.see; exact VSees.nil) | (apply Tk.take; (repeat (first | exact Plc.hit | apply Plc.miss))))); rfl; intro _; (try dsimp only [List.cons_append, List.nil_append])) | apply s_st | apply st_go | (apply st_one; rfl; (focus ((repeat (first | assumption | rfl | exact beq_self_eq_true _ | exact bne_self_eq_false _ | apply bOrF | apply bAndT | apply bNotF | apply bNotT | (focus (apply decide_eq_true; omega)) | (focus (apply decide_eq_false; omega)) | (focus (apply bEqT; omega)) | (focus (apply bEqF; omega)) | (focus (apply bNeT; omega)) | (focus (apply bNeF; omega)) | (focus (apply bOrT1; first | assumption | (apply decide_eq_true; omega))) | (focus (apply bOrT2; first | assumption | (apply decide_eq_true; omega))) | (focus (apply bAndF1; first | assumption | (apply decide_eq_false; omega))) | (focus (apply bAndF2; first | assumption | (apply decide_eq_false; omega))))); done))) | (focus (first | (apply y_move; rfl) | (apply y_assign; rfl) | (apply y_not; rfl) | (apply y_load; rfl; (repeat (first | exact List.Mem.head _ | apply List.Mem.tail)); (repeat (first | exact Sub.nil | apply Sub.take | apply Sub.drop)); done) | (apply y_calls; rfl; rfl; rfl; (first | assumption); done) | (apply y_orp; rfl; rfl; done) | (apply y_len; rfl) | (apply y_gt; rfl; rfl))) | apply s_nil | apply w_seq | apply f_then | apply w_block | apply w_skip | (apply w_cond_ff; rfl; (focus ((repeat (first | assumption | rfl | exact beq_self_eq_true _ | exact bne_self_eq_false _ | apply bOrF | apply bAndT | apply bNotF | apply bNotT | (focus (apply decide_eq_true; omega)) | (focus (apply decide_eq_false; omega)) | (focus (apply bEqT; omega)) | (focus (apply bEqF; omega)) | (focus (apply bNeT; omega)) | (focus (apply bNeF; omega)) | (focus (apply bOrT1; first | assumption | (apply decide_eq_true; omega))) | (focus (apply bOrT2; first | assumption | (apply decide_eq_true; omega))) | (focus (apply bAndF1; first | assumption | (apply decide_eq_false; omega))) | (focus (apply bAndF2; first | assumption | (apply decide_eq_false; omega))))); done))) | (apply w_reg_l; rfl) | exact rfl)
      rename_i g1 g2 b
      obtain ⟨bs0, g⟩ := b
      dsimp only
      clear k2
      refine w_loopm (fun s : Nat × List Pr × Int × List Nat => [(11, .int .i64 ((s.1 : Nat) : Int))]) (fun s => [trieP g s.2.1 s.2.2.1 s.2.2.2, .blk g2 q.cells 36, .blk g1 p.cells 36, .vw A0 c0 6 (l.map Ac5.cells)]) (fun s => s.1 ≤ l.length ∧ TI s.1 s.2.1 s.2.2.1) (fun s => l.length - s.1) (0, [], 2, bs0) ⟨Nat.zero_le _, ti_zero⟩ ?_ ?_ ?_
      · (repeat (first | exact Cov.nil | (apply Cov.cons; rfl) | (apply Cov.seen; rfl)))
      · (repeat (first | exact List.Sublist.refl _ | apply List.Sublist.cons_cons | apply List.Sublist.cons))
      · rintro ⟨i, L, mo, bs⟩ ⟨hi, hti⟩ R hR
        dsimp only at hi hti hR ⊢
        have hlen := hti.len
        have hmo := hti.hi
        by_cases hlt : i < l.length
        · have hrow := map_get (f := Ac5.cells) hlt
          have kd := do_p (g := g) (L := L) (mo := mo) (bs := bs) (by omega) (by omega) (o := l[i]) (hw _ (List.getElem_mem hlt))
          have hB := fun b : List Nat × Unit => hR (i + 1, (doT L mo l[i]).1, (doT L mo l[i]).2.1, b.1) ⟨hlt, do_ti hti _⟩ (by dsimp only; omega)
          dsimp only at hB
          rw [← wrap_suc (i := i) (by omega)] at hB
          clear hR k0 k1
          generalize doT L mo l[i] = z at kd hB
          generalize l[i] = o at hrow kd
          repeat (first | (apply s_trix; rfl; rfl; rfl; (first | assumption); (repeat (first | exact Tk.nil | (apply Tk.see; (first | (focus (apply VSees.vw; (repeat (first | exact List.Mem.head _ | apply List.Mem.tail)); done)) | exact VSees.nil | assumption)) | (apply Tk.see; exact VSees.nil) | (apply Tk.take; (repeat (first | exact Plc.hit | apply Plc.miss))))); rfl; intro _; (try dsimp only [List.cons_append, List.nil_append])) | apply s_st | apply st_go | (focus (first | (apply y_move; rfl) | (apply y_assign; rfl) | (apply y_eload; rfl; (first | (focus (apply Sees.vw; (repeat (first | exact List.Mem.head _ | apply List.Mem.tail)); done)) | (focus (apply Sees.own; (repeat (first | exact List.Mem.head _ | apply List.Mem.tail)); done)) | exact Sees.nil | assumption); (first | assumption | rfl); (repeat (first | exact Sub.nil | apply Sub.take | apply Sub.drop)); done) | (apply y_ixaddr; rfl; rfl; (first | (focus (apply Sees.vw; (repeat (first | exact List.Mem.head _ | apply List.Mem.tail)); done)) | (focus (apply Sees.own; (repeat (first | exact List.Mem.head _ | apply List.Mem.tail)); done)) | exact Sees.nil | assumption); (first | rfl | assumption | (focus (simp; done)) | (focus (simp; omega))); (first | assumption | rfl | exact (show (0 : Int) = ((0 : Nat) : Int) from rfl) | exact (show (1 : Int) = ((1 : Nat) : Int) from rfl) | exact (show (2 : Int) = ((2 : Nat) : Int) from rfl) | exact (show (3 : Int) = ((3 : Nat) : Int) from rfl)); (first | assumption | omega | (focus (simp; done)) | (focus (simp; omega))); done) | (apply y_len; rfl) | (apply y_lt; rfl; rfl) | (apply y_add; rfl; rfl))) | apply s_nil | apply w_seq | apply f_then | apply w_block | apply f_norm_block | (focus (apply f_backxt; assumption; (repeat (first | exact Cov.nil | (apply Cov.cons; rfl) | (apply Cov.seen; rfl))); (repeat (first | exact Tk.nil | (apply Tk.see; (first | (focus (apply VSees.vw; (repeat (first | exact List.Mem.head _ | apply List.Mem.tail)); done)) | exact VSees.nil | assumption)) | (apply Tk.see; exact VSees.nil) | (apply Tk.take; (repeat (first | exact Plc.hit | apply Plc.miss))))); done)) | apply w_skip | (apply w_cond_tt; rfl; (focus ((repeat (first | assumption | rfl | exact beq_self_eq_true _ | exact bne_self_eq_false _ | apply bOrF | apply bAndT | apply bNotF | apply bNotT | (focus (apply decide_eq_true; omega)) | (focus (apply decide_eq_false; omega)) | (focus (apply bEqT; omega)) | (focus (apply bEqF; omega)) | (focus (apply bNeT; omega)) | (focus (apply bNeF; omega)) | (focus (apply bOrT1; first | assumption | (apply decide_eq_true; omega))) | (focus (apply bOrT2; first | assumption | (apply decide_eq_true; omega))) | (focus (apply bAndF1; first | assumption | (apply decide_eq_false; omega))) | (focus (apply bAndF2; first | assumption | (apply decide_eq_false; omega))))); done))) | (apply w_reg_l; rfl) | exact rfl)
        · clear hR k0 k1
          have e1 : putN L mo p v = (putG p v false L, mx2 mo (nodesN (putG p v false L)), 0) := by unfold putN; rw [if_pos hs]
          have hti2 := put_ti hti p v
          rw [e1] at hti2
          have e2 : putN (putG p v false L) (mx2 mo (nodesN (putG p v false L))) p v = (putG p v false L, mx2 (mx2 mo (nodesN (putG p v false L))) (nodesN (putG p v false L)), 0) := by unfold putN; rw [if_pos hs, put_twice hti.good hs]
          have g1' := get_put hti.good hs v
          have g2' : q ≠ p → _ := get_put_ne hti.good hs v
          obtain ⟨n1, n2⟩ := had_len hti.good hs v
          have a1 := fun bs => len_p (g := g) (L := L) (mo := mo) (bs := bs)
          have a2 := fun bs => get_p (g := g) (L := L) (mo := mo) (bs := bs) hp
          have a3 := fun bs => get_p (g := g) (L := L) (mo := mo) (bs := bs) hq
          have a4 := fun bs => put_p (g := g) (L := L) (mo := mo) (bs := bs) (by omega) (by omega) hp v
          have hlen2 := hti2.len
          have hmo2 := hti2.hi
          dsimp only at hlen2 hmo2
          rw [e1] at a4
          have a5 := fun bs => put_p (g := g) (L := putG p v false L) (mo := mx2 mo (nodesN (putG p v false L))) (bs := bs) (by omega) (by omega) hp v
          rw [e2] at a5
          dsimp only at a4 a5
          generalize putG p v false L = L1 at *
          generalize mx2 mo (nodesN L1) = m1 at *
          generalize mx2 m1 (nodesN L1) = m2 at *
          have a6 := fun bs => get_p (g := g) (L := L1) (mo := m2) (bs := bs) hp
          have a7 := fun bs => get_p (g := g) (L := L1) (mo := m2) (bs := bs) hq
          have a8 := fun bs => len_p (g := g) (L := L1) (mo := m2) (bs := bs)
          rw [g1'] at a6
          clear e1 e2 hti2 hti
          have hF : (((q.a.hi == p.a.hi && (q.a.lo == p.a.lo && q.a.v6 == p.a.v6)) && q.n == p.n) || ((getN L1 q).1 == (getN L q).1 && (getN L1 q).2 == (getN L q).2)) = true := by
            by_cases hqp : q = p
            · have : eqPx q p = true := eqPx_iff.2 hqp
              unfold eqPx at this
              rw [this, Bool.true_or]
            · rw [g2' hqp]; simp
          cases hh : (getN L p).2 with
          | true =>
            rw [hh] at a2
            have hn := n1 hh
            repeat (first | (apply s_trixq; rfl; rfl; rfl; assumption; (repeat (first | exact Tk.nil | (apply Tk.see; (first | (focus (apply VSees.vw; (repeat (first | exact List.Mem.head _ | apply List.Mem.tail)); done)) | exact VSees.nil | assumption)) | (apply Tk.see; exact VSees.nil) | (apply Tk.take; (repeat (first | exact Plc.hit | apply Plc.miss))))); (first | exact want_none rfl | (apply want_on; rfl; (first | rfl | assumption | (focus ((repeat (first | assumption | rfl | exact beq_self_eq_true _ | exact bne_self_eq_false _ | apply bOrF | apply bAndT | apply bNotF | apply bNotT | (focus (apply decide_eq_true; omega)) | (focus (apply decide_eq_false; omega)) | (focus (apply bEqT; omega)) | (focus (apply bEqF; omega)) | (focus (apply bNeT; omega)) | (focus (apply bNeF; omega)) | (focus (apply bOrT1; first | assumption | (apply decide_eq_true; omega))) | (focus (apply bOrT2; first | assumption | (apply decide_eq_true; omega))) | (focus (apply bAndF1; first | assumption | (apply decide_eq_false; omega))) | (focus (apply bAndF2; first | assumption | (apply decide_eq_false; omega))))); done))))); rfl; intro _; (try dsimp only [List.cons_append, List.nil_append])) | (apply s_trixq; rfl; rfl; rfl; (exact a4); (repeat (first | exact Tk.nil | (apply Tk.see; (first | (focus (apply VSees.vw; (repeat (first | exact List.Mem.head _ | apply List.Mem.tail)); done)) | exact VSees.nil | assumption)) | (apply Tk.see; exact VSees.nil) | (apply Tk.take; (repeat (first | exact Plc.hit | apply Plc.miss))))); (first | exact want_none rfl | (apply want_on; rfl; (first | rfl | assumption | (focus ((repeat (first | assumption | rfl | exact beq_self_eq_true _ | exact bne_self_eq_false _ | apply bOrF | apply bAndT | apply bNotF | apply bNotT | (focus (apply decide_eq_true; omega)) | (focus (apply decide_eq_false; omega)) | (focus (apply bEqT; omega)) | (focus (apply bEqF; omega)) | (focus (apply bNeT; omega)) | (focus (apply bNeF; omega)) | (focus (apply bOrT1; first | assumption | (apply decide_eq_true; omega))) | (focus (apply bOrT2; first | assumption | (apply decide_eq_true; omega))) | (focus (apply bAndF1; first | assumption | (apply decide_eq_false; omega))) | (focus (apply bAndF2; first | assumption | (apply decide_eq_false; omega))))); done))))); rfl; intro _; (try dsimp only [List.cons_append, List.nil_append])) | apply s_st | apply st_go | (apply st_on; rfl) | (apply st_one; rfl; (focus ((repeat (first | assumption | rfl | exact beq_self_eq_true _ | exact bne_self_eq_false _ | apply bOrF | apply bAndT | apply bNotF | apply bNotT | (focus (apply decide_eq_true; omega)) | (focus (apply decide_eq_false; omega)) | (focus (apply bEqT; omega)) | (focus (apply bEqF; omega)) | (focus (apply bNeT; omega)) | (focus (apply bNeF; omega)) | (focus (apply bOrT1; first | assumption | (apply decide_eq_true; omega))) | (focus (apply bOrT2; first | assumption | (apply decide_eq_true; omega))) | (focus (apply bAndF1; first | assumption | (apply decide_eq_false; omega))) | (focus (apply bAndF2; first | assumption | (apply decide_eq_false; omega))))); done))) | (apply st_if2; rfl; intro h1 h2; (try simp only [h1, h2, gv_true, gv_tt])) | (apply st_if; rfl; intro h1; (try simp only [h1, gv_true, gv_tt])) | (focus (first | (apply y_move; rfl) | (apply y_assign; rfl) | (apply y_not; rfl) | (apply y_load; rfl; (repeat (first | exact List.Mem.head _ | apply List.Mem.tail)); (repeat (first | exact Sub.nil | apply Sub.take | apply Sub.drop)); done) | (apply y_rcalq; rfl; rfl; rfl; assumption; (repeat (first | exact SeesAll.nil | (apply SeesAll.cons; (first | (focus (apply Sees.vw; (repeat (first | exact List.Mem.head _ | apply List.Mem.tail)); done)) | (focus (apply Sees.own; (repeat (first | exact List.Mem.head _ | apply List.Mem.tail)); done)) | exact Sees.nil | assumption)) | (apply SeesAll.mem; (repeat (first | exact List.Mem.head _ | apply List.Mem.tail))))); done) | (apply y_rcalq; rfl; rfl; rfl; (exact a1); (repeat (first | exact SeesAll.nil | (apply SeesAll.cons; (first | (focus (apply Sees.vw; (repeat (first | exact List.Mem.head _ | apply List.Mem.tail)); done)) | (focus (apply Sees.own; (repeat (first | exact List.Mem.head _ | apply List.Mem.tail)); done)) | exact Sees.nil | assumption)) | (apply SeesAll.mem; (repeat (first | exact List.Mem.head _ | apply List.Mem.tail))))); done) | (apply y_rcalq; rfl; rfl; rfl; (exact a2); (repeat (first | exact SeesAll.nil | (apply SeesAll.cons; (first | (focus (apply Sees.vw; (repeat (first | exact List.Mem.head _ | apply List.Mem.tail)); done)) | (focus (apply Sees.own; (repeat (first | exact List.Mem.head _ | apply List.Mem.tail)); done)) | exact Sees.nil | assumption)) | (apply SeesAll.mem; (repeat (first | exact List.Mem.head _ | apply List.Mem.tail))))); done) | (apply y_rcalq; rfl; rfl; rfl; (exact a3); (repeat (first | exact SeesAll.nil | (apply SeesAll.cons; (first | (focus (apply Sees.vw; (repeat (first | exact List.Mem.head _ | apply List.Mem.tail)); done)) | (focus (apply Sees.own; (repeat (first | exact List.Mem.head _ | apply List.Mem.tail)); done)) | exact Sees.nil | assumption)) | (apply SeesAll.mem; (repeat (first | exact List.Mem.head _ | apply List.Mem.tail))))); done) | (apply y_and; rfl; rfl; done) | (apply y_or; rfl; rfl; done) | (apply y_andp; rfl; rfl; done) | (apply y_extract; rfl; (repeat (first | exact At.hit | apply At.miss)); done) | (apply y_len; rfl) | (apply y_eq; rfl; rfl) | (apply y_lt; rfl; rfl) | (apply y_eqs; rfl; rfl; kernel_rfl; exact inferInstance) | (apply y_beq; kernel_rfl; rfl; rfl))) | apply s_nil | apply w_seq | apply f_then | apply w_exit | apply f_out | apply f_exit_block | apply w_skip | apply w_ret | refine w_cond_f rfl ?_ | (apply w_cond_ff; rfl; (focus ((repeat (first | assumption | rfl | exact beq_self_eq_true _ | exact bne_self_eq_false _ | apply bOrF | apply bAndT | apply bNotF | apply bNotT | (focus (apply decide_eq_true; omega)) | (focus (apply decide_eq_false; omega)) | (focus (apply bEqT; omega)) | (focus (apply bEqF; omega)) | (focus (apply bNeT; omega)) | (focus (apply bNeF; omega)) | (focus (apply bOrT1; first | assumption | (apply decide_eq_true; omega))) | (focus (apply bOrT2; first | assumption | (apply decide_eq_true; omega))) | (focus (apply bAndF1; first | assumption | (apply decide_eq_false; omega))) | (focus (apply bAndF2; first | assumption | (apply decide_eq_false; omega))))); done))) | (apply f_end; rfl; rfl; rfl; intro w hw; first | exact ans hw | (refine ans_b ?_ hw; (focus ((repeat (first | assumption | rfl | exact beq_self_eq_true _ | exact bne_self_eq_false _ | apply bOrF | apply bAndT | apply bNotF | apply bNotT | (focus (apply decide_eq_true; omega)) | (focus (apply decide_eq_false; omega)) | (focus (apply bEqT; omega)) | (focus (apply bEqF; omega)) | (focus (apply bNeT; omega)) | (focus (apply bNeF; omega)) | (focus (apply bOrT1; first | assumption | (apply decide_eq_true; omega))) | (focus (apply bOrT2; first | assumption | (apply decide_eq_true; omega))) | (focus (apply bAndF1; first | assumption | (apply decide_eq_false; omega))) | (focus (apply bAndF2; first | assumption | (apply decide_eq_false; omega))))); done))) | (apply t_endS1 hw; rfl; (focus ((repeat (first | exact List.Sublist.refl _ | apply List.Sublist.cons_cons | apply List.Sublist.cons)); done))) | (apply t_endU hw; rfl; (focus ((repeat (first | exact List.Sublist.refl _ | apply List.Sublist.cons_cons | apply List.Sublist.cons)); done))) | (apply t_endX1 hw; rfl; (focus ((repeat (first | exact List.Sublist.refl _ | apply List.Sublist.cons_cons | apply List.Sublist.cons)); done))) | (refine t_end ⟨rfl, rfl⟩ ?_ w hw; (focus ((repeat (first | exact List.Sublist.refl _ | apply List.Sublist.cons_cons | apply List.Sublist.cons)); done))) | (apply t_endUT hw; rfl; (focus ((repeat (first | exact Tk.nil | (apply Tk.see; (first | (focus (apply VSees.vw; (repeat (first | exact List.Mem.head _ | apply List.Mem.tail)); done)) | exact VSees.nil | assumption)) | (apply Tk.see; exact VSees.nil) | (apply Tk.take; (repeat (first | exact Plc.hit | apply Plc.miss))))); done)); (focus ((repeat (first | exact List.Sublist.refl _ | apply List.Sublist.cons_cons | apply List.Sublist.cons)); done))) | (apply t_endXT hw; rfl; (repeat (first | exact Tk.nil | (apply Tk.see; (first | (focus (apply VSees.vw; (repeat (first | exact List.Mem.head _ | apply List.Mem.tail)); done)) | exact VSees.nil | assumption)) | (apply Tk.see; exact VSees.nil) | (apply Tk.take; (repeat (first | exact Plc.hit | apply Plc.miss))))); (focus ((repeat (first | exact List.Sublist.refl _ | apply List.Sublist.cons_cons | apply List.Sublist.cons)); done)))) | (apply w_reg_l; rfl) | exact rfl)
          | false =>
            rw [hh] at a2
            have hn := n2 hh
            have hE : (((L1.length : Nat) : Int) == IntKind.i64.wrap (((L.length : Nat) : Int) + 1)) = true := by rw [wrap_suc (i := L.length) (by omega), hn]; exact beq_self_eq_true _
            repeat (first | (apply s_trixq; rfl; rfl; rfl; assumption; (repeat (first | exact Tk.nil | (apply Tk.see; (first | (focus (apply VSees.vw; (repeat (first | exact List.Mem.head _ | apply List.Mem.tail)); done)) | exact VSees.nil | assumption)) | (apply Tk.see; exact VSees.nil) | (apply Tk.take; (repeat (first | exact Plc.hit | apply Plc.miss))))); (first | exact want_none rfl | (apply want_on; rfl; (first | rfl | assumption | (focus ((repeat (first | assumption | rfl | exact beq_self_eq_true _ | exact bne_self_eq_false _ | apply bOrF | apply bAndT | apply bNotF | apply bNotT | (focus (apply decide_eq_true; omega)) | (focus (apply decide_eq_false; omega)) | (focus (apply bEqT; omega)) | (focus (apply bEqF; omega)) | (focus (apply bNeT; omega)) | (focus (apply bNeF; omega)) | (focus (apply bOrT1; first | assumption | (apply decide_eq_true; omega))) | (focus (apply bOrT2; first | assumption | (apply decide_eq_true; omega))) | (focus (apply bAndF1; first | assumption | (apply decide_eq_false; omega))) | (focus (apply bAndF2; first | assumption | (apply decide_eq_false; omega))))); done))))); rfl; intro _; (try dsimp only [List.cons_append, List.nil_append])) | (apply s_trixq; rfl; rfl; rfl; (exact a4); (repeat (first | exact Tk.nil | (apply Tk.see; (first | (focus (apply VSees.vw; (repeat (first | exact List.Mem.head _ | apply List.Mem.tail)); done)) | exact VSees.nil | assumption)) | (apply Tk.see; exact VSees.nil) | (apply Tk.take; (repeat (first | exact Plc.hit | apply Plc.miss))))); (first | exact want_none rfl | (apply want_on; rfl; (first | rfl | assumption | (focus ((repeat (first | assumption | rfl | exact beq_self_eq_true _ | exact bne_self_eq_false _ | apply bOrF | apply bAndT | apply bNotF | apply bNotT | (focus (apply decide_eq_true; omega)) | (focus (apply decide_eq_false; omega)) | (focus (apply bEqT; omega)) | (focus (apply bEqF; omega)) | (focus (apply bNeT; omega)) | (focus (apply bNeF; omega)) | (focus (apply bOrT1; first | assumption | (apply decide_eq_true; omega))) | (focus (apply bOrT2; first | assumption | (apply decide_eq_true; omega))) | (focus (apply bAndF1; first | assumption | (apply decide_eq_false; omega))) | (focus (apply bAndF2; first | assumption | (apply decide_eq_false; omega))))); done))))); rfl; intro _; (try dsimp only [List.cons_append, List.nil_append])) | apply s_st | apply st_go | (apply st_on; rfl) | (apply st_one; rfl; (focus ((repeat (first | assumption | rfl | exact beq_self_eq_true _ | exact bne_self_eq_false _ | apply bOrF | apply bAndT | apply bNotF | apply bNotT | (focus (apply decide_eq_true; omega)) | (focus (apply decide_eq_false; omega)) | (focus (apply bEqT; omega)) | (focus (apply bEqF; omega)) | (focus (apply bNeT; omega)) | (focus (apply bNeF; omega)) | (focus (apply bOrT1; first | assumption | (apply decide_eq_true; omega))) | (focus (apply bOrT2; first | assumption | (apply decide_eq_true; omega))) | (focus (apply bAndF1; first | assumption | (apply decide_eq_false; omega))) | (focus (apply bAndF2; first | assumption | (apply decide_eq_false; omega))))); done))) | (apply st_if2; rfl; intro h1 h2; (try simp only [h1, h2, gv_true, gv_tt])) | (apply st_if; rfl; intro h1; (try simp only [h1, gv_true, gv_tt])) | (focus (first | (apply y_move; rfl) | (apply y_assign; rfl) | (apply y_not; rfl) | (apply y_load; rfl; (repeat (first | exact List.Mem.head _ | apply List.Mem.tail)); (repeat (first | exact Sub.nil | apply Sub.take | apply Sub.drop)); done) | (apply y_rcalq; rfl; rfl; rfl; assumption; (repeat (first | exact SeesAll.nil | (apply SeesAll.cons; (first | (focus (apply Sees.vw; (repeat (first | exact List.Mem.head _ | apply List.Mem.tail)); done)) | (focus (apply Sees.own; (repeat (first | exact List.Mem.head _ | apply List.Mem.tail)); done)) | exact Sees.nil | assumption)) | (apply SeesAll.mem; (repeat (first | exact List.Mem.head _ | apply List.Mem.tail))))); done) | (apply y_rcalq; rfl; rfl; rfl; (exact a1); (repeat (first | exact SeesAll.nil | (apply SeesAll.cons; (first | (focus (apply Sees.vw; (repeat (first | exact List.Mem.head _ | apply List.Mem.tail)); done)) | (focus (apply Sees.own; (repeat (first | exact List.Mem.head _ | apply List.Mem.tail)); done)) | exact Sees.nil | assumption)) | (apply SeesAll.mem; (repeat (first | exact List.Mem.head _ | apply List.Mem.tail))))); done) | (apply y_rcalq; rfl; rfl; rfl; (exact a2); (repeat (first | exact SeesAll.nil | (apply SeesAll.cons; (first | (focus (apply Sees.vw; (repeat (first | exact List.Mem.head _ | apply List.Mem.tail)); done)) | (focus (apply Sees.own; (repeat (first | exact List.Mem.head _ | apply List.Mem.tail)); done)) | exact Sees.nil | assumption)) | (apply SeesAll.mem; (repeat (first | exact List.Mem.head _ | apply List.Mem.tail))))); done) | (apply y_rcalq; rfl; rfl; rfl; (exact a3); (repeat (first | exact SeesAll.nil | (apply SeesAll.cons; (first | (focus (apply Sees.vw; (repeat (first | exact List.Mem.head _ | apply List.Mem.tail)); done)) | (focus (apply Sees.own; (repeat (first | exact List.Mem.head _ | apply List.Mem.tail)); done)) | exact Sees.nil | assumption)) | (apply SeesAll.mem; (repeat (first | exact List.Mem.head _ | apply List.Mem.tail))))); done) | (apply y_and; rfl; rfl; done) | (apply y_or; rfl; rfl; done) | (apply y_andp; rfl; rfl; done) | (apply y_extract; rfl; (repeat (first | exact At.hit | apply At.miss)); done) | (apply y_len; rfl) | (apply y_eq; rfl; rfl) | (apply y_lt; rfl; rfl) | (apply y_add; rfl; rfl) | (apply y_eqs; rfl; rfl; kernel_rfl; exact inferInstance) | (apply y_beq; kernel_rfl; rfl; rfl))) | apply s_nil | apply w_seq | apply f_then | apply w_exit | apply f_out | apply f_exit_block | apply w_ret | refine w_cond_t rfl ?_ | (apply w_cond_ff; rfl; (focus ((repeat (first | assumption | rfl | exact beq_self_eq_true _ | exact bne_self_eq_false _ | apply bOrF | apply bAndT | apply bNotF | apply bNotT | (focus (apply decide_eq_true; omega)) | (focus (apply decide_eq_false; omega)) | (focus (apply bEqT; omega)) | (focus (apply bEqF; omega)) | (focus (apply bNeT; omega)) | (focus (apply bNeF; omega)) | (focus (apply bOrT1; first | assumption | (apply decide_eq_true; omega))) | (focus (apply bOrT2; first | assumption | (apply decide_eq_true; omega))) | (focus (apply bAndF1; first | assumption | (apply decide_eq_false; omega))) | (focus (apply bAndF2; first | assumption | (apply decide_eq_false; omega))))); done))) | (apply f_end; rfl; rfl; rfl; intro w hw; first | exact ans hw | (refine ans_b ?_ hw; (focus ((repeat (first | assumption | rfl | exact beq_self_eq_true _ | exact bne_self_eq_false _ | apply bOrF | apply bAndT | apply bNotF | apply bNotT | (focus (apply decide_eq_true; omega)) | (focus (apply decide_eq_false; omega)) | (focus (apply bEqT; omega)) | (focus (apply bEqF; omega)) | (focus (apply bNeT; omega)) | (focus (apply bNeF; omega)) | (focus (apply bOrT1; first | assumption | (apply decide_eq_true; omega))) | (focus (apply bOrT2; first | assumption | (apply decide_eq_true; omega))) | (focus (apply bAndF1; first | assumption | (apply decide_eq_false; omega))) | (focus (apply bAndF2; first | assumption | (apply decide_eq_false; omega))))); done))) | (apply t_endS1 hw; rfl; (focus ((repeat (first | exact List.Sublist.refl _ | apply List.Sublist.cons_cons | apply List.Sublist.cons)); done))) | (apply t_endU hw; rfl; (focus ((repeat (first | exact List.Sublist.refl _ | apply List.Sublist.cons_cons | apply List.Sublist.cons)); done))) | (apply t_endX1 hw; rfl; (focus ((repeat (first | exact List.Sublist.refl _ | apply List.Sublist.cons_cons | apply List.Sublist.cons)); done))) | (refine t_end ⟨rfl, rfl⟩ ?_ w hw; (focus ((repeat (first | exact List.Sublist.refl _ | apply List.Sublist.cons_cons | apply List.Sublist.cons)); done))) | (apply t_endUT hw; rfl; (focus ((repeat (first | exact Tk.nil | (apply Tk.see; (first | (focus (apply VSees.vw; (repeat (first | exact List.Mem.head _ | apply List.Mem.tail)); done)) | exact VSees.nil | assumption)) | (apply Tk.see; exact VSees.nil) | (apply Tk.take; (repeat (first | exact Plc.hit | apply Plc.miss))))); done)); (focus ((repeat (first | exact List.Sublist.refl _ | apply List.Sublist.cons_cons | apply List.Sublist.cons)); done))) | (apply t_endXT hw; rfl; (repeat (first | exact Tk.nil | (apply Tk.see; (first | (focus (apply VSees.vw; (repeat (first | exact List.Mem.head _ | apply List.Mem.tail)); done)) | exact VSees.nil | assumption)) | (apply Tk.see; exact VSees.nil) | (apply Tk.take; (repeat (first | exact Plc.hit | apply Plc.miss))))); (focus ((repeat (first | exact List.Sublist.refl _ | apply List.Sublist.cons_cons | apply List.Sublist.cons)); done)))) | (apply w_reg_l; rfl) | exact rfl)
  · refine enter_r rfl Try.func8 rfl Try.ntmps8 rfl (fun Wo => ?_)
    repeat (first | (apply s_box; rfl; constructor; rfl; intro _) | apply s_st | apply st_go | (apply st_offT; rfl; (focus ((repeat (first | assumption | rfl | exact beq_self_eq_true _ | exact bne_self_eq_false _ | apply bOrF | apply bAndT | apply bNotF | apply bNotT | (focus (apply decide_eq_true; omega)) | (focus (apply decide_eq_false; omega)) | (focus (apply bEqT; omega)) | (focus (apply bEqF; omega)) | (focus (apply bNeT; omega)) | (focus (apply bNeF; omega)) | (focus (apply bOrT1; first | assumption | (apply decide_eq_true; omega))) | (focus (apply bOrT2; first | assumption | (apply decide_eq_true; omega))) | (focus (apply bAndF1; first | assumption | (apply decide_eq_false; omega))) | (focus (apply bAndF2; first | assumption | (apply decide_eq_false; omega))))); done))) | (focus (first | (apply y_move; rfl) | (apply y_assign; rfl) | (apply y_calls; rfl; rfl; rfl; (first | assumption); done) | (apply y_or_te; rfl; (focus ((repeat (first | assumption | rfl | exact beq_self_eq_true _ | exact bne_self_eq_false _ | apply bOrF | apply bAndT | apply bNotF | apply bNotT | (focus (apply decide_eq_true; omega)) | (focus (apply decide_eq_false; omega)) | (focus (apply bEqT; omega)) | (focus (apply bEqF; omega)) | (focus (apply bNeT; omega)) | (focus (apply bNeF; omega)) | (focus (apply bOrT1; first | assumption | (apply decide_eq_true; omega))) | (focus (apply bOrT2; first | assumption | (apply decide_eq_true; omega))) | (focus (apply bAndF1; first | assumption | (apply decide_eq_false; omega))) | (focus (apply bAndF2; first | assumption | (apply decide_eq_false; omega))))); done)); done) | (apply y_len; rfl) | (apply y_gt; rfl; rfl))) | apply s_nil | apply w_seq | apply f_then | apply f_ret | apply w_ret | refine w_cond_t rfl ?_ | (apply f_end; rfl; rfl; rfl; intro w hw; first | exact ans hw | (refine ans_b ?_ hw; (focus ((repeat (first | assumption | rfl | exact beq_self_eq_true _ | exact bne_self_eq_false _ | apply bOrF | apply bAndT | apply bNotF | apply bNotT | (focus (apply decide_eq_true; omega)) | (focus (apply decide_eq_false; omega)) | (focus (apply bEqT; omega)) | (focus (apply bEqF; omega)) | (focus (apply bNeT; omega)) | (focus (apply bNeF; omega)) | (focus (apply bOrT1; first | assumption | (apply decide_eq_true; omega))) | (focus (apply bOrT2; first | assumption | (apply decide_eq_true; omega))) | (focus (apply bAndF1; first | assumption | (apply decide_eq_false; omega))) | (focus (apply bAndF2; first | assumption | (apply decide_eq_false; omega))))); done)))) | (apply w_reg_l; rfl) | exact rfl)
end Go.Proofs.Ytlmcfjadhahlpaa.Hand
