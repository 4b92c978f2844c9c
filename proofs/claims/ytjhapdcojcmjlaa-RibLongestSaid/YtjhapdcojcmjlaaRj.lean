/-
  RibLongest.
-/
import Derived.Test.YtjhapdcojcmjlaaRi
namespace Go.Proofs.Ytjhapdcojcmjlaa.Hand
open Go.RowKit Go.Proofs.Ytjhapdcojcmjlaa.Bits Go.Proofs.Ytjhapdcojcmjlaa.Dig Go.Proofs.Ytjhapdcojcmjlaa.Sq
set_option linter.unusedVariables false
set_option linter.unusedSimpArgs false
set_option maxRecDepth 100000
set_option maxHeartbeats 2000000
theorem rof128_s {a : Ad} (ha : a.wf) : Cal Try.prog 30 [a.val, .int .i64 128] (wholeP a).val := by
  have h := of_s ha a.v6 128
  have e : clampW a.v6 128 = W a.v6 := by unfold clampW W; cases a.v6 <;> rfl
  rw [e] at h
  exact h
theorem rn_inc {a : Ad} {e f : Pr} (hc : conB e.p a = true) (hd : conB f.p a = true) (hlt : ltK (keyP e.p) (keyP f.p) = true) : e.p.n < f.p.n := by
  obtain ⟨s1, v1, q1⟩ := con_key.1 hc
  obtain ⟨s2, v2, q2⟩ := con_key.1 hd
  have hl1 := key_len s1
  have hl2 := key_len s2
  rcases Nat.lt_or_ge (keyP e.p).2.length (keyP f.p).2.length with q | q
  · omega
  · have hpre : (keyP f.p).2 <+: (keyP e.p).2 := List.prefix_of_prefix_length_le q2 q1 q
    by_cases he' : keyP e.p = keyP f.p
    · rw [he', ltK_irr] at hlt; cases hlt
    · have := ltK_pre (v2.trans v1.symm) hpre (fun q => he' q.symm)
      rw [ltK_asym this] at hlt; cases hlt
theorem gov_whole {L : List Pr} (hg : GoodL L) (a : Ad) : (govN L (wholeP a) = (zeroPr, false) ∧ ∀ e ∈ L, conB e.p a = false) ∨ ∃ x ∈ L, conB x.p a = true ∧ (∀ e ∈ L, conB e.p a = true → e.p.n ≤ x.p.n) ∧ govN L (wholeP a) = (x, true) := by
  have hm : ∀ e, e ∈ aboveN L (wholeP a) ↔ e ∈ L ∧ conB e.p a = true := fun e => by rw [con_cov]; exact List.mem_filter
  have hg' : GoodL (aboveN L (wholeP a)) := hg.sub List.filter_sublist
  cases hq : (aboveN L (wholeP a))[(aboveN L (wholeP a)).length - 1]? with
  | none =>
    have h0 : aboveN L (wholeP a) = [] := List.eq_nil_of_length_eq_zero (by have := List.getElem?_eq_none_iff.1 hq; omega)
    refine .inl ⟨gov_none h0, fun e he => ?_⟩
    cases hc : conB e.p a with
    | false => rfl
    | true =>
      have := (hm e).2 ⟨he, hc⟩
      rw [h0] at this; cases this
  | some x =>
    have hx := (hm x).1 (List.mem_of_getElem? hq)
    refine .inr ⟨x, hx.1, hx.2, fun e he hc => ?_, gov_some hq⟩
    obtain ⟨j, hj⟩ := List.getElem?_of_mem ((hm e).2 ⟨he, hc⟩)
    obtain ⟨q1, e1⟩ := List.getElem?_eq_some_iff.1 hj
    obtain ⟨q2, e2⟩ := List.getElem?_eq_some_iff.1 hq
    by_cases hjl : j = (aboveN L (wholeP a)).length - 1
    · subst hjl
      rw [e1] at e2
      rw [e2]
      exact Int.le_refl _
    · have := List.pairwise_iff_getElem.1 hg'.sorted j _ q1 q2 (by omega)
      rw [e1, e2] at this
      exact Int.le_of_lt (rn_inc hc hx.2 this)
theorem gov_first {L : List Pr} (hg : GoodL L) {p : Px} (hs : sanB p = true) (hi : insN L p = false) : govN L p = govN L (wholeP p.a) := by
  have h : aboveN L p = aboveN L (wholeP p.a) := List.filter_congr fun e he => by
    rw [← con_cov, Bool.eq_iff_iff, cov_key, con_key]
    have hk : (keyP p).2 <+: (keyA p.a).2 := by
      have := (cov_key.1 (show cvB p (wholeP p.a) = true from by rw [← con_cov]; exact con_key.2 ⟨hs, rfl, by
        unfold keyP keyA
        obtain ⟨c, hc, hn, _⟩ := sanB_pk hs
        dsimp only
        rw [hn, Int.toNat_natCast]
        exact pth_pre.2 ⟨hc, fun _ _ => rfl⟩⟩)).2.2.2
      rwa [key_whole] at this
    constructor
    · rintro ⟨h1, h2, h3, h4⟩
      exact ⟨h1, h3, h4.trans hk⟩
    · rintro ⟨h1, h2, h3⟩
      refine ⟨h1, hs, h2, ?_⟩
      rcases Nat.le_total (keyP e.p).2.length (keyP p).2.length with q | q
      · exact List.prefix_of_prefix_length_le h3 hk q
      · have hpe : (keyP p).2 <+: (keyP e.p).2 := List.prefix_of_prefix_length_le hk h3 q
        by_cases hpq : e.p = p
        · rw [hpq]; exact List.prefix_refl _
        · have hin : insN L p = true := by
            unfold insN
            rw [List.any_eq_true]
            refine ⟨e, he, ?_⟩
            show (!eqPx p e.p && cvB p e.p) = true
            rw [eqPx_ne (Ne.symm hpq), cov_key.2 ⟨hs, h1, h2.symm, hpe⟩]; rfl
          rw [hi] at hin; cases hin
  unfold govN
  rw [h]
theorem ribLongest_s (l : List Ac5) (hw : ∀ o ∈ l, o.wf) {a : Ad} (ha : a.wf) {p : Px} (hp : p.a.wf) (A0 : Option Addr) (c0 : Nat) :
    RCal Try.prog 7 [.slice A0 l.length c0, a.val, p.val] [.vw A0 c0 6 (l.map Ac5.cells)] (.bool true) := by
  have k0 := awake06_s
  by_cases hl : l.length ≤ 60
  · have k2 := rnew_p 99 99
    have eN : mx2 0 (mn2 99 4096) = 99 := rfl
    have eH : mx2 0 (mn2 99 65536) = 99 := rfl
    rw [eN, eH] at k2
    refine enter_r rfl Try.func7 rfl Try.ntmps7 rfl (fun Wo => ?_)
    repeat (first | (apply s_box; rfl; constructor; rfl; intro _) | (apply s_trix; rfl; rfl; rfl; (first | assumption); (repeat (first | exact Tk.nil | (apply Tk.see; (first | (focus (apply VSees.vw; (repeat (first | exact List.Mem.head _ | apply List.Mem.tail)); done)) | exact VSees.nil | assumption)) | (apply Tk.see; exact VSees.nil) | (apply Tk.take; (repeat (first | exact Plc.hit | apply Plc.miss))))); rfl; intro _; (try dsimp only [List.cons_append, List.nil_append])) | apply s_st | apply st_go | (focus (first | (apply y_move; rfl) | (apply y_assign; rfl) | (apply y_calls; rfl; rfl; rfl; (first | assumption); done) | (apply y_len; rfl) | (apply y_gt; rfl; rfl))) | apply s_nil | apply w_seq | apply f_then | apply w_block | apply w_skip | (apply w_cond_ff; rfl; (focus ((repeat (first | assumption | rfl | exact beq_self_eq_true _ | exact bne_self_eq_false _ | apply bOrF | apply bAndT | apply bNotF | apply bNotT | (focus (apply decide_eq_true; omega)) | (focus (apply decide_eq_false; omega)) | (focus (apply bEqT; omega)) | (focus (apply bEqF; omega)) | (focus (apply bNeT; omega)) | (focus (apply bNeF; omega)) | (focus (apply bOrT1; first | assumption | (apply decide_eq_true; omega))) | (focus (apply bOrT2; first | assumption | (apply decide_eq_true; omega))) | (focus (apply bAndF1; first | assumption | (apply decide_eq_false; omega))) | (focus (apply bAndF2; first | assumption | (apply decide_eq_false; omega))))); done))) | (apply w_reg_l; rfl) | exact rfl)
    rename_i ga gp b
    obtain ⟨bs0, g⟩ := b
    dsimp only
    clear k2
    refine w_loopm (fun s : Nat × List Pr × Int × List Nat => [(9, .int .i64 ((s.1 : Nat) : Int))]) (fun s => [ribP g s.2.1 s.2.2.1 99 99 s.2.2.2, .blk gp p.cells 26, .blk ga a.cells 24, .vw A0 c0 6 (l.map Ac5.cells)]) (fun s => s.1 ≤ l.length ∧ RI s.1 s.2.1 s.2.2.1 99 99) (fun s => l.length - s.1) (0, [], 2, bs0) ⟨Nat.zero_le _, ri_zero (by decide) (by decide)⟩ ?_ ?_ ?_
    · (repeat (first | exact Cov.nil | (apply Cov.cons; rfl) | (apply Cov.seen; rfl)))
    · (repeat (first | exact List.Sublist.refl _ | apply List.Sublist.cons_cons | apply List.Sublist.cons))
    · rintro ⟨i, L, mo, bs⟩ ⟨hi, hti⟩ R hR
      dsimp only at hi hti hR ⊢
      have hlen := hti.len
      have hmo := hti.hi
      by_cases hlt : i < l.length
      · have hrow := map_get (f := Ac5.cells) hlt
        have kd := rdo_p (g := g) (bs := bs) hti (by omega) (hw _ (List.getElem_mem hlt))
        have hB := fun b : List Nat × Unit => hR (i + 1, (doR L mo 99 99 l[i]).1, (doR L mo 99 99 l[i]).2.1, b.1) ⟨hlt, do_ri hti _⟩ (by dsimp only; omega)
        dsimp only at hB
        rw [← wrap_suc (i := i) (by omega)] at hB
        clear hR k0
        generalize doR L mo 99 99 l[i] = z at kd hB
        generalize l[i] = o at hrow kd
        repeat (first | (apply s_trix; rfl; rfl; rfl; (first | assumption); (repeat (first | exact Tk.nil | (apply Tk.see; (first | (focus (apply VSees.vw; (repeat (first | exact List.Mem.head _ | apply List.Mem.tail)); done)) | exact VSees.nil | assumption)) | (apply Tk.see; exact VSees.nil) | (apply Tk.take; (repeat (first | exact Plc.hit | apply Plc.miss))))); rfl; intro _; (try dsimp only [List.cons_append, List.nil_append])) | apply s_st | apply st_go | (focus (first | (apply y_move; rfl) | (apply y_assign; rfl) | (apply y_eload; rfl; (first | (focus (apply Sees.vw; (repeat (first | exact List.Mem.head _ | apply List.Mem.tail)); done)) | (focus (apply Sees.own; (repeat (first | exact List.Mem.head _ | apply List.Mem.tail)); done)) | exact Sees.nil | assumption); (first | assumption | rfl); (repeat (first | exact Sub.nil | apply Sub.take | apply Sub.drop)); done) | (apply y_ixaddr; rfl; rfl; (first | (focus (apply Sees.vw; (repeat (first | exact List.Mem.head _ | apply List.Mem.tail)); done)) | (focus (apply Sees.own; (repeat (first | exact List.Mem.head _ | apply List.Mem.tail)); done)) | exact Sees.nil | assumption); (first | rfl | assumption | (focus (simp; done)) | (focus (simp; omega))); (first | assumption | rfl | exact (show (0 : Int) = ((0 : Nat) : Int) from rfl) | exact (show (1 : Int) = ((1 : Nat) : Int) from rfl) | exact (show (2 : Int) = ((2 : Nat) : Int) from rfl) | exact (show (3 : Int) = ((3 : Nat) : Int) from rfl)); (first | assumption | omega | (focus (simp; done)) | (focus (simp; omega))); done) | (apply y_len; rfl) | (apply y_lt; rfl; rfl) | (apply y_add; rfl; rfl))) | apply s_nil | apply w_seq | apply f_then | apply w_block | apply f_norm_block | (focus (apply f_backxt; assumption; (repeat (first | exact Cov.nil | (apply Cov.cons; rfl) | (apply Cov.seen; rfl))); (repeat (first | exact Tk.nil | (apply Tk.see; (first | (focus (apply VSees.vw; (repeat (first | exact List.Mem.head _ | apply List.Mem.tail)); done)) | exact VSees.nil | assumption)) | (apply Tk.see; exact VSees.nil) | (apply Tk.take; (repeat (first | exact Plc.hit | apply Plc.miss))))); done)) | apply w_skip | (apply w_cond_tt; rfl; (focus ((repeat (first | assumption | rfl | exact beq_self_eq_true _ | exact bne_self_eq_false _ | apply bOrF | apply bAndT | apply bNotF | apply bNotT | (focus (apply decide_eq_true; omega)) | (focus (apply decide_eq_false; omega)) | (focus (apply bEqT; omega)) | (focus (apply bEqF; omega)) | (focus (apply bNeT; omega)) | (focus (apply bNeF; omega)) | (focus (apply bOrT1; first | assumption | (apply decide_eq_true; omega))) | (focus (apply bOrT2; first | assumption | (apply decide_eq_true; omega))) | (focus (apply bAndF1; first | assumption | (apply decide_eq_false; omega))) | (focus (apply bAndF2; first | assumption | (apply decide_eq_false; omega))))); done))) | (apply w_reg_l; rfl) | exact rfl)
      · clear hR k0
        have hg := hti.good
        have a1 := rof128_s ha
        have a2 := rdump_p (g := g) (L := L) (mo := mo) (N := 99) (H := 99) (bs := bs) (by omega)
        have a3 := rlong_p (g := g) (L := L) (mo := mo) (N := 99) (H := 99) (bs := bs) (by omega) ha
        have a4 := rgov_p (g := g) (L := L) (mo := mo) (N := 99) (H := 99) (bs := bs) (by omega) (show (wholeP a).a.wf from u_mk _ _)
        have a5 := rgov_p (g := g) (L := L) (mo := mo) (N := 99) (H := 99) (bs := bs) (by omega) hp
        have a6 := rlong_p (g := g) (L := L) (mo := mo) (N := 99) (H := 99) (bs := bs) (by omega) (show p.a.wf from hp)
        have a7 := rins_p (g := g) (L := L) (mo := mo) (N := 99) (H := 99) (bs := bs) hp
        have a8 := sane_px hp
        have hlo := gov_whole hg a
        have hfi := fun h1 h2 => gov_first hg (p := p) h1 h2
        generalize govN L (wholeP a) = lo at *
        generalize govN L (wholeP p.a) = gw at *
        generalize govN L p = gz at *
        generalize insN L p = ins at *
        generalize sanB p = sp at *
        obtain ⟨lx, ok⟩ := lo
        obtain ⟨wx, wok⟩ := gw
        obtain ⟨zx, zok⟩ := gz
        dsimp only [Pr.cells] at a3 a4 a5 a6
        repeat (first | (apply s_alloc; rfl; intro _) | (apply s_store; rfl; rfl; (repeat (first | exact Plc.hit | apply Plc.miss)); constructor; (focus ((simp only [setAt, List.set_cons_zero, List.set_cons_succ, Nat.zero_add, Nat.reduceAdd, Nat.reduceMul]); try rfl)); kernel_rfl; rfl) | (apply s_fcal; rfl; rfl; rfl; (first | assumption); (focus ((repeat (first | exact SeesAll.nil | (apply SeesAll.cons; (first | (focus (apply Sees.vw; (repeat (first | exact List.Mem.head _ | apply List.Mem.tail)); done)) | (focus (apply Sees.own; (repeat (first | exact List.Mem.head _ | apply List.Mem.tail)); done)) | exact Sees.nil | assumption)) | (apply SeesAll.mem; (repeat (first | exact List.Mem.head _ | apply List.Mem.tail))))); done)); (first | exact want_none rfl | (apply want_on; rfl; (first | rfl | assumption | (focus ((repeat (first | assumption | rfl | exact beq_self_eq_true _ | exact bne_self_eq_false _ | apply bOrF | apply bAndT | apply bNotF | apply bNotT | (focus (apply decide_eq_true; omega)) | (focus (apply decide_eq_false; omega)) | (focus (apply bEqT; omega)) | (focus (apply bEqF; omega)) | (focus (apply bNeT; omega)) | (focus (apply bNeF; omega)) | (focus (apply bOrT1; first | assumption | (apply decide_eq_true; omega))) | (focus (apply bOrT2; first | assumption | (apply decide_eq_true; omega))) | (focus (apply bAndF1; first | assumption | (apply decide_eq_false; omega))) | (focus (apply bAndF2; first | assumption | (apply decide_eq_false; omega))))); done))))); rfl; intro _; (try dsimp only [List.cons_append, List.nil_append])) | apply s_st | apply st_go | (focus (first | (apply y_move; rfl) | (apply y_assign; rfl) | (apply y_load; rfl; (repeat (first | exact List.Mem.head _ | apply List.Mem.tail)); (repeat (first | exact Sub.nil | apply Sub.take | apply Sub.drop)); done) | (apply y_rcal; rfl; rfl; rfl; (first | assumption); (repeat (first | exact SeesAll.nil | (apply SeesAll.cons; (first | (focus (apply Sees.vw; (repeat (first | exact List.Mem.head _ | apply List.Mem.tail)); done)) | (focus (apply Sees.own; (repeat (first | exact List.Mem.head _ | apply List.Mem.tail)); done)) | exact Sees.nil | assumption)) | (apply SeesAll.mem; (repeat (first | exact List.Mem.head _ | apply List.Mem.tail))))); done) | (apply y_extract; rfl; (repeat (first | exact At.hit | apply At.miss)); done) | (apply y_len; rfl) | (apply y_lt; rfl; rfl))) | apply s_nil | apply w_seq | apply f_then | apply w_block | apply w_exit | apply f_out | apply f_exit_block | (apply w_cond_ff; rfl; (focus ((repeat (first | assumption | rfl | exact beq_self_eq_true _ | exact bne_self_eq_false _ | apply bOrF | apply bAndT | apply bNotF | apply bNotT | (focus (apply decide_eq_true; omega)) | (focus (apply decide_eq_false; omega)) | (focus (apply bEqT; omega)) | (focus (apply bEqF; omega)) | (focus (apply bNeT; omega)) | (focus (apply bNeF; omega)) | (focus (apply bOrT1; first | assumption | (apply decide_eq_true; omega))) | (focus (apply bOrT2; first | assumption | (apply decide_eq_true; omega))) | (focus (apply bAndF1; first | assumption | (apply decide_eq_false; omega))) | (focus (apply bAndF2; first | assumption | (apply decide_eq_false; omega))))); done))) | (apply w_reg_l; rfl) | exact rfl)
        rename_i d gx
        have hw' := hg.wf
        refine w_loopm (fun s : Nat × Bool => [(14, .int .i64 ((s.1 : Nat) : Int)), (13, .bool s.2)]) (fun s => [.blk gx lx.cells 37, .own d.1 d.2 5 (L.map Pr.cells) 37, ribP g L mo 99 99 bs, .blk gp p.cells 26, .blk ga a.cells 24]) (fun s => s.1 ≤ L.length ∧ (s.2 = true ↔ ∃ j, j < s.1 ∧ ∃ e, L[j]? = some e ∧ conB e.p a = true ∧ e = lx)) (fun s => L.length - s.1) (0, false) ⟨Nat.zero_le _, ⟨fun h => (by cases h), fun ⟨j, hj, _⟩ => absurd hj (Nat.not_lt_zero _)⟩⟩ ?_ ?_ ?_
        · (repeat (first | exact Cov.nil | (apply Cov.cons; rfl) | (apply Cov.seen; rfl)))
        · (repeat (first | exact List.Sublist.refl _ | apply List.Sublist.cons_cons | apply List.Sublist.cons))
        · rintro ⟨k, f⟩ ⟨hk, hf⟩ R hR
          dsimp only at hk hf hR ⊢
          by_cases hlt : k < L.length
          · have hrow := map_get (f := Pr.cells) hlt
            have hge : L[k]? = some L[k] := List.getElem?_eq_getElem hlt
            have k1 := con_s (hw' _ (List.getElem_mem hlt)) ha
            clear a1 a2 a3 a4 a5 a6 a7 a8 hfi
            cases hc : conB L[k].p a with
            | false =>
              rw [hc] at k1
              have hB := hR (k + 1, f) ⟨hlt, by
                dsimp only
                rw [hf]
                constructor
                · rintro ⟨j, hj, e⟩; exact ⟨j, by omega, e⟩
                · rintro ⟨j, hj, e, h1, h2, h3⟩
                  refine ⟨j, ?_, e, h1, h2, h3⟩
                  have : j ≠ k := fun q => by subst q; rw [hge] at h1; cases h1; rw [hc] at h2; cases h2
                  omega⟩ (by dsimp only; omega)
              dsimp only at hB
              rw [← wrap_suc (i := k) (by omega)] at hB
              clear hR hc hlo hf
              generalize L[k] = x at *
              repeat (first | apply s_st | apply q_st | apply st_go | (focus (first | (apply y_move; rfl) | (apply y_assign; rfl) | (apply y_load; rfl; (repeat (first | exact List.Mem.head _ | apply List.Mem.tail)); (repeat (first | exact Sub.nil | apply Sub.take | apply Sub.drop)); done) | (apply y_eload; rfl; (first | (focus (apply Sees.vw; (repeat (first | exact List.Mem.head _ | apply List.Mem.tail)); done)) | (focus (apply Sees.own; (repeat (first | exact List.Mem.head _ | apply List.Mem.tail)); done)) | exact Sees.nil | assumption); (first | assumption | rfl); (repeat (first | exact Sub.nil | apply Sub.take | apply Sub.drop)); done) | (apply y_calls; rfl; rfl; rfl; (first | assumption); done) | (apply y_efaddr; kernel_rfl; rfl) | (apply y_ixaddr; rfl; rfl; (first | (focus (apply Sees.vw; (repeat (first | exact List.Mem.head _ | apply List.Mem.tail)); done)) | (focus (apply Sees.own; (repeat (first | exact List.Mem.head _ | apply List.Mem.tail)); done)) | exact Sees.nil | assumption); (first | rfl | assumption | (focus (simp; done)) | (focus (simp; omega))); (first | assumption | rfl | exact (show (0 : Int) = ((0 : Nat) : Int) from rfl) | exact (show (1 : Int) = ((1 : Nat) : Int) from rfl) | exact (show (2 : Int) = ((2 : Nat) : Int) from rfl) | exact (show (3 : Int) = ((3 : Nat) : Int) from rfl)); (first | assumption | omega | (focus (simp; done)) | (focus (simp; omega))); done) | (apply y_len; rfl) | (apply y_lt; rfl; rfl) | (apply y_add; rfl; rfl))) | apply q_nil | apply s_nil | apply w_seq | apply f_then | apply w_block | apply f_norm_block | (apply f_back; assumption; (repeat (first | exact Cov.nil | (apply Cov.cons; rfl) | (apply Cov.seen; rfl))); (focus ((repeat (first | exact List.Sublist.refl _ | apply List.Sublist.cons_cons | apply List.Sublist.cons)); done))) | apply w_skip | refine w_cond_f rfl ?_ | (apply w_cond_tt; rfl; (focus ((repeat (first | assumption | rfl | exact beq_self_eq_true _ | exact bne_self_eq_false _ | apply bOrF | apply bAndT | apply bNotF | apply bNotT | (focus (apply decide_eq_true; omega)) | (focus (apply decide_eq_false; omega)) | (focus (apply bEqT; omega)) | (focus (apply bEqF; omega)) | (focus (apply bNeT; omega)) | (focus (apply bNeF; omega)) | (focus (apply bOrT1; first | assumption | (apply decide_eq_true; omega))) | (focus (apply bOrT2; first | assumption | (apply decide_eq_true; omega))) | (focus (apply bAndF1; first | assumption | (apply decide_eq_false; omega))) | (focus (apply bAndF2; first | assumption | (apply decide_eq_false; omega))))); done))) | (apply w_draw_l; rfl; kernel_rfl; rfl; kernel_rfl) | (apply w_reg_l; rfl) | exact rfl)
            | true =>
              rw [hc] at k1
              rcases hlo with ⟨_, h2⟩ | ⟨x, hx, hxc, hxn, he⟩
              · have := h2 _ (List.getElem_mem hlt)
                rw [hc] at this; cases this
              · obtain ⟨rfl, rfl⟩ := Prod.mk.inj he
                have hnn := hxn _ (List.getElem_mem hlt) hc
                have hB := hR (k + 1, f || eqPr L[k] lx) ⟨hlt, by
                  dsimp only
                  rw [Bool.or_eq_true, hf, eqPr_iff]
                  constructor
                  · rintro (⟨j, hj, e⟩ | h)
                    · exact ⟨j, by omega, e⟩
                    · exact ⟨k, by omega, _, hge, hc, h⟩
                  · rintro ⟨j, hj, e, h1, h2, h3⟩
                    by_cases hjk : j = k
                    · subst hjk; rw [hge] at h1; cases h1; exact .inr h3
                    · exact .inl ⟨j, by omega, e, h1, h2, h3⟩⟩ (by dsimp only; omega)
                dsimp only at hB
                unfold eqPr eqPx at hB
                rw [← wrap_suc (i := k) (by omega)] at hB
                clear hR hc hf hx hxc hxn he
                generalize L[k] = x at *
                repeat (first | apply s_st | apply q_st | apply st_go | (apply st_on; rfl) | (apply st_if; rfl; intro h1; (try simp only [h1, gv_true, gv_tt])) | (focus (first | (apply y_move; rfl) | (apply y_assign; rfl) | (apply y_not; rfl) | (apply y_load; rfl; (repeat (first | exact List.Mem.head _ | apply List.Mem.tail)); (repeat (first | exact Sub.nil | apply Sub.take | apply Sub.drop)); done) | (apply y_cell; rfl; (repeat (first | exact List.Mem.head _ | apply List.Mem.tail)); (repeat (first | exact At.hit | apply At.miss)); kernel_rfl; done) | (apply y_eload; rfl; (first | (focus (apply Sees.vw; (repeat (first | exact List.Mem.head _ | apply List.Mem.tail)); done)) | (focus (apply Sees.own; (repeat (first | exact List.Mem.head _ | apply List.Mem.tail)); done)) | exact Sees.nil | assumption); (first | assumption | rfl); (repeat (first | exact Sub.nil | apply Sub.take | apply Sub.drop)); done) | (apply y_ecell; rfl; (first | (focus (apply Sees.vw; (repeat (first | exact List.Mem.head _ | apply List.Mem.tail)); done)) | (focus (apply Sees.own; (repeat (first | exact List.Mem.head _ | apply List.Mem.tail)); done)) | exact Sees.nil | assumption); (first | assumption | rfl); (repeat (first | exact At.hit | apply At.miss)); kernel_rfl; done) | (apply y_calls; rfl; rfl; rfl; (first | assumption); done) | (apply y_or; rfl; rfl; done) | (apply y_efaddr; kernel_rfl; rfl) | (apply y_faddr; kernel_rfl; rfl) | (apply y_ixaddr; rfl; rfl; (first | (focus (apply Sees.vw; (repeat (first | exact List.Mem.head _ | apply List.Mem.tail)); done)) | (focus (apply Sees.own; (repeat (first | exact List.Mem.head _ | apply List.Mem.tail)); done)) | exact Sees.nil | assumption); (first | rfl | assumption | (focus (simp; done)) | (focus (simp; omega))); (first | assumption | rfl | exact (show (0 : Int) = ((0 : Nat) : Int) from rfl) | exact (show (1 : Int) = ((1 : Nat) : Int) from rfl) | exact (show (2 : Int) = ((2 : Nat) : Int) from rfl) | exact (show (3 : Int) = ((3 : Nat) : Int) from rfl)); (first | assumption | omega | (focus (simp; done)) | (focus (simp; omega))); done) | (apply y_len; rfl) | (apply y_lt; rfl; rfl) | (apply y_gt; rfl; rfl) | (apply y_add; rfl; rfl) | (apply y_eqs; rfl; rfl; kernel_rfl; exact inferInstance))) | apply q_nil | apply s_nil | apply w_seq | apply f_then | apply w_block | apply f_norm_block | (apply f_back; assumption; (repeat (first | exact Cov.nil | (apply Cov.cons; rfl) | (apply Cov.seen; rfl))); (focus ((repeat (first | exact List.Sublist.refl _ | apply List.Sublist.cons_cons | apply List.Sublist.cons)); done))) | apply w_skip | refine w_cond_t rfl ?_ | (apply w_cond_tt; rfl; (focus ((repeat (first | assumption | rfl | exact beq_self_eq_true _ | exact bne_self_eq_false _ | apply bOrF | apply bAndT | apply bNotF | apply bNotT | (focus (apply decide_eq_true; omega)) | (focus (apply decide_eq_false; omega)) | (focus (apply bEqT; omega)) | (focus (apply bEqF; omega)) | (focus (apply bNeT; omega)) | (focus (apply bNeF; omega)) | (focus (apply bOrT1; first | assumption | (apply decide_eq_true; omega))) | (focus (apply bOrT2; first | assumption | (apply decide_eq_true; omega))) | (focus (apply bAndF1; first | assumption | (apply decide_eq_false; omega))) | (focus (apply bAndF2; first | assumption | (apply decide_eq_false; omega))))); done))) | (apply w_cond_ff; rfl; (focus ((repeat (first | assumption | rfl | exact beq_self_eq_true _ | exact bne_self_eq_false _ | apply bOrF | apply bAndT | apply bNotF | apply bNotT | (focus (apply decide_eq_true; omega)) | (focus (apply decide_eq_false; omega)) | (focus (apply bEqT; omega)) | (focus (apply bEqF; omega)) | (focus (apply bNeT; omega)) | (focus (apply bNeF; omega)) | (focus (apply bOrT1; first | assumption | (apply decide_eq_true; omega))) | (focus (apply bOrT2; first | assumption | (apply decide_eq_true; omega))) | (focus (apply bAndF1; first | assumption | (apply decide_eq_false; omega))) | (focus (apply bAndF2; first | assumption | (apply decide_eq_false; omega))))); done))) | (apply w_draw_l; rfl; kernel_rfl; rfl; kernel_rfl) | (apply w_reg_l; rfl) | exact rfl)
          · obtain rfl : k = L.length := by omega
            have hfo : f = ok := by
              rcases hlo with ⟨e1, h2⟩ | ⟨x, hx, hxc, _, e1⟩
              · obtain ⟨_, rfl⟩ := Prod.mk.inj e1
                cases f with
                | false => rfl
                | true =>
                  obtain ⟨j, _, e, h3, h4, _⟩ := hf.1 rfl
                  rw [h2 e (List.mem_of_getElem? h3)] at h4; cases h4
              · obtain ⟨rfl, rfl⟩ := Prod.mk.inj e1
                obtain ⟨j, hj⟩ := List.getElem?_of_mem hx
                exact hf.2 ⟨j, (List.getElem?_eq_some_iff.1 hj).1, lx, hj, hxc, rfl⟩
            subst hfo
            clear hR hf hlo
            cases sp with
            | false =>
              repeat (first | (apply s_alloc; rfl; intro _) | (apply s_store; rfl; rfl; (repeat (first | exact Plc.hit | apply Plc.miss)); constructor; (focus ((simp only [setAt, List.set_cons_zero, List.set_cons_succ, Nat.zero_add, Nat.reduceAdd, Nat.reduceMul]); try rfl)); kernel_rfl; rfl) | apply s_st | apply st_go | (apply st_off; rfl) | (apply st_offu; rfl) | (apply st_on; rfl) | (apply st_one; rfl; (focus ((repeat (first | assumption | rfl | exact beq_self_eq_true _ | exact bne_self_eq_false _ | apply bOrF | apply bAndT | apply bNotF | apply bNotT | (focus (apply decide_eq_true; omega)) | (focus (apply decide_eq_false; omega)) | (focus (apply bEqT; omega)) | (focus (apply bEqF; omega)) | (focus (apply bNeT; omega)) | (focus (apply bNeF; omega)) | (focus (apply bOrT1; first | assumption | (apply decide_eq_true; omega))) | (focus (apply bOrT2; first | assumption | (apply decide_eq_true; omega))) | (focus (apply bAndF1; first | assumption | (apply decide_eq_false; omega))) | (focus (apply bAndF2; first | assumption | (apply decide_eq_false; omega))))); done))) | (focus (first | (apply y_move; rfl) | (apply y_assign; rfl) | (apply y_load; rfl; (repeat (first | exact List.Mem.head _ | apply List.Mem.tail)); (repeat (first | exact Sub.nil | apply Sub.take | apply Sub.drop)); done) | (apply y_calls; rfl; rfl; rfl; (first | assumption); done) | (apply y_rcal; rfl; rfl; rfl; (first | assumption); (repeat (first | exact SeesAll.nil | (apply SeesAll.cons; (first | (focus (apply Sees.vw; (repeat (first | exact List.Mem.head _ | apply List.Mem.tail)); done)) | (focus (apply Sees.own; (repeat (first | exact List.Mem.head _ | apply List.Mem.tail)); done)) | exact Sees.nil | assumption)) | (apply SeesAll.mem; (repeat (first | exact List.Mem.head _ | apply List.Mem.tail))))); done) | (apply y_and; rfl; rfl; done) | (apply y_and_f; rfl; done) | (apply y_andp; rfl; rfl; done) | (apply y_extract; rfl; (repeat (first | exact At.hit | apply At.miss)); done) | (apply y_faddr; kernel_rfl; rfl) | (apply y_len; rfl) | (apply y_lt; rfl; rfl) | (apply y_eqs; rfl; rfl; kernel_rfl; exact inferInstance) | (apply y_beq; kernel_rfl; rfl; rfl))) | apply s_nil | apply w_seq | apply f_then | apply w_exit | apply f_out | apply f_exit_block | apply w_skip | apply w_ret | refine w_cond_f rfl ?_ | (apply w_cond_ff; rfl; (focus ((repeat (first | assumption | rfl | exact beq_self_eq_true _ | exact bne_self_eq_false _ | apply bOrF | apply bAndT | apply bNotF | apply bNotT | (focus (apply decide_eq_true; omega)) | (focus (apply decide_eq_false; omega)) | (focus (apply bEqT; omega)) | (focus (apply bEqF; omega)) | (focus (apply bNeT; omega)) | (focus (apply bNeF; omega)) | (focus (apply bOrT1; first | assumption | (apply decide_eq_true; omega))) | (focus (apply bOrT2; first | assumption | (apply decide_eq_true; omega))) | (focus (apply bAndF1; first | assumption | (apply decide_eq_false; omega))) | (focus (apply bAndF2; first | assumption | (apply decide_eq_false; omega))))); done))) | (apply f_end; rfl; rfl; rfl; intro w hw; first | exact ans hw | (refine ans_b ?_ hw; (focus ((repeat (first | assumption | rfl | exact beq_self_eq_true _ | exact bne_self_eq_false _ | apply bOrF | apply bAndT | apply bNotF | apply bNotT | (focus (apply decide_eq_true; omega)) | (focus (apply decide_eq_false; omega)) | (focus (apply bEqT; omega)) | (focus (apply bEqF; omega)) | (focus (apply bNeT; omega)) | (focus (apply bNeF; omega)) | (focus (apply bOrT1; first | assumption | (apply decide_eq_true; omega))) | (focus (apply bOrT2; first | assumption | (apply decide_eq_true; omega))) | (focus (apply bAndF1; first | assumption | (apply decide_eq_false; omega))) | (focus (apply bAndF2; first | assumption | (apply decide_eq_false; omega))))); done)))) | (apply w_reg_l; rfl) | exact rfl)
            | true =>
              cases ins with
              | true =>
                repeat (first | (apply s_alloc; rfl; intro _) | (apply s_store; rfl; rfl; (repeat (first | exact Plc.hit | apply Plc.miss)); constructor; (focus ((simp only [setAt, List.set_cons_zero, List.set_cons_succ, Nat.zero_add, Nat.reduceAdd, Nat.reduceMul]); try rfl)); kernel_rfl; rfl) | apply s_st | apply st_go | (apply st_off; rfl) | (apply st_offu; rfl) | (apply st_on; rfl) | (apply st_one; rfl; (focus ((repeat (first | assumption | rfl | exact beq_self_eq_true _ | exact bne_self_eq_false _ | apply bOrF | apply bAndT | apply bNotF | apply bNotT | (focus (apply decide_eq_true; omega)) | (focus (apply decide_eq_false; omega)) | (focus (apply bEqT; omega)) | (focus (apply bEqF; omega)) | (focus (apply bNeT; omega)) | (focus (apply bNeF; omega)) | (focus (apply bOrT1; first | assumption | (apply decide_eq_true; omega))) | (focus (apply bOrT2; first | assumption | (apply decide_eq_true; omega))) | (focus (apply bAndF1; first | assumption | (apply decide_eq_false; omega))) | (focus (apply bAndF2; first | assumption | (apply decide_eq_false; omega))))); done))) | (focus (first | (apply y_move; rfl) | (apply y_assign; rfl) | (apply y_not; rfl) | (apply y_load; rfl; (repeat (first | exact List.Mem.head _ | apply List.Mem.tail)); (repeat (first | exact Sub.nil | apply Sub.take | apply Sub.drop)); done) | (apply y_calls; rfl; rfl; rfl; (first | assumption); done) | (apply y_rcal; rfl; rfl; rfl; (first | assumption); (repeat (first | exact SeesAll.nil | (apply SeesAll.cons; (first | (focus (apply Sees.vw; (repeat (first | exact List.Mem.head _ | apply List.Mem.tail)); done)) | (focus (apply Sees.own; (repeat (first | exact List.Mem.head _ | apply List.Mem.tail)); done)) | exact Sees.nil | assumption)) | (apply SeesAll.mem; (repeat (first | exact List.Mem.head _ | apply List.Mem.tail))))); done) | (apply y_and; rfl; rfl; done) | (apply y_and_f; rfl; done) | (apply y_andp; rfl; rfl; done) | (apply y_extract; rfl; (repeat (first | exact At.hit | apply At.miss)); done) | (apply y_faddr; kernel_rfl; rfl) | (apply y_len; rfl) | (apply y_lt; rfl; rfl) | (apply y_eqs; rfl; rfl; kernel_rfl; exact inferInstance) | (apply y_beq; kernel_rfl; rfl; rfl))) | apply s_nil | apply w_seq | apply f_then | apply w_exit | apply f_out | apply f_exit_block | apply w_skip | apply w_ret | refine w_cond_f rfl ?_ | (apply w_cond_ff; rfl; (focus ((repeat (first | assumption | rfl | exact beq_self_eq_true _ | exact bne_self_eq_false _ | apply bOrF | apply bAndT | apply bNotF | apply bNotT | (focus (apply decide_eq_true; omega)) | (focus (apply decide_eq_false; omega)) | (focus (apply bEqT; omega)) | (focus (apply bEqF; omega)) | (focus (apply bNeT; omega)) | (focus (apply bNeF; omega)) | (focus (apply bOrT1; first | assumption | (apply decide_eq_true; omega))) | (focus (apply bOrT2; first | assumption | (apply decide_eq_true; omega))) | (focus (apply bAndF1; first | assumption | (apply decide_eq_false; omega))) | (focus (apply bAndF2; first | assumption | (apply decide_eq_false; omega))))); done))) | (apply f_end; rfl; rfl; rfl; intro w hw; first | exact ans hw | (refine ans_b ?_ hw; (focus ((repeat (first | assumption | rfl | exact beq_self_eq_true _ | exact bne_self_eq_false _ | apply bOrF | apply bAndT | apply bNotF | apply bNotT | (focus (apply decide_eq_true; omega)) | (focus (apply decide_eq_false; omega)) | (focus (apply bEqT; omega)) | (focus (apply bEqF; omega)) | (focus (apply bNeT; omega)) | (focus (apply bNeF; omega)) | (focus (apply bOrT1; first | assumption | (apply decide_eq_true; omega))) | (focus (apply bOrT2; first | assumption | (apply decide_eq_true; omega))) | (focus (apply bAndF1; first | assumption | (apply decide_eq_false; omega))) | (focus (apply bAndF2; first | assumption | (apply decide_eq_false; omega))))); done)))) | (apply w_reg_l; rfl) | exact rfl)
              | false =>
                obtain ⟨rfl, rfl⟩ := Prod.mk.inj (hfi rfl rfl)
                repeat (first | (apply s_alloc; rfl; intro _) | (apply s_store; rfl; rfl; (repeat (first | exact Plc.hit | apply Plc.miss)); constructor; (focus ((simp only [setAt, List.set_cons_zero, List.set_cons_succ, Nat.zero_add, Nat.reduceAdd, Nat.reduceMul]); try rfl)); kernel_rfl; rfl) | apply s_st | apply st_go | (apply st_on; rfl) | (apply st_one; rfl; (focus ((repeat (first | assumption | rfl | exact beq_self_eq_true _ | exact bne_self_eq_false _ | apply bOrF | apply bAndT | apply bNotF | apply bNotT | (focus (apply decide_eq_true; omega)) | (focus (apply decide_eq_false; omega)) | (focus (apply bEqT; omega)) | (focus (apply bEqF; omega)) | (focus (apply bNeT; omega)) | (focus (apply bNeF; omega)) | (focus (apply bOrT1; first | assumption | (apply decide_eq_true; omega))) | (focus (apply bOrT2; first | assumption | (apply decide_eq_true; omega))) | (focus (apply bAndF1; first | assumption | (apply decide_eq_false; omega))) | (focus (apply bAndF2; first | assumption | (apply decide_eq_false; omega))))); done))) | (focus (first | (apply y_move; rfl) | (apply y_assign; rfl) | (apply y_not; rfl) | (apply y_load; rfl; (repeat (first | exact List.Mem.head _ | apply List.Mem.tail)); (repeat (first | exact Sub.nil | apply Sub.take | apply Sub.drop)); done) | (apply y_calls; rfl; rfl; rfl; (first | assumption); done) | (apply y_rcal; rfl; rfl; rfl; (first | assumption); (repeat (first | exact SeesAll.nil | (apply SeesAll.cons; (first | (focus (apply Sees.vw; (repeat (first | exact List.Mem.head _ | apply List.Mem.tail)); done)) | (focus (apply Sees.own; (repeat (first | exact List.Mem.head _ | apply List.Mem.tail)); done)) | exact Sees.nil | assumption)) | (apply SeesAll.mem; (repeat (first | exact List.Mem.head _ | apply List.Mem.tail))))); done) | (apply y_and; rfl; rfl; done) | (apply y_andp; rfl; rfl; done) | (apply y_orp; rfl; rfl; done) | (apply y_extract; rfl; (repeat (first | exact At.hit | apply At.miss)); done) | (apply y_faddr; kernel_rfl; rfl) | (apply y_len; rfl) | (apply y_lt; rfl; rfl) | (apply y_nes; rfl; rfl; kernel_rfl; exact inferInstance) | (apply y_eqs; rfl; rfl; kernel_rfl; exact inferInstance) | (apply y_beq; kernel_rfl; rfl; rfl) | (apply y_bne; kernel_rfl; rfl; rfl))) | apply s_nil | apply w_seq | apply f_then | apply w_exit | apply f_out | apply f_exit_block | apply w_skip | apply w_ret | (apply w_cond_ff; rfl; (focus ((repeat (first | assumption | rfl | exact beq_self_eq_true _ | exact bne_self_eq_false _ | apply bOrF | apply bAndT | apply bNotF | apply bNotT | (focus (apply decide_eq_true; omega)) | (focus (apply decide_eq_false; omega)) | (focus (apply bEqT; omega)) | (focus (apply bEqF; omega)) | (focus (apply bNeT; omega)) | (focus (apply bNeF; omega)) | (focus (apply bOrT1; first | assumption | (apply decide_eq_true; omega))) | (focus (apply bOrT2; first | assumption | (apply decide_eq_true; omega))) | (focus (apply bAndF1; first | assumption | (apply decide_eq_false; omega))) | (focus (apply bAndF2; first | assumption | (apply decide_eq_false; omega))))); done))) | (apply f_end; rfl; rfl; rfl; intro w hw; first | exact ans hw | (refine ans_b ?_ hw; (focus ((repeat (first | assumption | rfl | exact beq_self_eq_true _ | exact bne_self_eq_false _ | apply bOrF | apply bAndT | apply bNotF | apply bNotT | (focus (apply decide_eq_true; omega)) | (focus (apply decide_eq_false; omega)) | (focus (apply bEqT; omega)) | (focus (apply bEqF; omega)) | (focus (apply bNeT; omega)) | (focus (apply bNeF; omega)) | (focus (apply bOrT1; first | assumption | (apply decide_eq_true; omega))) | (focus (apply bOrT2; first | assumption | (apply decide_eq_true; omega))) | (focus (apply bAndF1; first | assumption | (apply decide_eq_false; omega))) | (focus (apply bAndF2; first | assumption | (apply decide_eq_false; omega))))); done)))) | (apply w_reg_l; rfl) | exact rfl)
  · refine enter_r rfl Try.func7 rfl Try.ntmps7 rfl (fun Wo => ?_)
    repeat (first | (apply s_box; rfl; constructor; rfl; intro _) | apply s_st | apply st_go | (focus (first | (apply y_move; rfl) | (apply y_assign; rfl) | (apply y_calls; rfl; rfl; rfl; (first | assumption); done) | (apply y_len; rfl) | (apply y_gt; rfl; rfl))) | apply s_nil | apply w_seq | apply f_then | apply f_ret | apply w_ret | (apply w_cond_tt; rfl; (focus ((repeat (first | assumption | rfl | exact beq_self_eq_true _ | exact bne_self_eq_false _ | apply bOrF | apply bAndT | apply bNotF | apply bNotT | (focus (apply decide_eq_true; omega)) | (focus (apply decide_eq_false; omega)) | (focus (apply bEqT; omega)) | (focus (apply bEqF; omega)) | (focus (apply bNeT; omega)) | (focus (apply bNeF; omega)) | (focus (apply bOrT1; first | assumption | (apply decide_eq_true; omega))) | (focus (apply bOrT2; first | assumption | (apply decide_eq_true; omega))) | (focus (apply bAndF1; first | assumption | (apply decide_eq_false; omega))) | (focus (apply bAndF2; first | assumption | (apply decide_eq_false; omega))))); done))) | (apply f_end; rfl; rfl; rfl; intro w hw; first | exact ans hw | (refine ans_b ?_ hw; (focus ((repeat (first | assumption | rfl | exact beq_self_eq_true _ | exact bne_self_eq_false _ | apply bOrF | apply bAndT | apply bNotF | apply bNotT | (focus (apply decide_eq_true; omega)) | (focus (apply decide_eq_false; omega)) | (focus (apply bEqT; omega)) | (focus (apply bEqF; omega)) | (focus (apply bNeT; omega)) | (focus (apply bNeF; omega)) | (focus (apply bOrT1; first | assumption | (apply decide_eq_true; omega))) | (focus (apply bOrT2; first | assumption | (apply decide_eq_true; omega))) | (focus (apply bAndF1; first | assumption | (apply decide_eq_false; omega))) | (focus (apply bAndF2; first | assumption | (apply decide_eq_false; omega))))); done)))) | (apply w_reg_l; rfl) | exact rfl)
end Go.Proofs.Ytjhapdcojcmjlaa.Hand
