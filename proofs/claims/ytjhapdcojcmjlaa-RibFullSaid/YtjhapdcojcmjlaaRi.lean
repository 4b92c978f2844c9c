/-
  kedgelaw06: what so many acts leave; the document's example.
-/
import Derived.Test.YtjhapdcojcmjlaaRh
import Derived.Test.YtjhapdcojcmjlaaPd
namespace Go.Proofs.Ytjhapdcojcmjlaa.Hand
open Go.RowKit Go.Proofs.Ytjhapdcojcmjlaa.Bits Go.Proofs.Ytjhapdcojcmjlaa.Dig Go.Proofs.Ytjhapdcojcmjlaa.Sq
set_option linter.unusedVariables false
set_option linter.unusedSimpArgs false
set_option maxRecDepth 100000
set_option maxHeartbeats 1000000
theorem rnd_rng {L : List Pr} (hg : GoodL L) : 2 ≤ nodesN L ∧ nodesN L ≤ 2 + 128 * (L.length : Int) := ndT_rng L hg.sane L.length
/-- What so many acts leave. -/
structure RI (n : Nat) (L : List Pr) (mo N H : Int) : Prop where
  good : GoodL L
  len : L.length ≤ n
  hi : mo ≤ 2 + 128 * (n : Int)
  room : (L.length : Int) ≤ N
  hops : (hopsN L : Int) ≤ H
  hop : ∀ e ∈ L, 0 ≤ e.v ∧ e.v ≤ 65535
theorem ri_zero {N H : Int} (hN : 0 ≤ N) (hH : 0 ≤ H) : RI 0 [] 2 N H := ⟨GoodL.nil, Nat.le_refl _, by decide, hN, hH, fun _ h => by cases h⟩
theorem RI.more {n : Nat} {L : List Pr} {mo N H : Int} (h : RI n L mo N H) : RI (n + 1) L mo N H := ⟨h.good, by have := h.len; omega, by have := h.hi; omega, h.room, h.hops, h.hop⟩
theorem hops_sub {L M : List Pr} (h : ∀ e ∈ M, ∃ f ∈ L, f.v = e.v) : hopsN M ≤ hopsN L := nodup_len (unlike_nodup _) fun k hk => by
  rw [unlike_mem, List.mem_map] at hk ⊢
  obtain ⟨e, he, rfl⟩ := hk
  obtain ⟨f, hf, hq⟩ := h e he
  exact ⟨f, hf, hq⟩
theorem del_ri {n : Nat} {L : List Pr} {mo N H : Int} (h : RI n L mo N H) (p : Px) : RI n (delN L p).1 mo N H := by
  cases hh : (getN L p).2 with
  | true =>
    rw [del_had h.good hh]
    have ho : (outN L p).length ≤ L.length := List.length_filter_le _ _
    have hs : hopsN (outN L p) ≤ hopsN L := hops_sub fun e he => ⟨e, (out_mem.1 he).1, rfl⟩
    exact ⟨out_good h.good p, Nat.le_trans ho h.len, h.hi, by have := h.room; dsimp only; omega, by have := h.hops; dsimp only; omega, fun e he => h.hop e (out_mem.1 he).1⟩
  | false => rw [del_not h.good hh]; exact h
theorem add_ri {n : Nat} {L : List Pr} {mo N H : Int} (h : RI n L mo N H) (p : Px) (hop : Int) : RI (n + 1) (addN L mo N H p hop).1 (addN L mo N H p hop).2.1 N H := by
  unfold addN
  split
  · rename_i hs
    split
    · rename_i hh
      split
      · rename_i hf
        have hf' := of_decide_eq_true hf
        obtain ⟨h1, h2⟩ := put_spec (v := hop) hs h.good
        have hl := put_len h.good hs hop
        have ho : (outN L p).length ≤ L.length := List.length_filter_le _ _
        have hr := rnd_rng h1
        have := h.len
        have := h.hi
        refine ⟨h1, by dsimp only; omega, ?_, hf'.1, hf'.2, fun e he => ?_⟩
        · dsimp only; unfold mx2; split <;> omega
        · rcases (h2 e).1 he with rfl | ⟨q, _⟩
          · exact hh
          · exact h.hop e q
      · exact h.more
    · exact h.more
  · exact h.more
noncomputable def doR (L : List Pr) (mo N H : Int) (o : Ac5) : List Pr × Int × Int := if o.out = true then ((delN L o.p).1, mo, (delN L o.p).2) else addN L mo N H o.p o.v
theorem do_ri {n : Nat} {L : List Pr} {mo N H : Int} (h : RI n L mo N H) (o : Ac5) : RI (n + 1) (doR L mo N H o).1 (doR L mo N H o).2.1 N H := by
  unfold doR
  split
  · exact (del_ri h o.p).more
  · exact add_ri h o.p o.v
theorem rdo_p {g : Nat} {L : List Pr} {mo N H : Int} {bs : List Nat} {n : Nat} (h : RI n L mo N H) (hn : n ≤ 10000) {o : Ac5} (hp : o.p.a.wf) : Tri Try.prog 25 [.pointer (some ⟨g, 0, none⟩), .agg o.cells.toArray] [ribP g L mo N H bs] (RetX fun b : List Nat × Unit => (.int .i64 (doR L mo N H o).2.2, [ribP g (doR L mo N H o).1 (doR L mo N H o).2.1 N H b.1])) := by
  have hl := h.len
  have hi := h.hi
  unfold doR
  obtain ⟨out, p, v⟩ := o
  cases out with
  | true =>
    rw [if_pos rfl]
    have k1 := rwd_p (g := g) (bs := bs) (N := N) (H := H) h.good hp (by omega) (show mo ≤ 10000000 by omega)
    refine enter_t Try.func25 rfl Try.ntmps25 rfl (fun Wo Fo fro => ?_)
    repeat (first | (apply s_box; rfl; constructor; rfl; intro _) | (apply s_trix; rfl; rfl; rfl; (first | assumption); (repeat (first | exact Tk.nil | (apply Tk.see; (first | (focus (apply VSees.vw; (repeat (first | exact List.Mem.head _ | apply List.Mem.tail)); done)) | exact VSees.nil | assumption)) | (apply Tk.see; exact VSees.nil) | (apply Tk.take; (repeat (first | exact Plc.hit | apply Plc.miss))))); rfl; intro _; (try dsimp only [List.cons_append, List.nil_append])) | apply s_st | apply st_go | (focus (first | (apply y_move; rfl) | (apply y_assign; rfl) | (apply y_load; rfl; (repeat (first | exact List.Mem.head _ | apply List.Mem.tail)); (repeat (first | exact Sub.nil | apply Sub.take | apply Sub.drop)); done) | (apply y_cell; rfl; (repeat (first | exact List.Mem.head _ | apply List.Mem.tail)); (repeat (first | exact At.hit | apply At.miss)); kernel_rfl; done) | (apply y_faddr; kernel_rfl; rfl))) | apply s_nil | apply w_seq | apply f_then | apply f_ret | apply w_ret | refine w_cond_t rfl ?_ | (apply f_end; rfl; rfl; rfl; intro w hw; first | exact ans hw | (refine ans_b ?_ hw; (focus ((repeat (first | assumption | rfl | exact beq_self_eq_true _ | exact bne_self_eq_false _ | apply bOrF | apply bAndT | apply bNotF | apply bNotT | (focus (apply decide_eq_true; omega)) | (focus (apply decide_eq_false; omega)) | (focus (apply bEqT; omega)) | (focus (apply bEqF; omega)) | (focus (apply bNeT; omega)) | (focus (apply bNeF; omega)) | (focus (apply bOrT1; first | assumption | (apply decide_eq_true; omega))) | (focus (apply bOrT2; first | assumption | (apply decide_eq_true; omega))) | (focus (apply bAndF1; first | assumption | (apply decide_eq_false; omega))) | (focus (apply bAndF2; first | assumption | (apply decide_eq_false; omega))))); done))) | (apply t_endS1 hw; rfl; (focus ((repeat (first | exact List.Sublist.refl _ | apply List.Sublist.cons_cons | apply List.Sublist.cons)); done))) | (apply t_endU hw; rfl; (focus ((repeat (first | exact List.Sublist.refl _ | apply List.Sublist.cons_cons | apply List.Sublist.cons)); done))) | (apply t_endX1 hw; rfl; (focus ((repeat (first | exact List.Sublist.refl _ | apply List.Sublist.cons_cons | apply List.Sublist.cons)); done))) | (refine t_end ⟨rfl, rfl⟩ ?_ w hw; (focus ((repeat (first | exact List.Sublist.refl _ | apply List.Sublist.cons_cons | apply List.Sublist.cons)); done))) | (apply t_endUT hw; rfl; (focus ((repeat (first | exact Tk.nil | (apply Tk.see; (first | (focus (apply VSees.vw; (repeat (first | exact List.Mem.head _ | apply List.Mem.tail)); done)) | exact VSees.nil | assumption)) | (apply Tk.see; exact VSees.nil) | (apply Tk.take; (repeat (first | exact Plc.hit | apply Plc.miss))))); done)); (focus ((repeat (first | exact List.Sublist.refl _ | apply List.Sublist.cons_cons | apply List.Sublist.cons)); done))) | (apply t_endXT hw; rfl; (repeat (first | exact Tk.nil | (apply Tk.see; (first | (focus (apply VSees.vw; (repeat (first | exact List.Mem.head _ | apply List.Mem.tail)); done)) | exact VSees.nil | assumption)) | (apply Tk.see; exact VSees.nil) | (apply Tk.take; (repeat (first | exact Plc.hit | apply Plc.miss))))); (focus ((repeat (first | exact List.Sublist.refl _ | apply List.Sublist.cons_cons | apply List.Sublist.cons)); done)))) | (apply w_reg_l; rfl) | exact rfl)
  | false =>
    rw [if_neg (fun q : false = true => by cases q)]
    have k1 := radd_p (g := g) (bs := bs) (H := H) h.good hp h.room (by omega) (show mo ≤ 10000000 by omega) v
    refine enter_t Try.func25 rfl Try.ntmps25 rfl (fun Wo Fo fro => ?_)
    repeat (first | (apply s_box; rfl; constructor; rfl; intro _) | (apply s_trix; rfl; rfl; rfl; (first | assumption); (repeat (first | exact Tk.nil | (apply Tk.see; (first | (focus (apply VSees.vw; (repeat (first | exact List.Mem.head _ | apply List.Mem.tail)); done)) | exact VSees.nil | assumption)) | (apply Tk.see; exact VSees.nil) | (apply Tk.take; (repeat (first | exact Plc.hit | apply Plc.miss))))); rfl; intro _; (try dsimp only [List.cons_append, List.nil_append])) | apply s_st | apply st_go | (focus (first | (apply y_move; rfl) | (apply y_assign; rfl) | (apply y_load; rfl; (repeat (first | exact List.Mem.head _ | apply List.Mem.tail)); (repeat (first | exact Sub.nil | apply Sub.take | apply Sub.drop)); done) | (apply y_cell; rfl; (repeat (first | exact List.Mem.head _ | apply List.Mem.tail)); (repeat (first | exact At.hit | apply At.miss)); kernel_rfl; done) | (apply y_faddr; kernel_rfl; rfl))) | apply s_nil | apply w_seq | apply f_then | apply w_skip | apply w_ret | refine w_cond_f rfl ?_ | (apply f_end; rfl; rfl; rfl; intro w hw; first | exact ans hw | (refine ans_b ?_ hw; (focus ((repeat (first | assumption | rfl | exact beq_self_eq_true _ | exact bne_self_eq_false _ | apply bOrF | apply bAndT | apply bNotF | apply bNotT | (focus (apply decide_eq_true; omega)) | (focus (apply decide_eq_false; omega)) | (focus (apply bEqT; omega)) | (focus (apply bEqF; omega)) | (focus (apply bNeT; omega)) | (focus (apply bNeF; omega)) | (focus (apply bOrT1; first | assumption | (apply decide_eq_true; omega))) | (focus (apply bOrT2; first | assumption | (apply decide_eq_true; omega))) | (focus (apply bAndF1; first | assumption | (apply decide_eq_false; omega))) | (focus (apply bAndF2; first | assumption | (apply decide_eq_false; omega))))); done))) | (apply t_endS1 hw; rfl; (focus ((repeat (first | exact List.Sublist.refl _ | apply List.Sublist.cons_cons | apply List.Sublist.cons)); done))) | (apply t_endU hw; rfl; (focus ((repeat (first | exact List.Sublist.refl _ | apply List.Sublist.cons_cons | apply List.Sublist.cons)); done))) | (apply t_endX1 hw; rfl; (focus ((repeat (first | exact List.Sublist.refl _ | apply List.Sublist.cons_cons | apply List.Sublist.cons)); done))) | (refine t_end ⟨rfl, rfl⟩ ?_ w hw; (focus ((repeat (first | exact List.Sublist.refl _ | apply List.Sublist.cons_cons | apply List.Sublist.cons)); done))) | (apply t_endUT hw; rfl; (focus ((repeat (first | exact Tk.nil | (apply Tk.see; (first | (focus (apply VSees.vw; (repeat (first | exact List.Mem.head _ | apply List.Mem.tail)); done)) | exact VSees.nil | assumption)) | (apply Tk.see; exact VSees.nil) | (apply Tk.take; (repeat (first | exact Plc.hit | apply Plc.miss))))); done)); (focus ((repeat (first | exact List.Sublist.refl _ | apply List.Sublist.cons_cons | apply List.Sublist.cons)); done))) | (apply t_endXT hw; rfl; (repeat (first | exact Tk.nil | (apply Tk.see; (first | (focus (apply VSees.vw; (repeat (first | exact List.Mem.head _ | apply List.Mem.tail)); done)) | exact VSees.nil | assumption)) | (apply Tk.see; exact VSees.nil) | (apply Tk.take; (repeat (first | exact Plc.hit | apply Plc.miss))))); (focus ((repeat (first | exact List.Sublist.refl _ | apply List.Sublist.cons_cons | apply List.Sublist.cons)); done)))) | (apply w_reg_l; rfl) | exact rfl)
theorem put_nil {p : Px} (v : Int) : putG p v false [] = [⟨p, v⟩] := by rw [putG, if_neg (by decide)]
theorem one_good {p : Px} (hs : sanB p = true) (v : Int) : GoodL [⟨p, v⟩] := ⟨fun e he => by obtain rfl := List.mem_singleton.1 he; exact hs, List.pairwise_singleton _ _⟩
theorem put_one {p : Px} (hs : sanB p = true) (v w : Int) : putG p v false [⟨p, w⟩] = [⟨p, v⟩] := by
  obtain ⟨h1, h2⟩ := put_spec (v := v) hs (one_good hs w)
  refine GoodL.ext h1 (one_good hs v) fun e => ?_
  rw [h2, List.mem_singleton, List.mem_singleton]
  constructor
  · rintro (h | ⟨h, hn⟩)
    · exact h
    · subst h
      exact absurd rfl hn
  · exact .inl
abbrev lR : List Int := [10, 0, 0, 0]
theorem awake06_s : Cal Try.prog 14 [] (.bool true) := by
  have f1 : ∀ A c, RCal Try.prog 51 [.slice A 4 c] [.vw A c 1 (lR.map u8c)] (.tuple #[(adL lR).val, .int .i64 0]) := from_s lR false rfl (by decide)
  have k1 : Cal Try.prog 30 [(adL lR).val, .int .i64 8] (pxL lR 8).val := of_L lR (c := 8) (by decide)
  have k2 : Cal Try.prog 30 [(adL lR).val, .int .i64 9] (pxL lR 9).val := of_L lR (c := 9) (by decide)
  have hs := pxL_sane lR (c := 8) (by decide)
  have hs9 := pxL_sane lR (c := 9) (by decide)
  have hw := pxL_wf lR 8
  have hw9 := pxL_wf lR 9
  have hn : (pxL lR 8).n = 8 := rfl
  have hn9 : (pxL lR 9).n = 9 := rfl
  have k3 := rnew_p 9 1
  have eN : mx2 0 (mn2 9 4096) = 9 := rfl
  have eH : mx2 0 (mn2 1 65536) = 1 := rfl
  rw [eN, eH] at k3
  have k4 := fun g bs => radd_p (g := g) (L := []) (mo := 2) (N := 9) (H := 1) (bs := bs) GoodL.nil hw (by decide) (by decide) (by decide) 1
  have e4 : addN [] 2 9 1 (pxL lR 8) 1 = ([⟨pxL lR 8, 1⟩], mx2 2 (nodesN [⟨pxL lR 8, 1⟩]), 0) := by
    unfold addN fitB
    rw [if_pos hs, if_pos (by decide), put_nil, if_pos (decide_eq_true ⟨by decide, (show ((1 : Nat) : Int) ≤ 1 by decide)⟩)]
  have eM : ∀ v, mx2 2 (nodesN [⟨pxL lR 8, v⟩]) = 10 := fun v => by
    have : nodesN [⟨pxL lR 8, v⟩] = 10 := by show 2 + ((pxL lR 8).n - 0) = 10; rw [hn]; rfl
    rw [this]; rfl
  rw [e4, eM] at k4
  have k5 := fun g bs => radd_p (g := g) (L := [⟨pxL lR 8, 1⟩]) (mo := 10) (N := 9) (H := 1) (bs := bs) (one_good hs 1) hw (by decide) (by decide) (by decide) 2
  have e5 : addN [⟨pxL lR 8, 1⟩] 10 9 1 (pxL lR 8) 2 = ([⟨pxL lR 8, 2⟩], 10, 0) := by
    unfold addN fitB
    rw [if_pos hs, if_pos (by decide), put_one hs, if_pos (decide_eq_true ⟨by decide, (show ((1 : Nat) : Int) ≤ 1 by decide)⟩)]
    have : nodesN [⟨pxL lR 8, 2⟩] = 10 := by show 2 + ((pxL lR 8).n - 0) = 10; rw [hn]; rfl
    rw [this]; rfl
  rw [e5] at k5
  have k6 := fun g bs => radd_p (g := g) (L := [⟨pxL lR 8, 2⟩]) (mo := 10) (N := 9) (H := 1) (bs := bs) (one_good hs 2) hw9 (by decide) (by decide) (by decide) 1
  have e6 : addN [⟨pxL lR 8, 2⟩] 10 9 1 (pxL lR 9) 1 = ([⟨pxL lR 8, 2⟩], 10, 3) := by
    obtain ⟨q1, q2⟩ := put_spec (v := 1) hs9 (one_good hs 2)
    have hne : pxL lR 8 ≠ pxL lR 9 := fun q => by
      have := congrArg Px.n q
      rw [hn, hn9] at this
      exact absurd this (by decide)
    have h2 : 2 ≤ hopsN (putG (pxL lR 9) 1 false [⟨pxL lR 8, 2⟩]) := nodup_len (l := [1, 2]) (by decide) fun k hk => by
      rw [unlike_mem, List.mem_map]
      rcases List.mem_cons.1 hk with rfl | hk
      · exact ⟨⟨pxL lR 9, 1⟩, (q2 _).2 (.inl rfl), rfl⟩
      · obtain rfl := List.mem_singleton.1 hk
        exact ⟨⟨pxL lR 8, 2⟩, (q2 _).2 (.inr ⟨List.mem_singleton.2 rfl, hne⟩), rfl⟩
    unfold addN fitB
    rw [if_pos hs9, if_pos (by decide), if_neg (fun q => by have := (of_decide_eq_true q).2; omega)]
  rw [e6] at k6
  have k7 := fun g bs => rlong_p (g := g) (L := [⟨pxL lR 8, 2⟩]) (mo := 10) (N := 9) (H := 1) (bs := bs) (by decide) (adL_wf lR)
  have e7 : govN [⟨pxL lR 8, 2⟩] (wholeP (adL lR)) = (⟨pxL lR 8, 2⟩, true) := by
    have hc : cvB (pxL lR 8) (wholeP (adL lR)) = true := by rw [← con_cov, pxL_con lR lR (by decide), conD_self]
    refine gov_some ?_
    unfold aboveN
    rw [List.filter_cons, if_pos hc]
    rfl
  rw [e7] at k7
  have k8 := fun g bs => rdump_p (g := g) (L := [⟨pxL lR 8, 2⟩]) (mo := 10) (N := 9) (H := 1) (bs := bs) (by decide)
  dsimp only [Pr.cells, List.length_singleton] at k4 k5 k6 k7 k8
  generalize pxL lR 8 = z at *
  generalize pxL lR 9 = y at *
  refine Cal.mk fun Wo => enter (F := fun _ => False) Try.func14 rfl Try.ntmps14 rfl ?_
  repeat (first | (apply s_alloc; rfl; intro _) | (apply s_bslice; (repeat (first | exact PRows.nil | (apply PRows.cons; rfl; constructor; rfl))); rfl; rfl; intro _) | (apply s_store; rfl; rfl; (repeat (first | exact Plc.hit | apply Plc.miss)); constructor; (focus ((simp only [setAt, List.set_cons_zero, List.set_cons_succ, Nat.zero_add, Nat.reduceAdd, Nat.reduceMul]); try rfl)); kernel_rfl; rfl) | (apply s_trix; rfl; rfl; rfl; assumption; (repeat (first | exact Tk.nil | (apply Tk.see; (first | (focus (apply VSees.vw; (repeat (first | exact List.Mem.head _ | apply List.Mem.tail)); done)) | exact VSees.nil | assumption)) | (apply Tk.see; exact VSees.nil) | (apply Tk.take; (repeat (first | exact Plc.hit | apply Plc.miss))))); rfl; intro _; (try dsimp only [List.cons_append, List.nil_append])) | (apply s_fcalq; rfl; rfl; rfl; (exact k8 _); (focus ((repeat (first | exact SeesAll.nil | (apply SeesAll.cons; (first | (focus (apply Sees.vw; (repeat (first | exact List.Mem.head _ | apply List.Mem.tail)); done)) | (focus (apply Sees.own; (repeat (first | exact List.Mem.head _ | apply List.Mem.tail)); done)) | exact Sees.nil | assumption)) | (apply SeesAll.mem; (repeat (first | exact List.Mem.head _ | apply List.Mem.tail))))); done)); (first | exact want_none rfl | (apply want_on; rfl; (first | rfl | assumption | (focus ((repeat (first | assumption | rfl | exact beq_self_eq_true _ | exact bne_self_eq_false _ | apply bOrF | apply bAndT | apply bNotF | apply bNotT | (focus (apply decide_eq_true; omega)) | (focus (apply decide_eq_false; omega)) | (focus (apply bEqT; omega)) | (focus (apply bEqF; omega)) | (focus (apply bNeT; omega)) | (focus (apply bNeF; omega)) | (focus (apply bOrT1; first | assumption | (apply decide_eq_true; omega))) | (focus (apply bOrT2; first | assumption | (apply decide_eq_true; omega))) | (focus (apply bAndF1; first | assumption | (apply decide_eq_false; omega))) | (focus (apply bAndF2; first | assumption | (apply decide_eq_false; omega))))); done))))); rfl; intro _; (try dsimp only [List.cons_append, List.nil_append])) | (apply s_trixq; rfl; rfl; rfl; (exact k4 _); (repeat (first | exact Tk.nil | (apply Tk.see; (first | (focus (apply VSees.vw; (repeat (first | exact List.Mem.head _ | apply List.Mem.tail)); done)) | exact VSees.nil | assumption)) | (apply Tk.see; exact VSees.nil) | (apply Tk.take; (repeat (first | exact Plc.hit | apply Plc.miss))))); (first | exact want_none rfl | (apply want_on; rfl; (first | rfl | assumption | (focus ((repeat (first | assumption | rfl | exact beq_self_eq_true _ | exact bne_self_eq_false _ | apply bOrF | apply bAndT | apply bNotF | apply bNotT | (focus (apply decide_eq_true; omega)) | (focus (apply decide_eq_false; omega)) | (focus (apply bEqT; omega)) | (focus (apply bEqF; omega)) | (focus (apply bNeT; omega)) | (focus (apply bNeF; omega)) | (focus (apply bOrT1; first | assumption | (apply decide_eq_true; omega))) | (focus (apply bOrT2; first | assumption | (apply decide_eq_true; omega))) | (focus (apply bAndF1; first | assumption | (apply decide_eq_false; omega))) | (focus (apply bAndF2; first | assumption | (apply decide_eq_false; omega))))); done))))); rfl; intro _; (try dsimp only [List.cons_append, List.nil_append])) | (apply s_trixq; rfl; rfl; rfl; (exact k5 _); (repeat (first | exact Tk.nil | (apply Tk.see; (first | (focus (apply VSees.vw; (repeat (first | exact List.Mem.head _ | apply List.Mem.tail)); done)) | exact VSees.nil | assumption)) | (apply Tk.see; exact VSees.nil) | (apply Tk.take; (repeat (first | exact Plc.hit | apply Plc.miss))))); (first | exact want_none rfl | (apply want_on; rfl; (first | rfl | assumption | (focus ((repeat (first | assumption | rfl | exact beq_self_eq_true _ | exact bne_self_eq_false _ | apply bOrF | apply bAndT | apply bNotF | apply bNotT | (focus (apply decide_eq_true; omega)) | (focus (apply decide_eq_false; omega)) | (focus (apply bEqT; omega)) | (focus (apply bEqF; omega)) | (focus (apply bNeT; omega)) | (focus (apply bNeF; omega)) | (focus (apply bOrT1; first | assumption | (apply decide_eq_true; omega))) | (focus (apply bOrT2; first | assumption | (apply decide_eq_true; omega))) | (focus (apply bAndF1; first | assumption | (apply decide_eq_false; omega))) | (focus (apply bAndF2; first | assumption | (apply decide_eq_false; omega))))); done))))); rfl; intro _; (try dsimp only [List.cons_append, List.nil_append])) | (apply s_trixq; rfl; rfl; rfl; (exact k6 _); (repeat (first | exact Tk.nil | (apply Tk.see; (first | (focus (apply VSees.vw; (repeat (first | exact List.Mem.head _ | apply List.Mem.tail)); done)) | exact VSees.nil | assumption)) | (apply Tk.see; exact VSees.nil) | (apply Tk.take; (repeat (first | exact Plc.hit | apply Plc.miss))))); (first | exact want_none rfl | (apply want_on; rfl; (first | rfl | assumption | (focus ((repeat (first | assumption | rfl | exact beq_self_eq_true _ | exact bne_self_eq_false _ | apply bOrF | apply bAndT | apply bNotF | apply bNotT | (focus (apply decide_eq_true; omega)) | (focus (apply decide_eq_false; omega)) | (focus (apply bEqT; omega)) | (focus (apply bEqF; omega)) | (focus (apply bNeT; omega)) | (focus (apply bNeF; omega)) | (focus (apply bOrT1; first | assumption | (apply decide_eq_true; omega))) | (focus (apply bOrT2; first | assumption | (apply decide_eq_true; omega))) | (focus (apply bAndF1; first | assumption | (apply decide_eq_false; omega))) | (focus (apply bAndF2; first | assumption | (apply decide_eq_false; omega))))); done))))); rfl; intro _; (try dsimp only [List.cons_append, List.nil_append])) | apply s_st | apply st_go | (apply st_on; rfl) | (focus (first | (apply y_move; rfl) | (apply y_assign; rfl) | (apply y_load; rfl; (repeat (first | exact List.Mem.head _ | apply List.Mem.tail)); (repeat (first | exact Sub.nil | apply Sub.take | apply Sub.drop)); done) | (apply y_cell; rfl; (repeat (first | exact List.Mem.head _ | apply List.Mem.tail)); (repeat (first | exact At.hit | apply At.miss)); kernel_rfl; done) | (apply y_calls; rfl; rfl; rfl; (first | assumption | exact f1 _ _ | exact k4 _ | exact k5 _ | exact k6 _ | exact k7 _ | exact k8 _); done) | (apply y_rcal; rfl; rfl; rfl; (exact f1 _ _); (repeat (first | exact SeesAll.nil | (apply SeesAll.cons; (first | (focus (apply Sees.vw; (repeat (first | exact List.Mem.head _ | apply List.Mem.tail)); done)) | (focus (apply Sees.own; (repeat (first | exact List.Mem.head _ | apply List.Mem.tail)); done)) | exact Sees.nil | assumption)) | (apply SeesAll.mem; (repeat (first | exact List.Mem.head _ | apply List.Mem.tail))))); done) | (apply y_rcalq; rfl; rfl; rfl; (exact k7 _); (repeat (first | exact SeesAll.nil | (apply SeesAll.cons; (first | (focus (apply Sees.vw; (repeat (first | exact List.Mem.head _ | apply List.Mem.tail)); done)) | (focus (apply Sees.own; (repeat (first | exact List.Mem.head _ | apply List.Mem.tail)); done)) | exact Sees.nil | assumption)) | (apply SeesAll.mem; (repeat (first | exact List.Mem.head _ | apply List.Mem.tail))))); done) | (apply y_and; rfl; rfl; done) | (apply y_extract; rfl; (repeat (first | exact At.hit | apply At.miss)); done) | (apply y_faddr; kernel_rfl; rfl) | (apply y_len; rfl) | (apply y_eq; rfl; rfl))) | apply s_nil | apply w_seq | apply f_then | apply w_ret | (apply f_end; rfl; rfl; rfl; intro w hw; first | exact ans hw | (refine ans_b ?_ hw; (focus ((repeat (first | assumption | rfl | exact beq_self_eq_true _ | exact bne_self_eq_false _ | apply bOrF | apply bAndT | apply bNotF | apply bNotT | (focus (apply decide_eq_true; omega)) | (focus (apply decide_eq_false; omega)) | (focus (apply bEqT; omega)) | (focus (apply bEqF; omega)) | (focus (apply bNeT; omega)) | (focus (apply bNeF; omega)) | (focus (apply bOrT1; first | assumption | (apply decide_eq_true; omega))) | (focus (apply bOrT2; first | assumption | (apply decide_eq_true; omega))) | (focus (apply bAndF1; first | assumption | (apply decide_eq_false; omega))) | (focus (apply bAndF2; first | assumption | (apply decide_eq_false; omega))))); done))) | (apply t_endS1 hw; rfl; (focus ((repeat (first | exact List.Sublist.refl _ | apply List.Sublist.cons_cons | apply List.Sublist.cons)); done))) | (apply t_endU hw; rfl; (focus ((repeat (first | exact List.Sublist.refl _ | apply List.Sublist.cons_cons | apply List.Sublist.cons)); done))) | (apply t_endX1 hw; rfl; (focus ((repeat (first | exact List.Sublist.refl _ | apply List.Sublist.cons_cons | apply List.Sublist.cons)); done))) | (refine t_end ⟨rfl, rfl⟩ ?_ w hw; (focus ((repeat (first | exact List.Sublist.refl _ | apply List.Sublist.cons_cons | apply List.Sublist.cons)); done))) | (apply t_endUT hw; rfl; (focus ((repeat (first | exact Tk.nil | (apply Tk.see; (first | (focus (apply VSees.vw; (repeat (first | exact List.Mem.head _ | apply List.Mem.tail)); done)) | exact VSees.nil | assumption)) | (apply Tk.see; exact VSees.nil) | (apply Tk.take; (repeat (first | exact Plc.hit | apply Plc.miss))))); done)); (focus ((repeat (first | exact List.Sublist.refl _ | apply List.Sublist.cons_cons | apply List.Sublist.cons)); done))) | (apply t_endXT hw; rfl; (repeat (first | exact Tk.nil | (apply Tk.see; (first | (focus (apply VSees.vw; (repeat (first | exact List.Mem.head _ | apply List.Mem.tail)); done)) | exact VSees.nil | assumption)) | (apply Tk.see; exact VSees.nil) | (apply Tk.take; (repeat (first | exact Plc.hit | apply Plc.miss))))); (focus ((repeat (first | exact List.Sublist.refl _ | apply List.Sublist.cons_cons | apply List.Sublist.cons)); done)))) | (apply w_reg_l; rfl) | exact rfl)
end Go.Proofs.Ytjhapdcojcmjlaa.Hand
