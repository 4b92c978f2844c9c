/-
  TrieGone.
-/
import Derived.Test.YtlmcfjadhahlpaaTv
namespace Go.Proofs.Ytlmcfjadhahlpaa.Hand
open Go.RowKit Go.Proofs.Ytlmcfjadhahlpaa.Bits Go.Proofs.Ytlmcfjadhahlpaa.Dig Go.Proofs.Ytlmcfjadhahlpaa.Sq
set_option linter.unusedVariables false
set_option linter.unusedSimpArgs false
set_option maxRecDepth 100000
set_option maxHeartbeats 2000000
/-- What so many puts leave. -/
noncomputable def putsL (l : List Px) : Nat → List Pr
  | 0 => []
  | j + 1 => (putN (putsL l j) 0 (l.getD j (zeroPx false)) (j : Int)).1
theorem nodes_le2 {L M : List Pr} (hL : GoodL L) (hM : GoodL M) (h : ∀ e ∈ M, ∃ f ∈ L, f.p = e.p) : nodesN M ≤ nodesN L := by
  obtain ⟨K, k1, k2, k3⟩ := nodes_keys hL
  obtain ⟨J, j1, j2, j3⟩ := nodes_keys hM
  have := nodup_len j1 (m := K) fun k hk => by
    rw [k2]
    rcases (j2 k).1 hk with hn | ⟨e, he, h1, h2⟩
    · exact .inl hn
    · obtain ⟨f, hf, hq⟩ := h e he
      exact .inr ⟨f, hf, by rw [hq]; exact h1, by rw [hq]; exact h2⟩
  omega
theorem put_fst (L : List Pr) (m n : Int) (p : Px) (v : Int) : (putN L m p v).1 = (putN L n p v).1 := by
  unfold putN
  split <;> rfl
theorem put_good {L : List Pr} (hg : GoodL L) (m : Int) (p : Px) (v : Int) : GoodL (putN L m p v).1 ∧ (putN L m p v).1.length ≤ L.length + 1 ∧ nodesN L ≤ nodesN (putN L m p v).1 ∧ ∀ e ∈ (putN L m p v).1, e.p = p ∨ e ∈ L := by
  unfold putN
  split
  · rename_i hs
    obtain ⟨h1, h2⟩ := put_spec (v := v) hs hg
    refine ⟨h1, (putG_len L false).1, nodes_le2 h1 hg fun e he => ?_, fun e he => ?_⟩
    · by_cases hp : e.p = p
      · exact ⟨⟨p, v⟩, (h2 _).2 (.inl rfl), hp.symm⟩
      · exact ⟨e, (h2 _).2 (.inr ⟨he, hp⟩), rfl⟩
    · rcases (h2 e).1 he with rfl | ⟨h, _⟩
      · exact .inl rfl
      · exact .inr h
  · exact ⟨hg, Nat.le_succ _, Int.le_refl _, fun e he => .inr he⟩
theorem put_snd {L : List Pr} (hg : GoodL L) {m : Int} (p : Px) (v : Int) : (nodesN (putN L m p v).1 ≤ m → nodesN L ≤ m → (putN L m p v).2.1 = m) ∧ (m = nodesN L → (putN L m p v).2.1 = nodesN (putN L m p v).1) := by
  have hp := (put_good hg m p v).2.2.1
  unfold putN at hp ⊢
  split at hp
  · rename_i hs
    rw [if_pos hs]
    dsimp only at hp ⊢
    unfold mx2
    exact ⟨fun h _ => by split <;> omega, fun h => by split <;> omega⟩
  · rename_i hs
    rw [if_neg hs]
    exact ⟨fun _ _ => rfl, fun h => h⟩
theorem puts_succ (l : List Px) {j : Nat} (h : j < l.length) (m : Int) : (putN (putsL l j) m l[j] (j : Int)).1 = putsL l (j + 1) := by
  rw [putsL, List.getD_eq_getElem?_getD, List.getElem?_eq_getElem h, Option.getD_some]
  exact put_fst _ _ _ _ _
theorem puts_good (l : List Px) : ∀ j, GoodL (putsL l j) ∧ (putsL l j).length ≤ j
  | 0 => ⟨GoodL.nil, Nat.le_refl _⟩
  | j + 1 => by
    obtain ⟨h1, h2⟩ := puts_good l j
    obtain ⟨h3, h4, _⟩ := put_good h1 0 (l.getD j (zeroPx false)) (j : Int)
    exact ⟨h3, by show (putN _ _ _ _).1.length ≤ _; omega⟩
theorem puts_mono (l : List Px) (j : Nat) : ∀ k, nodesN (putsL l j) ≤ nodesN (putsL l (j + k))
  | 0 => Int.le_refl _
  | k + 1 => Int.le_trans (puts_mono l j k) (put_good (puts_good l (j + k)).1 0 (l.getD (j + k) (zeroPx false)) ((j + k : Nat) : Int)).2.2.1
theorem puts_mem (l : List Px) : ∀ j, j ≤ l.length → ∀ e ∈ putsL l j, ∃ k, k < j ∧ l[k]? = some e.p
  | 0, _, e, he => by cases he
  | j + 1, hj, e, he => by
    rcases (put_good (puts_good l j).1 0 (l.getD j (zeroPx false)) (j : Int)).2.2.2 e he with h | h
    · rw [List.getD_eq_getElem?_getD, List.getElem?_eq_getElem (show j < l.length by omega), Option.getD_some] at h
      exact ⟨j, by omega, by rw [List.getElem?_eq_getElem (show j < l.length by omega), h]⟩
    · obtain ⟨k, h1, h2⟩ := puts_mem l j (by omega) e h
      exact ⟨k, by omega, h2⟩
theorem del_mem {L : List Pr} (hg : GoodL L) {p : Px} : ∀ e ∈ (delN L p).1, e ∈ L ∧ e.p ≠ p := fun e he => by
  unfold delN at he
  split at he
  · split at he
    · rename_i h
      exact ⟨he, out_same.1 h e he⟩
    · exact out_mem.1 he
  · rename_i h
    exact ⟨he, fun q => h (by rw [← q]; exact hg.sane e he)⟩
theorem del_good {L : List Pr} (hg : GoodL L) (p : Px) : GoodL (delN L p).1 ∧ (delN L p).1.length ≤ L.length := by
  unfold delN
  split
  · split
    · exact ⟨hg, Nat.le_refl _⟩
    · exact ⟨out_good hg p, List.length_filter_le _ _⟩
  · exact ⟨hg, Nat.le_refl _⟩
/-- Which are still to be taken out. -/
def leftK (back : Bool) (n j k : Nat) : Prop := if back = true then k + j < n else j ≤ k
theorem trieGone_s (l : List Px) (hw : ∀ p ∈ l, p.a.wf) (back : Bool) (A0 : Option Addr) (c0 : Nat) :
    RCal Try.prog 9 [.slice A0 l.length c0, .bool back] [.vw A0 c0 4 (l.map Px.cells)] (.bool true) := by
  have k0 := awake05_s
  by_cases hl : l.length ≤ 60
  · have k2 := new_p
    refine enter_r rfl Try.func9 rfl Try.ntmps9 rfl (fun Wo => ?_)
    repeat (first | (apply s_trix; rfl; rfl; rfl; (first | assumption); (repeat (first | exact Tk.nil | (apply Tk.see; (first | (focus (apply VSees.vw; (repeat (first | exact List.Mem.head _ | apply List.Mem.tail)); done)) | exact VSees.nil | assumption)) | (apply Tk.see; exact VSees.nil) | (apply Tk.take; (repeat (first | exact Plc.hit | apply Plc.miss))))); rfl; intro _; (try dsimp only [List.cons_append, List.nil_append])) | apply s_st | apply st_go | (focus (first | (apply y_move; rfl) | (apply y_assign; rfl) | (apply y_calls; rfl; rfl; rfl; (first | assumption); done) | (apply y_len; rfl) | (apply y_gt; rfl; rfl))) | apply s_nil | apply w_seq | apply f_then | apply w_block | apply w_skip | (apply w_cond_ff; rfl; (focus ((repeat (first | assumption | rfl | exact beq_self_eq_true _ | exact bne_self_eq_false _ | apply bOrF | apply bAndT | apply bNotF | apply bNotT | (focus (apply decide_eq_true; omega)) | (focus (apply decide_eq_false; omega)) | (focus (apply bEqT; omega)) | (focus (apply bEqF; omega)) | (focus (apply bNeT; omega)) | (focus (apply bNeF; omega)) | (focus (apply bOrT1; first | assumption | (apply decide_eq_true; omega))) | (focus (apply bOrT2; first | assumption | (apply decide_eq_true; omega))) | (focus (apply bAndF1; first | assumption | (apply decide_eq_false; omega))) | (focus (apply bAndF2; first | assumption | (apply decide_eq_false; omega))))); done))) | (apply w_reg_l; rfl) | exact rfl)
    rename_i b
    obtain ⟨bs0, g⟩ := b
    dsimp only
    clear k2
    refine w_loopm (fun s : Nat × Int × List Nat => [(7, .int .i64 ((s.1 : Nat) : Int))]) (fun s => [trieP g (putsL l s.1) s.2.1 s.2.2, .vw A0 c0 4 (l.map Px.cells)]) (fun s => s.1 ≤ l.length ∧ s.2.1 = nodesN (putsL l s.1)) (fun s => l.length - s.1) (0, 2, bs0) ⟨Nat.zero_le _, rfl⟩ ?_ ?_ ?_
    · (repeat (first | exact Cov.nil | (apply Cov.cons; rfl) | (apply Cov.seen; rfl)))
    · (repeat (first | exact List.Sublist.refl _ | apply List.Sublist.cons_cons | apply List.Sublist.cons))
    · rintro ⟨i, mo, bs⟩ ⟨hi, hmo⟩ R hR
      dsimp only at hi hmo hR ⊢
      obtain ⟨hg, hlen⟩ := puts_good l i
      have hnr := nodes_rng hg
      by_cases hlt : i < l.length
      · have hrow := map_get (f := Px.cells) hlt
        have kd := put_p (g := g) (L := putsL l i) (mo := mo) (bs := bs) (by omega) (by omega) (hw _ (List.getElem_mem hlt)) (i : Int)
        have h2 := (put_snd hg (m := mo) l[i] (i : Int)).2 hmo
        rw [puts_succ l hlt mo] at h2 kd
        rw [h2] at kd
        have hB := fun bs => hR (i + 1, nodesN (putsL l (i + 1)), bs) ⟨hlt, rfl⟩ (by dsimp only; omega)
        dsimp only at hB
        rw [← wrap_suc (i := i) (by omega)] at hB
        generalize (putN (putsL l i) mo l[i] (i : Int)).2.2 = er at kd
        clear hR k0 h2 hmo hg hlen hnr
        generalize putsL l (i + 1) = Lx at *
        generalize putsL l i = Ly at *
        generalize nodesN Lx = nx at *
        generalize l[i] = o at hrow kd
        repeat (first | (apply s_trix; rfl; rfl; rfl; (first | assumption); (repeat (first | exact Tk.nil | (apply Tk.see; (first | (focus (apply VSees.vw; (repeat (first | exact List.Mem.head _ | apply List.Mem.tail)); done)) | exact VSees.nil | assumption)) | (apply Tk.see; exact VSees.nil) | (apply Tk.take; (repeat (first | exact Plc.hit | apply Plc.miss))))); rfl; intro _; (try dsimp only [List.cons_append, List.nil_append])) | apply s_st | apply st_go | (focus (first | (apply y_move; rfl) | (apply y_assign; rfl) | (apply y_eload; rfl; (first | (focus (apply Sees.vw; (repeat (first | exact List.Mem.head _ | apply List.Mem.tail)); done)) | (focus (apply Sees.own; (repeat (first | exact List.Mem.head _ | apply List.Mem.tail)); done)) | exact Sees.nil | assumption); (first | assumption | rfl); (repeat (first | exact Sub.nil | apply Sub.take | apply Sub.drop)); done) | (apply y_ixaddr; rfl; rfl; (first | (focus (apply Sees.vw; (repeat (first | exact List.Mem.head _ | apply List.Mem.tail)); done)) | (focus (apply Sees.own; (repeat (first | exact List.Mem.head _ | apply List.Mem.tail)); done)) | exact Sees.nil | assumption); (first | rfl | assumption | (focus (simp; done)) | (focus (simp; omega))); (first | assumption | rfl | exact (show (0 : Int) = ((0 : Nat) : Int) from rfl) | exact (show (1 : Int) = ((1 : Nat) : Int) from rfl) | exact (show (2 : Int) = ((2 : Nat) : Int) from rfl) | exact (show (3 : Int) = ((3 : Nat) : Int) from rfl)); (first | assumption | omega | (focus (simp; done)) | (focus (simp; omega))); done) | (apply y_len; rfl) | (apply y_lt; rfl; rfl) | (apply y_add; rfl; rfl))) | apply s_nil | apply w_seq | apply f_then | apply w_block | apply f_norm_block | (focus (apply f_backxt; assumption; (repeat (first | exact Cov.nil | (apply Cov.cons; rfl) | (apply Cov.seen; rfl))); (repeat (first | exact Tk.nil | (apply Tk.see; (first | (focus (apply VSees.vw; (repeat (first | exact List.Mem.head _ | apply List.Mem.tail)); done)) | exact VSees.nil | assumption)) | (apply Tk.see; exact VSees.nil) | (apply Tk.take; (repeat (first | exact Plc.hit | apply Plc.miss))))); done)) | apply w_skip | (apply w_cond_tt; rfl; (focus ((repeat (first | assumption | rfl | exact beq_self_eq_true _ | exact bne_self_eq_false _ | apply bOrF | apply bAndT | apply bNotF | apply bNotT | (focus (apply decide_eq_true; omega)) | (focus (apply decide_eq_false; omega)) | (focus (apply bEqT; omega)) | (focus (apply bEqF; omega)) | (focus (apply bNeT; omega)) | (focus (apply bNeF; omega)) | (focus (apply bOrT1; first | assumption | (apply decide_eq_true; omega))) | (focus (apply bOrT2; first | assumption | (apply decide_eq_true; omega))) | (focus (apply bAndF1; first | assumption | (apply decide_eq_false; omega))) | (focus (apply bAndF2; first | assumption | (apply decide_eq_false; omega))))); done))) | (apply w_reg_l; rfl) | exact rfl)
      · obtain rfl : i = l.length := by omega
        have hmem := puts_mem l l.length (Nat.le_refl _)
        have a1 := slots_p (g := g) (L := putsL l l.length) (mo := mo) (bs := bs)
        clear hR k0
        have hgl := puts_good l l.length
        have hnf := fun j (hj : j ≤ l.length) => puts_mono l j (l.length - j)
        generalize hLx : putsL l l.length = Lx at *
        repeat (first | apply s_st | apply st_go | (focus (first | (apply y_move; rfl) | (apply y_assign; rfl) | (apply y_rcal; rfl; rfl; rfl; (first | assumption); (repeat (first | exact SeesAll.nil | (apply SeesAll.cons; (first | (focus (apply Sees.vw; (repeat (first | exact List.Mem.head _ | apply List.Mem.tail)); done)) | (focus (apply Sees.own; (repeat (first | exact List.Mem.head _ | apply List.Mem.tail)); done)) | exact Sees.nil | assumption)) | (apply SeesAll.mem; (repeat (first | exact List.Mem.head _ | apply List.Mem.tail))))); done) | (apply y_len; rfl) | (apply y_lt; rfl; rfl))) | apply s_nil | apply w_seq | apply f_then | apply w_block | apply w_exit | apply f_out | apply f_exit_block | (apply w_cond_ff; rfl; (focus ((repeat (first | assumption | rfl | exact beq_self_eq_true _ | exact bne_self_eq_false _ | apply bOrF | apply bAndT | apply bNotF | apply bNotT | (focus (apply decide_eq_true; omega)) | (focus (apply decide_eq_false; omega)) | (focus (apply bEqT; omega)) | (focus (apply bEqF; omega)) | (focus (apply bNeT; omega)) | (focus (apply bNeF; omega)) | (focus (apply bOrT1; first | assumption | (apply decide_eq_true; omega))) | (focus (apply bOrT2; first | assumption | (apply decide_eq_true; omega))) | (focus (apply bAndF1; first | assumption | (apply decide_eq_false; omega))) | (focus (apply bAndF2; first | assumption | (apply decide_eq_false; omega))))); done))) | (apply w_reg_l; rfl) | exact rfl)
        clear a1
        refine w_loopm (fun s : Nat × List Pr × List Nat => [(9, .int .i64 ((s.1 : Nat) : Int))]) (fun s => [trieP g s.2.1 mo s.2.2, .vw A0 c0 4 (l.map Px.cells)]) (fun s => s.1 ≤ l.length ∧ (GoodL s.2.1 ∧ s.2.1.length ≤ l.length) ∧ ∀ e ∈ s.2.1, ∃ k, leftK back l.length s.1 k ∧ l[k]? = some e.p) (fun s => l.length - s.1) (0, Lx, bs) ⟨Nat.zero_le _, hgl, fun e he => by
          obtain ⟨k, h1, h2⟩ := hmem e he
          refine ⟨k, ?_, h2⟩
          unfold leftK
          split <;> omega⟩ ?_ ?_ ?_
        · (repeat (first | exact Cov.nil | (apply Cov.cons; rfl) | (apply Cov.seen; rfl)))
        · (repeat (first | exact List.Sublist.refl _ | apply List.Sublist.cons_cons | apply List.Sublist.cons))
        · rintro ⟨j, L, bs⟩ ⟨hj, ⟨hg, hlen⟩, hk⟩ R hR
          dsimp only at hj hg hlen hk hR ⊢
          have hnx := nodes_rng hgl.1
          by_cases hlt : j < l.length
          · cases back with
            | true =>
              have hix : IntKind.i64.wrap (IntKind.i64.wrap (((l.length : Nat) : Int) - 1) - ((j : Nat) : Int)) = ((l.length - 1 - j : Nat) : Int) := by
                rw [wrap_nat (((l.length : Nat) : Int) - 1) (by omega) (by omega), wrap_nat _ (by omega) (by omega)]; omega
              have hlt' : l.length - 1 - j < l.length := by omega
              have hrow := map_get (f := Px.cells) hlt'
              have kd := del_p (g := g) (L := L) (mo := mo) (bs := bs) (by omega) (by omega) (hw _ (List.getElem_mem hlt'))
              have hd := del_good hg l[l.length - 1 - j]
              have hB := fun bs => hR (j + 1, (delN L l[l.length - 1 - j]).1, bs) ⟨hlt, ⟨hd.1, Nat.le_trans hd.2 hlen⟩, fun e he => by
                obtain ⟨h1, h2⟩ := del_mem hg e he
                obtain ⟨k, h3, h4⟩ := hk e h1
                refine ⟨k, ?_, h4⟩
                unfold leftK at h3 ⊢
                rw [if_pos rfl] at h3 ⊢
                have hne : k ≠ l.length - 1 - j := fun q => by
                  subst q
                  rw [List.getElem?_eq_getElem hlt'] at h4
                  exact h2 (Option.some.inj h4).symm
                omega⟩ (by dsimp only; omega)
              dsimp only at hB
              rw [← wrap_suc (i := j) (by omega)] at hB
              clear hR hk hd
              generalize delN L l[l.length - 1 - j] = z at kd hB
              generalize l[l.length - 1 - j] = o at hrow kd
              repeat (first | (apply s_trix; rfl; rfl; rfl; (first | assumption); (repeat (first | exact Tk.nil | (apply Tk.see; (first | (focus (apply VSees.vw; (repeat (first | exact List.Mem.head _ | apply List.Mem.tail)); done)) | exact VSees.nil | assumption)) | (apply Tk.see; exact VSees.nil) | (apply Tk.take; (repeat (first | exact Plc.hit | apply Plc.miss))))); rfl; intro _; (try dsimp only [List.cons_append, List.nil_append])) | apply s_st | apply st_go | (focus (first | (apply y_move; rfl) | (apply y_assign; rfl) | (apply y_eload; rfl; (first | (focus (apply Sees.vw; (repeat (first | exact List.Mem.head _ | apply List.Mem.tail)); done)) | (focus (apply Sees.own; (repeat (first | exact List.Mem.head _ | apply List.Mem.tail)); done)) | exact Sees.nil | assumption); (first | assumption | rfl); (repeat (first | exact Sub.nil | apply Sub.take | apply Sub.drop)); done) | (apply y_ixaddr; rfl; rfl; (first | (focus (apply Sees.vw; (repeat (first | exact List.Mem.head _ | apply List.Mem.tail)); done)) | (focus (apply Sees.own; (repeat (first | exact List.Mem.head _ | apply List.Mem.tail)); done)) | exact Sees.nil | assumption); (first | rfl | assumption | (focus (simp; done)) | (focus (simp; omega))); (first | assumption | rfl | exact (show (0 : Int) = ((0 : Nat) : Int) from rfl) | exact (show (1 : Int) = ((1 : Nat) : Int) from rfl) | exact (show (2 : Int) = ((2 : Nat) : Int) from rfl) | exact (show (3 : Int) = ((3 : Nat) : Int) from rfl)); (first | assumption | omega | (focus (simp; done)) | (focus (simp; omega))); done) | (apply y_len; rfl) | (apply y_lt; rfl; rfl) | (apply y_add; rfl; rfl) | (apply y_sub; rfl; rfl))) | apply s_nil | apply w_seq | apply f_then | apply w_block | apply f_norm_block | (focus (apply f_backxt; assumption; (repeat (first | exact Cov.nil | (apply Cov.cons; rfl) | (apply Cov.seen; rfl))); (repeat (first | exact Tk.nil | (apply Tk.see; (first | (focus (apply VSees.vw; (repeat (first | exact List.Mem.head _ | apply List.Mem.tail)); done)) | exact VSees.nil | assumption)) | (apply Tk.see; exact VSees.nil) | (apply Tk.take; (repeat (first | exact Plc.hit | apply Plc.miss))))); done)) | apply w_skip | refine w_cond_t rfl ?_ | (apply w_cond_tt; rfl; (focus ((repeat (first | assumption | rfl | exact beq_self_eq_true _ | exact bne_self_eq_false _ | apply bOrF | apply bAndT | apply bNotF | apply bNotT | (focus (apply decide_eq_true; omega)) | (focus (apply decide_eq_false; omega)) | (focus (apply bEqT; omega)) | (focus (apply bEqF; omega)) | (focus (apply bNeT; omega)) | (focus (apply bNeF; omega)) | (focus (apply bOrT1; first | assumption | (apply decide_eq_true; omega))) | (focus (apply bOrT2; first | assumption | (apply decide_eq_true; omega))) | (focus (apply bAndF1; first | assumption | (apply decide_eq_false; omega))) | (focus (apply bAndF2; first | assumption | (apply decide_eq_false; omega))))); done))) | (apply w_reg_l; rfl) | exact rfl)
            | false =>
              have hrow := map_get (f := Px.cells) hlt
              have kd := del_p (g := g) (L := L) (mo := mo) (bs := bs) (by omega) (by omega) (hw _ (List.getElem_mem hlt))
              have hd := del_good hg l[j]
              have hB := fun bs => hR (j + 1, (delN L l[j]).1, bs) ⟨hlt, ⟨hd.1, Nat.le_trans hd.2 hlen⟩, fun e he => by
                obtain ⟨h1, h2⟩ := del_mem hg e he
                obtain ⟨k, h3, h4⟩ := hk e h1
                refine ⟨k, ?_, h4⟩
                unfold leftK at h3 ⊢
                rw [if_neg (by decide)] at h3 ⊢
                have hne : k ≠ j := fun q => by
                  subst q
                  rw [List.getElem?_eq_getElem hlt] at h4
                  exact h2 (Option.some.inj h4).symm
                omega⟩ (by dsimp only; omega)
              dsimp only at hB
              rw [← wrap_suc (i := j) (by omega)] at hB
              clear hR hk hd
              generalize delN L l[j] = z at kd hB
              generalize l[j] = o at hrow kd
              repeat (first | (apply s_trix; rfl; rfl; rfl; (first | assumption); (repeat (first | exact Tk.nil | (apply Tk.see; (first | (focus (apply VSees.vw; (repeat (first | exact List.Mem.head _ | apply List.Mem.tail)); done)) | exact VSees.nil | assumption)) | (apply Tk.see; exact VSees.nil) | (apply Tk.take; (repeat (first | exact Plc.hit | apply Plc.miss))))); rfl; intro _; (try dsimp only [List.cons_append, List.nil_append])) | apply s_st | apply st_go | (focus (first | (apply y_move; rfl) | (apply y_assign; rfl) | (apply y_eload; rfl; (first | (focus (apply Sees.vw; (repeat (first | exact List.Mem.head _ | apply List.Mem.tail)); done)) | (focus (apply Sees.own; (repeat (first | exact List.Mem.head _ | apply List.Mem.tail)); done)) | exact Sees.nil | assumption); (first | assumption | rfl); (repeat (first | exact Sub.nil | apply Sub.take | apply Sub.drop)); done) | (apply y_ixaddr; rfl; rfl; (first | (focus (apply Sees.vw; (repeat (first | exact List.Mem.head _ | apply List.Mem.tail)); done)) | (focus (apply Sees.own; (repeat (first | exact List.Mem.head _ | apply List.Mem.tail)); done)) | exact Sees.nil | assumption); (first | rfl | assumption | (focus (simp; done)) | (focus (simp; omega))); (first | assumption | rfl | exact (show (0 : Int) = ((0 : Nat) : Int) from rfl) | exact (show (1 : Int) = ((1 : Nat) : Int) from rfl) | exact (show (2 : Int) = ((2 : Nat) : Int) from rfl) | exact (show (3 : Int) = ((3 : Nat) : Int) from rfl)); (first | assumption | omega | (focus (simp; done)) | (focus (simp; omega))); done) | (apply y_len; rfl) | (apply y_lt; rfl; rfl) | (apply y_add; rfl; rfl))) | apply s_nil | apply w_seq | apply f_then | apply w_block | apply f_norm_block | (focus (apply f_backxt; assumption; (repeat (first | exact Cov.nil | (apply Cov.cons; rfl) | (apply Cov.seen; rfl))); (repeat (first | exact Tk.nil | (apply Tk.see; (first | (focus (apply VSees.vw; (repeat (first | exact List.Mem.head _ | apply List.Mem.tail)); done)) | exact VSees.nil | assumption)) | (apply Tk.see; exact VSees.nil) | (apply Tk.take; (repeat (first | exact Plc.hit | apply Plc.miss))))); done)) | apply w_skip | refine w_cond_f rfl ?_ | (apply w_cond_tt; rfl; (focus ((repeat (first | assumption | rfl | exact beq_self_eq_true _ | exact bne_self_eq_false _ | apply bOrF | apply bAndT | apply bNotF | apply bNotT | (focus (apply decide_eq_true; omega)) | (focus (apply decide_eq_false; omega)) | (focus (apply bEqT; omega)) | (focus (apply bEqF; omega)) | (focus (apply bNeT; omega)) | (focus (apply bNeF; omega)) | (focus (apply bOrT1; first | assumption | (apply decide_eq_true; omega))) | (focus (apply bOrT2; first | assumption | (apply decide_eq_true; omega))) | (focus (apply bAndF1; first | assumption | (apply decide_eq_false; omega))) | (focus (apply bAndF2; first | assumption | (apply decide_eq_false; omega))))); done))) | (apply w_reg_l; rfl) | exact rfl)
          · obtain rfl : L = [] := List.eq_nil_iff_forall_not_mem.2 fun e he => by
              obtain ⟨k, h1, h2⟩ := hk e he
              have := (List.getElem?_eq_some_iff.1 h2).1
              unfold leftK at h1
              split at h1 <;> omega
            clear hR hk
            have a1 : RCal Try.prog 39 [.pointer (some ⟨g, 0, none⟩)] [trieP g [] mo bs] (.int .i64 0) := len_p
            have a2 : RCal Try.prog 44 [.pointer (some ⟨g, 0, none⟩)] [trieP g [] mo bs] (.int .i64 2) := nodes_p (by omega)
            have a3 := slots_p (g := g) (L := []) (mo := mo) (bs := bs)
            have a4 : FCal Try.prog 45 [.pointer (some ⟨g, 0, none⟩)] [trieP g [] mo bs] (RetX fun b : Option Addr × Nat => (.slice b.1 0 b.2, [.own b.1 b.2 5 [] 87])) := all_p (by decide)
            repeat (first | (apply s_fcal; rfl; rfl; rfl; (first | assumption); (focus ((repeat (first | exact SeesAll.nil | (apply SeesAll.cons; (first | (focus (apply Sees.vw; (repeat (first | exact List.Mem.head _ | apply List.Mem.tail)); done)) | (focus (apply Sees.own; (repeat (first | exact List.Mem.head _ | apply List.Mem.tail)); done)) | exact Sees.nil | assumption)) | (apply SeesAll.mem; (repeat (first | exact List.Mem.head _ | apply List.Mem.tail))))); done)); (first | exact want_none rfl | (apply want_on; rfl; (first | rfl | assumption | (focus ((repeat (first | assumption | rfl | exact beq_self_eq_true _ | exact bne_self_eq_false _ | apply bOrF | apply bAndT | apply bNotF | apply bNotT | (focus (apply decide_eq_true; omega)) | (focus (apply decide_eq_false; omega)) | (focus (apply bEqT; omega)) | (focus (apply bEqF; omega)) | (focus (apply bNeT; omega)) | (focus (apply bNeF; omega)) | (focus (apply bOrT1; first | assumption | (apply decide_eq_true; omega))) | (focus (apply bOrT2; first | assumption | (apply decide_eq_true; omega))) | (focus (apply bAndF1; first | assumption | (apply decide_eq_false; omega))) | (focus (apply bAndF2; first | assumption | (apply decide_eq_false; omega))))); done))))); rfl; intro _; (try dsimp only [List.cons_append, List.nil_append])) | apply s_st | apply st_go | (apply st_on; rfl) | (focus (first | (apply y_move; rfl) | (apply y_assign; rfl) | (apply y_rcal; rfl; rfl; rfl; (first | assumption); (repeat (first | exact SeesAll.nil | (apply SeesAll.cons; (first | (focus (apply Sees.vw; (repeat (first | exact List.Mem.head _ | apply List.Mem.tail)); done)) | (focus (apply Sees.own; (repeat (first | exact List.Mem.head _ | apply List.Mem.tail)); done)) | exact Sees.nil | assumption)) | (apply SeesAll.mem; (repeat (first | exact List.Mem.head _ | apply List.Mem.tail))))); done) | (apply y_or; rfl; rfl; done) | (apply y_len; rfl) | (apply y_ne; rfl; rfl) | (apply y_lt; rfl; rfl))) | apply s_nil | apply w_seq | apply f_then | apply w_block | apply w_exit | apply f_out | apply f_exit_block | apply w_skip | (apply w_cond_ff; rfl; (focus ((repeat (first | assumption | rfl | exact beq_self_eq_true _ | exact bne_self_eq_false _ | apply bOrF | apply bAndT | apply bNotF | apply bNotT | (focus (apply decide_eq_true; omega)) | (focus (apply decide_eq_false; omega)) | (focus (apply bEqT; omega)) | (focus (apply bEqF; omega)) | (focus (apply bNeT; omega)) | (focus (apply bNeF; omega)) | (focus (apply bOrT1; first | assumption | (apply decide_eq_true; omega))) | (focus (apply bOrT2; first | assumption | (apply decide_eq_true; omega))) | (focus (apply bAndF1; first | assumption | (apply decide_eq_false; omega))) | (focus (apply bAndF2; first | assumption | (apply decide_eq_false; omega))))); done))) | (apply w_reg_l; rfl) | exact rfl)
            clear a1 a2 a3 a4
            refine w_loopm (fun s : Nat × List Nat => [(11, .int .i64 ((s.1 : Nat) : Int))]) (fun s => [trieP g (putsL l s.1) mo s.2, .vw A0 c0 4 (l.map Px.cells)]) (fun s => s.1 ≤ l.length) (fun s => l.length - s.1) (0, bs) (Nat.zero_le _) ?_ ?_ ?_
            · (repeat (first | exact Cov.nil | (apply Cov.cons; rfl) | (apply Cov.seen; rfl)))
            · (repeat (first | exact List.Sublist.refl _ | apply List.Sublist.cons_cons | apply List.Sublist.cons))
            · rintro ⟨i, bs⟩ hi R hR
              dsimp only at hi hR ⊢
              obtain ⟨hg, hlen⟩ := puts_good l i
              by_cases hlt : i < l.length
              · have hrow := map_get (f := Px.cells) hlt
                have kd := put_p (g := g) (L := putsL l i) (mo := mo) (bs := bs) (by omega) (by omega) (hw _ (List.getElem_mem hlt)) (i : Int)
                have hn1 := hnf i (by omega)
                have hn2 := hnf (i + 1) hlt
                rw [show i + (l.length - i) = l.length by omega, hLx, ← hmo] at hn1
                rw [show i + 1 + (l.length - (i + 1)) = l.length by omega, hLx, ← hmo] at hn2
                have h2 := (put_snd hg (m := mo) l[i] (i : Int)).1
                rw [puts_succ l hlt mo] at h2 kd
                rw [h2 hn2 hn1] at kd
                have hB := fun bs => hR (i + 1, bs) hlt (by dsimp only; omega)
                dsimp only at hB
                rw [← wrap_suc (i := i) (by omega)] at hB
                generalize (putN (putsL l i) mo l[i] (i : Int)).2.2 = er at kd
                clear hR h2 hn1 hn2 hg hlen hnf
                generalize putsL l (i + 1) = La at *
                generalize putsL l i = Ly at *
                generalize l[i] = o at hrow kd
                repeat (first | (apply s_trix; rfl; rfl; rfl; (first | assumption); (repeat (first | exact Tk.nil | (apply Tk.see; (first | (focus (apply VSees.vw; (repeat (first | exact List.Mem.head _ | apply List.Mem.tail)); done)) | exact VSees.nil | assumption)) | (apply Tk.see; exact VSees.nil) | (apply Tk.take; (repeat (first | exact Plc.hit | apply Plc.miss))))); rfl; intro _; (try dsimp only [List.cons_append, List.nil_append])) | apply s_st | apply st_go | (focus (first | (apply y_move; rfl) | (apply y_assign; rfl) | (apply y_eload; rfl; (first | (focus (apply Sees.vw; (repeat (first | exact List.Mem.head _ | apply List.Mem.tail)); done)) | (focus (apply Sees.own; (repeat (first | exact List.Mem.head _ | apply List.Mem.tail)); done)) | exact Sees.nil | assumption); (first | assumption | rfl); (repeat (first | exact Sub.nil | apply Sub.take | apply Sub.drop)); done) | (apply y_ixaddr; rfl; rfl; (first | (focus (apply Sees.vw; (repeat (first | exact List.Mem.head _ | apply List.Mem.tail)); done)) | (focus (apply Sees.own; (repeat (first | exact List.Mem.head _ | apply List.Mem.tail)); done)) | exact Sees.nil | assumption); (first | rfl | assumption | (focus (simp; done)) | (focus (simp; omega))); (first | assumption | rfl | exact (show (0 : Int) = ((0 : Nat) : Int) from rfl) | exact (show (1 : Int) = ((1 : Nat) : Int) from rfl) | exact (show (2 : Int) = ((2 : Nat) : Int) from rfl) | exact (show (3 : Int) = ((3 : Nat) : Int) from rfl)); (first | assumption | omega | (focus (simp; done)) | (focus (simp; omega))); done) | (apply y_len; rfl) | (apply y_lt; rfl; rfl) | (apply y_add; rfl; rfl))) | apply s_nil | apply w_seq | apply f_then | apply w_block | apply f_norm_block | (focus (apply f_backxt; assumption; (repeat (first | exact Cov.nil | (apply Cov.cons; rfl) | (apply Cov.seen; rfl))); (repeat (first | exact Tk.nil | (apply Tk.see; (first | (focus (apply VSees.vw; (repeat (first | exact List.Mem.head _ | apply List.Mem.tail)); done)) | exact VSees.nil | assumption)) | (apply Tk.see; exact VSees.nil) | (apply Tk.take; (repeat (first | exact Plc.hit | apply Plc.miss))))); done)) | apply w_skip | (apply w_cond_tt; rfl; (focus ((repeat (first | assumption | rfl | exact beq_self_eq_true _ | exact bne_self_eq_false _ | apply bOrF | apply bAndT | apply bNotF | apply bNotT | (focus (apply decide_eq_true; omega)) | (focus (apply decide_eq_false; omega)) | (focus (apply bEqT; omega)) | (focus (apply bEqF; omega)) | (focus (apply bNeT; omega)) | (focus (apply bNeF; omega)) | (focus (apply bOrT1; first | assumption | (apply decide_eq_true; omega))) | (focus (apply bOrT2; first | assumption | (apply decide_eq_true; omega))) | (focus (apply bAndF1; first | assumption | (apply decide_eq_false; omega))) | (focus (apply bAndF2; first | assumption | (apply decide_eq_false; omega))))); done))) | (apply w_reg_l; rfl) | exact rfl)
              · obtain rfl : i = l.length := by omega
                rw [hLx]
                have a1 := slots_p (g := g) (L := Lx) (mo := mo) (bs := bs)
                have a2 := nodes_p (g := g) (L := Lx) (mo := mo) (bs := bs) (by omega)
                rw [← hmo] at a2
                clear hR hnf
                repeat (first | apply s_st | apply st_go | (apply st_on; rfl) | (apply st_one; rfl; (focus ((repeat (first | assumption | rfl | exact beq_self_eq_true _ | exact bne_self_eq_false _ | apply bOrF | apply bAndT | apply bNotF | apply bNotT | (focus (apply decide_eq_true; omega)) | (focus (apply decide_eq_false; omega)) | (focus (apply bEqT; omega)) | (focus (apply bEqF; omega)) | (focus (apply bNeT; omega)) | (focus (apply bNeF; omega)) | (focus (apply bOrT1; first | assumption | (apply decide_eq_true; omega))) | (focus (apply bOrT2; first | assumption | (apply decide_eq_true; omega))) | (focus (apply bAndF1; first | assumption | (apply decide_eq_false; omega))) | (focus (apply bAndF2; first | assumption | (apply decide_eq_false; omega))))); done))) | (focus (first | (apply y_move; rfl) | (apply y_assign; rfl) | (apply y_rcal; rfl; rfl; rfl; (first | assumption); (repeat (first | exact SeesAll.nil | (apply SeesAll.cons; (first | (focus (apply Sees.vw; (repeat (first | exact List.Mem.head _ | apply List.Mem.tail)); done)) | (focus (apply Sees.own; (repeat (first | exact List.Mem.head _ | apply List.Mem.tail)); done)) | exact Sees.nil | assumption)) | (apply SeesAll.mem; (repeat (first | exact List.Mem.head _ | apply List.Mem.tail))))); done) | (apply y_and; rfl; rfl; done) | (apply y_andp; rfl; rfl; done) | (apply y_len; rfl) | (apply y_eq; rfl; rfl) | (apply y_lt; rfl; rfl))) | apply s_nil | apply w_seq | apply f_then | apply w_exit | apply f_out | apply f_exit_block | apply w_ret | (apply w_cond_ff; rfl; (focus ((repeat (first | assumption | rfl | exact beq_self_eq_true _ | exact bne_self_eq_false _ | apply bOrF | apply bAndT | apply bNotF | apply bNotT | (focus (apply decide_eq_true; omega)) | (focus (apply decide_eq_false; omega)) | (focus (apply bEqT; omega)) | (focus (apply bEqF; omega)) | (focus (apply bNeT; omega)) | (focus (apply bNeF; omega)) | (focus (apply bOrT1; first | assumption | (apply decide_eq_true; omega))) | (focus (apply bOrT2; first | assumption | (apply decide_eq_true; omega))) | (focus (apply bAndF1; first | assumption | (apply decide_eq_false; omega))) | (focus (apply bAndF2; first | assumption | (apply decide_eq_false; omega))))); done))) | (apply f_end; rfl; rfl; rfl; intro w hw; first | exact ans hw | (refine ans_b ?_ hw; (focus ((repeat (first | assumption | rfl | exact beq_self_eq_true _ | exact bne_self_eq_false _ | apply bOrF | apply bAndT | apply bNotF | apply bNotT | (focus (apply decide_eq_true; omega)) | (focus (apply decide_eq_false; omega)) | (focus (apply bEqT; omega)) | (focus (apply bEqF; omega)) | (focus (apply bNeT; omega)) | (focus (apply bNeF; omega)) | (focus (apply bOrT1; first | assumption | (apply decide_eq_true; omega))) | (focus (apply bOrT2; first | assumption | (apply decide_eq_true; omega))) | (focus (apply bAndF1; first | assumption | (apply decide_eq_false; omega))) | (focus (apply bAndF2; first | assumption | (apply decide_eq_false; omega))))); done))) | (apply t_endS1 hw; rfl; (focus ((repeat (first | exact List.Sublist.refl _ | apply List.Sublist.cons_cons | apply List.Sublist.cons)); done))) | (apply t_endU hw; rfl; (focus ((repeat (first | exact List.Sublist.refl _ | apply List.Sublist.cons_cons | apply List.Sublist.cons)); done))) | (apply t_endX1 hw; rfl; (focus ((repeat (first | exact List.Sublist.refl _ | apply List.Sublist.cons_cons | apply List.Sublist.cons)); done))) | (refine t_end ⟨rfl, rfl⟩ ?_ w hw; (focus ((repeat (first | exact List.Sublist.refl _ | apply List.Sublist.cons_cons | apply List.Sublist.cons)); done))) | (apply t_endUT hw; rfl; (focus ((repeat (first | exact Tk.nil | (apply Tk.see; (first | (focus (apply VSees.vw; (repeat (first | exact List.Mem.head _ | apply List.Mem.tail)); done)) | exact VSees.nil | assumption)) | (apply Tk.see; exact VSees.nil) | (apply Tk.take; (repeat (first | exact Plc.hit | apply Plc.miss))))); done)); (focus ((repeat (first | exact List.Sublist.refl _ | apply List.Sublist.cons_cons | apply List.Sublist.cons)); done))) | (apply t_endXT hw; rfl; (repeat (first | exact Tk.nil | (apply Tk.see; (first | (focus (apply VSees.vw; (repeat (first | exact List.Mem.head _ | apply List.Mem.tail)); done)) | exact VSees.nil | assumption)) | (apply Tk.see; exact VSees.nil) | (apply Tk.take; (repeat (first | exact Plc.hit | apply Plc.miss))))); (focus ((repeat (first | exact List.Sublist.refl _ | apply List.Sublist.cons_cons | apply List.Sublist.cons)); done)))) | (apply w_reg_l; rfl) | exact rfl)
  · refine enter_r rfl Try.func9 rfl Try.ntmps9 rfl (fun Wo => ?_)
    repeat (first | apply s_st | apply st_go | (focus (first | (apply y_move; rfl) | (apply y_assign; rfl) | (apply y_calls; rfl; rfl; rfl; (first | assumption); done) | (apply y_len; rfl) | (apply y_gt; rfl; rfl))) | apply s_nil | apply w_seq | apply f_then | apply f_ret | apply w_ret | (apply w_cond_tt; rfl; (focus ((repeat (first | assumption | rfl | exact beq_self_eq_true _ | exact bne_self_eq_false _ | apply bOrF | apply bAndT | apply bNotF | apply bNotT | (focus (apply decide_eq_true; omega)) | (focus (apply decide_eq_false; omega)) | (focus (apply bEqT; omega)) | (focus (apply bEqF; omega)) | (focus (apply bNeT; omega)) | (focus (apply bNeF; omega)) | (focus (apply bOrT1; first | assumption | (apply decide_eq_true; omega))) | (focus (apply bOrT2; first | assumption | (apply decide_eq_true; omega))) | (focus (apply bAndF1; first | assumption | (apply decide_eq_false; omega))) | (focus (apply bAndF2; first | assumption | (apply decide_eq_false; omega))))); done))) | (apply f_end; rfl; rfl; rfl; intro w hw; first | exact ans hw | (refine ans_b ?_ hw; (focus ((repeat (first | assumption | rfl | exact beq_self_eq_true _ | exact bne_self_eq_false _ | apply bOrF | apply bAndT | apply bNotF | apply bNotT | (focus (apply decide_eq_true; omega)) | (focus (apply decide_eq_false; omega)) | (focus (apply bEqT; omega)) | (focus (apply bEqF; omega)) | (focus (apply bNeT; omega)) | (focus (apply bNeF; omega)) | (focus (apply bOrT1; first | assumption | (apply decide_eq_true; omega))) | (focus (apply bOrT2; first | assumption | (apply decide_eq_true; omega))) | (focus (apply bAndF1; first | assumption | (apply decide_eq_false; omega))) | (focus (apply bAndF2; first | assumption | (apply decide_eq_false; omega))))); done)))) | (apply w_reg_l; rfl) | exact rfl)
end Go.Proofs.Ytlmcfjadhahlpaa.Hand
