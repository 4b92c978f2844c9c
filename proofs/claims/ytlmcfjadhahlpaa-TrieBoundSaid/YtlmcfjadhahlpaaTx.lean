/-
  TrieBound.
-/
import Derived.Test.YtlmcfjadhahlpaaTv
namespace Go.Proofs.Ytlmcfjadhahlpaa.Hand
open Go.RowKit Go.Proofs.Ytlmcfjadhahlpaa.Bits Go.Proofs.Ytlmcfjadhahlpaa.Dig Go.Proofs.Ytlmcfjadhahlpaa.Sq
set_option linter.unusedVariables false
set_option linter.unusedSimpArgs false
set_option maxRecDepth 100000
set_option maxHeartbeats 2000000
theorem ndC_le {L : List Pr} (hs : ∀ e ∈ L, sanB e.p = true) {i : Nat} (h : i < L.length) : ndC L i ≤ L[i].p.n := by
  have hm := hs _ (List.getElem_mem h)
  unfold ndC
  rw [List.getElem?_eq_getElem h]
  dsimp only
  split
  · omega
  · split
    · omega
    · rename_i y hy
      have h2 := comP_rng (hs y (List.mem_of_getElem? hy)) hm
      omega
theorem nodes_long {L : List Pr} (hg : GoodL L) {e : Pr} (he : e ∈ L) : 2 + e.p.n ≤ nodesN L := by
  obtain ⟨K, k1, k2, k3⟩ := nodes_keys hg
  have hk := key_len (hg.sane e he)
  have hn : ((false, []) :: (true, []) :: preL (keyP e.p) 0 : List Key).Nodup := by
    rw [List.nodup_cons, List.nodup_cons]
    refine ⟨fun h => ?_, fun h => ?_, preL_nodup _ _⟩
    · rcases List.mem_cons.1 h with h | h
      · cases h
      · have := (preL_mem.1 h).2.2; simp at this
    · have := (preL_mem.1 h).2.2; simp at this
  have hl := nodup_len hn (m := K) fun k hk' => (k2 k).2 (by
    rcases List.mem_cons.1 hk' with rfl | h
    · exact .inl rfl
    · rcases List.mem_cons.1 h with rfl | h
      · exact .inl rfl
      · obtain ⟨h1, h2, _⟩ := preL_mem.1 h
        exact .inr ⟨e, he, h1.symm, h2⟩)
  rw [List.length_cons, List.length_cons, preL_len] at hl
  omega
theorem trieBound_s (l : List Ac5) (hw : ∀ o ∈ l, o.wf) (A0 : Option Addr) (c0 : Nat) :
    RCal Try.prog 10 [.slice A0 l.length c0] [.vw A0 c0 6 (l.map Ac5.cells)] (.bool true) := by
  have k0 := awake05_s
  by_cases hl : l.length ≤ 60
  · have k2 := new_p
    refine enter_r rfl Try.func10 rfl Try.ntmps10 rfl (fun Wo => ?_)
    repeat (first | (apply s_trix; rfl; rfl; rfl; (first | assumption); (repeat (first | exact Tk.nil | (apply Tk.see; (first | (focus (apply VSees.vw; (repeat (first | exact List.Mem.head _ | apply List.Mem.tail)); done)) | exact VSees.nil | assumption)) | (apply Tk.see; exact VSees.nil) | (apply Tk.take; (repeat (first | exact Plc.hit | apply Plc.miss))))); rfl; intro _; (try dsimp only [List.cons_append, List.nil_append])) | apply s_st | apply st_go | (focus (first | (apply y_move; rfl) | (apply y_assign; rfl) | (apply y_calls; rfl; rfl; rfl; (first | assumption); done) | (apply y_len; rfl) | (apply y_gt; rfl; rfl))) | apply s_nil | apply w_seq | apply f_then | apply w_block | apply w_skip | (apply w_cond_ff; rfl; (focus ((repeat (first | assumption | rfl | exact beq_self_eq_true _ | exact bne_self_eq_false _ | apply bOrF | apply bAndT | apply bNotF | apply bNotT | (focus (apply decide_eq_true; omega)) | (focus (apply decide_eq_false; omega)) | (focus (apply bEqT; omega)) | (focus (apply bEqF; omega)) | (focus (apply bNeT; omega)) | (focus (apply bNeF; omega)) | (focus (apply bOrT1; first | assumption | (apply decide_eq_true; omega))) | (focus (apply bOrT2; first | assumption | (apply decide_eq_true; omega))) | (focus (apply bAndF1; first | assumption | (apply decide_eq_false; omega))) | (focus (apply bAndF2; first | assumption | (apply decide_eq_false; omega))))); done))) | (apply w_reg_l; rfl) | exact rfl)
    rename_i b
    obtain ⟨bs0, g⟩ := b
    dsimp only
    clear k2
    refine w_loopm (fun s : Nat × List Pr × Int × List Nat => [(5, .int .i64 ((s.1 : Nat) : Int))]) (fun s => [trieP g s.2.1 s.2.2.1 s.2.2.2, .vw A0 c0 6 (l.map Ac5.cells)]) (fun s => s.1 ≤ l.length ∧ TI s.1 s.2.1 s.2.2.1) (fun s => l.length - s.1) (0, [], 2, bs0) ⟨Nat.zero_le _, ti_zero⟩ ?_ ?_ ?_
    · (repeat (first | exact Cov.nil | (apply Cov.cons; rfl) | (apply Cov.seen; rfl)))
    · (repeat (first | exact List.Sublist.refl _ | apply List.Sublist.cons_cons | apply List.Sublist.cons))
    · rintro ⟨i, L, mo, bs⟩ ⟨hi, hti⟩ R hR
      dsimp only at hi hti hR ⊢
      have hlen := hti.len
      have hmo := hti.hi
      by_cases hlt : i < l.length
      · have hrow := map_get (f := Ac5.cells) hlt
        have kd := do_p (g := g) (L := L) (mo := mo) (bs := bs) (by omega) (by omega) (o := l[i]) (hw _ (List.getElem_mem hlt))
        have hti2 := do_ti hti l[i]
        have hB := fun bs => hR (i + 1, (doT L mo l[i]).1, (doT L mo l[i]).2.1, bs) ⟨hlt, hti2⟩ (by dsimp only; omega)
        dsimp only at hB
        rw [← wrap_suc (i := i) (by omega)] at hB
        clear hR k0 hti hlen hmo
        have hlen := hti2.len
        have hmo := hti2.hi
        have hlo := hti2.lo
        have hg := hti2.good
        clear hti2
        generalize doT L mo l[i] = z at kd hB hlen hmo hlo hg
        obtain ⟨L2, mo2, er⟩ := z
        dsimp only at kd hB hlen hmo hlo hg
        have a1 := fun bs => all_p (g := g) (L := L2) (mo := mo2) (bs := bs) (by omega)
        generalize l[i] = o at hrow kd
        repeat (first | (apply s_trix; rfl; rfl; rfl; assumption; (repeat (first | exact Tk.nil | (apply Tk.see; (first | (focus (apply VSees.vw; (repeat (first | exact List.Mem.head _ | apply List.Mem.tail)); done)) | exact VSees.nil | assumption)) | (apply Tk.see; exact VSees.nil) | (apply Tk.take; (repeat (first | exact Plc.hit | apply Plc.miss))))); rfl; intro _; (try dsimp only [List.cons_append, List.nil_append])) | (apply s_fcalq; rfl; rfl; rfl; assumption; (focus ((repeat (first | exact SeesAll.nil | (apply SeesAll.cons; (first | (focus (apply Sees.vw; (repeat (first | exact List.Mem.head _ | apply List.Mem.tail)); done)) | (focus (apply Sees.own; (repeat (first | exact List.Mem.head _ | apply List.Mem.tail)); done)) | exact Sees.nil | assumption)) | (apply SeesAll.mem; (repeat (first | exact List.Mem.head _ | apply List.Mem.tail))))); done)); (first | exact want_none rfl | (apply want_on; rfl; (first | rfl | assumption | (focus ((repeat (first | assumption | rfl | exact beq_self_eq_true _ | exact bne_self_eq_false _ | apply bOrF | apply bAndT | apply bNotF | apply bNotT | (focus (apply decide_eq_true; omega)) | (focus (apply decide_eq_false; omega)) | (focus (apply bEqT; omega)) | (focus (apply bEqF; omega)) | (focus (apply bNeT; omega)) | (focus (apply bNeF; omega)) | (focus (apply bOrT1; first | assumption | (apply decide_eq_true; omega))) | (focus (apply bOrT2; first | assumption | (apply decide_eq_true; omega))) | (focus (apply bAndF1; first | assumption | (apply decide_eq_false; omega))) | (focus (apply bAndF2; first | assumption | (apply decide_eq_false; omega))))); done))))); rfl; intro _; (try dsimp only [List.cons_append, List.nil_append])) | apply s_st | apply st_go | (focus (first | (apply y_move; rfl) | (apply y_assign; rfl) | (apply y_eload; rfl; (first | (focus (apply Sees.vw; (repeat (first | exact List.Mem.head _ | apply List.Mem.tail)); done)) | (focus (apply Sees.own; (repeat (first | exact List.Mem.head _ | apply List.Mem.tail)); done)) | exact Sees.nil | assumption); (first | assumption | rfl); (repeat (first | exact Sub.nil | apply Sub.take | apply Sub.drop)); done) | (apply y_ixaddr; rfl; rfl; (first | (focus (apply Sees.vw; (repeat (first | exact List.Mem.head _ | apply List.Mem.tail)); done)) | (focus (apply Sees.own; (repeat (first | exact List.Mem.head _ | apply List.Mem.tail)); done)) | exact Sees.nil | assumption); (first | rfl | assumption | (focus (simp; done)) | (focus (simp; omega))); (first | assumption | rfl | exact (show (0 : Int) = ((0 : Nat) : Int) from rfl) | exact (show (1 : Int) = ((1 : Nat) : Int) from rfl) | exact (show (2 : Int) = ((2 : Nat) : Int) from rfl) | exact (show (3 : Int) = ((3 : Nat) : Int) from rfl)); (first | assumption | omega | (focus (simp; done)) | (focus (simp; omega))); done) | (apply y_len; rfl) | (apply y_lt; rfl; rfl))) | apply s_nil | apply w_seq | apply f_then | apply w_block | apply w_skip | (apply w_cond_tt; rfl; (focus ((repeat (first | assumption | rfl | exact beq_self_eq_true _ | exact bne_self_eq_false _ | apply bOrF | apply bAndT | apply bNotF | apply bNotT | (focus (apply decide_eq_true; omega)) | (focus (apply decide_eq_false; omega)) | (focus (apply bEqT; omega)) | (focus (apply bEqF; omega)) | (focus (apply bNeT; omega)) | (focus (apply bNeF; omega)) | (focus (apply bOrT1; first | assumption | (apply decide_eq_true; omega))) | (focus (apply bOrT2; first | assumption | (apply decide_eq_true; omega))) | (focus (apply bAndF1; first | assumption | (apply decide_eq_false; omega))) | (focus (apply bAndF2; first | assumption | (apply decide_eq_false; omega))))); done))) | (apply w_reg_l; rfl) | exact rfl)
        rename_i b d
        obtain ⟨bs2, _⟩ := b
        dsimp only
        have hnr := nodes_rng hg
        clear a1 kd hrow
        have a2 := nodes_p (g := g) (L := L2) (mo := mo2) (bs := bs2) (by omega)
        have a3 := slots_p (g := g) (L := L2) (mo := mo2) (bs := bs2)
        have a4 := len_p (g := g) (L := L2) (mo := mo2) (bs := bs2)
        have hB := hB bs2
        refine w_loopm (fun s : Nat × Int × Int => [(9, .int .i64 ((s.1 : Nat) : Int)), (7, .int .i64 s.2.1), (6, .int .i64 s.2.2)]) (fun s => [.own d.1 d.2 5 (L2.map Pr.cells) 87, trieP g L2 mo2 bs2, .vw A0 c0 6 (l.map Ac5.cells)]) (fun s => s.1 ≤ L2.length ∧ (ndT L2 s.1 ≤ s.2.2 ∧ s.2.2 ≤ 2 + 128 * (s.1 : Int)) ∧ 0 ≤ s.2.1 ∧ 2 + s.2.1 ≤ nodesN L2) (fun s => L2.length - s.1) (0, 0, 2) ⟨Nat.zero_le _, ⟨Int.le_refl _, by dsimp only; omega⟩, Int.le_refl _, by dsimp only; omega⟩ ?_ ?_ ?_
        · (repeat (first | exact Cov.nil | (apply Cov.cons; rfl) | (apply Cov.seen; rfl)))
        · (repeat (first | exact List.Sublist.refl _ | apply List.Sublist.cons_cons | apply List.Sublist.cons))
        · rintro ⟨k, lg, sm⟩ ⟨hk, ⟨hs1, hs2⟩, hg1, hg2⟩ R hR
          dsimp only at hk hs1 hs2 hg1 hg2 hR ⊢
          by_cases hlt2 : k < L2.length
          · have hrow := map_get (f := Pr.cells) hlt2
            have hn := n_rng (hg.sane _ (List.getElem_mem hlt2))
            have hlg := nodes_long hg (List.getElem_mem hlt2)
            have hnd := ndC_le hg.sane hlt2
            have hT : ndT L2 (k + 1) = ndT L2 k + ndC L2 k := rfl
            have hT2 := ndT_rng L2 hg.sane k
            have e1 : IntKind.i64.wrap (sm + L2[k].p.n) = sm + L2[k].p.n := wrap_nat _ (by omega) (by omega)
            have hB2 := hR (k + 1, mx2 lg L2[k].p.n, sm + L2[k].p.n) ⟨hlt2, ⟨by dsimp only; omega, by dsimp only; omega⟩, by dsimp only; unfold mx2; split <;> omega, by dsimp only; unfold mx2; split <;> omega⟩ (by dsimp only; omega)
            dsimp only at hB2
            rw [← wrap_suc (i := k) (by omega), ← e1] at hB2
            clear hR hB e1 a2 a3 a4 hT hT2 hnd hlg hn
            generalize L2[k] = x at *
            repeat (first | apply s_st | apply st_go | (focus (first | (apply y_move; rfl) | (apply y_assign; rfl) | (apply y_ecell; rfl; (first | (focus (apply Sees.vw; (repeat (first | exact List.Mem.head _ | apply List.Mem.tail)); done)) | (focus (apply Sees.own; (repeat (first | exact List.Mem.head _ | apply List.Mem.tail)); done)) | exact Sees.nil | assumption); (first | assumption | rfl); (repeat (first | exact At.hit | apply At.miss)); kernel_rfl; done) | (apply y_efaddr; kernel_rfl; rfl) | (apply y_ixaddr; rfl; rfl; (first | (focus (apply Sees.vw; (repeat (first | exact List.Mem.head _ | apply List.Mem.tail)); done)) | (focus (apply Sees.own; (repeat (first | exact List.Mem.head _ | apply List.Mem.tail)); done)) | exact Sees.nil | assumption); (first | rfl | assumption | (focus (simp; done)) | (focus (simp; omega))); (first | assumption | rfl | exact (show (0 : Int) = ((0 : Nat) : Int) from rfl) | exact (show (1 : Int) = ((1 : Nat) : Int) from rfl) | exact (show (2 : Int) = ((2 : Nat) : Int) from rfl) | exact (show (3 : Int) = ((3 : Nat) : Int) from rfl)); (first | assumption | omega | (focus (simp; done)) | (focus (simp; omega))); done) | (apply y_len; rfl) | (apply y_lt; rfl; rfl) | (apply y_add; rfl; rfl) | (apply y_max2; rfl))) | apply s_nil | apply w_seq | apply f_then | apply w_block | apply f_norm_block | (apply f_back; assumption; (repeat (first | exact Cov.nil | (apply Cov.cons; rfl) | (apply Cov.seen; rfl))); (focus ((repeat (first | exact List.Sublist.refl _ | apply List.Sublist.cons_cons | apply List.Sublist.cons)); done))) | apply w_skip | (apply w_cond_tt; rfl; (focus ((repeat (first | assumption | rfl | exact beq_self_eq_true _ | exact bne_self_eq_false _ | apply bOrF | apply bAndT | apply bNotF | apply bNotT | (focus (apply decide_eq_true; omega)) | (focus (apply decide_eq_false; omega)) | (focus (apply bEqT; omega)) | (focus (apply bEqF; omega)) | (focus (apply bNeT; omega)) | (focus (apply bNeF; omega)) | (focus (apply bOrT1; first | assumption | (apply decide_eq_true; omega))) | (focus (apply bOrT2; first | assumption | (apply decide_eq_true; omega))) | (focus (apply bAndF1; first | assumption | (apply decide_eq_false; omega))) | (focus (apply bAndF2; first | assumption | (apply decide_eq_false; omega))))); done))) | (apply w_reg_l; rfl) | exact rfl)
          · have hend : nodesN L2 = ndT L2 k := by
              unfold nodesN
              rw [show k = L2.length by omega]
            have e1 : IntKind.i64.wrap (2 + lg) = 2 + lg := wrap_nat _ (by omega) (by omega)
            clear hR
            generalize nodesN L2 = nv at *
            have hE : (((decide (nv > sm) || decide (nv < IntKind.i64.wrap (2 + lg))) || decide (mo2 < nv)) || (((L2.length : Nat) : Int) != ((L2.length : Nat) : Int))) = false := by
              rw [e1, decide_eq_false (show ¬ nv > sm by omega), decide_eq_false (show ¬ nv < 2 + lg by omega), decide_eq_false (show ¬ mo2 < nv by omega), bne_self_eq_false]; rfl
            repeat (first | apply s_st | apply st_go | (apply st_one; rfl; (focus ((repeat (first | assumption | rfl | exact beq_self_eq_true _ | exact bne_self_eq_false _ | apply bOrF | apply bAndT | apply bNotF | apply bNotT | (focus (apply decide_eq_true; omega)) | (focus (apply decide_eq_false; omega)) | (focus (apply bEqT; omega)) | (focus (apply bEqF; omega)) | (focus (apply bNeT; omega)) | (focus (apply bNeF; omega)) | (focus (apply bOrT1; first | assumption | (apply decide_eq_true; omega))) | (focus (apply bOrT2; first | assumption | (apply decide_eq_true; omega))) | (focus (apply bAndF1; first | assumption | (apply decide_eq_false; omega))) | (focus (apply bAndF2; first | assumption | (apply decide_eq_false; omega))))); done))) | (focus (first | (apply y_move; rfl) | (apply y_assign; rfl) | (apply y_rcal; rfl; rfl; rfl; (first | assumption); (repeat (first | exact SeesAll.nil | (apply SeesAll.cons; (first | (focus (apply Sees.vw; (repeat (first | exact List.Mem.head _ | apply List.Mem.tail)); done)) | (focus (apply Sees.own; (repeat (first | exact List.Mem.head _ | apply List.Mem.tail)); done)) | exact Sees.nil | assumption)) | (apply SeesAll.mem; (repeat (first | exact List.Mem.head _ | apply List.Mem.tail))))); done) | (apply y_orp; rfl; rfl; done) | (apply y_len; rfl) | (apply y_ne; rfl; rfl) | (apply y_lt; rfl; rfl) | (apply y_gt; rfl; rfl) | (apply y_add; rfl; rfl))) | apply s_nil | apply w_seq | apply f_then | apply w_exit | apply f_out | apply f_norm_block | apply f_exit_block | (apply f_back; assumption; (repeat (first | exact Cov.nil | (apply Cov.cons; rfl) | (apply Cov.seen; rfl))); (focus ((repeat (first | exact List.Sublist.refl _ | apply List.Sublist.cons_cons | apply List.Sublist.cons)); done))) | apply w_skip | (apply w_cond_ff; rfl; assumption) | (apply w_cond_ff; rfl; (focus ((repeat (first | assumption | rfl | exact beq_self_eq_true _ | exact bne_self_eq_false _ | apply bOrF | apply bAndT | apply bNotF | apply bNotT | (focus (apply decide_eq_true; omega)) | (focus (apply decide_eq_false; omega)) | (focus (apply bEqT; omega)) | (focus (apply bEqF; omega)) | (focus (apply bNeT; omega)) | (focus (apply bNeF; omega)) | (focus (apply bOrT1; first | assumption | (apply decide_eq_true; omega))) | (focus (apply bOrT2; first | assumption | (apply decide_eq_true; omega))) | (focus (apply bAndF1; first | assumption | (apply decide_eq_false; omega))) | (focus (apply bAndF2; first | assumption | (apply decide_eq_false; omega))))); done))) | (apply w_reg_l; rfl) | exact rfl)
      · clear hR
        repeat (first | apply s_st | apply st_go | (focus (first | (apply y_move; rfl) | (apply y_assign; rfl) | (apply y_len; rfl) | (apply y_lt; rfl; rfl))) | apply s_nil | apply w_seq | apply f_then | apply w_exit | apply f_out | apply f_exit_block | apply w_ret | (apply w_cond_ff; rfl; (focus ((repeat (first | assumption | rfl | exact beq_self_eq_true _ | exact bne_self_eq_false _ | apply bOrF | apply bAndT | apply bNotF | apply bNotT | (focus (apply decide_eq_true; omega)) | (focus (apply decide_eq_false; omega)) | (focus (apply bEqT; omega)) | (focus (apply bEqF; omega)) | (focus (apply bNeT; omega)) | (focus (apply bNeF; omega)) | (focus (apply bOrT1; first | assumption | (apply decide_eq_true; omega))) | (focus (apply bOrT2; first | assumption | (apply decide_eq_true; omega))) | (focus (apply bAndF1; first | assumption | (apply decide_eq_false; omega))) | (focus (apply bAndF2; first | assumption | (apply decide_eq_false; omega))))); done))) | (apply f_end; rfl; rfl; rfl; intro w hw; first | exact ans hw | (refine ans_b ?_ hw; (focus ((repeat (first | assumption | rfl | exact beq_self_eq_true _ | exact bne_self_eq_false _ | apply bOrF | apply bAndT | apply bNotF | apply bNotT | (focus (apply decide_eq_true; omega)) | (focus (apply decide_eq_false; omega)) | (focus (apply bEqT; omega)) | (focus (apply bEqF; omega)) | (focus (apply bNeT; omega)) | (focus (apply bNeF; omega)) | (focus (apply bOrT1; first | assumption | (apply decide_eq_true; omega))) | (focus (apply bOrT2; first | assumption | (apply decide_eq_true; omega))) | (focus (apply bAndF1; first | assumption | (apply decide_eq_false; omega))) | (focus (apply bAndF2; first | assumption | (apply decide_eq_false; omega))))); done)))) | (apply w_reg_l; rfl) | exact rfl)
  · refine enter_r rfl Try.func10 rfl Try.ntmps10 rfl (fun Wo => ?_)
    repeat (first | apply s_st | apply st_go | (focus (first | (apply y_move; rfl) | (apply y_assign; rfl) | (apply y_calls; rfl; rfl; rfl; (first | assumption); done) | (apply y_len; rfl) | (apply y_gt; rfl; rfl))) | apply s_nil | apply w_seq | apply f_then | apply f_ret | apply w_ret | (apply w_cond_tt; rfl; (focus ((repeat (first | assumption | rfl | exact beq_self_eq_true _ | exact bne_self_eq_false _ | apply bOrF | apply bAndT | apply bNotF | apply bNotT | (focus (apply decide_eq_true; omega)) | (focus (apply decide_eq_false; omega)) | (focus (apply bEqT; omega)) | (focus (apply bEqF; omega)) | (focus (apply bNeT; omega)) | (focus (apply bNeF; omega)) | (focus (apply bOrT1; first | assumption | (apply decide_eq_true; omega))) | (focus (apply bOrT2; first | assumption | (apply decide_eq_true; omega))) | (focus (apply bAndF1; first | assumption | (apply decide_eq_false; omega))) | (focus (apply bAndF2; first | assumption | (apply decide_eq_false; omega))))); done))) | (apply f_end; rfl; rfl; rfl; intro w hw; first | exact ans hw | (refine ans_b ?_ hw; (focus ((repeat (first | assumption | rfl | exact beq_self_eq_true _ | exact bne_self_eq_false _ | apply bOrF | apply bAndT | apply bNotF | apply bNotT | (focus (apply decide_eq_true; omega)) | (focus (apply decide_eq_false; omega)) | (focus (apply bEqT; omega)) | (focus (apply bEqF; omega)) | (focus (apply bNeT; omega)) | (focus (apply bNeF; omega)) | (focus (apply bOrT1; first | assumption | (apply decide_eq_true; omega))) | (focus (apply bOrT2; first | assumption | (apply decide_eq_true; omega))) | (focus (apply bAndF1; first | assumption | (apply decide_eq_false; omega))) | (focus (apply bAndF2; first | assumption | (apply decide_eq_false; omega))))); done)))) | (apply w_reg_l; rfl) | exact rfl)
end Go.Proofs.Ytlmcfjadhahlpaa.Hand
