/-
  How many nodes.
-/
import Derived.Test.YtfcffemglcgbnaaTe
namespace Go.Proofs.Ytfcffemglcgbnaa.Hand
open Go.RowKit Go.Proofs.Ytfcffemglcgbnaa.Bits Go.Proofs.Ytfcffemglcgbnaa.Dig Go.Proofs.Ytfcffemglcgbnaa.Sq
set_option linter.unusedVariables false
set_option linter.unusedSimpArgs false
theorem lcp_is {p q : List Bool} {k : Nat} (h1 : q.take k <+: p) (h2 : k ≤ q.length) (h3 : ∀ j, j ≤ q.length → q.take j <+: p → j ≤ k) : lcp p q = k := by
  refine Nat.le_antisymm (h3 _ (lcp_le p q).2 ?_) ?_
  · have h := (lcp_le p q).2
    exact (lcp_pre (List.take_prefix _ _)).2 (by rw [List.length_take]; omega)
  · have := (lcp_pre (List.take_prefix k q)).1 h1
    rwa [List.length_take, Nat.min_eq_left h2] at this
theorem comP_lcp {p q : Px} (hp : sanB p = true) (hq : sanB q = true) : comP p q = ((lcpK (keyP p) (keyP q) : Nat) : Int) := by
  obtain ⟨c, hc, e1, _⟩ := sanB_pk hp
  obtain ⟨m, hm, f1, _⟩ := sanB_pk hq
  unfold comP lcpK keyP commonA
  dsimp only
  rw [e1, f1, Int.toNat_natCast, Int.toNat_natCast]
  by_cases hv : p.a.v6 = q.a.v6
  · rw [if_pos hv, if_pos hv]
    generalize D p.a.hi p.a.lo = d
    generalize D q.a.hi q.a.lo = e
    have hcw := cmn_le d e (W p.a.v6)
    have hl : lcp (pth d c) (pth e m) = min (min c m) (cmn d e (W p.a.v6)) := by
      refine lcp_is ?_ (by rw [pth_len]; omega) fun j hj h => ?_
      · rw [pth_take e (by omega), pth_pre]
        exact ⟨by omega, fun i hi => (cmn_alike d e (W p.a.v6) i (by omega)).symm⟩
      · rw [pth_len] at hj
        rw [pth_take e hj, pth_pre] at h
        have := le_cmn (d := d) (e := e) (n := W p.a.v6) (m := j) (by omega) fun i hi => (h.2 i hi).symm
        omega
    rw [hl]
    unfold mn2
    split <;> split <;> omega
  · rw [if_neg hv, if_neg hv]
    unfold mn2
    split <;> split <;> omega
theorem ndC_shift (x y : Pr) (L : List Pr) (i : Nat) : ndC (x :: y :: L) (i + 2) = ndC (y :: L) (i + 1) := by
  unfold ndC
  simp only [List.getElem?_cons_succ]
theorem ndT_shift (x y : Pr) (L : List Pr) : ∀ i, ndT (x :: y :: L) (i + 2) = ndT (y :: L) (i + 1) + (x.p.n - comP x.p y.p)
  | 0 => by
    have e0 : ndC (x :: y :: L) 0 = x.p.n - 0 := rfl
    have e1 : ndC (x :: y :: L) 1 = y.p.n - comP x.p y.p := rfl
    have e2 : ndC (y :: L) 0 = y.p.n - 0 := rfl
    show (2 + ndC (x :: y :: L) 0) + ndC (x :: y :: L) 1 = (2 + ndC (y :: L) 0) + _
    omega
  | i + 1 => by
    have := ndT_shift x y L i
    have e := ndC_shift x y L i
    show ndT (x :: y :: L) (i + 2) + ndC (x :: y :: L) (i + 2) = (ndT (y :: L) (i + 1) + ndC (y :: L) (i + 1)) + _
    omega
theorem nodes_lst : ∀ {L : List Pr} {x : Pr}, (∀ e ∈ x :: L, sanB e.p = true) → nodesN (x :: L) = 2 + x.p.n + ((lstN (keyP x.p) (L.map fun e => keyP e.p)).length : Int)
  | [], x, h => by
    have e0 : ndC [x] 0 = x.p.n - 0 := rfl
    show 2 + ndC [x] 0 = _
    rw [e0]; simp [lstN]
  | y :: L, x, h => by
    have ih := nodes_lst (L := L) (x := y) fun e he => h e (List.mem_cons_of_mem _ he)
    have hx := h x (List.mem_cons_self ..)
    have hy := h y (List.mem_cons_of_mem _ (List.mem_cons_self ..))
    have hs := ndT_shift x y L L.length
    have hlen := key_len hy
    have hc := comP_lcp hx hy
    have hle := lcpK_le (keyP x.p) (keyP y.p)
    have e1 : nodesN (x :: y :: L) = ndT (x :: y :: L) (L.length + 2) := rfl
    have e2 : nodesN (y :: L) = ndT (y :: L) (L.length + 1) := rfl
    rw [List.map_cons, lstN, List.length_append, preL_len, e1, hs, ← e2, ih, hc]
    omega
theorem nodes_keys {L : List Pr} (h : GoodL L) : ∃ K : List Key, K.Nodup ∧ (∀ k, k ∈ K ↔ Node L k) ∧ (K.length : Int) = nodesN L := by
  cases L with
  | nil =>
    refine ⟨[(false, []), (true, [])], by decide, fun k => ?_, rfl⟩
    obtain ⟨v, q⟩ := k
    unfold Node
    cases v <;> simp
  | cons x L =>
    have hp : ((x :: L).map fun e => keyP e.p).Pairwise (fun a b => ltK a b = true) := List.pairwise_map.2 h.sorted
    rw [List.map_cons] at hp
    have h1 : ∀ y, y ∈ preL (keyP x.p) 0 ++ lstN (keyP x.p) (L.map fun e => keyP e.p) ↔ y.2 ≠ [] ∧ ∃ e ∈ x :: L, (keyP e.p).1 = y.1 ∧ y.2 <+: (keyP e.p).2 := fun y => by
      rw [List.mem_append, preL_mem, lstN_mem hp]
      constructor
      · rintro (⟨e1, e2, e3⟩ | ⟨e1, ⟨e, he, e2, e3⟩, e4⟩)
        · exact ⟨List.length_pos_iff.1 e3, x, List.mem_cons_self .., e1.symm, e2⟩
        · obtain ⟨f, hf, rfl⟩ := List.mem_map.1 he
          exact ⟨e1, f, List.mem_cons_of_mem _ hf, e2, e3⟩
      · rintro ⟨e1, e, he, e2, e3⟩
        by_cases hx : y.1 = (keyP x.p).1 ∧ y.2 <+: (keyP x.p).2
        · exact .inl ⟨hx.1, hx.2, List.length_pos_iff.2 e1⟩
        · rcases List.mem_cons.1 he with rfl | he'
          · exact absurd ⟨e2.symm, e3⟩ hx
          · exact .inr ⟨e1, ⟨_, List.mem_map.2 ⟨e, he', rfl⟩, e2, e3⟩, hx⟩
    have h2 : (preL (keyP x.p) 0 ++ lstN (keyP x.p) (L.map fun e => keyP e.p)).Nodup := by
      rw [List.nodup_append]
      refine ⟨preL_nodup _ _, lstN_nodup hp, fun a ha b hb e => ?_⟩
      subst e
      have h4 := preL_mem.1 ha
      exact ((lstN_mem hp).1 hb).2.2 ⟨h4.1, h4.2.1⟩
    refine ⟨(false, []) :: (true, []) :: (preL (keyP x.p) 0 ++ lstN (keyP x.p) (L.map fun e => keyP e.p)), ?_, fun k => ?_, ?_⟩
    · rw [List.nodup_cons, List.nodup_cons]
      refine ⟨fun hn => ?_, fun hn => ((h1 _).1 hn).1 rfl, h2⟩
      rcases List.mem_cons.1 hn with e | hn
      · cases e
      · exact ((h1 _).1 hn).1 rfl
    · rw [List.mem_cons, List.mem_cons, h1]
      obtain ⟨v, q⟩ := k
      unfold Node
      dsimp only
      constructor
      · rintro (e | e | e)
        · cases e; exact .inl rfl
        · cases e; exact .inl rfl
        · exact .inr e.2
      · rintro (rfl | e)
        · cases v
          · exact .inl rfl
          · exact .inr (.inl rfl)
        · by_cases hq : q = []
          · subst hq
            cases v
            · exact .inl rfl
            · exact .inr (.inl rfl)
          · exact .inr (.inr ⟨hq, e⟩)
    · have := nodes_lst (L := L) (x := x) h.sane
      have hx := key_len (h.sane x (List.mem_cons_self ..))
      rw [this, List.length_cons, List.length_cons, List.length_append, preL_len]
      omega
end Go.Proofs.Ytfcffemglcgbnaa.Hand
