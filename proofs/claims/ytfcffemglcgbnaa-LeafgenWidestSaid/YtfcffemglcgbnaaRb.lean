/-
  Ribs: how often each hop is used; plain laws.
-/
import Derived.Test.YtfcffemglcgbnaaTs
import Derived.Test.YtfcffemglcgbnaaMp
namespace Go.Proofs.Ytfcffemglcgbnaa.Hand
open Go.RowKit Go.Proofs.Ytfcffemglcgbnaa.Bits Go.Proofs.Ytfcffemglcgbnaa.Dig Go.Proofs.Ytfcffemglcgbnaa.Sq
set_option linter.unusedVariables false
set_option linter.unusedSimpArgs false
set_option maxRecDepth 100000
set_option maxHeartbeats 1000000
structure UsesC (u : Mp) (cnt : Int → Int) : Prop where
  nodup : (u.l.map (·.1)).Nodup
  is : ∀ k v, (∃ c, (k, v, c) ∈ u.l) ↔ v = cnt k ∧ 0 < v
theorem uses_nil : UsesC ⟨[], 0⟩ fun _ => 0 := ⟨List.nodup_nil, fun k v => ⟨fun ⟨_, h⟩ => by (cases h), fun ⟨h1, h2⟩ => by omega⟩⟩
theorem UsesC.key {u : Mp} {cnt : Int → Int} (h : UsesC u cnt) {k : Int} : k ∈ u.l.map (·.1) ↔ 0 < cnt k := by
  rw [List.mem_map]
  constructor
  · rintro ⟨⟨a, v, c⟩, he, rfl⟩
    obtain ⟨rfl, h2⟩ := (h.is a v).1 ⟨c, he⟩
    exact h2
  · intro hk
    obtain ⟨c, hc⟩ := (h.is k (cnt k)).2 ⟨rfl, hk⟩
    exact ⟨_, hc, rfl⟩
theorem UsesC.get {u : Mp} {cnt : Int → Int} (h : UsesC u cnt) (h0 : ∀ k, 0 ≤ cnt k) (k : Int) : u.get k = cnt k := by
  unfold Mp.get
  cases hi : idxM u.l k 0 with
  | some x =>
    obtain ⟨i, v⟩ := x
    obtain ⟨c, _, hc⟩ := idxM_some hi
    exact ((h.is k v).1 ⟨c, List.mem_of_getElem? hc⟩).1
  | none =>
    have hn := idxM_none.1 hi
    have : ¬ 0 < cnt k := fun hq => by
      obtain ⟨c, hc⟩ := (h.is k (cnt k)).2 ⟨rfl, hq⟩
      exact hn _ hc rfl
    have := h0 k
    dsimp only
    omega
def updC (cnt : Int → Int) (k v : Int) (j : Int) : Int := if j = k then v else cnt j
theorem nodup_at {l : List MpE} (hn : (l.map (·.1)).Nodup) {i j : Nat} {a b : MpE} (hi : l[i]? = some a) (hj : l[j]? = some b) (h : a.1 = b.1) : i = j := by
  have hi' : (l.map (·.1))[i]? = some a.1 := by rw [List.getElem?_map, hi]; rfl
  have hj' : (l.map (·.1))[j]? = some b.1 := by rw [List.getElem?_map, hj]; rfl
  obtain ⟨q1, e1⟩ := List.getElem?_eq_some_iff.1 hi'
  obtain ⟨q2, e2⟩ := List.getElem?_eq_some_iff.1 hj'
  rcases Nat.lt_trichotomy i j with q | q | q
  · exact absurd (e1.trans (h.trans e2.symm)) (List.pairwise_iff_getElem.1 hn i j q1 q2 q)
  · exact q
  · exact absurd (e2.trans (h.symm.trans e1.symm)) (List.pairwise_iff_getElem.1 hn j i q2 q1 q)
theorem UsesC.put {u : Mp} {cnt : Int → Int} (h : UsesC u cnt) (k v : Int) (hv : 0 < v) : UsesC (u.put k v) (updC cnt k v) ∧ (u.put k v).l.length = u.l.length + (if 0 < cnt k then 0 else 1) := by
  unfold Mp.put
  cases hi : idxM u.l k 0 with
  | none =>
    have hn := idxM_none.1 hi
    have hk : ¬ 0 < cnt k := fun q => by
      obtain ⟨e, he, hq⟩ := List.mem_map.1 (h.key.2 q)
      exact hn e he hq
    refine ⟨⟨?_, fun j w => ?_⟩, by simp [hk]⟩
    · rw [List.map_append, List.nodup_append]
      refine ⟨h.nodup, by simp, fun a ha b hb => ?_⟩
      obtain rfl : b = k := by simpa using hb
      intro q
      obtain ⟨e, he, hq⟩ := List.mem_map.1 ha
      exact hn e he (hq.trans q)
    · unfold updC
      constructor
      · rintro ⟨c, hc⟩
        rcases List.mem_append.1 hc with hc | hc
        · have hne : j ≠ k := fun q => hn _ hc q
          rw [if_neg hne]
          exact (h.is j w).1 ⟨c, hc⟩
        · obtain h9 := List.mem_singleton.1 hc
          cases h9
          rw [if_pos rfl]
          exact ⟨rfl, hv⟩
      · split
        · rename_i hj
          rintro ⟨rfl, _⟩
          subst hj
          exact ⟨u.clock, List.mem_append_right _ (List.mem_singleton.2 rfl)⟩
        · intro q
          obtain ⟨c, hc⟩ := (h.is j w).2 q
          exact ⟨c, List.mem_append_left _ hc⟩
  | some x =>
    obtain ⟨i, v0⟩ := x
    obtain ⟨c0, _, hc0⟩ := idxM_some hi
    rw [Nat.sub_zero] at hc0
    have hk : 0 < cnt k := h.key.1 (List.mem_map.2 ⟨_, List.mem_of_getElem? hc0, rfl⟩)
    have hm : (u.l.modify i fun e => (k, v, e.2.2)).map (·.1) = u.l.map (·.1) := by
      refine List.ext_getElem? fun q => ?_
      rw [List.getElem?_map, List.getElem?_map, List.getElem?_modify]
      by_cases hq : i = q
      · subst hq
        rw [hc0]
        simp
      · cases u.l[q]? <;> simp [hq]
    refine ⟨⟨by rw [hm]; exact h.nodup, fun j w => ?_⟩, by simp [hk]⟩
    unfold updC
    constructor
    · rintro ⟨c, hc⟩
      obtain ⟨q, hq⟩ := List.getElem?_of_mem hc
      rw [List.getElem?_modify] at hq
      by_cases hiq : i = q
      · subst hiq
        rw [hc0] at hq
        simp at hq
        obtain ⟨rfl, rfl, rfl⟩ := hq
        rw [if_pos rfl]
        exact ⟨rfl, hv⟩
      · have hq' : u.l[q]? = some (j, w, c) := by simpa [hiq] using hq
        have hne : j ≠ k := fun e => hiq (nodup_at h.nodup hc0 hq' e.symm)
        rw [if_neg hne]
        exact (h.is j w).1 ⟨c, List.mem_of_getElem? hq'⟩
    · split
      · rename_i hj
        rintro ⟨rfl, _⟩
        subst hj
        refine ⟨c0, List.mem_of_getElem? (i := i) ?_⟩
        rw [List.getElem?_modify, hc0]
        simp
      · rename_i hj
        intro q
        obtain ⟨c, hc⟩ := (h.is j w).2 q
        obtain ⟨z, hz⟩ := List.getElem?_of_mem hc
        refine ⟨c, List.mem_of_getElem? (i := z) ?_⟩
        have hiz : i ≠ z := fun e => by
          subst e
          rw [hc0] at hz
          cases hz
          exact hj rfl
        rw [List.getElem?_modify, hz]
        simp [hiz]
theorem UsesC.del {u : Mp} {cnt : Int → Int} (h : UsesC u cnt) (k : Int) : UsesC (u.del k) (updC cnt k 0) ∧ (u.del k).l.length + (if 0 < cnt k then 1 else 0) = u.l.length := by
  unfold Mp.del
  cases hi : idxM u.l k 0 with
  | none =>
    have hn := idxM_none.1 hi
    have hk : ¬ 0 < cnt k := fun q => by
      obtain ⟨e, he, hq⟩ := List.mem_map.1 (h.key.2 q)
      exact hn e he hq
    refine ⟨⟨h.nodup, fun j w => ?_⟩, by simp [hk]⟩
    rw [h.is]
    unfold updC
    split
    · rename_i hj
      subst hj
      constructor
      · rintro ⟨rfl, q⟩; exact absurd q hk
      · rintro ⟨rfl, q⟩; omega
    · exact Iff.rfl
  | some x =>
    obtain ⟨i, v0⟩ := x
    obtain ⟨c0, _, hc0⟩ := idxM_some hi
    rw [Nat.sub_zero] at hc0
    have hk : 0 < cnt k := h.key.1 (List.mem_map.2 ⟨_, List.mem_of_getElem? hc0, rfl⟩)
    have hil : i < u.l.length := (List.getElem?_eq_some_iff.1 hc0).1
    have hsub : (u.l.eraseIdx i).Sublist u.l := List.eraseIdx_sublist ..
    refine ⟨⟨h.nodup.sublist (hsub.map _), fun j w => ?_⟩, by rw [if_pos hk, List.length_eraseIdx_of_lt hil]; omega⟩
    have hmem : ∀ e, e ∈ u.l.eraseIdx i ↔ e ∈ u.l ∧ e.1 ≠ k := fun e => by
      rw [List.mem_eraseIdx_iff_getElem?]
      constructor
      · rintro ⟨q, hq, hqe⟩
        exact ⟨List.mem_of_getElem? hqe, fun e9 => hq (nodup_at h.nodup hc0 hqe e9.symm).symm⟩
      · rintro ⟨h1, h2⟩
        obtain ⟨q, hq⟩ := List.getElem?_of_mem h1
        exact ⟨q, fun e9 => by subst e9; rw [hc0] at hq; cases hq; exact h2 rfl, hq⟩
    unfold updC
    constructor
    · rintro ⟨c, hc⟩
      obtain ⟨h1, h2⟩ := (hmem _).1 hc
      rw [if_neg h2]
      exact (h.is j w).1 ⟨c, h1⟩
    · split
      · rintro ⟨rfl, q⟩; omega
      · rename_i hj
        intro q
        obtain ⟨c, hc⟩ := (h.is j w).2 q
        exact ⟨c, (hmem _).2 ⟨hc, hj⟩⟩
def cntV (L : List Pr) (k : Int) : Int := ((L.filter fun e => e.v == k).length : Int)
theorem cntV_nn (L : List Pr) (k : Int) : 0 ≤ cntV L k := Int.natCast_nonneg _
theorem cntV_le (L : List Pr) (k : Int) : cntV L k ≤ (L.length : Int) := by
  have := List.length_filter_le (fun e => e.v == k) L
  unfold cntV; omega
theorem cntV_pos {L : List Pr} {k : Int} : 0 < cntV L k ↔ ∃ e ∈ L, e.v = k := by
  unfold cntV
  constructor
  · intro h
    obtain ⟨e, he⟩ := List.exists_mem_of_length_pos (l := L.filter fun e => e.v == k) (by omega)
    obtain ⟨h1, h2⟩ := List.mem_filter.1 he
    exact ⟨e, h1, by simpa using h2⟩
  · rintro ⟨e, he, rfl⟩
    have := List.length_pos_of_mem (List.mem_filter (p := fun f => f.v == e.v).2 ⟨he, by simp⟩)
    omega
def unlikeL : List Int → List Int
  | [] => []
  | k :: l => if k ∈ l then unlikeL l else k :: unlikeL l
theorem unlike_mem : ∀ {l : List Int} {k : Int}, k ∈ unlikeL l ↔ k ∈ l
  | [], k => Iff.rfl
  | a :: l, k => by
    unfold unlikeL
    split
    · rename_i h
      rw [unlike_mem, List.mem_cons]
      exact ⟨.inr, fun q => q.elim (fun e => e ▸ h) id⟩
    · rw [List.mem_cons, List.mem_cons, unlike_mem]
theorem unlike_nodup : ∀ l : List Int, (unlikeL l).Nodup
  | [] => List.nodup_nil
  | a :: l => by
    unfold unlikeL
    split
    · exact unlike_nodup l
    · rename_i h
      exact List.nodup_cons.2 ⟨fun q => h (unlike_mem.1 q), unlike_nodup l⟩
def hopsN (L : List Pr) : Nat := (unlikeL (L.map (·.v))).length
theorem hops_len {L : List Pr} {K : List Int} (h1 : K.Nodup) (h2 : ∀ k, k ∈ K ↔ ∃ e ∈ L, e.v = k) : K.length = hopsN L := by
  refine Nat.le_antisymm (nodup_len h1 fun k hk => ?_) (nodup_len (unlike_nodup _) fun k hk => ?_)
  · rw [unlike_mem, List.mem_map]; exact (h2 k).1 hk
  · rw [unlike_mem, List.mem_map] at hk; exact (h2 k).2 hk
theorem hops_le (L : List Pr) : hopsN L ≤ L.length := by
  have := nodup_len (unlike_nodup (L.map (·.v))) (m := L.map (·.v)) fun k hk => unlike_mem.1 hk
  rwa [List.length_map] at this
theorem UsesC.len {u : Mp} {L : List Pr} (h : UsesC u (cntV L)) : u.l.length = hopsN L := by
  have := hops_len (L := L) h.nodup fun k => by rw [h.key, cntV_pos]
  rwa [List.length_map] at this
end Go.Proofs.Ytfcffemglcgbnaa.Hand
