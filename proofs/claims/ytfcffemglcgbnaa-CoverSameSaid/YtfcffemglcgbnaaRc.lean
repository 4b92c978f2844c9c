/-
  Ribs: how often each hop is used; plain laws.
-/
import Derived.Test.YtfcffemglcgbnaaTs
import Derived.Test.YtfcffemglcgbnaaMp
namespace Go.Proofs.Ytfcffemglcgbnaa.Hand
open Go.RowKit Go.Proofs.Ytfcffemglcgbnaa.Bits Go.Proofs.Ytfcffemglcgbnaa.Dig Go.Proofs.Ytfcffemglcgbnaa.Sq
set_option linter.unusedVariables false
set_option linter.unusedSimpArgs false
set_option maxRecDepth 100000
set_option maxHeartbeats 1000000
structure UsesC (u : Mp) (cnt : Int → Int) : Prop where
  nodup : (u.l.map (·.1)).Nodup
  is : ∀ k v, (∃ c, (k, v, c) ∈ u.l) ↔ v = cnt k ∧ 0 < v
theorem uses_nil : UsesC ⟨[], 0⟩ fun _ => 0 := ⟨List.nodup_nil, fun k v => ⟨fun ⟨_, h⟩ => by (cases h), fun ⟨h1, h2⟩ => by omega⟩⟩
theorem UsesC.key {u : Mp} {cnt : Int → Int} (h : UsesC u cnt) {k : Int} : k ∈ u.l.map (·.1) ↔ 0 < cnt k := by
  rw [List.mem_map]
  constructor
  · rintro ⟨⟨a, v, c⟩, he, rfl⟩
    obtain ⟨rfl, h2⟩ := (h.is a v).1 ⟨c, he⟩
    exact h2
  · intro hk
    obtain ⟨c, hc⟩ := (h.is k (cnt k)).2 ⟨rfl, hk⟩
    exact ⟨_, hc, rfl⟩
theorem UsesC.get {u : Mp} {cnt : Int → Int} (h : UsesC u cnt) (h0 : ∀ k, 0 ≤ cnt k) (k : Int) : u.get k = cnt k := by
  unfold Mp.get
  cases hi : idxM u.l k 0 with
  | some x =>
    obtain ⟨i, v⟩ := x
    obtain ⟨c, _, hc⟩ := idxM_some hi
    exact ((h.is k v).1 ⟨c, List.mem_of_getElem? hc⟩).1
  | none =>
    have hn := idxM_none.1 hi
    have : ¬ 0 < cnt k := fun hq => by
      obtain ⟨c, hc⟩ := (h.is k (cnt k)).2 ⟨rfl, hq⟩
      exact hn _ hc rfl
    have := h0 k
    dsimp only
    omega
def updC (cnt : Int → Int) (k v : Int) (j : Int) : Int := if j = k then v else cnt j
theorem nodup_at {l : List MpE} (hn : (l.map (·.1)).Nodup) {i j : Nat} {a b : MpE} (hi : l[i]? = some a) (hj : l[j]? = some b) (h : a.1 = b.1) : i = j := by
  have hi' : (l.map (·.1))[i]? = some a.1 := by rw [List.getElem?_map, hi]; rfl
  have hj' : (l.map (·.1))[j]? = some b.1 := by rw [List.getElem?_map, hj]; rfl
  obtain ⟨q1, e1⟩ := List.getElem?_eq_some_iff.1 hi'
  obtain ⟨q2, e2⟩ := List.getElem?_eq_some_iff.1 hj'
  rcases Nat.lt_trichotomy i j with q | q | q
  · exact absurd (e1.trans (h.trans e2.symm)) (List.pairwise_iff_getElem.1 hn i j q1 q2 q)
  · exact q
  · exact absurd (e2.trans (h.symm.trans e1.symm)) (List.pairwise_iff_getElem.1 hn j i q2 q1 q)
theorem UsesC.put {u : Mp} {cnt : Int → Int} (h : UsesC u cnt) (k v : Int) (hv : 0 < v) : UsesC (u.put k v) (updC cnt k v) ∧ (u.put k v).l.length = u.l.length + (if 0 < cnt k then 0 else 1) := by
  unfold Mp.put
  cases hi : idxM u.l k 0 with
  | none =>
    have hn := idxM_none.1 hi
    have hk : ¬ 0 < cnt k := fun q => by
      obtain ⟨e, he, hq⟩ := List.mem_map.1 (h.key.2 q)
      exact hn e he hq
    refine ⟨⟨?_, fun j w => ?_⟩, by simp [hk]⟩
    · rw [List.map_append, List.nodup_append]
      refine ⟨h.nodup, by simp, fun a ha b hb => ?_⟩
      obtain rfl : b = k := by simpa using hb
      intro q
      obtain ⟨e, he, hq⟩ := List.mem_map.1 ha
      exact hn e he (hq.trans q)
    · unfold updC
      constructor
      · rintro ⟨c, hc⟩
        rcases List.mem_append.1 hc with hc | hc
        · have hne : j ≠ k := fun q => hn _ hc q
          rw [if_neg hne]
          exact (h.is j w).1 ⟨c, hc⟩
        · obtain h9 := List.mem_singleton.1 hc
          cases h9
          rw [if_pos rfl]
          exact ⟨rfl, hv⟩
      · split
        · rename_i hj
          rintro ⟨rfl, _⟩
          subst hj
          exact ⟨u.clock, List.mem_append_right _ (List.mem_singleton.2 rfl)⟩
        · intro q
          obtain ⟨c, hc⟩ := (h.is j w).2 q
          exact ⟨c, List.mem_append_left _ hc⟩
  | some x =>
    obtain ⟨i, v0⟩ := x
    obtain ⟨c0, _, hc0⟩ := idxM_some hi
    rw [Nat.sub_zero] at hc0
    have hk : 0 < cnt k := h.key.1 (List.mem_map.2 ⟨_, List.mem_of_getElem? hc0, rfl⟩)
    have hm : (u.l.modify i fun e => (k, v, e.2.2)).map (·.1) = u.l.map (·.1) := by
      refine List.ext_getElem? fun q => ?_
      rw [List.getElem?_map, List.getElem?_map, List.getElem?_modify]
      by_cases hq : i = q
      · subst hq
        rw [hc0]
        simp
      · cases u.l[q]? <;> simp [hq]
    refine ⟨⟨by rw [hm]; exact h.nodup, fun j w => ?_⟩, by simp [hk]⟩
    unfold updC
    constructor
    · rintro ⟨c, hc⟩
      obtain ⟨q, hq⟩ := List.getElem?_of_mem hc
      rw [List.getElem?_modify] at hq
      by_cases hiq : i = q
      · subst hiq
        rw [hc0] at hq
        simp at hq
        obtain ⟨rfl, rfl, rfl⟩ := hq
        rw [if_pos rfl]
        exact ⟨rfl, hv⟩
      · have hq' : u.l[q]? = some (j, w, c) := by simpa [hiq] using hq
        have hne : j ≠ k := fun e => hiq (nodup_at h.nodup hc0 hq' e.symm)
        rw [if_neg hne]
        exact (h.is j w).1 ⟨c, List.mem_of_getElem? hq'⟩
    · split
      · rename_i hj
        rintro ⟨rfl, _⟩
        subst hj
        refine ⟨c0, List.mem_of_getElem? (i := i) ?_⟩
        rw [List.getElem?_modify, hc0]
        simp
      · rename_i hj
        intro q
        obtain ⟨c, hc⟩ := (h.is j w).2 q
        obtain ⟨z, hz⟩ := List.getElem?_of_mem hc
        refine ⟨c, List.mem_of_getElem? (i := z) ?_⟩
        have hiz : i ≠ z := fun e => by
          subst e
          rw [hc0] at hz
          cases hz
          exact hj rfl
        rw [List.getElem?_modify, hz]
        simp [hiz]
theorem UsesC.del {u : Mp} {cnt : Int → Int} (h : UsesC u cnt) (k : Int) : UsesC (u.del k) (updC cnt k 0) ∧ (u.del k).l.length + (if 0 < cnt k then 1 else 0) = u.l.length := by
  unfold Mp.del
  cases hi : idxM u.l k 0 with
  | none =>
    have hn := idxM_none.1 hi
    have hk : ¬ 0 < cnt k := fun q => by
      obtain ⟨e, he, hq⟩ := List.mem_map.1 (h.key.2 q)
      exact hn e he hq
    refine ⟨⟨h.nodup, fun j w => ?_⟩, by simp [hk]⟩
    rw [h.is]
    unfold updC
    split
    · rename_i hj
      subst hj
      constructor
      · rintro ⟨rfl, q⟩; exact absurd q hk
      · rintro ⟨rfl, q⟩; omega
    · exact Iff.rfl
  | some x =>
    obtain ⟨i, v0⟩ := x
    obtain ⟨c0, _, hc0⟩ := idxM_some hi
    rw [Nat.sub_zero] at hc0
    have hk : 0 < cnt k := h.key.1 (List.mem_map.2 ⟨_, List.mem_of_getElem? hc0, rfl⟩)
    have hil : i < u.l.length := (List.getElem?_eq_some_iff.1 hc0).1
    have hsub : (u.l.eraseIdx i).Sublist u.l := List.eraseIdx_sublist ..
    refine ⟨⟨h.nodup.sublist (hsub.map _), fun j w => ?_⟩, by rw [if_pos hk, List.length_eraseIdx_of_lt hil]; omega⟩
    have hmem : ∀ e, e ∈ u.l.eraseIdx i ↔ e ∈ u.l ∧ e.1 ≠ k := fun e => by
      rw [List.mem_eraseIdx_iff_getElem?]
      constructor
      · rintro ⟨q, hq, hqe⟩
        exact ⟨List.mem_of_getElem? hqe, fun e9 => hq (nodup_at h.nodup hc0 hqe e9.symm).symm⟩
      · rintro ⟨h1, h2⟩
        obtain ⟨q, hq⟩ := List.getElem?_of_mem h1
        exact ⟨q, fun e9 => by subst e9; rw [hc0] at hq; cases hq; exact h2 rfl, hq⟩
    unfold updC
    constructor
    · rintro ⟨c, hc⟩
      obtain ⟨h1, h2⟩ := (hmem _).1 hc
      rw [if_neg h2]
      exact (h.is j w).1 ⟨c, h1⟩
    · split
      · rintro ⟨rfl, q⟩; omega
      · rename_i hj
        intro q
        obtain ⟨c, hc⟩ := (h.is j w).2 q
        exact ⟨c, (hmem _).2 ⟨hc, hj⟩⟩
def cntV (L : List Pr) (k : Int) : Int := ((L.filter fun e => e.v == k).length : Int)
theorem cntV_nn (L : List Pr) (k : Int) : 0 ≤ cntV L k := Int.natCast_nonneg _
theorem cntV_le (L : List Pr) (k : Int) : cntV L k ≤ (L.length : Int) := by
  have := List.length_filter_le (fun e => e.v == k) L
  unfold cntV; omega
theorem cntV_pos {L : List Pr} {k : Int} : 0 < cntV L k ↔ ∃ e ∈ L, e.v = k := by
  unfold cntV
  constructor
  · intro h
    obtain ⟨e, he⟩ := List.exists_mem_of_length_pos (l := L.filter fun e => e.v == k) (by omega)
    obtain ⟨h1, h2⟩ := List.mem_filter.1 he
    exact ⟨e, h1, by simpa using h2⟩
  · rintro ⟨e, he, rfl⟩
    have := List.length_pos_of_mem (List.mem_filter (p := fun f => f.v == e.v).2 ⟨he, by simp⟩)
    omega
def unlikeL : List Int → List Int
  | [] => []
  | k :: l => if k ∈ l then unlikeL l else k :: unlikeL l
theorem unlike_mem : ∀ {l : List Int} {k : Int}, k ∈ unlikeL l ↔ k ∈ l
  | [], k => Iff.rfl
  | a :: l, k => by
    unfold unlikeL
    split
    · rename_i h
      rw [unlike_mem, List.mem_cons]
      exact ⟨.inr, fun q => q.elim (fun e => e ▸ h) id⟩
    · rw [List.mem_cons, List.mem_cons, unlike_mem]
theorem unlike_nodup : ∀ l : List Int, (unlikeL l).Nodup
  | [] => List.nodup_nil
  | a :: l => by
    unfold unlikeL
    split
    · exact unlike_nodup l
    · rename_i h
      exact List.nodup_cons.2 ⟨fun q => h (unlike_mem.1 q), unlike_nodup l⟩
def hopsN (L : List Pr) : Nat := (unlikeL (L.map (·.v))).length
theorem hops_len {L : List Pr} {K : List Int} (h1 : K.Nodup) (h2 : ∀ k, k ∈ K ↔ ∃ e ∈ L, e.v = k) : K.length = hopsN L := by
  refine Nat.le_antisymm (nodup_len h1 fun k hk => ?_) (nodup_len (unlike_nodup _) fun k hk => ?_)
  · rw [unlike_mem, List.mem_map]; exact (h2 k).1 hk
  · rw [unlike_mem, List.mem_map] at hk; exact (h2 k).2 hk
theorem hops_le (L : List Pr) : hopsN L ≤ L.length := by
  have := nodup_len (unlike_nodup (L.map (·.v))) (m := L.map (·.v)) fun k hk => unlike_mem.1 hk
  rwa [List.length_map] at this
theorem UsesC.len {u : Mp} {L : List Pr} (h : UsesC u (cntV L)) : u.l.length = hopsN L := by
  have := hops_len (L := L) h.nodup fun k => by rw [h.key, cntV_pos]
  rwa [List.length_map] at this
end Go.Proofs.Ytfcffemglcgbnaa.Hand
namespace Go.Proofs.Ytfcffemglcgbnaa.Hand
open Go.RowKit Go.Proofs.Ytfcffemglcgbnaa.Bits Go.Proofs.Ytfcffemglcgbnaa.Dig Go.Proofs.Ytfcffemglcgbnaa.Sq
set_option linter.unusedVariables false
set_option linter.unusedSimpArgs false
set_option maxRecDepth 100000
set_option maxHeartbeats 1000000
theorem idxM_mod {k v : Int} : ∀ {l : List MpE} {j i : Nat} {v0 : Int}, idxM l k j = some (i, v0) → idxM (l.modify (i - j) fun e => (k, v, e.2.2)) k j = some (i, v)
  | [], _, _, _, h => by cases h
  | e :: l, j, i, v0, h => by
    unfold idxM at h
    split at h
    · cases h
      rw [Nat.sub_self, List.modify_zero_cons, idxM, if_pos rfl]
    · rename_i hk
      obtain ⟨_, h1, _⟩ := idxM_some h
      rw [show i - j = (i - (j + 1)) + 1 by omega, List.modify_succ_cons, idxM, if_neg hk]
      exact idxM_mod h
theorem idxM_app {k v : Int} {c : Nat} : ∀ {l : List MpE} {j : Nat}, idxM l k j = none → idxM (l ++ [(k, v, c)]) k j = some (j + l.length, v)
  | [], j, _ => by rw [List.nil_append, idxM, if_pos rfl]; rfl
  | e :: l, j, h => by
    unfold idxM at h
    split at h
    · cases h
    · rename_i hk
      rw [List.cons_append, idxM, if_neg hk, idxM_app h, List.length_cons]
      congr 2
      omega
theorem put_get (u : Mp) (k v : Int) : (u.put k v).get k = v := by
  unfold Mp.put Mp.get
  cases hi : idxM u.l k 0 with
  | some x =>
    obtain ⟨i, v0⟩ := x
    have := idxM_mod (v := v) hi
    rw [Nat.sub_zero] at this
    dsimp only
    rw [this]
  | none =>
    dsimp only
    rw [idxM_app hi]
theorem put_del {u : Mp} {k : Int} (v : Int) (h : idxM u.l k 0 ≠ none) : (u.put k v).del k = u.del k := by
  unfold Mp.put Mp.del
  cases hi : idxM u.l k 0 with
  | none => exact absurd hi h
  | some x =>
    obtain ⟨i, v0⟩ := x
    have := idxM_mod (v := v) hi
    rw [Nat.sub_zero] at this
    dsimp only
    rw [this]
    dsimp only
    congr 1
    refine List.ext_getElem? fun q => ?_
    rw [List.getElem?_eraseIdx, List.getElem?_eraseIdx, List.getElem?_modify, List.getElem?_modify]
    have h1 : ∀ o : Option MpE, q < i → (fun a : MpE => if i = q then (k, v, a.2.2) else a) <$> o = o := fun o hq => by cases o <;> simp [show ¬ i = q by omega]
    have h2 : ∀ o : Option MpE, ¬ q < i → (fun a : MpE => if i = q + 1 then (k, v, a.2.2) else a) <$> o = o := fun o hq => by cases o <;> simp [show ¬ i = q + 1 by omega]
    split
    · rename_i hq; exact h1 _ hq
    · rename_i hq; exact h2 _ hq
def dropM (u : Mp) (k : Int) : Mp := if (u.put k (u.get k - 1)).get k = 0 then (u.put k (u.get k - 1)).del k else u.put k (u.get k - 1)
def incM (u : Mp) (k : Int) : Mp := u.put k (u.get k + 1)
theorem drop_uses {u : Mp} {cnt : Int → Int} (h : UsesC u cnt) (h0 : ∀ k, 0 ≤ cnt k) {k : Int} (hk : 0 < cnt k) : UsesC (dropM u k) (updC cnt k (cnt k - 1)) ∧ (dropM u k).l.length + (if cnt k = 1 then 1 else 0) = u.l.length := by
  have hg := h.get h0 k
  unfold dropM
  rw [put_get, hg]
  by_cases h1 : cnt k = 1
  · have hi : idxM u.l k 0 ≠ none := fun q => by
      have : u.get k = 0 := by unfold Mp.get; rw [q]
      omega
    rw [if_pos (by omega), put_del _ hi, if_pos h1]
    obtain ⟨d1, d2⟩ := h.del k
    rw [if_pos hk] at d2
    exact ⟨by rw [show cnt k - 1 = 0 by omega]; exact d1, d2⟩
  · rw [if_neg (by omega), if_neg h1]
    obtain ⟨d1, d2⟩ := h.put k (cnt k - 1) (by omega)
    rw [if_pos hk] at d2
    exact ⟨d1, by omega⟩
theorem inc_uses {u : Mp} {cnt : Int → Int} (h : UsesC u cnt) (h0 : ∀ k, 0 ≤ cnt k) (k : Int) : UsesC (incM u k) (updC cnt k (cnt k + 1)) ∧ (incM u k).l.length = u.l.length + (if 0 < cnt k then 0 else 1) := by
  have hg := h.get h0 k
  have := h0 k
  unfold incM
  rw [hg]
  exact h.put k (cnt k + 1) (by omega)
theorem out_filter (M : List Pr) (p : Px) (q : Pr → Bool) : outN (M.filter q) p = (outN M p).filter q := by
  unfold outN
  rw [List.filter_filter, List.filter_filter]
  exact List.filter_congr fun e _ => Bool.and_comm _ _
theorem cnt_get {L : List Pr} (hg : GoodL L) (p : Px) (k : Int) : cntV L k = cntV (outN L p) k + (if (getN L p).2 = true ∧ (getN L p).1 = k then 1 else 0) := by
  have hF : GoodL (L.filter fun e => e.v == k) := hg.sub List.filter_sublist
  unfold cntV
  rw [← out_filter]
  split
  · rename_i h
    have hm : (⟨p, (getN L p).1⟩ : Pr) ∈ L.filter fun e => e.v == k := List.mem_filter.2 ⟨get_mem h.1, by simpa using h.2⟩
    have := out_len hF hm rfl
    dsimp only at this
    omega
  · rename_i h
    have := (out_same (L := L.filter fun e => e.v == k) (p := p)).2 fun e he hq => h (by
      obtain ⟨h1, h2⟩ := List.mem_filter.1 he
      have h3 : (⟨p, e.v⟩ : Pr) ∈ L := by rw [← hq]; exact h1
      rw [get_some hg h3]
      exact ⟨rfl, by simpa using h2⟩)
    rw [this]
    omega
theorem out_put {L : List Pr} (hg : GoodL L) {p : Px} (hs : sanB p = true) (v : Int) : outN (putG p v false L) p = outN L p := by
  obtain ⟨h1, h2⟩ := put_spec (v := v) hs hg
  refine GoodL.ext (out_good h1 p) (out_good hg p) fun e => ?_
  rw [out_mem, out_mem, h2]
  constructor
  · rintro ⟨rfl | h, hn⟩
    · exact absurd rfl hn
    · exact h
  · exact fun h => ⟨.inr h, h.2⟩
theorem rget_put {L : List Pr} (hg : GoodL L) {p : Px} (hs : sanB p = true) (v : Int) : getN (putG p v false L) p = (v, true) := by
  obtain ⟨h1, h2⟩ := put_spec (v := v) hs hg
  exact get_some h1 ((h2 _).2 (.inl rfl))
theorem cnt_put {L : List Pr} (hg : GoodL L) {p : Px} (hs : sanB p = true) (v k : Int) : cntV (putG p v false L) k = cntV (outN L p) k + (if v = k then 1 else 0) := by
  have h := cnt_get (put_spec (v := v) hs hg).1 p k
  rw [out_put hg hs, rget_put hg hs] at h
  simpa using h
def addU (L : List Pr) (u : Mp) (p : Px) (hop : Int) : Mp := incM (if (getN L p).2 = true then dropM u (getN L p).1 else u) hop
theorem upd2 {c cO : Int → Int} {w hop : Int} (hc : ∀ k, c k = cO k + if w = k then 1 else 0) : updC (updC c w (c w - 1)) hop (updC c w (c w - 1) hop + 1) = fun k => cO k + if hop = k then 1 else 0 := funext fun k => by
  have h1 := hc k
  unfold updC
  by_cases e1 : k = hop
  · subst e1
    by_cases e2 : k = w
    · subst e2; simp at h1 ⊢; omega
    · simp [e2, Ne.symm e2] at h1 ⊢; omega
  · by_cases e2 : k = w
    · subst e2; simp [e1, Ne.symm e1] at h1 ⊢; omega
    · simp [e1, e2, Ne.symm e1, Ne.symm e2] at h1 ⊢; omega
theorem upd0 {c cO : Int → Int} {hop : Int} (hc : ∀ k, c k = cO k) : updC c hop (c hop + 1) = fun k => cO k + if hop = k then 1 else 0 := funext fun k => by
  have h1 := hc k
  unfold updC
  by_cases e1 : k = hop
  · subst e1; simp; omega
  · simp [e1, Ne.symm e1]; omega
theorem add_uses {L : List Pr} {u : Mp} (hg : GoodL L) (h : UsesC u (cntV L)) {p : Px} (hs : sanB p = true) (hop : Int) : UsesC (addU L u p hop) (cntV (putG p hop false L)) ∧
    ((addU L u p hop).l.length : Int) = (u.l.length : Int) + (if cntV L hop = 0 then 1 else 0) - (if (getN L p).2 = true ∧ (getN L p).1 ≠ hop ∧ cntV L (getN L p).1 = 1 then 1 else 0) := by
  have h0 := cntV_nn L
  have hcp : cntV (putG p hop false L) = fun k => cntV (outN L p) k + if hop = k then 1 else 0 := funext fun k => cnt_put hg hs hop k
  have hcg := cnt_get hg p
  rw [hcp]
  unfold addU
  cases hh : (getN L p).2 with
  | true =>
    rw [if_pos rfl]
    have hpos : 0 < cntV L (getN L p).1 := cntV_pos.2 ⟨_, get_mem hh, rfl⟩
    rw [hh] at hcg
    simp only [true_and] at hcg
    obtain ⟨d1, d2⟩ := drop_uses h h0 hpos
    have h0' : ∀ k, 0 ≤ updC (cntV L) (getN L p).1 (cntV L (getN L p).1 - 1) k := fun k => by
      unfold updC; split
      · omega
      · exact h0 k
    obtain ⟨i1, i2⟩ := inc_uses d1 h0' hop
    rw [upd2 hcg] at i1
    refine ⟨i1, ?_⟩
    rw [i2]
    unfold updC
    have hhop := h0 hop
    generalize (getN L p).1 = w at *
    by_cases e2 : hop = w
    · subst e2
      simp only [true_and, ne_eq, not_true_eq_false, false_and, if_true, if_false]
      by_cases e3 : cntV L hop = 1
      · simp [e3] at d2 ⊢; omega
      · rw [if_neg e3] at d2
        rw [if_pos (show 0 < cntV L hop - 1 by omega), if_neg (show ¬ cntV L hop = 0 by omega)]; omega
    · rw [if_neg e2]
      have e5 : ¬ w = hop := fun q => e2 q.symm
      simp only [ne_eq, e5, not_false_eq_true, true_and]
      by_cases e4 : cntV L hop = 0
      · rw [if_pos e4, if_neg (show ¬ 0 < cntV L hop by omega)]
        split at d2 <;> rename_i e3
        · rw [if_pos e3]; omega
        · rw [if_neg e3]; omega
      · rw [if_neg e4, if_pos (show 0 < cntV L hop by omega)]
        split at d2 <;> rename_i e3
        · rw [if_pos e3]; omega
        · rw [if_neg e3]; omega
  | false =>
    rw [if_neg (by decide)]
    rw [hh] at hcg
    have e7 : ¬ (false = true ∧ (getN L p).1 ≠ hop ∧ cntV L (getN L p).1 = 1) := fun q => Bool.noConfusion q.1
    rw [if_neg e7]
    simp only [Bool.false_eq_true, false_and, if_false, Int.add_zero] at hcg
    obtain ⟨i1, i2⟩ := inc_uses h h0 hop
    rw [upd0 hcg] at i1
    refine ⟨i1, ?_⟩
    rw [i2]
    have hhop := h0 hop
    by_cases e4 : cntV L hop = 0
    · rw [if_pos e4, if_neg (by omega)]; omega
    · rw [if_neg e4, if_pos (by omega)]; omega
noncomputable def fitB (L : List Pr) (N H : Int) (p : Px) (hop : Int) : Bool := decide (((putG p hop false L).length : Int) ≤ N ∧ (hopsN (putG p hop false L) : Int) ≤ H)
noncomputable def addN (L : List Pr) (mo N H : Int) (p : Px) (hop : Int) : List Pr × Int × Int :=
  if sanB p = true then (if 0 ≤ hop ∧ hop ≤ 65535 then (if fitB L N H p hop = true then (putG p hop false L, mx2 mo (nodesN (putG p hop false L)), 0) else (L, mo, 3)) else (L, mo, 4)) else (L, mo, 1)
end Go.Proofs.Ytfcffemglcgbnaa.Hand
