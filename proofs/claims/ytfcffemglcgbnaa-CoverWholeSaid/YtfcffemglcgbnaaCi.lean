/-
  CoverWhole.
-/
import Derived.Test.YtfcffemglcgbnaaCf
import Derived.Test.YtfcffemglcgbnaaEn
import Derived.Test.YtfcffemglcgbnaaNx
namespace Go.Proofs.Ytfcffemglcgbnaa.Hand
open Go.RowKit Go.Proofs.Ytfcffemglcgbnaa.Bits Go.Proofs.Ytfcffemglcgbnaa.Dig Go.Proofs.Ytfcffemglcgbnaa.Sq
set_option linter.unusedVariables false
set_option linter.unusedSimpArgs false
set_option maxRecDepth 100000
set_option maxHeartbeats 8000000
noncomputable def lasK (v : Bool) (q : List Bool) : Ad := ⟨hiA v (filD (digK q) q.length), loA v (filD (digK q) q.length), v⟩
noncomputable def lasP (p : Px) : Ad := lasK (keyP p).1 (keyP p).2
noncomputable def nxA (a : Ad) : Ad := ⟨(nextA a.hi a.lo a.v6).1, (nextA a.hi a.lo a.v6).2.1, a.v6⟩
theorem lasK_D {v : Bool} {q : List Bool} {i : Nat} (h : i < W v) : D (lasK v q).hi (lasK v q).lo i = (decide (q.length ≤ i) || digK q i) := by
  show D (hiA v _) (loA v _) i = _
  rw [D_mk, decide_eq_true h, Bool.true_and]
  rfl
theorem digK_ge {q : List Bool} {i : Nat} (h : q.length ≤ i) : digK q i = false := by
  unfold digK
  rw [List.getD_eq_getElem?_getD, List.getElem?_eq_none h]
  rfl
theorem digK_lt {q : List Bool} {b : Bool} {i : Nat} (h : i < q.length) : digK (q ++ [b]) i = digK q i := by
  unfold digK
  rw [List.getD_eq_getElem?_getD, List.getD_eq_getElem?_getD, List.getElem?_append_left h]
theorem digK_at (q : List Bool) (b : Bool) : digK (q ++ [b]) q.length = b := by
  unfold digK
  rw [List.getD_eq_getElem?_getD]
  simp
theorem first_kid (v : Bool) (q : List Bool) : (pxK (v, q ++ [false])).a = (pxK (v, q)).a := by
  have e : digK (q ++ [false]) = digK q := funext fun i => by
    by_cases h : i < q.length
    · exact digK_lt h
    · by_cases h2 : i = q.length
      · subst h2; rw [digK_at, digK_ge (Nat.le_refl _)]
      · rw [digK_ge (by rw [List.length_append, List.length_singleton]; omega), digK_ge (by omega)]
  show (⟨hiA v (digK (q ++ [false])), loA v (digK (q ++ [false])), v⟩ : Ad) = ⟨hiA v (digK q), loA v (digK q), v⟩
  rw [e]
theorem last_kid (v : Bool) (q : List Bool) : lasK v (q ++ [true]) = lasK v q := by
  have e : filD (digK (q ++ [true])) (q ++ [true]).length = filD (digK q) q.length := funext fun i => by
    unfold filD
    rw [List.length_append, List.length_singleton]
    by_cases h : i < q.length
    · rw [digK_lt h, decide_eq_false (by omega), decide_eq_false (by omega)]
    · by_cases h2 : i = q.length
      · subst h2; rw [digK_at, decide_eq_true (Nat.le_refl _)]; simp
      · rw [decide_eq_true (show q.length + 1 ≤ i by omega), decide_eq_true (show q.length ≤ i by omega)]; rfl
  unfold lasK
  rw [e]
theorem next_kid {v : Bool} {q : List Bool} (h : q.length < W v) : nxA (lasK v (q ++ [false])) = (pxK (v, q ++ [true])).a := by
  have hd : ∀ i, i < W v → D (lasK v (q ++ [false])).hi (lasK v (q ++ [false])).lo i = (decide (q.length + 1 ≤ i) || digK (q ++ [false]) i) := fun i hi => by rw [lasK_D hi, List.length_append, List.length_singleton]
  have hq : D (lasK v (q ++ [false])).hi (lasK v (q ++ [false])).lo q.length = false := by rw [hd _ h, decide_eq_false (by omega), digK_at]; rfl
  have hv : (lasK v (q ++ [false])).v6 = v := rfl
  unfold nxA
  rw [hv]
  rcases next_spec (lasK v (q ++ [false])).hi (lasK v (q ++ [false])).lo v with ⟨k, hk, h0, h1, h2⟩ | ⟨h1, _⟩
  · have hkq : k = q.length := by
      rcases Nat.lt_trichotomy k q.length with hlt | heq | hgt
      · rw [h1 _ hlt h] at hq; cases hq
      · exact heq
      · rw [hd k hk, decide_eq_true (by omega)] at h0; cases h0
    subst hkq
    have e : ∀ i, i < W v → upD (D (lasK v (q ++ [false])).hi (lasK v (q ++ [false])).lo) q.length i = digK (q ++ [true]) i := fun i hi => by
      unfold upD
      by_cases hlt : i < q.length
      · rw [if_pos hlt, hd i hi, decide_eq_false (by omega), digK_lt hlt, digK_lt hlt]; rfl
      · rw [if_neg hlt]
        by_cases he : i = q.length
        · subst he; rw [digK_at]; simp
        · rw [decide_eq_false he, digK_ge (by rw [List.length_append, List.length_singleton]; omega)]
    rw [h2]
    show (⟨hiA v _, loA v _, v⟩ : Ad) = ⟨hiA v (digK (q ++ [true])), loA v (digK (q ++ [true])), v⟩
    rw [hi_congr e, lo_congr e]
  · rw [h1 _ h] at hq; cases hq
structure Run (v : Bool) (l : List P8) (q : List Bool) : Prop where
  pos : 0 < l.length
  all : ∀ x ∈ l, ∃ r : List Bool, q <+: r ∧ r.length ≤ W v ∧ x.p = pxK (v, r)
  head : ∀ x, l[0]? = some x → x.p.a = (pxK (v, q)).a
  last : ∀ x, l[l.length - 1]? = some x → lasP x.p = lasK v q
  mid : ∀ i x, i + 1 < l.length → l[i]? = some x → lasP x.p ≠ lasK v q
  adj : ∀ i x y, l[i]? = some x → l[i + 1]? = some y → nxA (lasP x.p) = y.p.a
theorem lasP_k {v : Bool} {r : List Bool} (h : r.length ≤ W v) : lasP (pxK (v, r)) = lasK v r := by unfold lasP; rw [keyP_pxK (k := (v, r)) h]
theorem run_one {L : List Pr} {v : Bool} {q : List Bool} (h : q.length ≤ W v) : Run v [pieceN L (pxK (v, q))] q :=
  ⟨Nat.zero_lt_one, fun x hx => by obtain rfl := List.mem_singleton.1 hx; exact ⟨q, List.prefix_refl _, h, rfl⟩, fun x hx => by cases hx; rfl, fun x hx => by cases hx; exact lasP_k h, fun i x hi => by rw [List.length_singleton] at hi; omega, fun i x y hx hy => by
    have := (List.getElem?_eq_some_iff.1 hy).1
    rw [List.length_singleton] at this
    omega⟩
theorem run_app {v : Bool} {l m : List P8} {q : List Bool} (h : q.length < W v) (hl : Run v l (q ++ [false])) (hm : Run v m (q ++ [true])) : Run v (l ++ m) q := by
  have hlp := hl.pos
  have hmp := hm.pos
  refine ⟨by rw [List.length_append]; omega, fun x hx => ?_, fun x hx => ?_, fun x hx => ?_, fun i x hi hx => ?_, fun i x y hx hy => ?_⟩
  · rcases List.mem_append.1 hx with hx | hx
    · obtain ⟨r, h1, h2, h3⟩ := hl.all x hx
      exact ⟨r, (List.prefix_append _ _).trans h1, h2, h3⟩
    · obtain ⟨r, h1, h2, h3⟩ := hm.all x hx
      exact ⟨r, (List.prefix_append _ _).trans h1, h2, h3⟩
  · rw [List.getElem?_append_left hlp] at hx
    rw [hl.head x hx, first_kid]
  · rw [List.length_append, List.getElem?_append_right (by omega), show l.length + m.length - 1 - l.length = m.length - 1 by omega] at hx
    rw [hm.last x hx, last_kid]
  · by_cases hil : i < l.length
    · rw [List.getElem?_append_left hil] at hx
      obtain ⟨r, h1, h2, h3⟩ := hl.all x (List.mem_of_getElem? hx)
      rw [h3, lasP_k h2]
      intro he
      have hlen := h1.length_le
      rw [List.length_append, List.length_singleton] at hlen
      have e1 : D (lasK v r).hi (lasK v r).lo q.length = false := by
        rw [lasK_D h, decide_eq_false (by omega)]
        obtain ⟨t, ht⟩ := h1
        show digK r q.length = false
        rw [← ht]
        unfold digK
        rw [List.getD_eq_getElem?_getD, List.append_assoc, List.getElem?_append_right (Nat.le_refl _), Nat.sub_self]
        rfl
      have e2 : D (lasK v q).hi (lasK v q).lo q.length = true := by rw [lasK_D h, decide_eq_true (Nat.le_refl _)]; rfl
      rw [he, e2] at e1
      cases e1
    · rw [List.getElem?_append_right (by omega)] at hx
      rw [List.length_append] at hi
      rw [← last_kid]
      exact hm.mid _ x (by omega) hx
  · by_cases hil : i + 1 < l.length
    · rw [List.getElem?_append_left (by omega)] at hx
      rw [List.getElem?_append_left hil] at hy
      exact hl.adj i x y hx hy
    · by_cases hil2 : i + 1 = l.length
      · rw [List.getElem?_append_left (by omega), show i = l.length - 1 by omega] at hx
        rw [List.getElem?_append_right (by omega), show i + 1 - l.length = 0 by omega] at hy
        rw [hl.last x hx, next_kid h, hm.head y hy]
      · rw [List.getElem?_append_right (by omega)] at hx
        rw [List.getElem?_append_right (by omega), show i + 1 - l.length = (i - l.length) + 1 by omega] at hy
        exact hm.adj _ x y hx hy
theorem run_pcs {L : List Pr} {v : Bool} : ∀ (k : Nat) (q : List Bool), q.length + k = W v → Run v (pcsK L v k q) q
  | 0, q, h => by rw [pcsK]; exact run_one (by omega)
  | k + 1, q, h => by
    rw [pcsK]
    split
    · exact run_app (by omega) (run_pcs k _ (by rw [List.length_append, List.length_singleton]; omega)) (run_pcs k _ (by rw [List.length_append, List.length_singleton]; omega))
    · exact run_one (by omega)
theorem endsK_s {v : Bool} {r : List Bool} (h : r.length ≤ W v) : Cal Try.prog 33 [(pxK (v, r)).val] (.tuple #[(pxK (v, r)).a.val, (lasK v r).val]) := by
  have k := ends_pk v (digK r) r.length h
  rw [digK_cut] at k
  exact k
def eqAd (a b : Ad) : Bool := a.hi == b.hi && (a.lo == b.lo && a.v6 == b.v6)
theorem eqAd_iff {a b : Ad} : eqAd a b = true ↔ a = b := by
  obtain ⟨a1, a2, a3⟩ := a
  obtain ⟨b1, b2, b3⟩ := b
  simp [eqAd]
end Go.Proofs.Ytfcffemglcgbnaa.Hand
