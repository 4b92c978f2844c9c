/-
  Pieces of a block: plain laws.
-/
import Derived.Test.YtfcffemglcgbnaaLa
namespace Go.Proofs.Ytfcffemglcgbnaa.Hand
open Go.RowKit Go.Proofs.Ytfcffemglcgbnaa.Bits Go.Proofs.Ytfcffemglcgbnaa.Dig Go.Proofs.Ytfcffemglcgbnaa.Sq
set_option linter.unusedVariables false
set_option linter.unusedSimpArgs false
set_option maxRecDepth 100000
set_option maxHeartbeats 1000000
structure P8 where
  p : Px
  v : Int
  ok : Bool
def P8.cells (x : P8) : List Value := [.int .u64 x.p.a.hi, .int .u64 x.p.a.lo, .bool x.p.a.v6, .int .i64 x.p.n, .int .i64 x.v, .bool x.ok]
noncomputable def pieceN (L : List Pr) (p : Px) : P8 := ⟨p, (govN L p).1.v, (govN L p).2⟩
noncomputable def pcsK (L : List Pr) (v : Bool) : Nat → List Bool → List P8
  | 0, q => [pieceN L (pxK (v, q))]
  | k + 1, q => if insN L (pxK (v, q)) = true then pcsK L v k (q ++ [false]) ++ pcsK L v k (q ++ [true]) else [pieceN L (pxK (v, q))]
noncomputable def pcsQ (L : List Pr) (v : Bool) (q : List Bool) : List P8 := pcsK L v (W v - q.length) q
noncomputable def pcsN (L : List Pr) (p : Px) : List P8 := if sanB p = true then pcsQ L (keyP p).1 (keyP p).2 else []
theorem insK {L : List Pr} (hg : GoodL L) {v : Bool} {q : List Bool} (hq : q.length ≤ W v) : insN L (pxK (v, q)) = true ↔ ∃ e ∈ L, (keyP e.p).1 = v ∧ q <+: (keyP e.p).2 ∧ (keyP e.p).2 ≠ q := by
  rw [insE_iff]
  have hs := sanB_pxK (k := (v, q)) hq
  constructor
  · rintro ⟨e, he, h1, h2⟩
    obtain ⟨a1, a2, a3, a4⟩ := cov_key.1 h2
    rw [keyP_pxK (k := (v, q)) hq] at a3 a4
    refine ⟨e, he, a3.symm, a4, fun h => h1 (key_inj a2 hs ?_)⟩
    rw [keyP_pxK (k := (v, q)) hq]
    exact Prod.ext a3.symm h
  · rintro ⟨e, he, h1, h2, h3⟩
    refine ⟨e, he, fun h => h3 ?_, cov_key.2 ⟨hs, hg.sane e he, ?_, ?_⟩⟩
    · rw [h, keyP_pxK (k := (v, q)) hq]
    · rw [keyP_pxK (k := (v, q)) hq]; exact h1.symm
    · rw [keyP_pxK (k := (v, q)) hq]; exact h2
theorem insK_full {L : List Pr} (hg : GoodL L) {v : Bool} {q : List Bool} (hq : q.length = W v) : insN L (pxK (v, q)) = false := by
  cases h : insN L (pxK (v, q)) with
  | false => rfl
  | true =>
    obtain ⟨e, he, h1, h2, h3⟩ := (insK hg (by omega)).1 h
    refine absurd (h2.eq_of_length (Nat.le_antisymm h2.length_le ?_)).symm h3
    have := key_le (hg.sane e he)
    rw [h1] at this
    omega
theorem pcsQ_in {L : List Pr} (hg : GoodL L) {v : Bool} {q : List Bool} (hq : q.length ≤ W v) (hi : insN L (pxK (v, q)) = true) : q.length < W v ∧ pcsQ L v q = pcsQ L v (q ++ [false]) ++ pcsQ L v (q ++ [true]) := by
  have hlt : q.length < W v := Nat.lt_of_le_of_ne hq fun h => by rw [insK_full hg h] at hi; cases hi
  refine ⟨hlt, ?_⟩
  unfold pcsQ
  rw [show W v - q.length = (W v - (q ++ [false]).length) + 1 by rw [List.length_append, List.length_singleton]; omega, pcsK, if_pos hi]
  simp only [List.length_append, List.length_singleton]
theorem pcsQ_no {L : List Pr} {v : Bool} {q : List Bool} (hi : insN L (pxK (v, q)) = false) : pcsQ L v q = [pieceN L (pxK (v, q))] := by
  unfold pcsQ
  cases W v - q.length with
  | zero => rfl
  | succ k => rw [pcsK, if_neg (by rw [hi]; decide)]
theorem pcsQ_pos {L : List Pr} (v : Bool) : ∀ (k : Nat) (q : List Bool), 0 < (pcsK L v k q).length
  | 0, q => by rw [pcsK]; exact Nat.zero_lt_succ _
  | k + 1, q => by
    rw [pcsK]
    split
    · rw [List.length_append]
      have := pcsQ_pos (L := L) v k (q ++ [false])
      omega
    · exact Nat.zero_lt_succ _
def overK (v : Bool) (q : List Bool) (L : List Pr) : Nat := (L.map fun e => if (keyP e.p).1 = v ∧ q <+: (keyP e.p).2 then (keyP e.p).2.length - q.length else 0).sum
theorem over_split (v : Bool) (q : List Bool) : ∀ L : List Pr, overK v (q ++ [false]) L + overK v (q ++ [true]) L + (if ∃ e ∈ L, (keyP e.p).1 = v ∧ q <+: (keyP e.p).2 ∧ (keyP e.p).2 ≠ q then 1 else 0) ≤ overK v q L
  | [] => by simp [overK]
  | x :: L => by
    have ih := over_split v q L
    unfold overK at ih ⊢
    rw [List.map_cons, List.map_cons, List.map_cons, List.sum_cons, List.sum_cons, List.sum_cons]
    have hx : (if (keyP x.p).1 = v ∧ q ++ [false] <+: (keyP x.p).2 then (keyP x.p).2.length - (q ++ [false]).length else 0) + (if (keyP x.p).1 = v ∧ q ++ [true] <+: (keyP x.p).2 then (keyP x.p).2.length - (q ++ [true]).length else 0) + (if (keyP x.p).1 = v ∧ q <+: (keyP x.p).2 ∧ (keyP x.p).2 ≠ q then 1 else 0) ≤ (if (keyP x.p).1 = v ∧ q <+: (keyP x.p).2 then (keyP x.p).2.length - q.length else 0) := by
      by_cases hv : (keyP x.p).1 = v
      · by_cases hq : q <+: (keyP x.p).2
        · obtain ⟨t, ht⟩ := hq
          cases t with
          | nil =>
            rw [List.append_nil] at ht
            have n1 : ∀ b : Bool, ¬ (q ++ [b] <+: (keyP x.p).2) := fun b h => by
              have := h.length_le
              rw [← ht, List.length_append, List.length_singleton] at this
              omega
            rw [if_neg (fun h => n1 _ h.2), if_neg (fun h => n1 _ h.2), if_neg (fun h => h.2.2 ht.symm)]
            omega
          | cons b t =>
            have e1 : q ++ [b] <+: (keyP x.p).2 := ⟨t, by rw [List.append_assoc]; exact ht⟩
            have n1 : ¬ (q ++ [!b] <+: (keyP x.p).2) := fun h => by
              have := List.prefix_of_prefix_length_le h e1 (by simp)
              have := this.eq_of_length (by simp)
              have := List.append_cancel_left this
              cases b <;> cases this
            have hl : (keyP x.p).2.length = q.length + (t.length + 1) := by rw [← ht]; simp
            rw [if_pos (show (keyP x.p).1 = v ∧ q <+: (keyP x.p).2 from ⟨hv, ⟨_, ht⟩⟩)]
            cases b with
            | false =>
              rw [if_pos ⟨hv, e1⟩, if_neg (fun h => n1 h.2), List.length_append, List.length_singleton]
              split <;> omega
            | true =>
              rw [if_neg (fun h => n1 h.2), if_pos ⟨hv, e1⟩, List.length_append, List.length_singleton]
              split <;> omega
        · have n1 : ∀ b : Bool, ¬ (q ++ [b] <+: (keyP x.p).2) := fun b h => hq ((List.prefix_append _ _).trans h)
          rw [if_neg (fun h => n1 _ h.2), if_neg (fun h => n1 _ h.2), if_neg (fun h => hq h.2.1)]
          omega
      · rw [if_neg (fun h => hv h.1), if_neg (fun h => hv h.1), if_neg (fun h => hv h.1)]
        omega
    have hor : (if ∃ e ∈ x :: L, (keyP e.p).1 = v ∧ q <+: (keyP e.p).2 ∧ (keyP e.p).2 ≠ q then 1 else 0) ≤ (if (keyP x.p).1 = v ∧ q <+: (keyP x.p).2 ∧ (keyP x.p).2 ≠ q then 1 else 0) + (if ∃ e ∈ L, (keyP e.p).1 = v ∧ q <+: (keyP e.p).2 ∧ (keyP e.p).2 ≠ q then 1 else 0) := by
      by_cases h1 : (keyP x.p).1 = v ∧ q <+: (keyP x.p).2 ∧ (keyP x.p).2 ≠ q
      · rw [if_pos h1]; split <;> omega
      · by_cases h2 : ∃ e ∈ L, (keyP e.p).1 = v ∧ q <+: (keyP e.p).2 ∧ (keyP e.p).2 ≠ q
        · rw [if_pos h2]; split <;> omega
        · rw [if_neg (fun ⟨e, he, h⟩ => by
            rcases List.mem_cons.1 he with rfl | he
            · exact h1 h
            · exact h2 ⟨e, he, h⟩)]
          omega
    omega
theorem pcs_le {L : List Pr} (hg : GoodL L) {v : Bool} : ∀ (k : Nat) (q : List Bool), q.length + k = W v → (pcsK L v k q).length ≤ 1 + overK v q L
  | 0, q, h => by rw [pcsK, List.length_singleton]; exact Nat.le_add_right _ _
  | k + 1, q, h => by
    rw [pcsK]
    split
    · rename_i hi
      have h1 := pcs_le hg (v := v) k (q ++ [false]) (by rw [List.length_append, List.length_singleton]; omega)
      have h2 := pcs_le hg (v := v) k (q ++ [true]) (by rw [List.length_append, List.length_singleton]; omega)
      have h3 := over_split v q L
      rw [if_pos ((insK hg (by omega)).1 hi)] at h3
      rw [List.length_append]
      omega
    · rw [List.length_singleton]; omega
theorem over_le {L : List Pr} (hg : GoodL L) (v : Bool) (q : List Bool) : overK v q L ≤ 128 * L.length := by
  have : ∀ M : List Pr, (∀ e ∈ M, e ∈ L) → overK v q M ≤ 128 * M.length := fun M => by
    induction M with
    | nil => intro _; simp [overK]
    | cons x M ih =>
      intro hM
      have := ih fun e he => hM e (List.mem_cons_of_mem _ he)
      have hx := key_le (hg.sane x (hM x (List.mem_cons_self ..)))
      have hW := W_le (keyP x.p).1
      unfold overK at this ⊢
      rw [List.map_cons, List.sum_cons, List.length_cons]
      split <;> omega
  exact this L fun e he => he
theorem pcsN_le {L : List Pr} (hg : GoodL L) (p : Px) : (pcsN L p).length ≤ 1 + 128 * L.length := by
  unfold pcsN
  split
  · rename_i hs
    have h1 := pcs_le hg (v := (keyP p).1) (W (keyP p).1 - (keyP p).2.length) (keyP p).2 (by have := key_le hs; omega)
    have h2 := over_le hg (keyP p).1 (keyP p).2
    unfold pcsQ
    omega
  · exact Nat.zero_le _
noncomputable def pcsS (L : List Pr) (v : Bool) (st : List (List Bool)) : List P8 := st.reverse.flatMap (pcsQ L v)
theorem pcsS_snoc (L : List Pr) (v : Bool) (st : List (List Bool)) (q : List Bool) : pcsS L v (st ++ [q]) = pcsQ L v q ++ pcsS L v st := by
  unfold pcsS
  rw [List.reverse_append, List.reverse_singleton, List.singleton_append, List.flatMap_cons]
noncomputable def stpS (L : List Pr) (v : Bool) (st : List (List Bool)) : Nat := (st.map fun q => 2 * (pcsQ L v q).length - 1).sum
theorem stpS_snoc (L : List Pr) (v : Bool) (st : List (List Bool)) (q : List Bool) : stpS L v (st ++ [q]) = stpS L v st + (2 * (pcsQ L v q).length - 1) := by
  unfold stpS
  rw [List.map_append, List.sum_append]
  simp
theorem pcsQ_one {L : List Pr} (v : Bool) (q : List Bool) : 1 ≤ (pcsQ L v q).length := pcsQ_pos v _ _
theorem stpS_in {L : List Pr} (hg : GoodL L) {v : Bool} (st : List (List Bool)) {q : List Bool} (hq : q.length ≤ W v) (hi : insN L (pxK (v, q)) = true) : stpS L v (st ++ [q ++ [true], q ++ [false]]) < stpS L v (st ++ [q]) := by
  rw [show st ++ [q ++ [true], q ++ [false]] = (st ++ [q ++ [true]]) ++ [q ++ [false]] by simp, stpS_snoc, stpS_snoc, stpS_snoc, (pcsQ_in hg hq hi).2, List.length_append]
  have := pcsQ_one (L := L) v (q ++ [false])
  have := pcsQ_one (L := L) v (q ++ [true])
  omega
theorem stpS_no {L : List Pr} {v : Bool} (st : List (List Bool)) {q : List Bool} (hi : insN L (pxK (v, q)) = false) : stpS L v st < stpS L v (st ++ [q]) := by
  rw [stpS_snoc, pcsQ_no hi, List.length_singleton]
  omega
end Go.Proofs.Ytfcffemglcgbnaa.Hand
