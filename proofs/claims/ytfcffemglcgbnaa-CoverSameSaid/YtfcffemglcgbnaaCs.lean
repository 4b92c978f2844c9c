/-
  Pieces of a block: plain laws.
-/
import Derived.Test.YtfcffemglcgbnaaLa
namespace Go.Proofs.Ytfcffemglcgbnaa.Hand
open Go.RowKit Go.Proofs.Ytfcffemglcgbnaa.Bits Go.Proofs.Ytfcffemglcgbnaa.Dig Go.Proofs.Ytfcffemglcgbnaa.Sq
set_option linter.unusedVariables false
set_option linter.unusedSimpArgs false
set_option maxRecDepth 100000
set_option maxHeartbeats 1000000
structure P8 where
  p : Px
  v : Int
  ok : Bool
def P8.cells (x : P8) : List Value := [.int .u64 x.p.a.hi, .int .u64 x.p.a.lo, .bool x.p.a.v6, .int .i64 x.p.n, .int .i64 x.v, .bool x.ok]
noncomputable def pieceN (L : List Pr) (p : Px) : P8 := ⟨p, (govN L p).1.v, (govN L p).2⟩
noncomputable def pcsK (L : List Pr) (v : Bool) : Nat → List Bool → List P8
  | 0, q => [pieceN L (pxK (v, q))]
  | k + 1, q => if insN L (pxK (v, q)) = true then pcsK L v k (q ++ [false]) ++ pcsK L v k (q ++ [true]) else [pieceN L (pxK (v, q))]
noncomputable def pcsQ (L : List Pr) (v : Bool) (q : List Bool) : List P8 := pcsK L v (W v - q.length) q
noncomputable def pcsN (L : List Pr) (p : Px) : List P8 := if sanB p = true then pcsQ L (keyP p).1 (keyP p).2 else []
theorem insK {L : List Pr} (hg : GoodL L) {v : Bool} {q : List Bool} (hq : q.length ≤ W v) : insN L (pxK (v, q)) = true ↔ ∃ e ∈ L, (keyP e.p).1 = v ∧ q <+: (keyP e.p).2 ∧ (keyP e.p).2 ≠ q := by
  rw [insE_iff]
  have hs := sanB_pxK (k := (v, q)) hq
  constructor
  · rintro ⟨e, he, h1, h2⟩
    obtain ⟨a1, a2, a3, a4⟩ := cov_key.1 h2
    rw [keyP_pxK (k := (v, q)) hq] at a3 a4
    refine ⟨e, he, a3.symm, a4, fun h => h1 (key_inj a2 hs ?_)⟩
    rw [keyP_pxK (k := (v, q)) hq]
    exact Prod.ext a3.symm h
  · rintro ⟨e, he, h1, h2, h3⟩
    refine ⟨e, he, fun h => h3 ?_, cov_key.2 ⟨hs, hg.sane e he, ?_, ?_⟩⟩
    · rw [h, keyP_pxK (k := (v, q)) hq]
    · rw [keyP_pxK (k := (v, q)) hq]; exact h1.symm
    · rw [keyP_pxK (k := (v, q)) hq]; exact h2
theorem insK_full {L : List Pr} (hg : GoodL L) {v : Bool} {q : List Bool} (hq : q.length = W v) : insN L (pxK (v, q)) = false := by
  cases h : insN L (pxK (v, q)) with
  | false => rfl
  | true =>
    obtain ⟨e, he, h1, h2, h3⟩ := (insK hg (by omega)).1 h
    refine absurd (h2.eq_of_length (Nat.le_antisymm h2.length_le ?_)).symm h3
    have := key_le (hg.sane e he)
    rw [h1] at this
    omega
theorem pcsQ_in {L : List Pr} (hg : GoodL L) {v : Bool} {q : List Bool} (hq : q.length ≤ W v) (hi : insN L (pxK (v, q)) = true) : q.length < W v ∧ pcsQ L v q = pcsQ L v (q ++ [false]) ++ pcsQ L v (q ++ [true]) := by
  have hlt : q.length < W v := Nat.lt_of_le_of_ne hq fun h => by rw [insK_full hg h] at hi; cases hi
  refine ⟨hlt, ?_⟩
  unfold pcsQ
  rw [show W v - q.length = (W v - (q ++ [false]).length) + 1 by rw [List.length_append, List.length_singleton]; omega, pcsK, if_pos hi]
  simp only [List.length_append, List.length_singleton]
theorem pcsQ_no {L : List Pr} {v : Bool} {q : List Bool} (hi : insN L (pxK (v, q)) = false) : pcsQ L v q = [pieceN L (pxK (v, q))] := by
  unfold pcsQ
  cases W v - q.length with
  | zero => rfl
  | succ k => rw [pcsK, if_neg (by rw [hi]; decide)]
theorem pcsQ_pos {L : List Pr} (v : Bool) : ∀ (k : Nat) (q : List Bool), 0 < (pcsK L v k q).length
  | 0, q => by rw [pcsK]; exact Nat.zero_lt_succ _
  | k + 1, q => by
    rw [pcsK]
    split
    · rw [List.length_append]
      have := pcsQ_pos (L := L) v k (q ++ [false])
      omega
    · exact Nat.zero_lt_succ _
def overK (v : Bool) (q : List Bool) (L : List Pr) : Nat := (L.map fun e => if (keyP e.p).1 = v ∧ q <+: (keyP e.p).2 then (keyP e.p).2.length - q.length else 0).sum
theorem over_split (v : Bool) (q : List Bool) : ∀ L : List Pr, overK v (q ++ [false]) L + overK v (q ++ [true]) L + (if ∃ e ∈ L, (keyP e.p).1 = v ∧ q <+: (keyP e.p).2 ∧ (keyP e.p).2 ≠ q then 1 else 0) ≤ overK v q L
  | [] => by simp [overK]
  | x :: L => by
    have ih := over_split v q L
    unfold overK at ih ⊢
    rw [List.map_cons, List.map_cons, List.map_cons, List.sum_cons, List.sum_cons, List.sum_cons]
    have hx : (if (keyP x.p).1 = v ∧ q ++ [false] <+: (keyP x.p).2 then (keyP x.p).2.length - (q ++ [false]).length else 0) + (if (keyP x.p).1 = v ∧ q ++ [true] <+: (keyP x.p).2 then (keyP x.p).2.length - (q ++ [true]).length else 0) + (if (keyP x.p).1 = v ∧ q <+: (keyP x.p).2 ∧ (keyP x.p).2 ≠ q then 1 else 0) ≤ (if (keyP x.p).1 = v ∧ q <+: (keyP x.p).2 then (keyP x.p).2.length - q.length else 0) := by
      by_cases hv : (keyP x.p).1 = v
      · by_cases hq : q <+: (keyP x.p).2
        · obtain ⟨t, ht⟩ := hq
          cases t with
          | nil =>
            rw [List.append_nil] at ht
            have n1 : ∀ b : Bool, ¬ (q ++ [b] <+: (keyP x.p).2) := fun b h => by
              have := h.length_le
              rw [← ht, List.length_append, List.length_singleton] at this
              omega
            rw [if_neg (fun h => n1 _ h.2), if_neg (fun h => n1 _ h.2), if_neg (fun h => h.2.2 ht.symm)]
            omega
          | cons b t =>
            have e1 : q ++ [b] <+: (keyP x.p).2 := ⟨t, by rw [List.append_assoc]; exact ht⟩
            have n1 : ¬ (q ++ [!b] <+: (keyP x.p).2) := fun h => by
              have := List.prefix_of_prefix_length_le h e1 (by simp)
              have := this.eq_of_length (by simp)
              have := List.append_cancel_left this
              cases b <;> cases this
            have hl : (keyP x.p).2.length = q.length + (t.length + 1) := by rw [← ht]; simp
            rw [if_pos (show (keyP x.p).1 = v ∧ q <+: (keyP x.p).2 from ⟨hv, ⟨_, ht⟩⟩)]
            cases b with
            | false =>
              rw [if_pos ⟨hv, e1⟩, if_neg (fun h => n1 h.2), List.length_append, List.length_singleton]
              split <;> omega
            | true =>
              rw [if_neg (fun h => n1 h.2), if_pos ⟨hv, e1⟩, List.length_append, List.length_singleton]
              split <;> omega
        · have n1 : ∀ b : Bool, ¬ (q ++ [b] <+: (keyP x.p).2) := fun b h => hq ((List.prefix_append _ _).trans h)
          rw [if_neg (fun h => n1 _ h.2), if_neg (fun h => n1 _ h.2), if_neg (fun h => hq h.2.1)]
          omega
      · rw [if_neg (fun h => hv h.1), if_neg (fun h => hv h.1), if_neg (fun h => hv h.1)]
        omega
    have hor : (if ∃ e ∈ x :: L, (keyP e.p).1 = v ∧ q <+: (keyP e.p).2 ∧ (keyP e.p).2 ≠ q then 1 else 0) ≤ (if (keyP x.p).1 = v ∧ q <+: (keyP x.p).2 ∧ (keyP x.p).2 ≠ q then 1 else 0) + (if ∃ e ∈ L, (keyP e.p).1 = v ∧ q <+: (keyP e.p).2 ∧ (keyP e.p).2 ≠ q then 1 else 0) := by
      by_cases h1 : (keyP x.p).1 = v ∧ q <+: (keyP x.p).2 ∧ (keyP x.p).2 ≠ q
      · rw [if_pos h1]; split <;> omega
      · by_cases h2 : ∃ e ∈ L, (keyP e.p).1 = v ∧ q <+: (keyP e.p).2 ∧ (keyP e.p).2 ≠ q
        · rw [if_pos h2]; split <;> omega
        · rw [if_neg (fun ⟨e, he, h⟩ => by
            rcases List.mem_cons.1 he with rfl | he
            · exact h1 h
            · exact h2 ⟨e, he, h⟩)]
          omega
    omega
theorem pcs_le {L : List Pr} (hg : GoodL L) {v : Bool} : ∀ (k : Nat) (q : List Bool), q.length + k = W v → (pcsK L v k q).length ≤ 1 + overK v q L
  | 0, q, h => by rw [pcsK, List.length_singleton]; exact Nat.le_add_right _ _
  | k + 1, q, h => by
    rw [pcsK]
    split
    · rename_i hi
      have h1 := pcs_le hg (v := v) k (q ++ [false]) (by rw [List.length_append, List.length_singleton]; omega)
      have h2 := pcs_le hg (v := v) k (q ++ [true]) (by rw [List.length_append, List.length_singleton]; omega)
      have h3 := over_split v q L
      rw [if_pos ((insK hg (by omega)).1 hi)] at h3
      rw [List.length_append]
      omega
    · rw [List.length_singleton]; omega
theorem over_le {L : List Pr} (hg : GoodL L) (v : Bool) (q : List Bool) : overK v q L ≤ 128 * L.length := by
  have : ∀ M : List Pr, (∀ e ∈ M, e ∈ L) → overK v q M ≤ 128 * M.length := fun M => by
    induction M with
    | nil => intro _; simp [overK]
    | cons x M ih =>
      intro hM
      have := ih fun e he => hM e (List.mem_cons_of_mem _ he)
      have hx := key_le (hg.sane x (hM x (List.mem_cons_self ..)))
      have hW := W_le (keyP x.p).1
      unfold overK at this ⊢
      rw [List.map_cons, List.sum_cons, List.length_cons]
      split <;> omega
  exact this L fun e he => he
theorem pcsN_le {L : List Pr} (hg : GoodL L) (p : Px) : (pcsN L p).length ≤ 1 + 128 * L.length := by
  unfold pcsN
  split
  · rename_i hs
    have h1 := pcs_le hg (v := (keyP p).1) (W (keyP p).1 - (keyP p).2.length) (keyP p).2 (by have := key_le hs; omega)
    have h2 := over_le hg (keyP p).1 (keyP p).2
    unfold pcsQ
    omega
  · exact Nat.zero_le _
noncomputable def pcsS (L : List Pr) (v : Bool) (st : List (List Bool)) : List P8 := st.reverse.flatMap (pcsQ L v)
theorem pcsS_snoc (L : List Pr) (v : Bool) (st : List (List Bool)) (q : List Bool) : pcsS L v (st ++ [q]) = pcsQ L v q ++ pcsS L v st := by
  unfold pcsS
  rw [List.reverse_append, List.reverse_singleton, List.singleton_append, List.flatMap_cons]
noncomputable def stpS (L : List Pr) (v : Bool) (st : List (List Bool)) : Nat := (st.map fun q => 2 * (pcsQ L v q).length - 1).sum
theorem stpS_snoc (L : List Pr) (v : Bool) (st : List (List Bool)) (q : List Bool) : stpS L v (st ++ [q]) = stpS L v st + (2 * (pcsQ L v q).length - 1) := by
  unfold stpS
  rw [List.map_append, List.sum_append]
  simp
theorem pcsQ_one {L : List Pr} (v : Bool) (q : List Bool) : 1 ≤ (pcsQ L v q).length := pcsQ_pos v _ _
theorem stpS_in {L : List Pr} (hg : GoodL L) {v : Bool} (st : List (List Bool)) {q : List Bool} (hq : q.length ≤ W v) (hi : insN L (pxK (v, q)) = true) : stpS L v (st ++ [q ++ [true], q ++ [false]]) < stpS L v (st ++ [q]) := by
  rw [show st ++ [q ++ [true], q ++ [false]] = (st ++ [q ++ [true]]) ++ [q ++ [false]] by simp, stpS_snoc, stpS_snoc, stpS_snoc, (pcsQ_in hg hq hi).2, List.length_append]
  have := pcsQ_one (L := L) v (q ++ [false])
  have := pcsQ_one (L := L) v (q ++ [true])
  omega
theorem stpS_no {L : List Pr} {v : Bool} (st : List (List Bool)) {q : List Bool} (hi : insN L (pxK (v, q)) = false) : stpS L v st < stpS L v (st ++ [q]) := by
  rw [stpS_snoc, pcsQ_no hi, List.length_singleton]
  omega
end Go.Proofs.Ytfcffemglcgbnaa.Hand
namespace Go.Proofs.Ytfcffemglcgbnaa.Hand
open Go.RowKit Go.Proofs.Ytfcffemglcgbnaa.Bits Go.Proofs.Ytfcffemglcgbnaa.Dig Go.Proofs.Ytfcffemglcgbnaa.Sq
set_option linter.unusedVariables false
set_option linter.unusedSimpArgs false
set_option maxRecDepth 100000
set_option maxHeartbeats 1000000
def SqP (x y : P8) : Prop := x.v = y.v ∧ x.ok = y.ok ∧ ∃ (v : Bool) (q : List Bool), q.length < W v ∧ x.p = pxK (v, q ++ [false]) ∧ y.p = pxK (v, q ++ [true])
noncomputable def parP (p : Px) : Px := pxK ((keyP p).1, (keyP p).2.dropLast)
noncomputable def oneP (x : P8) : P8 := ⟨parP x.p, x.v, x.ok⟩
theorem parP_kid {v : Bool} {q : List Bool} (h : q.length < W v) (b : Bool) : parP (pxK (v, q ++ [b])) = pxK (v, q) := by
  unfold parP
  rw [keyP_pxK (k := (v, q ++ [b])) (by rw [List.length_append, List.length_singleton]; exact h)]
  dsimp only
  rw [List.dropLast_concat]
noncomputable def sq1 : List P8 → Option (List P8)
  | x :: y :: l => if bP (SqP x y) = true then some (oneP x :: l) else (sq1 (y :: l)).map (x :: ·)
  | _ => none
theorem sq1_len : ∀ {l m : List P8}, sq1 l = some m → m.length + 1 = l.length
  | [], m, h => by cases h
  | [x], m, h => by cases h
  | x :: y :: l, m, h => by
    rw [sq1] at h
    split at h
    · cases h; rfl
    · cases hm : sq1 (y :: l) with
      | none => rw [hm] at h; cases h
      | some m' =>
        rw [hm] at h
        cases h
        have := sq1_len hm
        rw [List.length_cons, List.length_cons, this]
noncomputable def sqF : Nat → List P8 → List P8
  | 0, l => l
  | k + 1, l => match sq1 l with
    | none => l
    | some m => sqF k m
noncomputable def sqz (l : List P8) : List P8 := sqF l.length l
theorem sqF_done : ∀ (k : Nat) (l : List P8), l.length ≤ k → sq1 (sqF k l) = none
  | 0, l, h => by
    obtain rfl := List.eq_nil_of_length_eq_zero (Nat.le_zero.1 h)
    rfl
  | k + 1, l, h => by
    rw [sqF]
    cases hm : sq1 l with
    | none => exact hm
    | some m => exact sqF_done k m (by have := sq1_len hm; omega)
theorem sqz_some {l m : List P8} (h : sq1 l = some m) : sqz l = sqz m := by
  have hl := sq1_len h
  unfold sqz
  rw [← hl, sqF, h]
theorem sqz_none {l : List P8} (h : sq1 l = none) : sqz l = l := by
  unfold sqz
  cases l with
  | nil => rfl
  | cons x l => rw [List.length_cons, sqF, h]
theorem sqz_done (l : List P8) : sq1 (sqz l) = none := sqF_done _ _ (Nat.le_refl _)
theorem sqz_ind {P : List P8 → List P8 → Prop} (h0 : ∀ l, P l l) (h1 : ∀ l m n, sq1 l = some m → P m n → P l n) : ∀ (k : Nat) (l : List P8), l.length ≤ k → P l (sqz l)
  | 0, l, h => by
    obtain rfl := List.eq_nil_of_length_eq_zero (Nat.le_zero.1 h)
    exact h0 []
  | k + 1, l, h => by
    cases hm : sq1 l with
    | none => rw [sqz_none hm]; exact h0 l
    | some m =>
      rw [sqz_some hm]
      exact h1 l m _ hm (sqz_ind h0 h1 k m (by have := sq1_len hm; omega))
theorem sqz_len (l : List P8) : (sqz l).length ≤ l.length := sqz_ind (P := fun l m => m.length ≤ l.length) (fun _ => Nat.le_refl _) (fun l m n h hn => by have := sq1_len h; omega) _ l (Nat.le_refl _)
theorem sq1_at {l : List P8} {k : Nat} (hk : k + 1 < l.length) (h0 : ∀ i (hi : i < k), ¬ SqP (l[i]'(by omega)) (l[i + 1]'(by omega))) (h1 : SqP (l[k]'(by omega)) (l[k + 1]'hk)) : sq1 l = some (l.take k ++ oneP (l[k]'(by omega)) :: l.drop (k + 2)) := by
  induction k generalizing l with
  | zero =>
    match l, hk, h1 with
    | x :: y :: l, _, h1 =>
      have h2 : SqP x y := h1
      rw [sq1, if_pos (bP_t h2)]; rfl
  | succ k ih =>
    match l, hk, h0, h1 with
    | x :: y :: l, hk, h0, h1 =>
      have hn : ¬ SqP x y := h0 0 (by omega)
      have := ih (l := y :: l) (by simpa using hk) (fun i hi => h0 (i + 1) (by omega)) h1
      rw [sq1, if_neg (by rw [bP_f hn]; decide), this]
      rfl
theorem sq1_no {l : List P8} (h0 : ∀ i (hi : i + 1 < l.length), ¬ SqP (l[i]'(by omega)) (l[i + 1]'hi)) : sq1 l = none := by
  induction l with
  | nil => rfl
  | cons x l ih =>
    cases l with
    | nil => rfl
    | cons y l =>
      have hn : ¬ SqP x y := h0 0 (by simp)
      rw [sq1, if_neg (by rw [bP_f hn]; decide), ih (fun i hi => h0 (i + 1) (by simpa using hi))]
      rfl
noncomputable def atN (l : List P8) (a : Ad) : Option P8 := l.find? fun x => conB x.p a
theorem con_kids {v : Bool} {q : List Bool} (h : q.length < W v) (a : Ad) : conB (pxK (v, q)) a = (conB (pxK (v, q ++ [false])) a || conB (pxK (v, q ++ [true])) a) := by
  have hl : ∀ b : Bool, (q ++ [b]).length ≤ W v := fun b => by rw [List.length_append, List.length_singleton]; exact h
  rw [Bool.eq_iff_iff, Bool.or_eq_true, con_key, con_key, con_key, keyP_pxK (k := (v, q)) (Nat.le_of_lt h), keyP_pxK (k := (v, q ++ [false])) (hl _), keyP_pxK (k := (v, q ++ [true])) (hl _)]
  constructor
  · rintro ⟨_, h2, h3⟩
    obtain ⟨t, ht⟩ := h3
    cases t with
    | nil =>
      exfalso
      rw [List.append_nil] at ht
      have := congrArg List.length ht
      unfold keyA at this
      rw [pth_len] at this
      have hv : v = a.v6 := h2
      subst hv
      dsimp only at this
      omega
    | cons b t =>
      have hp : q ++ [b] <+: (keyA a).2 := ⟨t, by rw [List.append_assoc]; exact ht⟩
      cases b with
      | false => exact .inl ⟨sanB_pxK (hl _), h2, hp⟩
      | true => exact .inr ⟨sanB_pxK (hl _), h2, hp⟩
  · rintro (⟨_, h2, h3⟩ | ⟨_, h2, h3⟩) <;> exact ⟨sanB_pxK (Nat.le_of_lt h), h2, (List.prefix_append _ _).trans h3⟩
def sayO (o : Option P8) : Option (Int × Bool) := o.map fun x => (x.v, x.ok)
theorem sq1_at_same (a : Ad) : ∀ {l m : List P8}, sq1 l = some m → sayO (atN m a) = sayO (atN l a)
  | [], m, h => by cases h
  | [x], m, h => by cases h
  | x :: y :: l, m, h => by
    rw [sq1] at h
    split at h
    · rename_i hq
      cases h
      obtain ⟨h1, h2, v, q, h3, h4, h5⟩ := bP_iff.1 hq
      have hk := con_kids h3 a
      have hpp : (oneP x).p = pxK (v, q) := by unfold oneP; dsimp only; rw [h4, parP_kid h3]
      unfold atN
      rw [List.find?_cons, List.find?_cons, List.find?_cons, hpp, hk, ← h4, ← h5]
      cases hx : conB x.p a with
      | true => rfl
      | false =>
        cases hy : conB y.p a with
        | true => show some (x.v, x.ok) = some (y.v, y.ok); rw [h1, h2]
        | false => rfl
    · cases hm : sq1 (y :: l) with
      | none => rw [hm] at h; cases h
      | some m' =>
        rw [hm] at h
        cases h
        have ih := sq1_at_same a hm
        unfold atN at ih ⊢
        rw [List.find?_cons, List.find?_cons (a := x)]
        cases hx : conB x.p a with
        | true => rfl
        | false => exact ih
theorem sqz_at (l : List P8) (a : Ad) : sayO (atN (sqz l) a) = sayO (atN l a) := sqz_ind (P := fun l m => sayO (atN m a) = sayO (atN l a)) (fun _ => rfl) (fun l m n h hn => hn.trans (sq1_at_same a h)) _ l (Nat.le_refl _)
end Go.Proofs.Ytfcffemglcgbnaa.Hand
