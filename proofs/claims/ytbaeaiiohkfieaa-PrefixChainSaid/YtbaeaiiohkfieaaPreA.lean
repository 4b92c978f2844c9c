/-
  Package prefix's functions out of the driver's printed walks (set P), told by digits: Of, Sane, Contains, Covers, Inside, Parent, Ends.
-/
import Derived.Test.YtbaeaiiohkfieaaPPx2


import Derived.Test.YtbaeaiiohkfieaaVal
import Derived.Test.YtbaeaiiohkfieaaLawA
namespace Go.Proofs.Ytbaeaiiohkfieaa.Hand
open Go.RowKit Go.Proofs.YtbaeaiiohkfieaaW.PrintWords Go.Proofs.YtbaeaiiohkfieaaW.PrintLast Go.Proofs.Ytbaeaiiohkfieaa.Bits Go.Proofs.Ytbaeaiiohkfieaa.Dig
set_option linter.unusedVariables false
set_option linter.unusedSimpArgs false

theorem Of_f {a0 a1 : Int} (h : u64 a0 ∧ u64 a1) (v : Bool) (n : Int) : prefix_Of.f a0 a1 v n = some (hiA v (cutd (D a0 a1) (clampW v n)), loA v (cutd (D a0 a1) (clampW v n)), v, ((clampW v n : Nat) : Int)) := by
  unfold prefix_Of.f
  rw [gd_pos h]
/-- A prefix that may be. -/
def saneP (a0 a1 : Int) (v : Bool) (n : Int) : Prop := ∃ c : Nat, c ≤ W v ∧ n = c ∧ a0 = hiA v (cutd (D a0 a1) c) ∧ a1 = loA v (cutd (D a0 a1) c)
noncomputable instance (a0 a1 : Int) (v : Bool) (n : Int) : Decidable (saneP a0 a1 v n) := Classical.propDecidable _
theorem Sane_p {a0 a1 : Int} (h : u64 a0 ∧ u64 a1) (v : Bool) (n : Int) : PP.prefix_Sane.f a0 a1 v n = some (decide (saneP a0 a1 v n)) := by
  unfold PP.prefix_Sane.f
  rw [Of_f h]
  simp only [Option.bind_some]
  congr 1
  rw [Bool.eq_iff_iff, decide_eq_true_iff]
  simp only [Bool.and_eq_true, beq_iff_eq, and_true]
  have hc := clampW_le v n
  constructor
  · rintro ⟨⟨h1, h2⟩, h3⟩
    exact ⟨clampW v n, hc, h3, h1, h2⟩
  · rintro ⟨c, h1, rfl, h3, h4⟩
    rw [clampW_in h1]
    exact ⟨⟨h3, h4⟩, rfl⟩
theorem D_cut (v : Bool) (d : Nat → Bool) (c : Nat) (i : Nat) (h : i < W v) : D (hiA v (cutd d c)) (loA v (cutd d c)) i = cutd d c i := by rw [D_mk, decide_eq_true h, Bool.true_and]
theorem cut_cut (v : Bool) (d : Nat → Bool) (c k : Nat) (h : k ≤ c) : hiA v (cutd (D (hiA v (cutd d c)) (loA v (cutd d c))) k) = hiA v (cutd d k) ∧ loA v (cutd (D (hiA v (cutd d c)) (loA v (cutd d c))) k) = loA v (cutd d k) := by
  have e : ∀ i, i < W v → cutd (D (hiA v (cutd d c)) (loA v (cutd d c))) k i = cutd d k i := fun i hi => by
    by_cases hk : i < k
    · rw [cutd_lt hk, cutd_lt hk, D_cut v d c i hi, cutd_lt (by omega)]
    · rw [cutd_ge (by omega), cutd_ge (by omega)]
  exact ⟨hi_congr e, lo_congr e⟩
theorem saneP_pk (v : Bool) (d : Nat → Bool) (c : Nat) (h : c ≤ W v) : saneP (hiA v (cutd d c)) (loA v (cutd d c)) v c := by
  have e := cut_cut v d c c (Nat.le_refl _)
  exact ⟨c, h, rfl, e.1.symm, e.2.symm⟩
theorem Sane_pk (v : Bool) (d : Nat → Bool) (c : Nat) (h : c ≤ W v) : PP.prefix_Sane.f (hiA v (cutd d c)) (loA v (cutd d c)) v c = some true := by
  rw [Sane_p (u_mk _ _), decide_eq_true (saneP_pk v d c h)]
theorem Sane_no {a0 a1 : Int} (h : u64 a0 ∧ u64 a1) {v : Bool} {n : Int} (hn : ¬ saneP a0 a1 v n) : PP.prefix_Sane.f a0 a1 v n = some false := by
  rw [Sane_p h, decide_eq_false hn]
theorem Contains_no {a0 a1 : Int} (h : u64 a0 ∧ u64 a1) {v : Bool} {n : Int} (hn : ¬ saneP a0 a1 v n) (b0 b1 : Int) (u : Bool) : PP.prefix_Contains.f a0 a1 v n b0 b1 u = some false := by
  unfold PP.prefix_Contains.f
  rw [Sane_no h hn]
  rfl
/-- Are they of one kind, and the first c digits alike? -/
noncomputable def conD (v : Bool) (d : Nat → Bool) (c : Nat) (u : Bool) (e : Nat → Bool) : Bool := @decide (v = u ∧ ∀ i, i < c → d i = e i) (Classical.propDecidable _)
theorem conD_true {v : Bool} {d : Nat → Bool} {c : Nat} {u : Bool} {e : Nat → Bool} : conD v d c u e = true ↔ v = u ∧ ∀ i, i < c → d i = e i := by unfold conD; exact @decide_eq_true_iff _ (Classical.propDecidable _)
theorem conD_congr {v : Bool} {d : Nat → Bool} {c : Nat} {u : Bool} {e e' : Nat → Bool} (h : v = u → ∀ i, i < c → e i = e' i) : conD v d c u e = conD v d c u e' := by
  rw [Bool.eq_iff_iff, conD_true, conD_true]
  exact ⟨fun ⟨h1, h2⟩ => ⟨h1, fun i hi => (h2 i hi).trans (h h1 i hi)⟩, fun ⟨h1, h2⟩ => ⟨h1, fun i hi => (h2 i hi).trans (h h1 i hi).symm⟩⟩
theorem eq_pk (v : Bool) (d : Nat → Bool) (c : Nat) (hc : c ≤ W v) (u : Bool) (e : Nat → Bool) : ((hiA v (cutd d c) == hiA u (cutd e (clampW u (c : Int))) && (loA v (cutd d c) == loA u (cutd e (clampW u (c : Int))) && (v == u))) && ((c : Int) == ((clampW u (c : Int) : Nat) : Int))) = conD v d c u e := by
  rw [Bool.eq_iff_iff, conD_true]
  simp only [Bool.and_eq_true, beq_iff_eq]
  constructor
  · rintro ⟨⟨h1, h2, rfl⟩, h3⟩
    rw [clampW_in hc] at h1 h2
    refine ⟨rfl, fun i hi => ?_⟩
    have := mk_inj h1 h2 i (by omega)
    rwa [cutd_lt hi, cutd_lt hi] at this
  · rintro ⟨rfl, h⟩
    rw [clampW_in hc]
    have k : ∀ i, i < W v → cutd d c i = cutd e c i := fun i _ => by
      by_cases hi : i < c
      · rw [cutd_lt hi, cutd_lt hi, h i hi]
      · rw [cutd_ge (by omega), cutd_ge (by omega)]
    exact ⟨⟨hi_congr k, lo_congr k, rfl⟩, rfl⟩
theorem Contains_pk (v : Bool) (d : Nat → Bool) (c : Nat) (hc : c ≤ W v) {b0 b1 : Int} (hb : u64 b0 ∧ u64 b1) (u : Bool) : PP.prefix_Contains.f (hiA v (cutd d c)) (loA v (cutd d c)) v c b0 b1 u = some (conD v d c u (D b0 b1)) := by
  unfold PP.prefix_Contains.f
  rw [Sane_pk v d c hc]
  simp only [Option.bind_some, if_true]
  rw [Of_f hb]
  simp only [Option.bind_some]
  rw [eq_pk v d c hc]
theorem Covers_no1 (k : Nat) {a0 a1 : Int} (h : u64 a0 ∧ u64 a1) {v : Bool} {n : Int} (hn : ¬ saneP a0 a1 v n) {b0 b1 : Int} (hb : u64 b0 ∧ u64 b1) (u : Bool) (m : Int) : PP.prefix_Covers.f (k + 1) a0 a1 v n b0 b1 u m = some false := by
  unfold PP.prefix_Covers.f
  rw [Sane_p hb, Contains_no h hn]
  split
  · simp only [Option.bind_some]
    split <;> rfl
  · rfl
theorem Covers_no2 (k : Nat) (a0 a1 : Int) (v : Bool) (n : Int) {b0 b1 : Int} (hb : u64 b0 ∧ u64 b1) {u : Bool} {m : Int} (hm : ¬ saneP b0 b1 u m) : PP.prefix_Covers.f (k + 1) a0 a1 v n b0 b1 u m = some false := by
  unfold PP.prefix_Covers.f
  rw [Sane_no hb hm]
  split <;> rfl
theorem Covers_pk (k : Nat) (v : Bool) (d : Nat → Bool) (c : Nat) (hc : c ≤ W v) (u : Bool) (e : Nat → Bool) (m : Nat) (hm : m ≤ W u) : PP.prefix_Covers.f (k + 1) (hiA v (cutd d c)) (loA v (cutd d c)) v c (hiA u (cutd e m)) (loA u (cutd e m)) u m = some (decide (c ≤ m) && conD v d c u e) := by
  unfold PP.prefix_Covers.f
  rw [Sane_pk u e m hm, Contains_pk v d c hc (u_mk _ _)]
  by_cases h : c ≤ m
  · rw [if_pos (by omega), decide_eq_true h, Bool.true_and]
    simp only [Option.bind_some, if_true]
    rw [conD_congr (e' := e) (fun hv i hi => by subst hv; rw [D_cut v e m i (by omega), cutd_lt (by omega)])]
    rfl
  · rw [if_neg (by omega), decide_eq_false h]
    rfl
theorem conD_self (v : Bool) (d : Nat → Bool) (c : Nat) : conD v d c v d = true := conD_true.mpr ⟨rfl, fun _ _ => rfl⟩
/-- Are two prefixes told by digits one? -/
theorem ne_pk {v : Bool} {d : Nat → Bool} {c : Nat} {u : Bool} {e : Nat → Bool} {m : Nat} (hc : c ≤ W v) (hm : m ≤ W u) : ((!(hiA v (cutd d c) == hiA u (cutd e m)) || (!(loA v (cutd d c) == loA u (cutd e m)) || (!(v == u)))) || (!((c : Int) == (m : Int)))) = !(decide (c = m) && conD v d c u e) := by
  rw [← Bool.not_inj_iff]
  simp only [Bool.not_or, Bool.not_not]
  rw [Bool.eq_iff_iff]
  simp only [Bool.and_eq_true, beq_iff_eq, decide_eq_true_iff, conD_true]
  constructor
  · rintro ⟨⟨h1, h2, rfl⟩, h3⟩
    obtain rfl : c = m := by omega
    refine ⟨rfl, rfl, fun i hi => ?_⟩
    have := mk_inj h1 h2 i (by omega)
    rwa [cutd_lt hi, cutd_lt hi] at this
  · rintro ⟨rfl, rfl, h⟩
    have k : ∀ i, i < W v → cutd d c i = cutd e c i := fun i _ => by
      by_cases hi : i < c
      · rw [cutd_lt hi, cutd_lt hi, h i hi]
      · rw [cutd_ge (by omega), cutd_ge (by omega)]
    exact ⟨⟨hi_congr k, lo_congr k, rfl⟩, rfl⟩
theorem Inside_pk (k : Nat) (v : Bool) (d : Nat → Bool) (c : Nat) (hc : c ≤ W v) (u : Bool) (e : Nat → Bool) (m : Nat) (hm : m ≤ W u) : PP.prefix_Inside.f (k + 1) (hiA v (cutd d c)) (loA v (cutd d c)) v c (hiA u (cutd e m)) (loA u (cutd e m)) u m = some (decide (c < m) && conD v d c u e) := by
  unfold PP.prefix_Inside.f
  rw [ne_pk hc hm, Covers_pk k v d c hc u e m hm]
  by_cases h1 : c = m
  · subst h1
    rw [decide_eq_true rfl, Bool.true_and, decide_eq_false (Nat.lt_irrefl c), Bool.false_and, decide_eq_true (Nat.le_refl c), Bool.true_and]
    cases conD v d c u e <;> rfl
  · rw [decide_eq_false h1, Bool.false_and, if_pos (show (!false) = true from rfl), show decide (c ≤ m) = decide (c < m) by rw [decide_eq_decide]; omega]
    rfl
end Go.Proofs.Ytbaeaiiohkfieaa.Hand
