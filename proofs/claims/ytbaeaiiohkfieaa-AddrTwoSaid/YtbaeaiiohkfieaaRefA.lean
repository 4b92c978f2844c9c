/-
  The document's answer for layer 1, out of the driver's printed walks (set F): what Compare and Common come to.
-/
import Derived.Test.YtbaeaiiohkfieaaPFx3
import Derived.Test.YtbaeaiiohkfieaaPFx4
import Derived.Test.YtbaeaiiohkfieaaVal
import Derived.Test.YtbaeaiiohkfieaaLawA
namespace Go.Proofs.Ytbaeaiiohkfieaa.Hand
open Go.RowKit Go.Proofs.YtbaeaiiohkfieaaW.PrintWords Go.Proofs.YtbaeaiiohkfieaaW.PrintLast Go.Proofs.Ytbaeaiiohkfieaa.Bits Go.Proofs.Ytbaeaiiohkfieaa.Dig
set_option linter.unusedVariables false
set_option linter.unusedSimpArgs false

theorem shr_word {x : Int} (h : u64 x) (m : Nat) (hm : m < 64) : wrap64 (Go.bits .and .u64 (shr .u64 x (IntKind.u64.wrap (wrap64 (m : Int)))) 1) = bitI (x.toNat.testBit m) := by
  have e : IntKind.u64.wrap (wrap64 (m : Int)) = m := by rw [wr64 _ (by omega), wrap_u64]; omega
  rw [e]
  unfold shr
  rw [Int.toNat_natCast, Nat.min_eq_left (show m ≤ IntKind.u64.bits by show m ≤ 64; omega), bit_word x m h hm]
  have := bitI_lo (x.toNat.testBit m)
  have := bitI_hi (x.toNat.testBit m)
  exact wr64 _ (by omega)
theorem raw_f {a0 a1 : Int} (h : u64 a0 ∧ u64 a1) (a2 : Bool) (i : Nat) (hi : i < 128) : PF.kedgeref01_raw.f a0 a1 a2 i = some (bitI (D a0 a1 i)) := by
  unfold PF.kedgeref01_raw.f
  have e : ∀ m : Nat, m < 128 → 0 ≤ IntKind.u64.wrap (wrap64 (m : Int)) := fun m hm => by rw [wr64 _ (by omega), wrap_u64]; omega
  by_cases c : i < 64
  · rw [if_pos (by omega), show (63 : Int) - i = ((63 - i : Nat) : Int) by omega, if_pos (e _ (by omega)), shr_word h.1 _ (by omega), D_lo c]
  · rw [if_neg (by omega), show (127 : Int) - i = ((127 - i : Nat) : Int) by omega, if_pos (e _ (by omega)), shr_word h.2 _ (by omega)]
    have := D_hi (hi := a0) (lo := a1) (i := i - 64) (by omega)
    rw [show 64 + (i - 64) = i by omega, show 63 - (i - 64) = 127 - i by omega] at this
    rw [this]
theorem rwidth_f (a2 : Bool) : PF.kedgeref01_Width.f a2 = some ((W a2 : Nat) : Int) := by cases a2 <;> rfl
theorem rcommon_loop {a0 a1 b0 b1 : Int} (ha : u64 a0 ∧ u64 a1) (hb : u64 b0 ∧ u64 b1) (v6 : Bool) (m : Nat) : ∀ (k n : Nat), n + m = cmn (D a0 a1) (D b0 b1) (W v6) → m < k →
    PF.kedgeref01_Common.l0 k n a0 a1 v6 b0 b1 v6 = some ((cmn (D a0 a1) (D b0 b1) (W v6) : Nat) : Int) := by
  have hl := cmn_le (D a0 a1) (D b0 b1) (W v6)
  have hW := W_le v6
  have bi : ∀ x y : Bool, bitI x = bitI y ↔ x = y := by decide
  induction m with
  | zero =>
    intro k n hn hk
    obtain ⟨k, rfl⟩ : ∃ j, k = j + 1 := ⟨k - 1, by omega⟩
    simp only [PF.kedgeref01_Common.l0, rwidth_f, Option.bind_some]
    rw [if_pos (by simp)]
    by_cases c : n < W v6
    · have he := cmn_end (D a0 a1) (D b0 b1) (W v6) (by omega)
      rw [← hn, Nat.add_zero] at he
      rw [if_pos (by omega), raw_f ha _ _ (by omega), raw_f hb _ _ (by omega)]
      simp only [Option.bind_some]
      rw [if_neg (by rw [bi]; exact he), ← hn, Nat.add_zero]
    · rw [if_neg (by omega), ← hn, Nat.add_zero]
  | succ m ih =>
    intro k n hn hk
    obtain ⟨k, rfl⟩ : ∃ j, k = j + 1 := ⟨k - 1, by omega⟩
    have he := cmn_alike (D a0 a1) (D b0 b1) (W v6) n (by omega)
    simp only [PF.kedgeref01_Common.l0, rwidth_f, Option.bind_some]
    rw [if_pos (by simp), if_pos (by omega), raw_f ha _ _ (by omega), raw_f hb _ _ (by omega)]
    simp only [Option.bind_some]
    rw [if_pos (by rw [he]), wr64 _ (by omega)]
    exact ih k (n + 1) (by omega) (by omega)
theorem rcommon_f {a0 a1 b0 b1 : Int} (ha : u64 a0 ∧ u64 a1) (a2 : Bool) (hb : u64 b0 ∧ u64 b1) (b2 : Bool) : PF.kedgeref01_Common.f 200 a0 a1 a2 b0 b1 b2 = some (commonA a0 a1 a2 b0 b1 b2) := by
  unfold PF.kedgeref01_Common.f commonA
  by_cases h : a2 = b2
  · subst h
    have hl := cmn_le (D a0 a1) (D b0 b1) (W a2)
    have hW := W_le a2
    rw [if_pos rfl]
    exact rcommon_loop ha hb a2 (cmn (D a0 a1) (D b0 b1) (W a2)) 200 0 (by omega) (by omega)
  · rw [if_neg h]
    have hk : ∀ k, PF.kedgeref01_Common.l0 (k + 1) 0 a0 a1 a2 b0 b1 b2 = some 0 := fun k => by
      simp only [PF.kedgeref01_Common.l0]
      rw [if_neg (by cases a2 <;> cases b2 <;> simp_all)]
    exact hk 199
theorem rcompare_f {a0 a1 b0 b1 : Int} (ha : u64 a0 ∧ u64 a1) (a2 : Bool) (hb : u64 b0 ∧ u64 b1) (b2 : Bool) : PF.kedgeref01_Compare.f 200 a0 a1 a2 b0 b1 b2 = some (compA a0 a1 a2 b0 b1 b2) := by
  unfold PF.kedgeref01_Compare.f
  by_cases h : a2 = b2
  · subst h
    have hl := cmn_le (D a0 a1) (D b0 b1) (W a2)
    have hW := W_le a2
    rw [if_neg (by simp), rcommon_f ha _ hb, rwidth_f, comp_same]
    simp only [Option.bind_some]
    rw [show commonA a0 a1 a2 b0 b1 a2 = ((cmn (D a0 a1) (D b0 b1) (W a2) : Nat) : Int) by unfold commonA; rw [if_pos rfl]]
    by_cases c : cmn (D a0 a1) (D b0 b1) (W a2) = W a2
    · rw [if_pos (by omega), if_pos c]
    · rw [if_neg (by omega), if_neg c, raw_f ha _ _ (by omega), raw_f hb _ _ (by omega)]
      simp only [Option.bind_some]
      refine congrArg some (wr64 _ ?_)
      have := bitI_lo (D a0 a1 (cmn (D a0 a1) (D b0 b1) (W a2)))
      have := bitI_hi (D a0 a1 (cmn (D a0 a1) (D b0 b1) (W a2)))
      have := bitI_lo (D b0 b1 (cmn (D a0 a1) (D b0 b1) (W a2)))
      have := bitI_hi (D b0 b1 (cmn (D a0 a1) (D b0 b1) (W a2)))
      omega
  · rw [if_pos (by cases a2 <;> cases b2 <;> simp_all), comp_diff _ _ _ _ _ _ h]
    split <;> rfl

/-! ### From -/
/-- The first n digits, one by one. -/
def digs (d : Nat → Bool) (n : Nat) : List Int := (List.range n).map fun i => bitI (d i)
theorem digs_len (d : Nat → Bool) (n : Nat) : (digs d n).length = n := by simp [digs]
theorem digs_succ (d : Nat → Bool) (n : Nat) : digs d n ++ [bitI (d n)] = digs d (n + 1) := by simp [digs, List.range_succ]
theorem digs_rd (d : Nat → Bool) {n i : Nat} (h : i < n) : rd (digs d n) i = bitI (d i) := by
  simp [rd, digs, List.getD, h]
theorem and8 {a b : Nat} (ha : a < 256) (hb : b < 256) : Go.bits .and .u8 a b = ((a &&& b : Nat) : Int) :=
  (bits_nat .u8 8 (by decide) (fun n h0 h1 => by have h1 : n < 256 := h1; simp [IntKind.wrap, IntKind.bits, IntKind.signed]; omega) a b ha hb).1
theorem shr_byte {x : Int} (h0 : 0 ≤ x) (h1 : x < 256) (m : Nat) (hm : m < 8) : wrap64 (Go.bits .and .u8 (shr .u8 x (IntKind.u64.wrap (m : Int))) 1) = bitI (x.toNat.testBit m) := by
  have e : IntKind.u64.wrap (m : Int) = m := by rw [wrap_u64]; omega
  rw [e]
  obtain ⟨n, rfl⟩ := Int.eq_ofNat_of_zero_le h0
  have hn : n < 256 := by omega
  have hd : n / 2 ^ m < 256 := Nat.lt_of_le_of_lt (Nat.div_le_self _ _) hn
  unfold shr
  rw [Int.toNat_natCast, Nat.min_eq_left (show m ≤ IntKind.u8.bits by show m ≤ 8; omega), show ((n : Int) / 2 ^ m) = ((n / 2 ^ m : Nat) : Int) by simp, show (1 : Int) = ((1 : Nat) : Int) from rfl, and8 hd (by decide), Int.toNat_natCast, Nat.and_one_is_mod]
  unfold bitI
  rw [Nat.testBit_eq_decide_div_mod_eq]
  have hw : wrap64 ((n / 2 ^ m % 2 : Nat) : Int) = ((n / 2 ^ m % 2 : Nat) : Int) := wr64 _ (by omega)
  rw [hw]
  split <;> rename_i h <;> simp at h <;> omega
theorem or_bit (d : Nat → Bool) (b : Bool) (i : Nat) (hi : i < 64) (h : d i = b) : Go.bits .or .u64 ((wd (fun j => decide (j < i) && d j) : Nat) : Int) (shl .u64 (IntKind.u64.wrap (bitI b)) (IntKind.u64.wrap (wrap64 ((63 - i : Nat) : Int)))) = ((wd (fun j => decide (j < i + 1) && d j) : Nat) : Int) := by
  have e : IntKind.u64.wrap (wrap64 ((63 - i : Nat) : Int)) = ((63 - i : Nat) : Int) := by rw [wr64 _ (by omega), wrap_u64]; omega
  rw [e]
  unfold shl
  rw [Int.toNat_natCast, Nat.min_eq_left (show 63 - i ≤ IntKind.u64.bits by show 63 - i ≤ 64; omega)]
  have hp : 2 ^ (63 - i) < 18446744073709551616 := Nat.lt_of_le_of_lt (Nat.pow_le_pow_right (n := 2) (by decide) (by omega : 63 - i ≤ 63)) (by decide)
  cases b with
  | false =>
    rw [show IntKind.u64.wrap (IntKind.u64.wrap (bitI false) * 2 ^ (63 - i)) = ((0 : Nat) : Int) by simp [bitI, wrap_u64], or64 (wd_lt _) (by decide), Nat.or_zero]
    rw [wd_congr (e := fun j => decide (j < i + 1) && d j)]
    intro j hj
    by_cases c : j = i
    · subst c; simp [h]
    · rw [show decide (j < i + 1) = decide (j < i) by rw [decide_eq_decide]; omega]
  | true =>
    rw [show IntKind.u64.wrap (IntKind.u64.wrap (bitI true) * 2 ^ (63 - i)) = ((2 ^ (63 - i) : Nat) : Int) by rw [show IntKind.u64.wrap (bitI true) = 1 from by decide, Int.one_mul, show ((2 : Int) ^ (63 - i)) = ((2 ^ (63 - i) : Nat) : Int) by simp]; exact cast64 hp, or64 (wd_lt _) hp]
    refine congrArg Nat.cast (word_ext (Nat.or_lt_two_pow (n := 64) (wd_lt _) hp) (wd_lt _) (fun j hj => ?_))
    rw [Nat.testBit_or, testBit_wd, testBit_wd, Nat.testBit_two_pow]
    by_cases c : j = 63 - i
    · subst c
      rw [show 63 - (63 - i) = i by omega, h]
      simp; omega
    · rw [show decide (63 - i = j) = false from decide_eq_false (by omega), show decide (63 - j < i + 1) = decide (63 - j < i) by rw [decide_eq_decide]; omega]
      simp
theorem rof_loop (d : Nat → Bool) (n : Nat) (hn : n ≤ 128) (v6 : Bool) (m : Nat) : ∀ (k i : Nat), i + m = n → m < k →
    PF.kedgeref01_Of.l0 k (digs d n) i ((wd (fun j => decide (j < i) && d j) : Nat) : Int) ((wd (fun j => decide (64 + j < i) && d (64 + j)) : Nat) : Int) v6 =
    some (((wd (fun j => decide (j < n) && d j) : Nat) : Int), ((wd (fun j => decide (64 + j < n) && d (64 + j)) : Nat) : Int), v6) := by
  have e : ∀ m : Nat, m < 128 → 0 ≤ IntKind.u64.wrap (wrap64 (m : Int)) := fun m hm => by rw [wr64 _ (by omega), wrap_u64]; omega
  induction m with
  | zero =>
    intro k i hi hk
    obtain ⟨k, rfl⟩ : ∃ j, k = j + 1 := ⟨k - 1, by omega⟩
    obtain rfl : i = n := by omega
    simp only [PF.kedgeref01_Of.l0, digs_len]
    rw [if_neg (by omega)]
  | succ m ih =>
    intro k i hi hk
    obtain ⟨k, rfl⟩ : ∃ j, k = j + 1 := ⟨k - 1, by omega⟩
    simp only [PF.kedgeref01_Of.l0, digs_len]
    rw [if_pos (show (i : Int) < (n : Int) by omega), digs_rd d (show i < n by omega), show wrap64 ((i : Int) + 1) = ((i + 1 : Nat) : Int) by rw [wr64 _ (by omega)]; rfl]
    by_cases c : i < 64
    · rw [if_pos (show (i : Int) < 64 by omega), if_pos (show (0 : Int) ≤ i by omega), show (63 : Int) - i = ((63 - i : Nat) : Int) by omega, if_pos (e _ (by omega)), or_bit d (d i) i c rfl]
      have h := ih k (i + 1) (by omega) (by omega)
      rw [wd_congr (d := fun j => decide (64 + j < i + 1) && d (64 + j)) (e := fun j => decide (64 + j < i) && d (64 + j)) (fun j hj => by rw [show decide (64 + j < i + 1) = decide (64 + j < i) by rw [decide_eq_decide]; omega])] at h
      exact h
    · have h := ih k (i + 1) (by omega) (by omega)
      rw [wd_congr (d := fun j => decide (j < i + 1) && d j) (e := fun j => decide (j < i) && d j) (fun j hj => by rw [show decide (j < i + 1) = decide (j < i) by rw [decide_eq_decide]; omega])] at h
      have hb := or_bit (fun j => d (64 + j)) (d i) (i - 64) (by omega) (by rw [show 64 + (i - 64) = i by omega])
      rw [show (fun j => decide (j < i - 64) && d (64 + j)) = (fun j => decide (64 + j < i) && d (64 + j)) from funext fun j => by rw [show decide (j < i - 64) = decide (64 + j < i) by rw [decide_eq_decide]; omega],
        show (fun j => decide (j < i - 64 + 1) && d (64 + j)) = (fun j => decide (64 + j < i + 1) && d (64 + j)) from funext fun j => by rw [show decide (j < i - 64 + 1) = decide (64 + j < i + 1) by rw [decide_eq_decide]; omega],
        show 63 - (i - 64) = 127 - i by omega] at hb
      rw [if_neg (show ¬ (i : Int) < 64 by omega), if_pos (show (0 : Int) ≤ i by omega), show (127 : Int) - i = ((127 - i : Nat) : Int) by omega, if_pos (e _ (by omega)), hb]
      exact h
theorem rof_f (d : Nat → Bool) (v6 : Bool) (k : Nat) (hk : 128 < k) : PF.kedgeref01_Of.f k (digs d (W v6)) = some (hiA v6 d, loA v6 d, v6) := by
  have hW := W_le v6
  have h := rof_loop d (W v6) hW v6 (W v6) k 0 (by omega) (by omega)
  have z : ∀ f : Nat → Bool, ((wd (fun j => decide (j < 0) && f j) : Nat) : Int) = 0 := fun f => by
    have := wd_lt (fun j => decide (j < 0) && f j)
    rw [word_ext (b := 0) this (by decide) (fun j hj => by rw [testBit_wd]; simp)]; rfl
  have z2 : ((wd (fun j => decide (64 + j < 0) && d (64 + j)) : Nat) : Int) = 0 := by
    rw [show (fun j => decide (64 + j < 0) && d (64 + j)) = (fun j => decide (j < 0) && d (64 + j)) from funext fun j => by simp]; exact z (fun j => d (64 + j))
  rw [z d, z2] at h
  unfold PF.kedgeref01_Of.f
  rw [digs_len, show (((W v6 : Nat) : Int) == 128) = v6 by cases v6 <;> rfl]
  have e1 : hiA v6 d = ((wd (fun j => decide (j < W v6) && d j) : Nat) : Int) := by unfold hiA; rfl
  have e2 : loA v6 d = ((wd (fun j => decide (64 + j < W v6) && d (64 + j)) : Nat) : Int) := by unfold loA; rfl
  rw [e1, e2]
  exact h
/-- A byte's digits are told. -/
theorem rfrom_l1 (l : List Int) (hb : ∀ i : Nat, i < l.length → 0 ≤ rd l i ∧ rd l i < 256) (hl : l.length ≤ 16) (p : Nat) (hp : p < l.length) (r : Option (Int × Int × Bool × Int)) (j : Nat) : ∀ (k : Nat), j ≤ 8 → 
    PF.kedgeref01_From.l0 k l (digs (byD l) (8 * (p + 1))) ((p + 1 : Nat) : Int) = r →
    PF.kedgeref01_From.l1 (k + 1 + j) l (digs (byD l) (8 * p + (8 - j))) p ((j : Int) - 1) = r := by
  induction j with
  | zero =>
    intro k _ h
    simp only [Nat.add_zero, PF.kedgeref01_From.l1]
    rw [if_neg (by omega), wr64 _ (by omega)]
    exact h
  | succ j ih =>
    intro k hj h
    have ⟨b0, b1⟩ := hb p hp
    have e : IntKind.u64.wrap ((j : Nat) : Int) = j := by rw [wrap_u64]; omega
    simp only [← Nat.add_assoc, PF.kedgeref01_From.l1]
    rw [show ((j + 1 : Nat) : Int) - 1 = (j : Int) by omega, if_pos (by omega), if_pos (by omega), if_pos (by omega), if_pos (by rw [e]; omega), digs_len, if_pos (by omega), shr_byte b0 b1 j (by omega),
      show bitI ((rd l (p : Int)).toNat.testBit j) = bitI (byD l (8 * p + (8 - (j + 1)))) by
        unfold byD
        rw [show (8 * p + (8 - (j + 1))) / 8 = p by omega, show 7 - (8 * p + (8 - (j + 1))) % 8 = j by omega]
        simp [rd],
      digs_succ, show 8 * p + (8 - (j + 1)) + 1 = 8 * p + (8 - j) by omega, wr64 _ (by omega)]
    exact ih k (by omega) h
theorem rfrom_l0 (l : List Int) (hb : ∀ i : Nat, i < l.length → 0 ≤ rd l i ∧ rd l i < 256) (hl : l.length ≤ 16) (m : Nat) : ∀ (k p : Nat), p + m = l.length → 
    PF.kedgeref01_From.l0 (k + 1 + 10 * m) l (digs (byD l) (8 * p)) p = (PF.kedgeref01_Of.f k (digs (byD l) (8 * l.length))).bind fun bt => some (bt.1, bt.2.1, bt.2.2, 0) := by
  induction m with
  | zero =>
    intro k p hp
    obtain rfl : p = l.length := by omega
    simp only [Nat.mul_zero, Nat.add_zero, PF.kedgeref01_From.l0]
    rw [if_neg (by omega)]
  | succ m ih =>
    intro k p hp
    have h := ih k (p + 1) (by omega)
    have h2 := rfrom_l1 l hb hl p (by omega) _ 8 (k + 1 + 10 * m) (Nat.le_refl _) h
    rw [show k + 1 + 10 * (m + 1) = k + 1 + 10 * m + 1 + 8 + 1 by omega]
    simp only [PF.kedgeref01_From.l0]
    rw [if_pos (by omega)]
    exact h2
theorem rfrom_f (l : List Int) (hb : ∀ i : Nat, i < l.length → 0 ≤ rd l i ∧ rd l i < 256) : ∃ k, PF.kedgeref01_From.f k l = addr_From.f l := by
  have ok : ∀ v6 : Bool, l.length = (if v6 then 16 else 4) → PF.kedgeref01_From.l0 (199 + 1 + 10 * l.length) l ([] : List Int) 0 = some (hiA v6 (byD l), loA v6 (byD l), v6, 0) := by
    intro v6 hv
    have h := rfrom_l0 l hb (by rw [hv]; cases v6 <;> decide) l.length 199 0 (by omega)
    rw [show 8 * l.length = W v6 by rw [hv]; cases v6 <;> rfl, rof_f (byD l) v6 199 (by omega)] at h
    exact h
  by_cases h4 : l.length = 4
  · refine ⟨(199 + 1 + 10 * l.length) + 1, ?_⟩
    rw [From_f l false (by rw [h4]; rfl) hb, ← ok false (by rw [h4]; rfl)]
    unfold PF.kedgeref01_From.f
    rw [if_pos (by omega)]
    simp only [PF.kedgeref01_From.j0]
    rfl
  · by_cases h16 : l.length = 16
    · refine ⟨(199 + 1 + 10 * l.length) + 1, ?_⟩
      rw [From_f l true (by rw [h16]; rfl) hb, ← ok true (by rw [h16]; rfl)]
      unfold PF.kedgeref01_From.f
      rw [if_neg (by omega), show ((l.length : Int) != 16) = false by rw [h16]; rfl]
      simp only [PF.kedgeref01_From.j0]
      rfl
    · refine ⟨1, ?_⟩
      rw [From_no l h4 h16]
      unfold PF.kedgeref01_From.f
      rw [if_neg (by omega), show ((l.length : Int) != 16) = true by rw [bne_iff_ne]; omega]
      simp only [PF.kedgeref01_From.j0]
      rfl

/-! ### In the form that the driver's printed texts call -/
noncomputable def kedgeref01_Compare.f (a0 a1 : Int) (a2 : Bool) (b0 b1 : Int) (b2 : Bool) : Option Int := gd ((u64 a0 ∧ u64 a1) ∧ u64 b0 ∧ u64 b1) (compA a0 a1 a2 b0 b1 b2)
theorem kedgeref01_Compare.calls (a0 a1 : Int) (a2 : Bool) (b0 b1 : Int) (b2 : Bool) (r : Int) (w : World) (h : kedgeref01_Compare.f a0 a1 a2 b0 b1 b2 = some r) :
    Calls Try.prog 30 #[.agg #[.int .u64 a0, .int .u64 a1, .bool a2], .agg #[.int .u64 b0, .int .u64 b1, .bool b2]] w fun e w' => e = .returned (.int .i64 r) ∧ Below w.heap.size w w' := by
  obtain ⟨⟨h0, h1⟩, rfl⟩ := gd_some h
  exact PF.kedgeref01_Compare.calls 200 a0 a1 a2 b0 b1 b2 _ w (rcompare_f h0 a2 h1 b2)
noncomputable def kedgeref01_Common.f (a0 a1 : Int) (a2 : Bool) (b0 b1 : Int) (b2 : Bool) : Option Int := gd ((u64 a0 ∧ u64 a1) ∧ u64 b0 ∧ u64 b1) (commonA a0 a1 a2 b0 b1 b2)
theorem kedgeref01_Common.calls (a0 a1 : Int) (a2 : Bool) (b0 b1 : Int) (b2 : Bool) (r : Int) (w : World) (h : kedgeref01_Common.f a0 a1 a2 b0 b1 b2 = some r) :
    Calls Try.prog 31 #[.agg #[.int .u64 a0, .int .u64 a1, .bool a2], .agg #[.int .u64 b0, .int .u64 b1, .bool b2]] w fun e w' => e = .returned (.int .i64 r) ∧ Below w.heap.size w w' := by
  obtain ⟨⟨h0, h1⟩, rfl⟩ := gd_some h
  exact PF.kedgeref01_Common.calls 200 a0 a1 a2 b0 b1 b2 _ w (rcommon_f h0 a2 h1 b2)
noncomputable def kedgeref01_From.f (l : List Int) : Option (Int × Int × Bool × Int) := (gd (∀ i : Nat, i < l.length → 0 ≤ rd l i ∧ rd l i < 256) ()).bind fun _ => addr_From.f l
theorem kedgeref01_From.calls (A0 : Option Addr) (c0 : Nat) (l0 : List Int) (r1 r2 : Int) (r3 : Bool) (r4 : Int) (w : World) (hr0 : Kd.C (Kd.int .u8) w A0 l0.length l0) (hc0 : l0.length ≤ c0) (h : kedgeref01_From.f l0 = some (r1, r2, r3, r4)) :
    Calls Try.prog 28 #[.slice A0 l0.length c0] w fun e w' => e = .returned (.tuple #[.agg #[.int .u64 r1, .int .u64 r2, .bool r3], .int .i64 r4]) ∧ Below w.heap.size w w' := by
  obtain ⟨u, hu, h⟩ := Option.bind_eq_some_iff.mp h
  obtain ⟨hb, _⟩ := gd_some hu
  obtain ⟨k, hk⟩ := rfrom_f l0 hb
  exact PF.kedgeref01_From.calls k A0 c0 l0 r1 r2 r3 r4 w hr0 hc0 (hk.trans h)
end Go.Proofs.Ytbaeaiiohkfieaa.Hand
