/-
  The walks of package addr's functions over two words: the address of words, the digits of a tail, whether there is a digit, a digit, an address with another digit.
-/
import Derived.Test.YtbaeaiiohkfieaaAddrA
namespace Go.Proofs.Ytbaeaiiohkfieaa.Hand
open Go.RowKit Go.Proofs.YtbaeaiiohkfieaaW.PrintWords Go.Proofs.YtbaeaiiohkfieaaW.PrintLast Go.Proofs.Ytbaeaiiohkfieaa.Bits Go.Proofs.Ytbaeaiiohkfieaa.Dig
set_option linter.unusedVariables false
set_option linter.unusedSimpArgs false
attribute [local go_sem] max2_mxi min2_mni max_2 min_2 min_3

theorem of_c (x y : Int) (v6 : Bool) (w : World) :
    Calls Try.prog 48 #[.agg #[.int .u64 x, .int .u64 y], .bool v6] w fun e w' => e = .returned (.agg #[.int .u64 x, .int .u64 y, .bool v6]) ∧ Below w.heap.size w w' := by
  go_enter Try.func48, Try.ntmps48
  go_wp2
  refine bodyPost_ret ?_ rfl ⟨rfl, ?_⟩
  · simp [results, Try.results48, go_sem]
  · repeat (first | exact Below.refl _ _ | refine Below.setCell ?_ (by simp <;> omega) _ | refine below_alloc ?_ _)

theorem setCell_setCell (w : World) (blk off : Nat) (v v' : Value) : (w.setCell ⟨blk, off, none⟩ v).setCell ⟨blk, off, none⟩ v' = w.setCell ⟨blk, off, none⟩ v' := by
  simp only [World.setCell]
  congr 1
  apply Array.ext_getElem?
  intro i
  simp only [Array.getElem?_modify]
  split
  · cases w.heap[i]? with
    | none => rfl
    | some o => cases o <;> simp
  · rfl
attribute [local go_sem] setCell_setCell
/-- Is there such a digit? -/
def isI (v6 : Bool) (i : Int) : Bool := decide (0 ≤ i ∧ i < (W v6 : Nat))
theorem is_c (x y : Int) (v6 : Bool) (i : Int) (w : World) :
    Calls Try.prog 49 #[.agg #[.int .u64 x, .int .u64 y, .bool v6], .int .i64 i] w fun e w' => e = .returned (.bool (isI v6 i)) ∧ Below w.heap.size w w' := by
  by_cases h : 0 ≤ i
  · have e : isI v6 i = decide (i < (W v6 : Nat)) := by unfold isI; rw [decide_eq_decide]; omega
    rw [e]
    clear e
    go_enter Try.func49, Try.ntmps49
    go_wp2_with (go_at_call 21; refine (width_c _ _).mono ?_; rintro e w' ⟨rfl, rfl⟩)
    go_ret
    exact ⟨rfl, below_alloc (Below.refl _ _) _⟩
  · have e : isI v6 i = false := by unfold isI; rw [decide_eq_false_iff_not]; omega
    rw [e]
    clear e
    go_enter Try.func49, Try.ntmps49
    go_wp2
    go_ret
    exact ⟨rfl, below_alloc (Below.refl _ _) _⟩

theorem tail_c (x y : Int) (v6 : Bool) (n : Int) (w : World) :
    Calls Try.prog 47 #[.agg #[.int .u64 x, .int .u64 y, .bool v6], .int .i64 n] w fun e w' =>
      e = .returned (.agg #[.int .u64 (oneW (mxi 0 (mni n (W v6 : Nat))) (W v6 : Nat) 0), .int .u64 (oneW (mxi 0 (mni n (W v6 : Nat))) (W v6 : Nat) 64)]) ∧ Below w.heap.size w w' := by
  have b0 : (0 : Int) ≤ (W v6 : Nat) := by omega
  have b1 : ((W v6 : Nat) : Int) ≤ 128 := by have := W_le v6; omega
  have k0 : 0 ≤ mxi 0 (mni n (W v6 : Nat)) := by unfold mxi mni; omega
  have k1 : mxi 0 (mni n (W v6 : Nat)) ≤ 128 := by unfold mxi mni; omega
  go_enter Try.func47, Try.ntmps47
  go_wp2_with (first | (go_at_call 21; refine (width_c _ _).mono ?_; rintro e w' ⟨rfl, rfl⟩) | (go_at_call 61; refine (ones_c _ _ k0 k1 b0 b1 _).mono ?_; rintro e w1 ⟨rfl, hb⟩; obtain ⟨hc, hf⟩ := bcell hb; have hz : w.heap.size < w1.heap.size := (by have := hb.size; (try simp at this); omega); have hz' : w.heap.size + 1 < w1.heap.size := (by have := hb.size; (try simp at this); omega)))
  refine bodyPost_ret ?_ rfl ⟨rfl, ?_⟩
  · simp [results, Try.results47, go_sem, hc]
  · have hb' : Below w.heap.size w w1 := (below_alloc (below_alloc (Below.refl _ _) _) _).trans (hb.mono (by simp; omega))
    repeat (first | exact hb' | refine Below.setCell ?_ (by simp <;> omega) _ | refine below_alloc ?_ _)

/-- A digit as a number. -/
def bitI (b : Bool) : Int := if b then 1 else 0
def bitA (hi lo : Int) (v6 : Bool) (i : Int) : Bool := isI v6 i && D hi lo i.toNat
theorem bit_word (x : Int) (n : Nat) (hx : u64 x) (hn : n < 64) : Go.bits .and .u64 (x / 2 ^ n) 1 = bitI (x.toNat.testBit n) := by
  obtain ⟨m, rfl⟩ := Int.eq_ofNat_of_zero_le hx.1
  have hm : m < 18446744073709551616 := by have := hx.2; omega
  have hd : m / 2 ^ n < 18446744073709551616 := Nat.lt_of_le_of_lt (Nat.div_le_self _ _) hm
  rw [show ((m : Int) / 2 ^ n) = ((m / 2 ^ n : Nat) : Int) by simp, show (1 : Int) = ((1 : Nat) : Int) from rfl, and64 hd (by decide), Int.toNat_natCast, Nat.and_one_is_mod]
  unfold bitI
  rw [Nat.testBit_eq_decide_div_mod_eq]
  split <;> rename_i h <;> simp at h <;> omega
theorem bit_val (hi lo : Int) (v6 : Bool) (i : Int) (h0 : 0 ≤ i) (h1 : i < (W v6 : Nat)) (c : i < 64) : Go.bits .and .u64 (hiA v6 (D hi lo) / 2 ^ (63 - i).toNat) 1 = bitI (D hi lo i.toNat) := by
  rw [bit_word _ _ (u_hiA _ _) (by omega)]
  congr 1
  have := D_mk v6 (D hi lo) i.toNat
  rw [D_lo (by omega)] at this
  rw [show (63 - i).toNat = 63 - i.toNat by omega, this]
  simp; omega
theorem bit_val2 (hi lo : Int) (v6 : Bool) (i : Int) (h0 : 64 ≤ i) (h1 : i < (W v6 : Nat)) : Go.bits .and .u64 (loA v6 (D hi lo) / 2 ^ (63 - (i - 64)).toNat) 1 = bitI (D hi lo i.toNat) := by
  rw [bit_word _ _ (u_loA _ _) (by omega)]
  congr 1
  have := D_mk v6 (D hi lo) i.toNat
  have hW := W_le v6
  rw [show i.toNat = 64 + (i.toNat - 64) by omega, D_hi (by omega)] at this
  rw [show (63 - (i - 64)).toNat = 63 - (i.toNat - 64) by omega, this]
  rw [show 64 + (i.toNat - 64) = i.toNat by omega]
  simp; omega

theorem bitI_lo (b : Bool) : 0 ≤ bitI b := by cases b <;> decide
theorem bitI_hi (b : Bool) : bitI b ≤ 1 := by cases b <;> decide
theorem bit_c (hi lo : Int) (v6 : Bool) (i : Int) (hu : u64 hi) (lu : u64 lo) (w : World) :
    Calls Try.prog 17 #[.agg #[.int .u64 hi, .int .u64 lo, .bool v6], .int .i64 i] w fun e w' => e = .returned (.int .i64 (bitI (bitA hi lo v6 i))) ∧ Below w.heap.size w w' := by
  by_cases h : isI v6 i = true
  · have h' := h
    unfold isI at h'
    rw [decide_eq_true_eq] at h'
    have hW := W_le v6
    have hb := hidp (show bitA hi lo v6 i = D hi lo i.toNat by unfold bitA; rw [h]; rfl)
    have l0 := bitI_lo (D hi lo i.toNat)
    have l1 := bitI_hi (D hi lo i.toNat)
    rw [hb.out]
    by_cases c : i < 64
    · have q : i / 64 = 0 := by omega
      have q2 : i % 64 = i := by omega
      have hv := bit_val hi lo v6 i h'.1 h'.2 c
      have p0 : 0 ≤ i := h'.1
      clear h' hb
      go_enter Try.func17, Try.ntmps17
      go_wp2_with (first | (go_at_call 49; refine (is_c _ _ _ _ _).mono ?_; rintro e w1 ⟨rfl, hb⟩; obtain ⟨hc, hf⟩ := bcell hb; have hz : w.heap.size + 1 ≤ w1.heap.size := (by have := hb.size; (try simp at this); omega)) | (go_at_call 46; refine (read_c _ _ _ hu lu _).mono ?_; rintro e w2 ⟨rfl, hb2⟩; obtain ⟨hc2, hf2⟩ := bcell hb2; have hz2 : w1.heap.size ≤ w2.heap.size := hb2.size))
      go_ret
      exact ⟨rfl, by repeat (first | exact Below.refl _ _ | refine below_alloc ?_ _ | refine below_step ?_ hb2 | refine below_step ?_ hb)⟩
    · have q : i / 64 = 1 := by omega
      have q2 : i % 64 = i - 64 := by omega
      have hv := bit_val2 hi lo v6 i (by omega) h'.2
      have p0 : 0 ≤ i := h'.1
      have p1 : 64 ≤ i := by omega
      have p2 : i < 128 := by omega
      have p3 : 0 ≤ 63 - (i - 64) := by omega
      clear h' hb
      go_enter Try.func17, Try.ntmps17
      go_wp2_with (first | (go_at_call 49; refine (is_c _ _ _ _ _).mono ?_; rintro e w1 ⟨rfl, hb⟩; obtain ⟨hc, hf⟩ := bcell hb; have hz : w.heap.size + 1 ≤ w1.heap.size := (by have := hb.size; (try simp at this); omega)) | (go_at_call 46; refine (read_c _ _ _ hu lu _).mono ?_; rintro e w2 ⟨rfl, hb2⟩; obtain ⟨hc2, hf2⟩ := bcell hb2; have hz2 : w1.heap.size ≤ w2.heap.size := hb2.size))
      go_ret
      exact ⟨rfl, by repeat (first | exact Below.refl _ _ | refine below_alloc ?_ _ | refine below_step ?_ hb2 | refine below_step ?_ hb)⟩
  · have h2 : isI v6 i = false := by simpa using h
    have hb := hidp (show bitI (bitA hi lo v6 i) = 0 by unfold bitA; rw [h2]; rfl)
    rw [hb.out]
    clear h
    go_enter Try.func17, Try.ntmps17
    go_wp2_with (first | (go_at_call 49; refine (is_c _ _ _ _ _).mono ?_; rintro e w1 ⟨rfl, hb⟩; obtain ⟨hc, hf⟩ := bcell hb; have hz : w.heap.size + 1 ≤ w1.heap.size := (by have := hb.size; (try simp at this); omega)))
    go_ret
    exact ⟨rfl, by repeat (first | exact Below.refl _ _ | refine below_alloc ?_ _ | refine below_step ?_ hb)⟩

/-! ### An address with another digit -/
theorem and1_i64 (v : Int) (h0 : -9223372036854775808 ≤ v) (h1 : v < 9223372036854775808) : Go.bits .and .i64 v 1 = v % 2 := by
  have hk : (BitVec.ofInt 64 v).toNat = (v % 18446744073709551616).toNat := by simp [BitVec.toNat_ofInt]
  simp only [Go.bits]
  rw [show IntKind.i64.bits = 64 from rfl, BitVec.toNat_and, hk, show (BitVec.ofInt 64 1).toNat = 1 from rfl, Nat.and_one_is_mod]
  rw [IntKind.wrap_i64]
  omega
/-- The digits of an address, with another one at i. -/
def setD (d : Nat → Bool) (i : Int) (b : Bool) (j : Nat) : Bool := if (j : Int) = i then b else d j
/-- The word that has a 1 at place i alone. -/
theorem one_shl (i : Nat) (h : i < 64) : IntKind.u64.wrap (2 ^ (63 - i)) = ((2 ^ (63 - i) : Nat) : Int) := by
  have H : ∀ i : Fin 64, IntKind.u64.wrap (2 ^ (63 - i.val)) = ((2 ^ (63 - i.val) : Nat) : Int) := by decide +kernel
  exact H ⟨i, h⟩
theorem p2_lt (i : Nat) (h : i < 64) : 2 ^ (63 - i) < 18446744073709551616 := Nat.lt_of_lt_of_le (Nat.pow_lt_pow_right (by decide) (by omega : 63 - i < 64)) (Nat.le_refl _)
theorem clear_bit (d : Nat → Bool) (i : Nat) (h : i < 64) : Go.bits .andNot .u64 (wd d : Nat) ((2 ^ (63 - i) : Nat) : Int) = (wd (fun j => if j = i then false else d j) : Nat) := by
  rw [andNot64 (wd_lt _) (p2_lt i h)]
  congr 1
  refine eq_wd (Nat.lt_of_le_of_lt Nat.and_le_left (wd_lt _)) (fun j hj => ?_)
  rw [Nat.testBit_and, testBit_not (p2_lt i h), testBit_wd, show 63 - (63 - j) = j by omega, Nat.testBit_two_pow]
  by_cases e : j = i
  · subst e; simp
  · have : ¬ (63 - i = 63 - j) := by omega
    simp [e, this, show 63 - j < 64 by omega]
theorem set_bit (d : Nat → Bool) (i : Nat) (h : i < 64) : Go.bits .or .u64 (wd d : Nat) ((2 ^ (63 - i) : Nat) : Int) = (wd (fun j => if j = i then true else d j) : Nat) := by
  rw [or64 (wd_lt _) (p2_lt i h)]
  congr 1
  refine eq_wd (Nat.or_lt_two_pow (n := 64) (wd_lt _) (p2_lt i h)) (fun j hj => ?_)
  rw [Nat.testBit_or, testBit_wd, show 63 - (63 - j) = j by omega, Nat.testBit_two_pow]
  by_cases e : j = i
  · subst e; simp
  · have : ¬ (63 - i = 63 - j) := by omega
    simp [e, this, show 63 - j < 64 by omega]
theorem hi_set (v6 : Bool) (d : Nat → Bool) (i : Nat) (h : i < W v6) (b : Bool) (c : i < 64) : hiA v6 (setD d i b) = ((wd (fun j => if j = i then b else (decide (j < W v6) && d j)) : Nat) : Int) := by
  unfold hiA
  congr 1
  refine wd_congr (fun j hj => ?_)
  unfold setD
  by_cases e : j = i
  · subst e; simp [h]
  · have : ¬ ((j : Int) = i) := by omega
    simp [e, this]
theorem lo_set (v6 : Bool) (d : Nat → Bool) (i : Nat) (h : 64 + i < W v6) (b : Bool) : loA v6 (setD d (64 + i : Nat) b) = ((wd (fun j => if j = i then b else (decide (64 + j < W v6) && d (64 + j))) : Nat) : Int) := by
  unfold loA
  congr 1
  refine wd_congr (fun j hj => ?_)
  unfold setD
  by_cases e : j = i
  · subst e; simp [h]
  · have : ¬ (((64 + j : Nat) : Int) = (64 + i : Nat)) := by omega
    rw [if_neg this, if_neg e]
theorem lo_keep (v6 : Bool) (d : Nat → Bool) (i : Nat) (c : i < 64) (b : Bool) : loA v6 (setD d i b) = loA v6 d := by
  unfold loA
  congr 1
  refine wd_congr (fun j hj => ?_)
  unfold setD
  have : ¬ (((64 + j : Nat) : Int) = i) := by omega
  rw [if_neg this]
theorem hi_keep (v6 : Bool) (d : Nat → Bool) (i : Nat) (c : 64 ≤ i) (b : Bool) : hiA v6 (setD d i b) = hiA v6 d := by
  unfold hiA
  congr 1
  refine wd_congr (fun j hj => ?_)
  unfold setD
  have : ¬ ((j : Int) = i) := by omega
  simp [this]
theorem bits_set (d : Nat → Bool) (i : Nat) (h : i < 64) : Go.bits .or .u64 (Go.bits .andNot .u64 (wd d : Nat) ((2 ^ (63 - i) : Nat) : Int)) ((2 ^ (63 - i) : Nat) : Int) = (wd (fun j => if j = i then true else d j) : Nat) := by
  rw [clear_bit d i h, set_bit _ i h]
  congr 1
  refine wd_congr (fun j _ => ?_)
  by_cases e : j = i <;> simp [e]

theorem p2c (m : Nat) : ((2 ^ (63 - m) : Nat) : Int) = 2 ^ (63 - m) := by simp
theorem hi1 (v6 : Bool) (d : Nat → Bool) (m : Nat) (h : m < W v6) (c : m < 64) : hiA v6 (setD d m true) = Go.bits .or .u64 (Go.bits .andNot .u64 (hiA v6 d) (2 ^ (63 - m))) (2 ^ (63 - m)) := by
  rw [hi_set v6 _ m h _ c, ← p2c, hiA, bits_set _ m c]
theorem hi0 (v6 : Bool) (d : Nat → Bool) (m : Nat) (h : m < W v6) (c : m < 64) : hiA v6 (setD d m false) = Go.bits .andNot .u64 (hiA v6 d) (2 ^ (63 - m)) := by
  rw [hi_set v6 _ m h _ c, ← p2c, hiA, clear_bit _ m c]
theorem lo1 (v6 : Bool) (d : Nat → Bool) (m : Nat) (h : 64 + m < W v6) (c : m < 64) : loA v6 (setD d (64 + m : Nat) true) = Go.bits .or .u64 (Go.bits .andNot .u64 (loA v6 d) (2 ^ (63 - m))) (2 ^ (63 - m)) := by
  rw [lo_set v6 _ m h, ← p2c, loA, bits_set _ m c]
theorem lo0 (v6 : Bool) (d : Nat → Bool) (m : Nat) (h : 64 + m < W v6) (c : m < 64) : loA v6 (setD d (64 + m : Nat) false) = Go.bits .andNot .u64 (loA v6 d) (2 ^ (63 - m)) := by
  rw [lo_set v6 _ m h, ← p2c, loA, clear_bit _ m c]
theorem one_shl' (m : Nat) (c : m < 64) : IntKind.u64.wrap (2 ^ (63 - m)) = 2 ^ (63 - m) := by rw [one_shl m c, p2c]

def setv (v : Int) : Bool := decide (Go.bits .and .i64 v 1 = 1)
/-- The digits behind a Set. -/
def setA (hi lo : Int) (v6 : Bool) (i v : Int) : Nat → Bool := if isI v6 i then setD (D hi lo) i (setv v) else D hi lo

set_option maxHeartbeats 1000000 in
theorem set_c (hi lo : Int) (v6 : Bool) (i v : Int) (hu : u64 hi) (lu : u64 lo) (w : World) :
    Calls Try.prog 16 #[.agg #[.int .u64 hi, .int .u64 lo, .bool v6], .int .i64 i, .int .i64 v] w fun e w' =>
      e = .returned (.agg #[.int .u64 (hiA v6 (setA hi lo v6 i v)), .int .u64 (loA v6 (setA hi lo v6 i v)), .bool v6]) ∧ Below w.heap.size w w' := by
  by_cases h : isI v6 i = true
  · rw [show setA hi lo v6 i v = setD (D hi lo) i (setv v) by unfold setA; rw [if_pos h]]
    have h' := h
    unfold isI at h'
    rw [decide_eq_true_eq] at h'
    have hW := W_le v6
    obtain ⟨m, rfl⟩ := Int.eq_ofNat_of_zero_le h'.1
    by_cases c : m < 64
    · have q : (m : Int) / 64 = 0 := by omega
      have q2 : (m : Int) % 64 = m := by omega
      have q3 := one_shl' m c
      have q4 : (m : Int) < 64 := by omega
      by_cases hv : Go.bits .and .i64 v 1 = 1
      · rw [show setv v = true by unfold setv; rw [hv]; rfl, hi1 v6 _ m (by omega) c, lo_keep v6 _ m c]
        have hvb : (Go.bits .and .i64 v 1 == 1) = true := beq_iff_eq.2 hv
        clear hv h'
        go_enter Try.func16, Try.ntmps16
        go_wp2_with (first | (go_at_call 46; refine (read_c _ _ _ hu lu _).mono ?_; rintro e w1 ⟨rfl, hb⟩; obtain ⟨hc, hf⟩ := bcell hb; have hz : w.heap.size < w1.heap.size := (by have := hb.size; (try simp at this); omega); have hz' : w.heap.size + 1 < w1.heap.size := (by have := hb.size; (try simp at this); omega)) | (go_at_call 49; refine (is_c _ _ _ _ _).mono ?_; rintro e w2 ⟨rfl, hb2⟩; obtain ⟨hc2, hf2⟩ := bcell hb2; have hz2 : w1.heap.size < w2.heap.size := (by have := hb2.size; (try simp at this); omega); have hz3 : w.heap.size < w2.heap.size := (by omega); have hz4 : w.heap.size + 1 < w2.heap.size := (by omega)) | (go_at_call 48; refine (of_c _ _ _ _).mono ?_; rintro e w3 ⟨rfl, hb3⟩; obtain ⟨hc3, hf3⟩ := bcell hb3; have hz5 : w.heap.size < w3.heap.size := (by have := hb3.size; (try simp at this); omega); have hz6 : w.heap.size + 1 < w3.heap.size := (by have := hb3.size; (try simp at this); omega)))
        refine bodyPost_ret ?_ rfl ⟨rfl, ?_⟩
        · simp [results, Try.results16, go_sem, hc, hc2, hc3, hz, hz', hz2, hz3, hz4, hz5, hz6]
        · repeat (first | exact Below.refl _ _ | refine below_alloc ?_ _ | refine below_step ?_ hb3 | refine below_step ?_ hb2 | refine below_step ?_ hb | refine Below.setCell ?_ (by simp <;> omega) _)
      · rw [show setv v = false by unfold setv; rw [decide_eq_false hv], hi0 v6 _ m (by omega) c, lo_keep v6 _ m c]
        have hvb : (Go.bits .and .i64 v 1 == 1) = false := beq_eq_false_iff_ne.2 hv
        clear hv h'
        go_enter Try.func16, Try.ntmps16
        go_wp2_with (first | (go_at_call 46; refine (read_c _ _ _ hu lu _).mono ?_; rintro e w1 ⟨rfl, hb⟩; obtain ⟨hc, hf⟩ := bcell hb; have hz : w.heap.size < w1.heap.size := (by have := hb.size; (try simp at this); omega); have hz' : w.heap.size + 1 < w1.heap.size := (by have := hb.size; (try simp at this); omega)) | (go_at_call 49; refine (is_c _ _ _ _ _).mono ?_; rintro e w2 ⟨rfl, hb2⟩; obtain ⟨hc2, hf2⟩ := bcell hb2; have hz2 : w1.heap.size < w2.heap.size := (by have := hb2.size; (try simp at this); omega); have hz3 : w.heap.size < w2.heap.size := (by omega); have hz4 : w.heap.size + 1 < w2.heap.size := (by omega)) | (go_at_call 48; refine (of_c _ _ _ _).mono ?_; rintro e w3 ⟨rfl, hb3⟩; obtain ⟨hc3, hf3⟩ := bcell hb3; have hz5 : w.heap.size < w3.heap.size := (by have := hb3.size; (try simp at this); omega); have hz6 : w.heap.size + 1 < w3.heap.size := (by have := hb3.size; (try simp at this); omega)))
        refine bodyPost_ret ?_ rfl ⟨rfl, ?_⟩
        · simp [results, Try.results16, go_sem, hc, hc2, hc3, hz, hz', hz2, hz3, hz4, hz5, hz6]
        · repeat (first | exact Below.refl _ _ | refine below_alloc ?_ _ | refine below_step ?_ hb3 | refine below_step ?_ hb2 | refine below_step ?_ hb | refine Below.setCell ?_ (by simp <;> omega) _)
    · obtain ⟨n, rfl⟩ : ∃ n, m = 64 + n := ⟨m - 64, by omega⟩
      have c2 : n < 64 := by omega
      have q : (64 + (n : Int)) / 64 = 1 := by omega
      have q2 : (64 + (n : Int)) % 64 = n := by omega
      have q3 := one_shl' n c2
      have q4 : (n : Int) < 64 := by omega
      have q5 : (0 : Int) ≤ 64 + (n : Int) := by omega
      have h3 : isI v6 (64 + (n : Int)) = true := by simpa using h
      clear h
      by_cases hv : Go.bits .and .i64 v 1 = 1
      · rw [show setv v = true by unfold setv; rw [hv]; rfl, lo1 v6 _ n (by omega) c2, hi_keep v6 _ _ (by omega)]
        have hvb : (Go.bits .and .i64 v 1 == 1) = true := beq_iff_eq.2 hv
        clear hv h'
        go_enter Try.func16, Try.ntmps16
        go_wp2_with (first | (go_at_call 46; refine (read_c _ _ _ hu lu _).mono ?_; rintro e w1 ⟨rfl, hb⟩; obtain ⟨hc, hf⟩ := bcell hb; have hz : w.heap.size < w1.heap.size := (by have := hb.size; (try simp at this); omega); have hz' : w.heap.size + 1 < w1.heap.size := (by have := hb.size; (try simp at this); omega)) | (go_at_call 49; refine (is_c _ _ _ _ _).mono ?_; rintro e w2 ⟨rfl, hb2⟩; obtain ⟨hc2, hf2⟩ := bcell hb2; have hz2 : w1.heap.size < w2.heap.size := (by have := hb2.size; (try simp at this); omega); have hz3 : w.heap.size < w2.heap.size := (by omega); have hz4 : w.heap.size + 1 < w2.heap.size := (by omega)) | (go_at_call 48; refine (of_c _ _ _ _).mono ?_; rintro e w3 ⟨rfl, hb3⟩; obtain ⟨hc3, hf3⟩ := bcell hb3; have hz5 : w.heap.size < w3.heap.size := (by have := hb3.size; (try simp at this); omega); have hz6 : w.heap.size + 1 < w3.heap.size := (by have := hb3.size; (try simp at this); omega)))
        refine bodyPost_ret ?_ rfl ⟨rfl, ?_⟩
        · simp [results, Try.results16, go_sem, hc, hc2, hc3, hz, hz', hz2, hz3, hz4, hz5, hz6]
        · repeat (first | exact Below.refl _ _ | refine below_alloc ?_ _ | refine below_step ?_ hb3 | refine below_step ?_ hb2 | refine below_step ?_ hb | refine Below.setCell ?_ (by simp <;> omega) _)
      · rw [show setv v = false by unfold setv; rw [decide_eq_false hv], lo0 v6 _ n (by omega) c2, hi_keep v6 _ _ (by omega)]
        have hvb : (Go.bits .and .i64 v 1 == 1) = false := beq_eq_false_iff_ne.2 hv
        clear hv h'
        go_enter Try.func16, Try.ntmps16
        go_wp2_with (first | (go_at_call 46; refine (read_c _ _ _ hu lu _).mono ?_; rintro e w1 ⟨rfl, hb⟩; obtain ⟨hc, hf⟩ := bcell hb; have hz : w.heap.size < w1.heap.size := (by have := hb.size; (try simp at this); omega); have hz' : w.heap.size + 1 < w1.heap.size := (by have := hb.size; (try simp at this); omega)) | (go_at_call 49; refine (is_c _ _ _ _ _).mono ?_; rintro e w2 ⟨rfl, hb2⟩; obtain ⟨hc2, hf2⟩ := bcell hb2; have hz2 : w1.heap.size < w2.heap.size := (by have := hb2.size; (try simp at this); omega); have hz3 : w.heap.size < w2.heap.size := (by omega); have hz4 : w.heap.size + 1 < w2.heap.size := (by omega)) | (go_at_call 48; refine (of_c _ _ _ _).mono ?_; rintro e w3 ⟨rfl, hb3⟩; obtain ⟨hc3, hf3⟩ := bcell hb3; have hz5 : w.heap.size < w3.heap.size := (by have := hb3.size; (try simp at this); omega); have hz6 : w.heap.size + 1 < w3.heap.size := (by have := hb3.size; (try simp at this); omega)))
        refine bodyPost_ret ?_ rfl ⟨rfl, ?_⟩
        · simp [results, Try.results16, go_sem, hc, hc2, hc3, hz, hz', hz2, hz3, hz4, hz5, hz6]
        · repeat (first | exact Below.refl _ _ | refine below_alloc ?_ _ | refine below_step ?_ hb3 | refine below_step ?_ hb2 | refine below_step ?_ hb | refine Below.setCell ?_ (by simp <;> omega) _)
  · have h2 : isI v6 i = false := by simpa using h
    rw [show setA hi lo v6 i v = D hi lo by unfold setA; rw [if_neg h]]
    clear h
    go_enter Try.func16, Try.ntmps16
    go_wp2_with (first | (go_at_call 46; refine (read_c _ _ _ hu lu _).mono ?_; rintro e w1 ⟨rfl, hb⟩; obtain ⟨hc, hf⟩ := bcell hb; have hz : w.heap.size < w1.heap.size := (by have := hb.size; (try simp at this); omega); have hz' : w.heap.size + 1 < w1.heap.size := (by have := hb.size; (try simp at this); omega)) | (go_at_call 49; refine (is_c _ _ _ _ _).mono ?_; rintro e w2 ⟨rfl, hb2⟩; obtain ⟨hc2, hf2⟩ := bcell hb2; have hz2 : w1.heap.size < w2.heap.size := (by have := hb2.size; (try simp at this); omega); have hz3 : w.heap.size < w2.heap.size := (by omega); have hz4 : w.heap.size + 1 < w2.heap.size := (by omega)) | (go_at_call 48; refine (of_c _ _ _ _).mono ?_; rintro e w3 ⟨rfl, hb3⟩; obtain ⟨hc3, hf3⟩ := bcell hb3; have hz5 : w.heap.size < w3.heap.size := (by have := hb3.size; (try simp at this); omega); have hz6 : w.heap.size + 1 < w3.heap.size := (by have := hb3.size; (try simp at this); omega)))
    refine bodyPost_ret ?_ rfl ⟨rfl, ?_⟩
    · simp [results, Try.results16, go_sem, hc, hc2, hc3, hz, hz', hz2, hz3, hz4, hz5, hz6]
    · repeat (first | exact Below.refl _ _ | refine below_alloc ?_ _ | refine below_step ?_ hb3 | refine below_step ?_ hb2 | refine below_step ?_ hb | refine Below.setCell ?_ (by simp <;> omega) _)
end Go.Proofs.Ytbaeaiiohkfieaa.Hand
