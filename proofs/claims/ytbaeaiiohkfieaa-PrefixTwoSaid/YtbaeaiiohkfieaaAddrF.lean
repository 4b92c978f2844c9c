/-
  The walks of package addr's Next and From.
-/
import Derived.Test.YtbaeaiiohkfieaaGiven
namespace Go.Proofs.Ytbaeaiiohkfieaa.Hand
open Go.RowKit Go.Proofs.YtbaeaiiohkfieaaW.PrintWords Go.Proofs.YtbaeaiiohkfieaaW.PrintLast Go.Proofs.Ytbaeaiiohkfieaa.Bits Go.Proofs.Ytbaeaiiohkfieaa.Dig
set_option linter.unusedVariables false
set_option linter.unusedSimpArgs false
attribute [local go_sem] max2_mxi min2_mni max_2 min_2 min_3 setCell_setCell

/-- The digits that a row of bytes has. -/
def byD (l : List Int) (i : Nat) : Bool := (l.getD (i / 8) 0).toNat.testBit (7 - i % 8)
theorem shl_byte (c : Int) (k : Nat) (h0 : 0 ≤ c) (h1 : c < 256) (hk : k < 8) : IntKind.u64.wrap (c * 2 ^ (56 - 8 * k)) = ((c.toNat * 2 ^ (56 - 8 * k) : Nat) : Int) := by
  obtain ⟨m, rfl⟩ := Int.eq_ofNat_of_zero_le h0
  have hm : m < 256 := by omega
  have hp : 2 ^ (56 - 8 * k) ≤ 72057594037927936 := Nat.pow_le_pow_right (n := 2) (by decide) (by omega : 56 - 8 * k ≤ 56)
  have : m * 2 ^ (56 - 8 * k) < 18446744073709551616 := Nat.lt_of_le_of_lt (Nat.mul_le_mul (by omega : m ≤ 255) hp) (by decide)
  rw [wrap_u64, Int.toNat_natCast]
  have e : ((m : Int) * 2 ^ (56 - 8 * k)) = ((m * 2 ^ (56 - 8 * k) : Nat) : Int) := by simp
  rw [e]
  omega
/-- One byte more in a word. -/
theorem or_byte (d : Nat → Bool) (c : Int) (k : Nat) (h0 : 0 ≤ c) (h1 : c < 256) (hk : k < 8) (e : Nat → Bool) (h : ∀ i, i < 64 → e i = if i / 8 = k then (d i || c.toNat.testBit (7 - i % 8)) else d i) :
    Go.bits .or .u64 (wd d : Nat) ((c.toNat * 2 ^ (56 - 8 * k) : Nat) : Int) = (wd e : Nat) := by
  have hm : c.toNat < 256 := by omega
  have hp : 2 ^ (56 - 8 * k) ≤ 72057594037927936 := Nat.pow_le_pow_right (n := 2) (by decide) (by omega : 56 - 8 * k ≤ 56)
  have hlt : c.toNat * 2 ^ (56 - 8 * k) < 18446744073709551616 := Nat.lt_of_le_of_lt (Nat.mul_le_mul (by omega : c.toNat ≤ 255) hp) (by decide)
  rw [or64 (wd_lt _) hlt]
  congr 1
  refine eq_wd (Nat.or_lt_two_pow (n := 64) (wd_lt _) hlt) (fun i hi => ?_)
  rw [Nat.testBit_or, testBit_wd, show 63 - (63 - i) = i by omega, h i hi, Nat.testBit_mul_two_pow]
  by_cases q : i / 8 = k
  · rw [if_pos q, show decide (63 - i < 64) = true by simp; omega, show 63 - i - (56 - 8 * k) = 7 - i % 8 by omega, show decide (63 - i ≥ 56 - 8 * k) = true by simp; omega]
    simp
  · rw [if_neg q]
    have : ((decide (63 - i ≥ 56 - 8 * k)) && c.toNat.testBit (63 - i - (56 - 8 * k))) = false := by
      by_cases q2 : 63 - i ≥ 56 - 8 * k
      · rw [Nat.testBit_lt_two_pow (Nat.lt_of_lt_of_le hm (Nat.pow_le_pow_right (n := 2) (by decide) (by omega : 8 ≤ 63 - i - (56 - 8 * k))))]
        simp
      · simp [q2]
    simp only [this, Bool.or_false, show decide (63 - i < 64) = true by simp; omega, Bool.true_and]

/-- The first k bytes, as two words. -/
noncomputable def frH (l : List Int) (k : Nat) : Int := (wd (fun i => decide (i < 8 * k) && byD l i) : Nat)
noncomputable def frL (l : List Int) (k : Nat) : Int := (wd (fun i => decide (64 + i < 8 * k) && byD l (64 + i)) : Nat)
theorem frH_step (l : List Int) (k : Nat) (hk : k < 8) (h0 : 0 ≤ rd l k) (h1 : rd l k < 256) : Go.bits .or .u64 (frH l k) (((rd l k).toNat * 2 ^ (56 - 8 * k) : Nat) : Int) = frH l (k + 1) := by
  unfold frH
  refine or_byte _ _ k h0 h1 hk _ (fun i hi => ?_)
  unfold byD rd
  by_cases q : i / 8 = k
  · rw [if_pos q, q, Int.toNat_natCast, show decide (i < 8 * (k + 1)) = true by simp; omega, show decide (i < 8 * k) = false by simp; omega]
    simp
  · rw [if_neg q]
    congr 1
    rw [decide_eq_decide]; omega
theorem frL_step (l : List Int) (k : Nat) (hk : k < 8) (h0 : 0 ≤ rd l (8 + k : Nat)) (h1 : rd l (8 + k : Nat) < 256) : Go.bits .or .u64 (frL l (8 + k)) (((rd l (8 + k : Nat)).toNat * 2 ^ (56 - 8 * k) : Nat) : Int) = frL l (8 + k + 1) := by
  unfold frL
  refine or_byte _ _ k h0 h1 hk _ (fun i hi => ?_)
  unfold byD rd
  by_cases q : i / 8 = k
  · rw [if_pos q, show (64 + i) / 8 = 8 + k by omega, show (64 + i) % 8 = i % 8 by omega, Int.toNat_natCast, show decide (64 + i < 8 * (8 + k + 1)) = true by simp; omega, show decide (64 + i < 8 * (8 + k)) = false by simp; omega]
    simp
  · rw [if_neg q]
    congr 1
    rw [decide_eq_decide]; omega
theorem frH_over (l : List Int) (k : Nat) (hk : 8 ≤ k) : frH l (k + 1) = frH l k := by
  unfold frH
  congr 1
  refine wd_congr (fun i hi => ?_)
  rw [show decide (i < 8 * (k + 1)) = true by simp; omega, show decide (i < 8 * k) = true by simp; omega]
theorem frL_under (l : List Int) (k : Nat) (hk : k ≤ 8) : frL l k = 0 := by
  unfold frL
  have : wd (fun i => decide (64 + i < 8 * k) && byD l (64 + i)) = 0 := by
    refine word_ext (wd_lt _) (by decide) (fun j hj => ?_)
    rw [testBit_wd]
    simp; omega
  rw [this]; rfl
theorem frH_zero (l : List Int) : frH l 0 = 0 := by
  unfold frH
  have : wd (fun i => decide (i < 8 * 0) && byD l i) = 0 := by
    refine word_ext (wd_lt _) (by decide) (fun j hj => ?_)
    rw [testBit_wd]
    simp
  rw [this]; rfl

theorem byte_cast (c : Int) (k : Nat) (h0 : 0 ≤ c) : ((c.toNat * 2 ^ (56 - 8 * k) : Nat) : Int) = c * 2 ^ (56 - 8 * k) := by
  obtain ⟨m, rfl⟩ := Int.eq_ofNat_of_zero_le h0
  simp
theorem shl_byte' (c : Int) (k : Nat) (h0 : 0 ≤ c) (h1 : c < 256) (hk : k < 8) : IntKind.u64.wrap (c * 2 ^ (56 - 8 * k)) = c * 2 ^ (56 - 8 * k) := by rw [shl_byte c k h0 h1 hk, byte_cast c k h0]
theorem stepH (l : List Int) (k : Nat) (hk : k < 8) (h0 : 0 ≤ rd l k) (h1 : rd l k < 256) : Go.bits .or .u64 (frH l k) (rd l k * 2 ^ (56 - 8 * k)) = frH l (k + 1) := by rw [← byte_cast _ k h0, frH_step l k hk h0 h1]
theorem stepL (l : List Int) (k : Nat) (hk : k < 8) (h0 : 0 ≤ rd l (8 + k : Nat)) (h1 : rd l (8 + k : Nat) < 256) : Go.bits .or .u64 (frL l (8 + k)) (rd l (8 + k : Nat) * 2 ^ (56 - 8 * k)) = frL l (8 + k + 1) := by rw [← byte_cast _ k h0, frL_step l k hk h0 h1]
theorem agg4 {a b c d : Int} {x y : Bool} (h1 : a = c) (h2 : b = d) (h3 : x = y) : Ending.returned (.tuple #[.agg #[.int .u64 a, .int .u64 b, .bool x], .int .i64 0]) = .returned (.tuple #[.agg #[.int .u64 c, .int .u64 d, .bool y], .int .i64 0]) := by rw [h1, h2, h3]

set_option maxHeartbeats 4000000 in
theorem from_loop (A : Option Addr) (c : Nat) (l : List Int) (w : World) (hl : (Kd.int .u8).C w A l.length l) (hc : l.length ≤ c) (hby : ∀ i : Nat, i < l.length → 0 ≤ rd l i ∧ rd l i < 256) (hn : l.length = 4 ∨ l.length = 16) :
    Calls Try.prog 27 #[.slice A l.length c] w fun e w' => e = .returned (.tuple #[.agg #[.int .u64 (frH l l.length), .int .u64 (frL l l.length), .bool (decide (l.length = 16))], .int .i64 0]) ∧ Below w.heap.size w w' := by
  have HL := Aside0.mk hl
  have HBy := Aside0.mk hby
  have hn16 : l.length ≤ 16 := by omega
  have hz0 := frH_zero l
  have hz1 := frL_under l 0 (by omega)
  clear hl hby
  rcases hn with hn | hn
  · have hb3 : ((l.length : Int) == 16) = false := by rw [hn]; rfl
    have hb4 : ((l.length : Int) != 4) = false := by rw [hn]; rfl
    have hb5 := hidp (show decide (l.length = 16) = false by rw [hn]; rfl)
    have hn' := hidp hn
    rw [hb5.out]
    clear hn
    go_enter Try.func27, Try.ntmps27
    go_wp2
    go_loopw [22] (fun i wr => ∃ k : Nat, k ≤ l.length ∧ i = .int .i64 k ∧ wr = (w.alloc (.cells #[.int .u64 0, .int .u64 0, .bool false] 24 (0, 0))).alloc (.cells #[.int .u64 (frH l k), .int .u64 (frL l k)] 58 (0, 0))) (fun i _ => l.length - (intOf i).toNat)
    case atStart => exact ⟨0, Nat.zero_le _, rfl, by rw [hz0, hz1]⟩
    case round =>
      obtain ⟨k, hk, rfl, rfl⟩ := hrel
      by_cases hlt : k < l.length
      · obtain ⟨ad, rfl, hcell⟩ := Kd.at_int HL.out (k : Int) (by omega) (by omega)
        obtain ⟨b0, b1⟩ := HBy.out k hlt
        rw [Int.toNat_natCast] at hcell
        have hcell2 := cell_alloc (cell_alloc hcell (.cells #[.int .u64 0, .int .u64 0, .bool false] 24 (0, 0))) (.cells #[.int .u64 (frH l k), .int .u64 (frL l k)] 58 (0, 0))
        have k8 : k < 8 := by have := hn'.out; omega
        have q1 : 8 * k / 64 = 0 := by omega
        have q2 : 8 * k % 64 = 8 * k := by omega
        have q3 : ((k : Int) * 8) / 64 = 0 := by omega
        have q4 : ((k : Int) * 8) % 64 = 8 * k := by omega
        have q5 : IntKind.u64.wrap (rd l k * 2 ^ (56 - 8 * k)) = rd l k * 2 ^ (56 - 8 * k) := shl_byte' _ k b0 b1 k8
        have q6 : (8 : Int) * k ≤ 56 := by omega
        clear hcell
        go_wp2
        exact ⟨⟨k + 1, by omega, by go_num, by rw [stepH l k k8 b0 b1, frL_under l k (by omega), frL_under l (k + 1) (by omega)]⟩, by simp [intOf]; omega⟩
      · have hk' : k = l.length := by omega
        subst hk'
        go_wp2_with (go_at_call 48; refine (of_c _ _ _ _).mono ?_; rintro e w3 ⟨rfl, hb3⟩; obtain ⟨hc3, hf3⟩ := bcell hb3; have hz5 : w.heap.size < w3.heap.size := (by have := hb3.size; (try simp at this); omega); have hz6 : w.heap.size + 1 < w3.heap.size := (by have := hb3.size; (try simp at this); omega))
        have c0 := hc3 w.heap.size 0
        have c1 := hc3 w.heap.size 1
        have c2 := hc3 w.heap.size 2
        simp [go_sem] at c0 c1 c2
        refine bodyPost_ret ?_ rfl ⟨rfl, ?_⟩
        · simp [results, Try.results27, go_sem, c0, c1, c2]
        · repeat (first | exact Below.refl _ _ | refine below_alloc ?_ _ | refine below_step ?_ hb3 | refine Below.setCell ?_ (by simp <;> omega) _)
  · have hb3 : ((l.length : Int) == 16) = true := by rw [hn]; rfl
    have hb5 := hidp (show decide (l.length = 16) = true by rw [hn]; rfl)
    have hn' := hidp hn
    rw [hb5.out]
    clear hn
    go_enter Try.func27, Try.ntmps27
    go_wp2
    go_loopw [22] (fun i wr => ∃ k : Nat, k ≤ l.length ∧ i = .int .i64 k ∧ wr = (w.alloc (.cells #[.int .u64 0, .int .u64 0, .bool false] 24 (0, 0))).alloc (.cells #[.int .u64 (frH l k), .int .u64 (frL l k)] 58 (0, 0))) (fun i _ => l.length - (intOf i).toNat)
    case atStart => exact ⟨0, Nat.zero_le _, rfl, by rw [hz0, hz1]⟩
    case round =>
      obtain ⟨k, hk, rfl, rfl⟩ := hrel
      by_cases hlt : k < l.length
      · obtain ⟨ad, rfl, hcell⟩ := Kd.at_int HL.out (k : Int) (by omega) (by omega)
        obtain ⟨b0, b1⟩ := HBy.out k hlt
        rw [Int.toNat_natCast] at hcell
        have hcell2 := cell_alloc (cell_alloc hcell (.cells #[.int .u64 0, .int .u64 0, .bool false] 24 (0, 0))) (.cells #[.int .u64 (frH l k), .int .u64 (frL l k)] 58 (0, 0))
        by_cases k8 : k < 8
        · have q1 : 8 * k / 64 = 0 := by omega
          have q2 : 8 * k % 64 = 8 * k := by omega
          have q3 : ((k : Int) * 8) / 64 = 0 := by omega
          have q4 : ((k : Int) * 8) % 64 = 8 * k := by omega
          have q5 : IntKind.u64.wrap (rd l k * 2 ^ (56 - 8 * k)) = rd l k * 2 ^ (56 - 8 * k) := shl_byte' _ k b0 b1 k8
          have q6 : (8 : Int) * k ≤ 56 := by omega
          clear hcell
          go_wp2
          exact ⟨⟨k + 1, by omega, by go_num, by rw [stepH l k k8 b0 b1, frL_under l k (by omega), frL_under l (k + 1) (by omega)]⟩, by simp [intOf]; omega⟩
        · obtain ⟨j, rfl⟩ : ∃ j, k = 8 + j := ⟨k - 8, by omega⟩
          have j8 : j < 8 := by omega
          have q1 : 8 * (8 + j) / 64 = 1 := by omega
          have q2 : 8 * (8 + j) % 64 = 8 * j := by omega
          have q3 : ((8 + (j : Int)) * 8) / 64 = 1 := by omega
          have q4 : ((8 + (j : Int)) * 8) % 64 = 8 * j := by omega
          have hs := hidp (stepL l j j8 b0 b1)
          rw [show ((8 + j : Nat) : Int) = 8 + (j : Int) by simp] at b0 b1 hcell2 hs
          have q5 : IntKind.u64.wrap (rd l (8 + (j : Int)) * 2 ^ (56 - 8 * j)) = rd l (8 + (j : Int)) * 2 ^ (56 - 8 * j) := shl_byte' _ j b0 b1 j8
          have q6 : (8 : Int) * j ≤ 56 := by omega
          have q7 : (8 : Int) + j < l.length := by omega
          clear hcell hlt
          go_wp2
          exact ⟨⟨8 + j + 1, by omega, by simp, by rw [hs.out, frH_over l (8 + j) (by omega)]⟩, by simp [intOf]; omega⟩
      · have hk' : k = l.length := by omega
        subst hk'
        go_wp2_with (go_at_call 48; refine (of_c _ _ _ _).mono ?_; rintro e w3 ⟨rfl, hb3⟩; obtain ⟨hc3, hf3⟩ := bcell hb3; have hz5 : w.heap.size < w3.heap.size := (by have := hb3.size; (try simp at this); omega); have hz6 : w.heap.size + 1 < w3.heap.size := (by have := hb3.size; (try simp at this); omega))
        have c0 := hc3 w.heap.size 0
        have c1 := hc3 w.heap.size 1
        have c2 := hc3 w.heap.size 2
        simp [go_sem] at c0 c1 c2
        refine bodyPost_ret ?_ rfl ⟨rfl, ?_⟩
        · simp [results, Try.results27, go_sem, c0, c1, c2]
        · repeat (first | exact Below.refl _ _ | refine below_alloc ?_ _ | refine below_step ?_ hb3 | refine Below.setCell ?_ (by simp <;> omega) _)

theorem from_no (A : Option Addr) (c n : Nat) (w : World) (h1 : n ≠ 4) (h2 : n ≠ 16) :
    Calls Try.prog 27 #[.slice A n c] w fun e w' => e = .returned (.tuple #[.agg #[.int .u64 0, .int .u64 0, .bool false], .int .i64 4]) ∧ Below w.heap.size w w' := by
  have hb3 : ((n : Int) == 16) = false := by rw [beq_eq_false_iff_ne]; omega
  have hb4 : ((n : Int) != 4) = true := by rw [bne_iff_ne]; omega
  clear h1 h2
  go_enter Try.func27, Try.ntmps27
  go_wp2
  refine bodyPost_ret ?_ rfl ⟨rfl, ?_⟩
  · simp [results, Try.results27, go_sem]
  · repeat (first | exact Below.refl _ _ | refine below_alloc ?_ _ | refine Below.setCell ?_ (by simp <;> omega) _)

/-- From's answer: an address, and an error's number. -/
noncomputable def addr_From.f (l : List Int) : Option (Int × Int × Bool × Int) :=
  if l.length = 4 ∨ l.length = 16 then gd (∀ i, i < l.length → 0 ≤ rd l i ∧ rd l i < 256) (frH l l.length, frL l l.length, decide (l.length = 16), 0) else some (0, 0, false, 4)
theorem addr_From.calls (A0 : Option Addr) (c0 : Nat) (l0 : List Int) (r1 r2 : Int) (r3 : Bool) (r4 : Int) (w : World) (hr0 : Kd.C (Kd.int .u8) w A0 l0.length l0) (hc0 : l0.length ≤ c0) (h : addr_From.f l0 = some (r1, r2, r3, r4)) :
    Calls Try.prog 27 #[.slice A0 l0.length c0] w fun e w' => e = .returned (.tuple #[.agg #[.int .u64 r1, .int .u64 r2, .bool r3], .int .i64 r4]) ∧ Below w.heap.size w w' := by
  unfold addr_From.f at h
  split at h
  · rename_i hn
    obtain ⟨hb, he⟩ := gd_some h
    simp only [Prod.mk.injEq] at he
    obtain ⟨rfl, rfl, rfl, rfl⟩ := he
    exact from_loop A0 c0 l0 w hr0 hc0 hb hn
  · rename_i hn
    have h := Option.some.inj h
    simp only [Prod.mk.injEq] at h
    obtain ⟨rfl, rfl, rfl, rfl⟩ := h
    exact from_no A0 c0 l0.length w (fun e => hn (.inl e)) (fun e => hn (.inr e))
end Go.Proofs.Ytbaeaiiohkfieaa.Hand
