/-
  The walks of math/bits' Len64 and LeadingZeros64.
-/
import Derived.Test.YtbaeaiiohkfieaaAddrG
namespace Go.Proofs.Ytbaeaiiohkfieaa.Hand
open Go.RowKit Go.Proofs.YtbaeaiiohkfieaaW.PrintWords Go.Proofs.YtbaeaiiohkfieaaW.PrintLast Go.Proofs.Ytbaeaiiohkfieaa.Bits Go.Proofs.Ytbaeaiiohkfieaa.Dig
set_option linter.unusedVariables false
set_option linter.unusedSimpArgs false

/-- How many binary digits a number has. -/
def blen (x : Nat) : Nat := if x = 0 then 0 else x.log2 + 1
theorem blen_lt (x : Nat) : x < 2 ^ blen x := by
  unfold blen
  split
  · omega
  · exact Nat.lt_log2_self
theorem blen_le {x n : Nat} (h : x < 2 ^ n) : blen x ≤ n := by
  unfold blen
  split
  · omega
  · rename_i h0
    have := (Nat.log2_lt h0).mpr h
    omega
theorem le_blen {x n : Nat} (h : 2 ^ n ≤ x) : n < blen x := by
  rcases Nat.lt_or_ge n (blen x) with h1 | h1
  · exact h1
  · have h2 := blen_lt x
    have h3 := Nat.pow_le_pow_right (n := 2) (by decide) h1
    omega
theorem blen_div {x k : Nat} (h : 2 ^ k ≤ x) : blen x = k + blen (x / 2 ^ k) := by
  have h0 : 0 < 2 ^ k := Nat.two_pow_pos k
  have hq : x / 2 ^ k < 2 ^ blen (x / 2 ^ k) := blen_lt _
  have h1 : x < 2 ^ (k + blen (x / 2 ^ k)) := by
    rw [Nat.pow_add, Nat.mul_comm]
    exact (Nat.div_lt_iff_lt_mul h0).mp hq
  have h2 := blen_le h1
  have hp : 0 < x / 2 ^ k := Nat.div_pos h h0
  have h3 : 2 ^ (blen (x / 2 ^ k) - 1) ≤ x / 2 ^ k := by
    unfold blen
    rw [if_neg (by omega)]
    exact Nat.log2_self_le (by omega)
  have h4 : 2 ^ (k + (blen (x / 2 ^ k) - 1)) ≤ x := by
    rw [Nat.pow_add]
    exact Nat.le_trans (Nat.mul_le_mul_left _ h3) (Nat.mul_div_le x _)
  have h5 := le_blen h4
  have h6 : 0 < blen (x / 2 ^ k) := by unfold blen; rw [if_neg (by omega)]; omega
  omega

/-- The table of the digits' counts of what is below 256. -/
def tab8 : ByteArray := ⟨((List.range 256).map (fun i => UInt8.ofNat (blen i))).toArray⟩
theorem tab8_size : tab8.size = 256 := by kernel_rfl
theorem tab8_get : ∀ i : Fin 256, ((tab8.get! i.1).toNat : Nat) = blen i.1 := by decide +kernel
attribute [irreducible] tab8
theorem tab_get {T : ByteArray} {i : Nat} (h : i < T.size) (hT : T = tab8) : (T[i]).toNat = blen i := by
  subst hT
  have hi : i < 256 := by rw [← tab8_size]; exact h
  rw [← tab8_get ⟨i, hi⟩]
  congr 1
  exact (getElem!_pos tab8.data i (by exact h)).symm
theorem len_step (x : Int) (k : Nat) (p : Int) (hx : 0 ≤ x) (hp : p = ((2 ^ k : Nat) : Int)) (h : p ≤ x) : blen x.toNat = k + blen (x / p).toNat := by
  subst hp
  rw [blen_div (x := x.toNat) (k := k) (by omega)]
  congr 2
  obtain ⟨n, rfl⟩ := Int.eq_ofNat_of_zero_le hx
  rw [Int.toNat_natCast, ← Int.natCast_ediv, Int.toNat_natCast]
theorem wr64 (n : Int) (h : -9223372036854775808 ≤ n ∧ n ≤ 9223372036854775807) : wrap64 n = n := by unfold wrap64; omega
theorem len_end0 {z : Int} (hz : z < 256) : wrap64 (wrap64 (blen z.toNat : Nat)) = (blen z.toNat : Nat) := by
  have := blen_le (x := z.toNat) (n := 8) (by omega)
  rw [wr64 (blen z.toNat : Nat) (by omega), wr64 _ (by omega)]
theorem len_end {z : Int} (hz : z < 256) {n : Int} (h0 : 0 ≤ n) (h1 : n ≤ 56) : wrap64 (n + wrap64 (blen z.toNat : Nat)) = n + (blen z.toNat : Nat) := by
  have := blen_le (x := z.toNat) (n := 8) (by omega)
  rw [wr64 (blen z.toNat : Nat) (by omega), wr64 _ (by omega)]

set_option maxHeartbeats 1000000 in
set_option maxRecDepth 100000 in
theorem len64_c (x : Int) (hx : u64 x) (w : World) : Calls Try.prog 62 #[.int .u64 x] w fun e w' => e = .returned (.int .i64 (blen x.toNat : Nat)) ∧ w = w' := by
  obtain ⟨hx0, hx1⟩ := hx
  generalize hr : (blen x.toNat : Int) = r
  go_enter Try.func62, Try.ntmps62
  go_upto_if 4 with (fail)
  by_cases h1 : 4294967296 ≤ x
  · rw [decide_eq_true h1]
    go_wp2
    all_goals
      rw [len_step x 32 4294967296 hx0 (by decide) h1] at hr
      first | rw [len_step (x / 4294967296) 16 65536 (by omega) (by decide) (by assumption)] at hr | skip
      first | rw [len_step (x / 4294967296 / 65536) 8 256 (by omega) (by decide) (by assumption)] at hr | rw [len_step (x / 4294967296) 8 256 (by omega) (by decide) (by assumption)] at hr | skip
      go_ret
      refine ⟨?_, rfl⟩
      rw [tab_get _ (by kernel_rfl)]
      refine congrArg (fun n => Ending.returned (.int .i64 n)) (?_ : wrap64 _ = r)
      rw [len_end]
      · rw [← hr]
        omega
      · omega
      · decide
      · decide
  · rw [decide_eq_false h1]
    go_wp2
    all_goals
      first | rw [len_step x 16 65536 (by omega) (by decide) (by assumption)] at hr | skip
      first | rw [len_step (x / 65536) 8 256 (by omega) (by decide) (by assumption)] at hr | rw [len_step x 8 256 (by omega) (by decide) (by assumption)] at hr | skip
      go_ret
      refine ⟨?_, rfl⟩
      rw [tab_get _ (by kernel_rfl)]
      refine congrArg (fun n => Ending.returned (.int .i64 n)) (?_ : wrap64 _ = r)
      first
        | (rw [len_end]
           · rw [← hr]
             omega
           · omega
           · decide
           · decide)
        | (rw [len_end0]
           · rw [← hr]
           · omega)

theorem lead_c (x : Int) (hx : u64 x) (w : World) : Calls Try.prog 50 #[.int .u64 x] w fun e w' => e = .returned (.int .i64 (64 - (blen x.toNat : Nat))) ∧ w = w' := by
  have hb : blen x.toNat ≤ 64 := blen_le (by have := hx.2; omega)
  have h64 : wrap64 (64 - (blen x.toNat : Nat)) = 64 - (blen x.toNat : Nat) := wr64 _ (by omega)
  go_enter Try.func50, Try.ntmps50
  go_wp2_with (first | (go_at_call 62; refine (len64_c _ hx _).mono ?_; rintro e w1 ⟨rfl, rfl⟩))
  go_ret
  exact ⟨rfl, rfl⟩

theorem or_g (ad : Addr) (n : Nat) (a b c : Int) (w : World) (h0 : w.cell? ad = some (.int .i64 a)) (h1 : w.cell? ⟨ad.block, ad.off + 1, none⟩ = some (.int .i64 b)) (h2 : w.cell? ⟨ad.block, ad.off + 2, none⟩ = some (.int .i64 c)) :
    Calls Try.prog 52 #[.slice (some ad) 3 n] w fun e w' => e = .returned (.int .i64 (or3 a b c)) ∧ w = w' := by
  by_cases ha : a = 0
  · have ka : (a != 0) = false := bne_eq_false_iff_eq.mpr ha
    by_cases hb : b = 0
    · have kb : (b != 0) = false := bne_eq_false_iff_eq.mpr hb
      rw [show or3 a b c = c by unfold or3; rw [if_pos ha, if_pos hb]]
      clear ha hb
      by_cases hc : c = 0
      · have kc : (c != 0) = false := bne_eq_false_iff_eq.mpr hc
        rw [hc]
        clear hc
        go_enter Try.func52, Try.ntmps52
        go_wp2
        refine wp_loop_rounds 4 ?_
        iterate 4 (rw [rounds_succ]; go_wp2)
        go_ret
        exact ⟨rfl, rfl⟩
      · have kc : (c != 0) = true := bne_iff_ne.mpr hc
        clear hc
        go_enter Try.func52, Try.ntmps52
        go_wp2
        refine wp_loop_rounds 4 ?_
        iterate 3 (rw [rounds_succ]; go_wp2)
        go_ret
        exact ⟨rfl, rfl⟩
    · have kb : (b != 0) = true := bne_iff_ne.mpr hb
      rw [show or3 a b c = b by unfold or3; rw [if_pos ha, if_neg hb]]
      clear ha hb
      go_enter Try.func52, Try.ntmps52
      go_wp2
      refine wp_loop_rounds 4 ?_
      iterate 2 (rw [rounds_succ]; go_wp2)
      go_ret
      exact ⟨rfl, rfl⟩
  · have ka : (a != 0) = true := bne_iff_ne.mpr ha
    rw [show or3 a b c = a by unfold or3; rw [if_neg ha]]
    clear ha
    go_enter Try.func52, Try.ntmps52
    go_wp2
    refine wp_loop_rounds 4 ?_
    iterate 1 (rw [rounds_succ]; go_wp2)
    go_ret
    exact ⟨rfl, rfl⟩

/-! ### In the form that the driver's printed texts call -/
def cmp_Compare_int.f (a b : Int) : Option Int := some (c3 a b)
theorem cmp_Compare_int.calls (a b r : Int) (w : World) (h : cmp_Compare_int.f a b = some r) : Calls Try.prog 53 #[.int .i64 a, .int .i64 b] w fun e w' => e = .returned (.int .i64 r) ∧ Drawn0 w w' := by
  obtain rfl := Option.some.inj h
  exact (cmpi_c a b w).mono fun _ _ ⟨he, hw⟩ => ⟨he, hw ▸ Drawn0.refl _⟩
def cmp_Compare_uint64.f (a b : Int) : Option Int := some (c3 a b)
theorem cmp_Compare_uint64.calls (a b r : Int) (w : World) (h : cmp_Compare_uint64.f a b = some r) : Calls Try.prog 54 #[.int .u64 a, .int .u64 b] w fun e w' => e = .returned (.int .i64 r) ∧ Drawn0 w w' := by
  obtain rfl := Option.some.inj h
  exact (cmpu_c a b w).mono fun _ _ ⟨he, hw⟩ => ⟨he, hw ▸ Drawn0.refl _⟩
noncomputable def bits_LeadingZeros64.f (a : Int) : Option Int := gd (u64 a) (64 - (blen a.toNat : Nat))
theorem bits_LeadingZeros64.calls (a r : Int) (w : World) (h : bits_LeadingZeros64.f a = some r) : Calls Try.prog 50 #[.int .u64 a] w fun e w' => e = .returned (.int .i64 r) ∧ Drawn0 w w' := by
  obtain ⟨h0, rfl⟩ := gd_some h
  exact (lead_c a h0 w).mono fun _ _ ⟨he, hw⟩ => ⟨he, hw ▸ Drawn0.refl _⟩
def cmp_Or_int.f : List Int → Option Int
  | [a, b, c] => some (or3 a b c)
  | _ => none
theorem cmp_Or_int.calls (A0 : Option Addr) (c0 : Nat) (l0 : List Int) (r : Int) (w : World) (hr0 : Kd.C (Kd.int .i64) w A0 l0.length l0) (hc0 : l0.length ≤ c0) (h : cmp_Or_int.f l0 = some r) :
    Calls Try.prog 52 #[.slice A0 l0.length c0] w fun e w' => e = .returned (.int .i64 r) ∧ Drawn0 w w' := by
  match l0, h with
  | [a, b, c], h =>
    have h : some (or3 a b c) = some r := h
    rw [Option.some.injEq] at h
    subst h
    obtain ⟨ad, rfl, k0⟩ := Kd.at_int hr0 0 (by omega) (by simp)
    obtain ⟨ad', e, k1⟩ := Kd.at_int hr0 1 (by omega) (by simp)
    obtain rfl := Option.some.inj e
    obtain ⟨ad', e, k2⟩ := Kd.at_int hr0 2 (by omega) (by simp)
    obtain rfl := Option.some.inj e
    exact (or_g ad c0 a b c w (by have := k0; simp [Addr.add] at this; exact this) (by have := k1; simp [Addr.add] at this; exact this) (by have := k2; simp [Addr.add] at this; exact this)).mono fun _ _ ⟨he, hw⟩ => ⟨he, hw ▸ Drawn0.refl _⟩
end Go.Proofs.Ytbaeaiiohkfieaa.Hand
