/-
  The walks of package addr's inner functions: a word's first ones, ones between two places, an address's words, the address of words.
-/
import Derived.Test.YtbaeaiiohkfieaaProg
import Derived.Test.YtbaeaiiohkfieaaWWords
import Derived.Test.YtbaeaiiohkfieaaWLast
import Derived.Test.YtbaeaiiohkfieaaDig
namespace Go.Proofs.Ytbaeaiiohkfieaa.Hand
open Go.RowKit Go.Proofs.YtbaeaiiohkfieaaW.PrintWords Go.Proofs.YtbaeaiiohkfieaaW.PrintLast Go.Proofs.Ytbaeaiiohkfieaa.Bits Go.Proofs.Ytbaeaiiohkfieaa.Dig
set_option linter.unusedVariables false
set_option linter.unusedSimpArgs false

/-- The greater, the smaller of two, under a name: the walk doesn't part at it. -/
def mxi (a b : Int) : Int := if a < b then b else a
def mni (a b : Int) : Int := if b < a then b else a
theorem max2_mxi (k k' : IntKind) (x y : Int) : Builtin.max2 (.int k x) (.int k' y) = pure (.int k (mxi x y)) := by unfold mxi; simp only [Builtin.max2, gt_iff_lt]
theorem min2_mni (k k' : IntKind) (x y : Int) : Builtin.min2 (.int k x) (.int k' y) = pure (.int k (mni x y)) := by unfold mni; simp only [Builtin.min2]
theorem max_2 (ats : Array TypeId) (ty : TypeId) (a b : Value) : Builtin.max_ ats ty #[a, b] = (Builtin.max2 a b >>= fun s => pure s) := by simp only [Builtin.max_, List.foldlM_cons, List.foldlM_nil]
theorem min_2 (ats : Array TypeId) (ty : TypeId) (a b : Value) : Builtin.min_ ats ty #[a, b] = (Builtin.min2 a b >>= fun s => pure s) := by simp only [Builtin.min_, List.foldlM_cons, List.foldlM_nil]
theorem min_3 (ats : Array TypeId) (ty : TypeId) (a b c : Value) : Builtin.min_ ats ty #[a, b, c] = (Builtin.min2 a b >>= fun s => Builtin.min2 s c >>= fun s => pure s) := by simp only [Builtin.min_, List.foldlM_cons, List.foldlM_nil]
attribute [local go_sem] max2_mxi min2_mni max_2 min_2 min_3
theorem hidp {p : Prop} (h : p) : Hid p := h
theorem bcell {W w1 : World} (hb : Below W.heap.size W w1) : (∀ b o, b < W.heap.size → w1.cell? ⟨b, o, none⟩ = W.cell? ⟨b, o, none⟩) ∧ (∀ b o, b < W.heap.size → w1.frozen? ⟨b, o, none⟩ = W.frozen? ⟨b, o, none⟩) :=
  ⟨fun b o h => hb.cell (p := ⟨b, o, none⟩) h, fun b o h => hb.frozen (p := ⟨b, o, none⟩) h⟩

theorem wrap_hi (n : Nat) (h : n ≤ 64) : IntKind.u64.wrap (18446744073709551615 * 2 ^ n) = 18446744073709551616 - 2 ^ n := by
  have H : ∀ n : Fin 65, IntKind.u64.wrap (18446744073709551615 * 2 ^ n.val) = 18446744073709551616 - 2 ^ n.val := by decide +kernel
  exact H ⟨n, by omega⟩
/-- The word whose first n digits are 1. -/
noncomputable def hiW (n : Int) : Int := (wd (fun i => decide ((i : Int) < n)) : Nat)
theorem hiW_eq (n : Int) (h0 : 0 ≤ n) (h1 : n ≤ 64) : hiW n = 18446744073709551616 - 2 ^ (64 - n).toNat := by
  have H : ∀ n : Fin 65, ((wdN (fun i => decide ((i : Int) < n.val)) 64 : Nat) : Int) = 18446744073709551616 - 2 ^ (64 - (n.val : Int)).toNat := by decide +kernel
  unfold hiW
  rw [wd_eq]
  obtain ⟨m, rfl⟩ := Int.eq_ofNat_of_zero_le h0
  exact H ⟨m, by omega⟩
theorem ret_u64 {a b : Int} (h : a = b) : Ending.returned (.int .u64 a) = .returned (.int .u64 b) := by rw [h]

theorem width_c (v6 : Bool) (w : World) :
    Calls Try.prog 21 #[.bool v6] w fun e w' => e = .returned (.int .i64 (W v6 : Nat)) ∧ w = w' := by
  cases v6 <;> (go_enter Try.func21, Try.ntmps21; go_wp2; go_ret; exact ⟨rfl, rfl⟩)

theorem high_c (n : Int) (h0 : 0 ≤ n) (h1 : n ≤ 64) (w : World) :
    Calls Try.prog 68 #[.int .i64 n] w fun e w' => e = .returned (.int .u64 (hiW n)) ∧ w = w' := by
  rw [hiW_eq n h0 h1]
  by_cases c : n = 0
  · subst c
    go_enter Try.func68, Try.ntmps68
    go_wp2
    go_ret
    exact ⟨rfl, rfl⟩
  · have c0 : (n == 0) = false := beq_eq_false_iff_ne.mpr c
    have h2 : 1 ≤ n := by omega
    clear c
    go_enter Try.func68, Try.ntmps68
    go_wp2
    go_ret
    exact ⟨ret_u64 (wrap_hi _ (by omega)), rfl⟩

def cl (x : Int) : Int := mxi 0 (mni x 64)
theorem cl_lo (x : Int) : 0 ≤ mxi 0 (mni x 64) := by unfold mxi mni; split <;> split <;> omega
theorem cl_hi (x : Int) : mxi 0 (mni x 64) ≤ 64 := by unfold mxi mni; split <;> split <;> omega
/-- Ones between two places, in a word. -/
theorem ones_word (a b o : Int) : Go.bits .andNot .u64 (hiW (mxi 0 (mni (b - o) 64))) (hiW (mxi 0 (mni (a - o) 64))) = (wd (fun i => decide (a ≤ o + i ∧ o + i < b)) : Nat) := by
  unfold hiW
  rw [andNot64 (wd_lt _) (wd_lt _)]
  congr 1
  refine eq_wd (Nat.lt_of_le_of_lt Nat.and_le_left (wd_lt _)) (fun i hi => ?_)
  rw [Nat.testBit_and, testBit_not (wd_lt _), testBit_wd, testBit_wd, show 63 - (63 - i) = i by omega]
  unfold mxi mni
  rw [Bool.eq_iff_iff]
  simp only [Bool.and_eq_true, decide_eq_true_eq, Bool.not_eq_true', Bool.and_eq_false_iff, decide_eq_false_iff_not]
  omega
noncomputable def oneW (a b o : Int) : Int := (wd (fun i => decide (a ≤ o + i ∧ o + i < b)) : Nat)

theorem below_2 {w W : World} (h : Below w.heap.size w W) {g j : Nat} {v : Value} (hg : w.heap.size ≤ g) : Below w.heap.size w (W.setCell ⟨g, j, none⟩ v) := h.setCell hg _
theorem agg2 {a b c d : Int} (h1 : a = c) (h2 : b = d) : Ending.returned (.agg #[.int .u64 a, .int .u64 b]) = .returned (.agg #[.int .u64 c, .int .u64 d]) := by rw [h1, h2]

set_option maxHeartbeats 4000000 in
theorem ones_c (a b : Int) (h0 : 0 ≤ a) (h1 : a ≤ 128) (h2 : 0 ≤ b) (h3 : b ≤ 128) (w : World) :
    Calls Try.prog 61 #[.int .i64 a, .int .i64 b] w fun e w' => e = .returned (.agg #[.int .u64 (oneW a b 0), .int .u64 (oneW a b 64)]) ∧ Below w.heap.size w w' := by
  go_enter Try.func61, Try.ntmps61
  go_wp2
  refine wp_loop_rounds 3 ?_
  rw [rounds_succ]
  go_wp2_with (go_at_call 68; refine (high_c _ (cl_lo _) (cl_hi _) _).mono ?_; rintro e w' ⟨rfl, rfl⟩)
  rw [rounds_succ]
  go_wp2_with (go_at_call 68; refine (high_c _ (cl_lo _) (cl_hi _) _).mono ?_; rintro e w' ⟨rfl, rfl⟩)
  rw [rounds_succ]
  go_wp2
  refine bodyPost_ret (v := .agg #[.int .u64 _, .int .u64 _]) (by simp [results, Try.results61, go_sem] <;> exact ⟨rfl, rfl⟩) rfl ⟨agg2 ?_ ?_, ?_⟩
  · have := ones_word a b 0
    simpa [oneW] using this
  · exact ones_word a b 64
  · repeat (first | exact Below.refl _ _ | refine Below.setCell ?_ (by simp <;> omega) _ | refine below_alloc ?_ _)

theorem hiA_read (hi lo : Int) (v6 : Bool) (h : u64 hi) : Go.bits .and .u64 hi (oneW 0 (W v6 : Nat) 0) = hiA v6 (D hi lo) := by
  obtain ⟨n, rfl⟩ := Int.eq_ofNat_of_zero_le h.1
  have hn : n < 18446744073709551616 := by have := h.2; omega
  unfold oneW hiA
  rw [and64 hn (wd_lt _)]
  congr 1
  refine eq_wd (Nat.lt_of_le_of_lt Nat.and_le_left hn) (fun i hi => ?_)
  rw [Nat.testBit_and, testBit_wd, D_lo hi, show 63 - (63 - i) = i by omega, show decide ((0 : Int) ≤ 0 + i ∧ (0 : Int) + i < (W v6 : Nat)) = decide (i < W v6) from by rw [decide_eq_decide]; omega]
  rw [Int.toNat_natCast, Bool.and_comm, show decide (63 - i < 64) = true from by simp; omega, Bool.true_and]
theorem loA_read (hi lo : Int) (v6 : Bool) (h : u64 lo) : Go.bits .and .u64 lo (oneW 0 (W v6 : Nat) 64) = loA v6 (D hi lo) := by
  obtain ⟨n, rfl⟩ := Int.eq_ofNat_of_zero_le h.1
  have hn : n < 18446744073709551616 := by have := h.2; omega
  unfold oneW loA
  rw [and64 hn (wd_lt _)]
  congr 1
  refine eq_wd (Nat.lt_of_le_of_lt Nat.and_le_left hn) (fun i hi => ?_)
  rw [Nat.testBit_and, testBit_wd, D_hi hi, show 63 - (63 - i) = i by omega, show decide ((0 : Int) ≤ 64 + i ∧ (64 : Int) + i < (W v6 : Nat)) = decide (64 + i < W v6) from by rw [decide_eq_decide]; omega]
  rw [Int.toNat_natCast, Bool.and_comm, show decide (63 - i < 64) = true from by simp; omega, Bool.true_and]

/-- Elements of an array of two words. -/
theorem ix0 (x y : Value) (w : World) : (Instr.index 58 (.agg #[x, y]) (.int .i64 0)).run Try.prog w = .ok x w := by kernel_rfl
theorem ix1 (x y : Value) (w : World) : (Instr.index 58 (.agg #[x, y]) (.int .i64 1)).run Try.prog w = .ok y w := by kernel_rfl

theorem read_c (hi lo : Int) (v6 : Bool) (hu : u64 hi) (lu : u64 lo) (w : World) :
    Calls Try.prog 46 #[.agg #[.int .u64 hi, .int .u64 lo, .bool v6]] w fun e w' =>
      e = .returned (.agg #[.int .u64 (hiA v6 (D hi lo)), .int .u64 (loA v6 (D hi lo))]) ∧ Below w.heap.size w w' := by
  rw [← hiA_read hi lo v6 hu, ← loA_read hi lo v6 lu]
  have b0 : (0 : Int) ≤ (W v6 : Nat) := by omega
  have b1 : ((W v6 : Nat) : Int) ≤ 128 := by have := W_le v6; omega
  clear hu lu
  have i0 := ix0
  have i1 := ix1
  go_enter Try.func46, Try.ntmps46
  go_wp2_with (go_at_call 21; refine (width_c _ _).mono ?_; rintro e w' ⟨rfl, rfl⟩)
  refine (ones_c _ _ (by decide) (by decide) b0 b1 _).mono ?_
  rintro e w1 ⟨rfl, hb⟩
  obtain ⟨hc, hf⟩ := bcell hb
  have hz : w.heap.size + 1 + 1 + 1 ≤ w1.heap.size := by have := hb.size; simp at this; omega
  go_wp2
  refine wp_loop_rounds 3 ?_
  rw [rounds_succ]
  go_wp2
  rw [rounds_succ]
  go_wp2
  rw [rounds_succ]
  go_wp2
  refine bodyPost_ret ?_ rfl ⟨rfl, ?_⟩
  · simp [results, Try.results46, go_sem, hc]
  · have hb' : Below w.heap.size w w1 := (below_alloc (below_alloc (below_alloc (Below.refl _ _) _) _) _).trans (hb.mono (by simp; omega))
    repeat (first | exact hb' | refine Below.setCell ?_ (by simp <;> omega) _ | refine below_alloc ?_ _)
end Go.Proofs.Ytbaeaiiohkfieaa.Hand
