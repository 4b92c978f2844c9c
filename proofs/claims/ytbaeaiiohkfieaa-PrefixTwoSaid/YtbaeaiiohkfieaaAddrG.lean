/-
  The walk of package addr's Next.
-/
import Derived.Test.YtbaeaiiohkfieaaAddrF
import Derived.Laws.Externs
namespace Go.Proofs.Ytbaeaiiohkfieaa.Hand
open Go.RowKit Go.Proofs.YtbaeaiiohkfieaaW.PrintWords Go.Proofs.YtbaeaiiohkfieaaW.PrintLast Go.Proofs.Ytbaeaiiohkfieaa.Bits Go.Proofs.Ytbaeaiiohkfieaa.Dig
set_option linter.unusedVariables false
set_option linter.unusedSimpArgs false
attribute [local go_sem] max2_mxi min2_mni max_2 min_2 min_3 setCell_setCell

theorem add64_i (x y c : Int) (hx : 0 ≤ x) (hy : 0 ≤ y) (hc0 : 0 ≤ c) (hc : c ≤ 1) (w : World) : (callFunc 57 #[.int .u64 x, .int .u64 y, .int .u64 c]).run Try.prog w =
    .ok (.value (.tuple #[.int .u64 ((x + y + c) % 18446744073709551616), .int .u64 ((x + y + c) / 18446744073709551616)])) w := by
  rw [run_callFunc_extern Try.func57 (by kernel_rfl) (by kernel_rfl) (by kernel_rfl) (e := add64Entry) (by kernel_rfl), run_add64 x y c hx hy hc0 hc]
  rfl
/-- What a sum with a carry comes to, given under two names. -/
theorem add64_as (x y c s k : Int) (hx : 0 ≤ x) (hy : 0 ≤ y) (hc0 : 0 ≤ c) (hc : c ≤ 1) (hs : (x + y + c) % 18446744073709551616 = s) (hk : (x + y + c) / 18446744073709551616 = k) (w : World) :
    (callFunc 57 #[.int .u64 x, .int .u64 y, .int .u64 c]).run Try.prog w = .ok (.value (.tuple #[.int .u64 s, .int .u64 k])) w := by rw [add64_i x y c hx hy hc0 hc, hs, hk]

/-- The address that is one more, and whether there is one. -/
noncomputable def nextA (hi lo : Int) (v6 : Bool) : Int × Int × Bool × Bool :=
  if v6 then
    if loA true (D hi lo) + 1 < 18446744073709551616 then (hiA true (D hi lo), loA true (D hi lo) + 1, true, true)
    else if hiA true (D hi lo) + 1 < 18446744073709551616 then (hiA true (D hi lo) + 1, 0, true, true)
    else (hiA true (D hi lo), loA true (D hi lo), true, false)
  else if hiA false (D hi lo) + 4294967296 < 18446744073709551616 then (hiA false (D hi lo) + 4294967296, 0, false, true)
  else (hiA false (D hi lo), loA false (D hi lo), false, false)
def nextE (x : Int × Int × Bool × Bool) : Ending := .returned (.tuple #[.agg #[.int .u64 x.1, .int .u64 x.2.1, .bool x.2.2.1], .bool x.2.2.2])

set_option maxHeartbeats 2000000 in
theorem next_c (hi lo : Int) (v6 : Bool) (hu : u64 hi) (lu : u64 lo) (w : World) :
    Calls Try.prog 38 #[.agg #[.int .u64 hi, .int .u64 lo, .bool v6]] w fun e w' => e = nextE (nextA hi lo v6) ∧ Below w.heap.size w w' := by
  have ⟨a0, a1⟩ := u_hiA v6 (D hi lo)
  have ⟨b0, b1⟩ := u_loA v6 (D hi lo)
  cases v6 with
  | false =>
    by_cases h : hiA false (D hi lo) + 4294967296 < 18446744073709551616
    · rw [show nextA hi lo false = (hiA false (D hi lo) + 4294967296, 0, false, true) by unfold nextA; simp [h]]
      unfold nextE
      have k1 := fun w => add64_as (hiA false (D hi lo)) 4294967296 0 (hiA false (D hi lo) + 4294967296) 0 a0 (by decide) (by decide) (by decide) (by omega) (by omega) w
      clear h
      go_enter Try.func38, Try.ntmps38
      go_wp2_with (first | (go_at_call 46; refine (read_c _ _ _ hu lu _).mono ?_; rintro e w1 ⟨rfl, hb⟩; obtain ⟨hc, hf⟩ := bcell hb; have hz : w.heap.size < w1.heap.size := (by have := hb.size; (try simp at this); omega); have hz' : w.heap.size + 1 < w1.heap.size := (by have := hb.size; (try simp at this); omega)) | (go_at_call 48; refine (of_c _ _ _ _).mono ?_; rintro e w3 ⟨rfl, hb3⟩; obtain ⟨hc3, hf3⟩ := bcell hb3; have hz5 : w.heap.size < w3.heap.size := (by have := hb3.size; (try simp at this); omega); have hz6 : w.heap.size + 1 < w3.heap.size := (by have := hb3.size; (try simp at this); omega)) | simp only [k1])
      have c0 : w3.cell? ⟨w.heap.size + 1, 0, none⟩ = some (.int .u64 0) := cell_on hb3 (cell_alloc (cell_on hb (by simp [go_sem])) _)
      have c1 : w3.cell? ⟨w.heap.size + 1, 1, none⟩ = some (.int .u64 0) := cell_on hb3 (cell_alloc (cell_on hb (by simp [go_sem])) _)
      have c2 : w3.cell? ⟨w.heap.size + 1, 2, none⟩ = some (.bool false) := cell_on hb3 (cell_alloc (cell_on hb (by simp [go_sem])) _)
      refine bodyPost_ret ?_ rfl ⟨rfl, ?_⟩
      · simp [results, Try.results38, go_sem, c0, c1, c2]
      · repeat (first | exact Below.refl _ _ | refine below_alloc ?_ _ | refine below_step ?_ hb3 | refine below_step ?_ hb | refine Below.setCell ?_ (by simp <;> omega) _)
    · rw [show nextA hi lo false = (hiA false (D hi lo), loA false (D hi lo), false, false) by unfold nextA; simp [h]]
      unfold nextE
      have k1 := fun w => add64_as (hiA false (D hi lo)) 4294967296 0 (hiA false (D hi lo) + 4294967296 - 18446744073709551616) 1 a0 (by decide) (by decide) (by decide) (by omega) (by omega) w
      clear h
      go_enter Try.func38, Try.ntmps38
      go_wp2_with (first | (go_at_call 46; refine (read_c _ _ _ hu lu _).mono ?_; rintro e w1 ⟨rfl, hb⟩; obtain ⟨hc, hf⟩ := bcell hb; have hz : w.heap.size < w1.heap.size := (by have := hb.size; (try simp at this); omega); have hz' : w.heap.size + 1 < w1.heap.size := (by have := hb.size; (try simp at this); omega)) | (go_at_call 48; refine (of_c _ _ _ _).mono ?_; rintro e w3 ⟨rfl, hb3⟩; obtain ⟨hc3, hf3⟩ := bcell hb3; have hz5 : w.heap.size < w3.heap.size := (by have := hb3.size; (try simp at this); omega); have hz6 : w.heap.size + 1 < w3.heap.size := (by have := hb3.size; (try simp at this); omega)) | simp only [k1])
      have c0 : w3.cell? ⟨w.heap.size + 1, 0, none⟩ = some (.int .u64 0) := cell_on hb3 (cell_alloc (cell_on hb (by simp [go_sem])) _)
      have c1 : w3.cell? ⟨w.heap.size + 1, 1, none⟩ = some (.int .u64 0) := cell_on hb3 (cell_alloc (cell_on hb (by simp [go_sem])) _)
      have c2 : w3.cell? ⟨w.heap.size + 1, 2, none⟩ = some (.bool false) := cell_on hb3 (cell_alloc (cell_on hb (by simp [go_sem])) _)
      refine bodyPost_ret ?_ rfl ⟨rfl, ?_⟩
      · simp [results, Try.results38, go_sem, c0, c1, c2]
      · repeat (first | exact Below.refl _ _ | refine below_alloc ?_ _ | refine below_step ?_ hb3 | refine below_step ?_ hb | refine Below.setCell ?_ (by simp <;> omega) _)
  | true =>
    by_cases h : loA true (D hi lo) + 1 < 18446744073709551616
    · rw [show nextA hi lo true = (hiA true (D hi lo), loA true (D hi lo) + 1, true, true) by unfold nextA; simp [h]]
      unfold nextE
      have k1 := fun w => add64_as (loA true (D hi lo)) 1 0 (loA true (D hi lo) + 1) 0 b0 (by decide) (by decide) (by decide) (by omega) (by omega) w
      have k2 := fun w => add64_as (hiA true (D hi lo)) 0 0 (hiA true (D hi lo)) 0 a0 (by decide) (by decide) (by decide) (by omega) (by omega) w
      clear h
      go_enter Try.func38, Try.ntmps38
      go_wp2_with (first | (go_at_call 46; refine (read_c _ _ _ hu lu _).mono ?_; rintro e w1 ⟨rfl, hb⟩; obtain ⟨hc, hf⟩ := bcell hb; have hz : w.heap.size < w1.heap.size := (by have := hb.size; (try simp at this); omega); have hz' : w.heap.size + 1 < w1.heap.size := (by have := hb.size; (try simp at this); omega)) | (go_at_call 48; refine (of_c _ _ _ _).mono ?_; rintro e w3 ⟨rfl, hb3⟩; obtain ⟨hc3, hf3⟩ := bcell hb3; have hz5 : w.heap.size < w3.heap.size := (by have := hb3.size; (try simp at this); omega); have hz6 : w.heap.size + 1 < w3.heap.size := (by have := hb3.size; (try simp at this); omega)) | simp only [k1] | simp only [k2])
      have c0 : w3.cell? ⟨w.heap.size + 1, 0, none⟩ = some (.int .u64 0) := cell_on hb3 (cell_alloc (cell_on hb (by simp [go_sem])) _)
      have c1 : w3.cell? ⟨w.heap.size + 1, 1, none⟩ = some (.int .u64 0) := cell_on hb3 (cell_alloc (cell_on hb (by simp [go_sem])) _)
      have c2 : w3.cell? ⟨w.heap.size + 1, 2, none⟩ = some (.bool false) := cell_on hb3 (cell_alloc (cell_on hb (by simp [go_sem])) _)
      refine bodyPost_ret ?_ rfl ⟨rfl, ?_⟩
      · simp [results, Try.results38, go_sem, c0, c1, c2]
      · repeat (first | exact Below.refl _ _ | refine below_alloc ?_ _ | refine below_step ?_ hb3 | refine below_step ?_ hb | refine Below.setCell ?_ (by simp <;> omega) _)
    · have e0 : loA true (D hi lo) + 1 - 18446744073709551616 = 0 := by omega
      by_cases h2 : hiA true (D hi lo) + 1 < 18446744073709551616
      · rw [show nextA hi lo true = (hiA true (D hi lo) + 1, 0, true, true) by unfold nextA; simp [h, h2]]
        unfold nextE
        have k1 := fun w => add64_as (loA true (D hi lo)) 1 0 0 1 b0 (by decide) (by decide) (by decide) (by omega) (by omega) w
        have k2 := fun w => add64_as (hiA true (D hi lo)) 0 1 (hiA true (D hi lo) + 1) 0 a0 (by decide) (by decide) (by decide) (by omega) (by omega) w
        clear h h2 e0
        go_enter Try.func38, Try.ntmps38
        go_wp2_with (first | (go_at_call 46; refine (read_c _ _ _ hu lu _).mono ?_; rintro e w1 ⟨rfl, hb⟩; obtain ⟨hc, hf⟩ := bcell hb; have hz : w.heap.size < w1.heap.size := (by have := hb.size; (try simp at this); omega); have hz' : w.heap.size + 1 < w1.heap.size := (by have := hb.size; (try simp at this); omega)) | (go_at_call 48; refine (of_c _ _ _ _).mono ?_; rintro e w3 ⟨rfl, hb3⟩; obtain ⟨hc3, hf3⟩ := bcell hb3; have hz5 : w.heap.size < w3.heap.size := (by have := hb3.size; (try simp at this); omega); have hz6 : w.heap.size + 1 < w3.heap.size := (by have := hb3.size; (try simp at this); omega)) | simp only [k1] | simp only [k2])
        have c0 : w3.cell? ⟨w.heap.size + 1, 0, none⟩ = some (.int .u64 0) := cell_on hb3 (cell_alloc (cell_on hb (by simp [go_sem])) _)
        have c1 : w3.cell? ⟨w.heap.size + 1, 1, none⟩ = some (.int .u64 0) := cell_on hb3 (cell_alloc (cell_on hb (by simp [go_sem])) _)
        have c2 : w3.cell? ⟨w.heap.size + 1, 2, none⟩ = some (.bool false) := cell_on hb3 (cell_alloc (cell_on hb (by simp [go_sem])) _)
        refine bodyPost_ret ?_ rfl ⟨rfl, ?_⟩
        · simp [results, Try.results38, go_sem, c0, c1, c2]
        · repeat (first | exact Below.refl _ _ | refine below_alloc ?_ _ | refine below_step ?_ hb3 | refine below_step ?_ hb | refine Below.setCell ?_ (by simp <;> omega) _)
      · rw [show nextA hi lo true = (hiA true (D hi lo), loA true (D hi lo), true, false) by unfold nextA; simp [h, h2]]
        unfold nextE
        have k1 := fun w => add64_as (loA true (D hi lo)) 1 0 0 1 b0 (by decide) (by decide) (by decide) (by omega) (by omega) w
        have k2 := fun w => add64_as (hiA true (D hi lo)) 0 1 (hiA true (D hi lo) + 1 - 18446744073709551616) 1 a0 (by decide) (by decide) (by decide) (by omega) (by omega) w
        clear h h2 e0
        go_enter Try.func38, Try.ntmps38
        go_wp2_with (first | (go_at_call 46; refine (read_c _ _ _ hu lu _).mono ?_; rintro e w1 ⟨rfl, hb⟩; obtain ⟨hc, hf⟩ := bcell hb; have hz : w.heap.size < w1.heap.size := (by have := hb.size; (try simp at this); omega); have hz' : w.heap.size + 1 < w1.heap.size := (by have := hb.size; (try simp at this); omega)) | (go_at_call 48; refine (of_c _ _ _ _).mono ?_; rintro e w3 ⟨rfl, hb3⟩; obtain ⟨hc3, hf3⟩ := bcell hb3; have hz5 : w.heap.size < w3.heap.size := (by have := hb3.size; (try simp at this); omega); have hz6 : w.heap.size + 1 < w3.heap.size := (by have := hb3.size; (try simp at this); omega)) | simp only [k1] | simp only [k2])
        have c0 : w3.cell? ⟨w.heap.size + 1, 0, none⟩ = some (.int .u64 0) := cell_on hb3 (cell_alloc (cell_on hb (by simp [go_sem])) _)
        have c1 : w3.cell? ⟨w.heap.size + 1, 1, none⟩ = some (.int .u64 0) := cell_on hb3 (cell_alloc (cell_on hb (by simp [go_sem])) _)
        have c2 : w3.cell? ⟨w.heap.size + 1, 2, none⟩ = some (.bool false) := cell_on hb3 (cell_alloc (cell_on hb (by simp [go_sem])) _)
        refine bodyPost_ret ?_ rfl ⟨rfl, ?_⟩
        · simp [results, Try.results38, go_sem, c0, c1, c2]
        · repeat (first | exact Below.refl _ _ | refine below_alloc ?_ _ | refine below_step ?_ hb3 | refine below_step ?_ hb | refine Below.setCell ?_ (by simp <;> omega) _)

noncomputable def addr_Next.f (a0 a1 : Int) (a2 : Bool) : Option (Int × Int × Bool × Bool) := gd (u64 a0 ∧ u64 a1) (nextA a0 a1 a2)
theorem addr_Next.calls (a0 a1 : Int) (a2 : Bool) (r1 r2 : Int) (r3 r4 : Bool) (w : World) (h : addr_Next.f a0 a1 a2 = some (r1, r2, r3, r4)) :
    Calls Try.prog 38 #[.agg #[.int .u64 a0, .int .u64 a1, .bool a2]] w fun e w' => e = .returned (.tuple #[.agg #[.int .u64 r1, .int .u64 r2, .bool r3], .bool r4]) ∧ Below w.heap.size w w' := by
  obtain ⟨⟨h0, h1⟩, h2⟩ := gd_some h
  have := next_c a0 a1 a2 h0 h1 w
  rw [← h2] at this
  exact this
end Go.Proofs.Ytbaeaiiohkfieaa.Hand
