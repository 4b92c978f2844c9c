-- Written by a program of this session (wip/tools/pp.py drives the kit's print with hand-proved contracts); Lean checks it.
import Derived.Test.YtbaeaiiohkfieaaReg
import Derived.Test.YtbaeaiiohkfieaaPHx0
namespace Go.Proofs.Ytbaeaiiohkfieaa.PH
open Go.RowKit Go.Proofs.Ytbaeaiiohkfieaa.Hand Go.Proofs.YtbaeaiiohkfieaaW.PrintWords Go.Proofs.YtbaeaiiohkfieaaW.PrintLast Go.Proofs.YtbaeaiiohkfieaaW.PrintMore
open Go.Proofs.Ytbaeaiiohkfieaa.Reg (lb)
attribute [local go_sem] max2_int min2_int max_two min_two max_three min_three max_four min_four   -- for this text's walks alone
set_option linter.unusedVariables false
set_option linter.unusedSimpArgs false

noncomputable section
/-! ### kedgelaw01_AddrOrder: function 9 -/
mutual
def kedgelaw01_AddrOrder.j0 : Nat → Int → Bool → Bool → Int → Int → Bool → Option (Bool)
  | 0, _, _, _, _, _, _ => none
  | k + 1, x3, x9, x57, x102000, x102001, x102002 => if x57 = true then (some false) else ((addr_Next.f x102000 x102001 x102002).bind fun bt115 => (if x9 = true then (if bt115.2.2.2 = true then ((addr_Compare.f x102000 x102001 x102002 bt115.1 bt115.2.1 bt115.2.2.1).bind fun t120 => (if t120 = (-1) then ((addr_Mask.f x102000 x102001 x102002 x3).bind fun bt121 => ((addr_Compare.f bt121.1 bt121.2.1 bt121.2.2 x102000 x102001 x102002).bind fun t124 => (if t124 ≤ 0 then ((addr_Fill.f x102000 x102001 x102002 x3).bind fun bt125 => ((addr_Compare.f bt125.1 bt125.2.1 bt125.2.2 x102000 x102001 x102002).bind fun t128 => (if t128 ≥ 0 then (kedgelaw01_AddrOrder.j1 k true) else (kedgelaw01_AddrOrder.j1 k false)))) else (kedgelaw01_AddrOrder.j1 k false)))) else (kedgelaw01_AddrOrder.j1 k false))) else ((addr_Mask.f x102000 x102001 x102002 x3).bind fun bt129 => ((addr_Compare.f bt129.1 bt129.2.1 bt129.2.2 x102000 x102001 x102002).bind fun t132 => (if t132 ≤ 0 then ((addr_Fill.f x102000 x102001 x102002 x3).bind fun bt133 => ((addr_Compare.f bt133.1 bt133.2.1 bt133.2.2 x102000 x102001 x102002).bind fun t136 => (if t136 ≥ 0 then ((addr_Fill.f x102000 x102001 x102002 0).bind fun bt137 => ((addr_Compare.f bt137.1 bt137.2.1 bt137.2.2 x102000 x102001 x102002).bind fun t140 => (kedgelaw01_AddrOrder.j1 k (t140 == 0)))) else (kedgelaw01_AddrOrder.j1 k false)))) else (kedgelaw01_AddrOrder.j1 k false))))) else (kedgelaw01_AddrOrder.j1 k false)))
def kedgelaw01_AddrOrder.j1 : Nat → Bool → Option (Bool)
  | 0, _ => none
  | k + 1, x8 => some x8
end
def kedgelaw01_AddrOrder.f (k : Nat) (a0_0 : Int) (a0_1 : Int) (a0_2 : Bool) (a1_0 : Int) (a1_1 : Int) (a1_2 : Bool) (a2_0 : Int) (a2_1 : Int) (a2_2 : Bool) (a3 : Int) : Option (Bool) := (kedgelaw01_awake.f).bind fun t104 => ((addr_Compare.f a0_0 a0_1 a0_2 a1_0 a1_1 a1_2).bind fun t105 => ((addr_Compare.f a1_0 a1_1 a1_2 a0_0 a0_1 a0_2).bind fun t106 => (if t105 = (wrap64 (-t106)) then (if t105 ≤ 0 then ((addr_Compare.f a1_0 a1_1 a1_2 a2_0 a2_1 a2_2).bind fun t107 => (if t107 ≤ 0 then ((addr_Compare.f a0_0 a0_1 a0_2 a2_0 a2_1 a2_2).bind fun t108 => (if t108 > 0 then (kedgelaw01_AddrOrder.j0 k a3 t104 true a0_0 a0_1 a0_2) else (if (a0_2 == a1_2) = true then ((addr_Common.f a0_0 a0_1 a0_2 a1_0 a1_1 a1_2).bind fun t109 => ((addr_Width.f a0_2).bind fun t110 => (kedgelaw01_AddrOrder.j0 k a3 t104 ((t105 == 0) != (t109 == t110)) a0_0 a0_1 a0_2))) else (kedgelaw01_AddrOrder.j0 k a3 t104 ((t105 == 0) != false) a0_0 a0_1 a0_2)))) else (if (a0_2 == a1_2) = true then ((addr_Common.f a0_0 a0_1 a0_2 a1_0 a1_1 a1_2).bind fun t111 => ((addr_Width.f a0_2).bind fun t112 => (kedgelaw01_AddrOrder.j0 k a3 t104 ((t105 == 0) != (t111 == t112)) a0_0 a0_1 a0_2))) else (kedgelaw01_AddrOrder.j0 k a3 t104 ((t105 == 0) != false) a0_0 a0_1 a0_2)))) else (if (a0_2 == a1_2) = true then ((addr_Common.f a0_0 a0_1 a0_2 a1_0 a1_1 a1_2).bind fun t113 => ((addr_Width.f a0_2).bind fun t114 => (kedgelaw01_AddrOrder.j0 k a3 t104 ((t105 == 0) != (t113 == t114)) a0_0 a0_1 a0_2))) else (kedgelaw01_AddrOrder.j0 k a3 t104 ((t105 == 0) != false) a0_0 a0_1 a0_2))) else (kedgelaw01_AddrOrder.j0 k a3 t104 true a0_0 a0_1 a0_2))))
theorem kedgelaw01_AddrOrder.j0_iff {k0 : Nat} {x3 : Int} {x9 : Bool} {x57 : Bool} {x102000 : Int} {x102001 : Int} {x102002 : Bool} {r : Bool} : kedgelaw01_AddrOrder.j0 k0 x3 x9 x57 x102000 x102001 x102002 = some r ↔ ∃ k, k0 = k + 1 ∧ (if x57 = true then (some false) else ((addr_Next.f x102000 x102001 x102002).bind fun bt115 => (if x9 = true then (if bt115.2.2.2 = true then ((addr_Compare.f x102000 x102001 x102002 bt115.1 bt115.2.1 bt115.2.2.1).bind fun t120 => (if t120 = (-1) then ((addr_Mask.f x102000 x102001 x102002 x3).bind fun bt121 => ((addr_Compare.f bt121.1 bt121.2.1 bt121.2.2 x102000 x102001 x102002).bind fun t124 => (if t124 ≤ 0 then ((addr_Fill.f x102000 x102001 x102002 x3).bind fun bt125 => ((addr_Compare.f bt125.1 bt125.2.1 bt125.2.2 x102000 x102001 x102002).bind fun t128 => (if t128 ≥ 0 then (kedgelaw01_AddrOrder.j1 k true) else (kedgelaw01_AddrOrder.j1 k false)))) else (kedgelaw01_AddrOrder.j1 k false)))) else (kedgelaw01_AddrOrder.j1 k false))) else ((addr_Mask.f x102000 x102001 x102002 x3).bind fun bt129 => ((addr_Compare.f bt129.1 bt129.2.1 bt129.2.2 x102000 x102001 x102002).bind fun t132 => (if t132 ≤ 0 then ((addr_Fill.f x102000 x102001 x102002 x3).bind fun bt133 => ((addr_Compare.f bt133.1 bt133.2.1 bt133.2.2 x102000 x102001 x102002).bind fun t136 => (if t136 ≥ 0 then ((addr_Fill.f x102000 x102001 x102002 0).bind fun bt137 => ((addr_Compare.f bt137.1 bt137.2.1 bt137.2.2 x102000 x102001 x102002).bind fun t140 => (kedgelaw01_AddrOrder.j1 k (t140 == 0)))) else (kedgelaw01_AddrOrder.j1 k false)))) else (kedgelaw01_AddrOrder.j1 k false))))) else (kedgelaw01_AddrOrder.j1 k false)))) = some r := by
  cases k0 with
  | zero => simp [kedgelaw01_AddrOrder.j0]
  | succ k => exact ⟨fun h => ⟨k, rfl, h⟩, fun ⟨k', e, h⟩ => by cases e; exact h⟩
theorem kedgelaw01_AddrOrder.j1_iff {k0 : Nat} {x8 : Bool} {r : Bool} : kedgelaw01_AddrOrder.j1 k0 x8 = some r ↔ ∃ k, k0 = k + 1 ∧ (some x8) = some r := by
  cases k0 with
  | zero => simp [kedgelaw01_AddrOrder.j1]
  | succ k => exact ⟨fun h => ⟨k, rfl, h⟩, fun ⟨k', e, h⟩ => by cases e; exact h⟩
theorem kedgelaw01_AddrOrder.mono_l : ∀ k, (∀ y0 y1 y2 y3 y4 y5, LeO (kedgelaw01_AddrOrder.j0 k y0 y1 y2 y3 y4 y5) (kedgelaw01_AddrOrder.j0 (k + 1) y0 y1 y2 y3 y4 y5)) ∧ (∀ y0, LeO (kedgelaw01_AddrOrder.j1 k y0) (kedgelaw01_AddrOrder.j1 (k + 1) y0))
  | 0 => ⟨fun _ _ _ _ _ _ r h => by simp [kedgelaw01_AddrOrder.j0] at h, fun _ r h => by simp [kedgelaw01_AddrOrder.j1] at h⟩
  | k + 1 => by
    obtain ⟨ih0, ih1⟩ := kedgelaw01_AddrOrder.mono_l k
    refine ⟨?_, ?_⟩
    · intro y0 y1 y2 y3 y4 y5
      unfold kedgelaw01_AddrOrder.j0
      repeat' first
      | (with_reducible exact ih0 _ _ _ _ _ _)
      | (with_reducible exact ih1 _)
      | (with_reducible exact LeO.refl _)
      | (with_reducible exact LeO.none _)
      | (with_reducible refine LeO.ite ?_ ?_)
      | (with_reducible refine LeO.bind ?_ (fun _ => ?_))
      | exact ih0 _ _ _ _ _ _
      | exact ih1 _
      | exact LeO.none _
      | refine LeO.ite ?_ ?_
      | refine LeO.bind ?_ (fun _ => ?_)
    · intro y0
      unfold kedgelaw01_AddrOrder.j1
      repeat' first
      | (with_reducible exact ih0 _ _ _ _ _ _)
      | (with_reducible exact ih1 _)
      | (with_reducible exact LeO.refl _)
      | (with_reducible exact LeO.none _)
      | (with_reducible refine LeO.ite ?_ ?_)
      | (with_reducible refine LeO.bind ?_ (fun _ => ?_))
      | exact ih0 _ _ _ _ _ _
      | exact ih1 _
      | exact LeO.none _
      | refine LeO.ite ?_ ?_
      | refine LeO.bind ?_ (fun _ => ?_)
theorem kedgelaw01_AddrOrder.mono : ∀ a0 a1 a2 a3 a4 a5 a6 a7 a8 a9 k, LeO (kedgelaw01_AddrOrder.f k a0 a1 a2 a3 a4 a5 a6 a7 a8 a9) (kedgelaw01_AddrOrder.f (k + 1) a0 a1 a2 a3 a4 a5 a6 a7 a8 a9) := by
  intro a0 a1 a2 a3 a4 a5 a6 a7 a8 a9 k
  obtain ⟨ih0, ih1⟩ := kedgelaw01_AddrOrder.mono_l k
  unfold kedgelaw01_AddrOrder.f
  repeat' first
      | (with_reducible exact ih0 _ _ _ _ _ _)
      | (with_reducible exact ih1 _)
      | (with_reducible exact LeO.refl _)
      | (with_reducible exact LeO.none _)
      | (with_reducible refine LeO.ite ?_ ?_)
      | (with_reducible refine LeO.bind ?_ (fun _ => ?_))
      | exact ih0 _ _ _ _ _ _
      | exact ih1 _
      | exact LeO.none _
      | refine LeO.ite ?_ ?_
      | refine LeO.bind ?_ (fun _ => ?_)
def kedgelaw01_AddrOrder.T3 : Bool × List (List Nat × List Nat) := (true, [([], []), ([], []), ([], []), ([1, 2], [1, 2]), ([3], [3]), ([0, 4], [0, 4]), ([5, 3], [5]), ([6], [6]), ([7, 6], [6, 7]), ([8, 6, 6], [6, 8]), ([9], [9]), ([9], [9]), ([10, 11, 9, 9], [9, 10, 11]), ([12, 9], [9, 12]), ([9, 13, 6], [6, 9, 13]), ([14, 12, 6], [6, 14]), ([15], [15]), ([15], [15]), ([16, 17, 15, 15], [15, 16, 17]), ([18, 15], [15, 18]), ([15, 19, 6], [6, 15, 19]), ([6, 20], [6, 20]), ([21, 18], [21]), ([22], [22]), ([23, 22], [22, 23]), ([22], [22]), ([25, 22], [22, 25]), ([22], [22]), ([27, 22], [22, 27]), ([26, 28, 22], [22, 26, 28]), ([29, 22, 22], [22, 29]), ([30], [30]), ([30], [30]), ([31, 32, 30, 30], [30, 31, 32]), ([30], [30]), ([34, 30], [30, 34]), ([35, 33, 30], [30, 35]), ([33, 36, 30], [30, 33, 36]), ([30, 37, 22], [22, 30, 37]), ([24, 38, 22], [22, 24, 38]), ([22, 39], [22, 39])])
def kedgelaw01_AddrOrder.B3 : List Nat := [0, 0, 0, 6, 14, 31, 63, 127, 255, 511, 1023, 1023, 4095, 8191, 16383, 32767, 65535, 65535, 262143, 524287, 1048575, 2097151, 4194303, 8388607, 16777215, 8388607, 41943039, 8388607, 142606335, 511705087, 1048575999, 2122317823, 2122317823, 8564768767, 2122317823, 19302187007, 68694310911, 137413787647, 274852741119, 549755813887, 1099511627775]
theorem kedgelaw01_AddrOrder.tab3 : rtab .any (opsOf Try.f9 3) = kedgelaw01_AddrOrder.T3 := by kernel_rfl
theorem kedgelaw01_AddrOrder.bits3 : waitsOk kedgelaw01_AddrOrder.T3.2 kedgelaw01_AddrOrder.B3 = true := by kernel_rfl
def kedgelaw01_AddrOrder.T6 : Bool × List (List Nat × List Nat) := (true, [([], []), ([0], [0]), ([1], [1]), ([2, 1], [1, 2]), ([3, 1, 1], [1, 3]), ([4], [4]), ([4], [4]), ([5, 6, 4, 4], [4, 5, 6]), ([7, 4], [4, 7]), ([4, 8, 1], [1, 4, 8]), ([1, 9], [1, 9]), ([10, 7], [10]), ([11], [11]), ([11], [11]), ([12, 13, 11, 11], [11, 12, 13]), ([11], [11]), ([14, 15, 14, 11], [11, 14, 15]), ([16, 11], [11, 16]), ([11, 17], [11, 17]), ([18, 16], [18]), ([19], [19]), ([19], [19]), ([20, 21, 19, 19], [19, 20, 21]), ([19], [19]), ([22, 23, 22, 19], [19, 22, 23]), ([24, 19], [19, 24]), ([19, 25], [19, 25]), ([26, 24], [26]), ([27], [27]), ([28, 27, 27], [27, 28]), ([29], [29]), ([30, 29, 29], [29, 30]), ([29], [29]), ([31, 32, 31, 29], [29, 31, 32]), ([33, 29], [29, 33]), ([29, 34, 27], [27, 29, 34]), ([27, 35], [27, 35]), ([36, 33, 0, 1, 2, 3, 4, 5, 6, 7, 8, 9, 10, 11, 12, 13, 14, 15, 16, 17, 18, 19, 20, 21, 22, 23, 24, 25, 26, 27, 28, 29, 30, 31, 32, 33, 34, 35, 36], [36])])
def kedgelaw01_AddrOrder.B6 : List Nat := [0, 1, 3, 7, 15, 31, 31, 127, 255, 511, 1023, 2047, 4095, 4095, 16383, 4095, 65535, 131071, 262143, 524287, 1048575, 1048575, 4194303, 1048575, 16777215, 33554431, 67108863, 134217727, 268435455, 536870911, 1073741823, 2147483647, 1073741823, 8589934591, 17179869183, 34359738367, 68719476735, 137438953471]
theorem kedgelaw01_AddrOrder.tab6 : rtab .any (opsOf Try.f9 6) = kedgelaw01_AddrOrder.T6 := by kernel_rfl
theorem kedgelaw01_AddrOrder.bits6 : waitsOk kedgelaw01_AddrOrder.T6.2 kedgelaw01_AddrOrder.B6 = true := by kernel_rfl
set_option maxHeartbeats 8000000 in
set_option maxRecDepth 100000 in
theorem kedgelaw01_AddrOrder.calls (k : Nat) (a0_0 : Int) (a0_1 : Int) (a0_2 : Bool) (a1_0 : Int) (a1_1 : Int) (a1_2 : Bool) (a2_0 : Int) (a2_1 : Int) (a2_2 : Bool) (a3 : Int) (r : Bool) (hrt : r = true) (w : World) (h : kedgelaw01_AddrOrder.f k a0_0 a0_1 a0_2 a1_0 a1_1 a1_2 a2_0 a2_1 a2_2 a3 = some r) :
    Calls Try.prog 9 #[.agg #[.int .u64 a0_0, .int .u64 a0_1, .bool a0_2], .agg #[.int .u64 a1_0, .int .u64 a1_1, .bool a1_2], .agg #[.int .u64 a2_0, .int .u64 a2_1, .bool a2_2], .int .i64 a3] w fun e w' => e = .returned (.bool r) ∧ Below w.heap.size w w' := by
  have hu24 := Try.underlying24
  have HB := Aside0.mk (Below.refl w.heap.size w)
  have H : ((kedgelaw01_awake.f).bind fun t104 => ((addr_Compare.f a0_0 a0_1 a0_2 a1_0 a1_1 a1_2).bind fun t105 => ((addr_Compare.f a1_0 a1_1 a1_2 a0_0 a0_1 a0_2).bind fun t106 => (if t105 = (wrap64 (-t106)) then (if t105 ≤ 0 then ((addr_Compare.f a1_0 a1_1 a1_2 a2_0 a2_1 a2_2).bind fun t107 => (if t107 ≤ 0 then ((addr_Compare.f a0_0 a0_1 a0_2 a2_0 a2_1 a2_2).bind fun t108 => (if t108 > 0 then (kedgelaw01_AddrOrder.j0 k a3 t104 true a0_0 a0_1 a0_2) else (if (a0_2 == a1_2) = true then ((addr_Common.f a0_0 a0_1 a0_2 a1_0 a1_1 a1_2).bind fun t109 => ((addr_Width.f a0_2).bind fun t110 => (kedgelaw01_AddrOrder.j0 k a3 t104 ((t105 == 0) != (t109 == t110)) a0_0 a0_1 a0_2))) else (kedgelaw01_AddrOrder.j0 k a3 t104 ((t105 == 0) != false) a0_0 a0_1 a0_2)))) else (if (a0_2 == a1_2) = true then ((addr_Common.f a0_0 a0_1 a0_2 a1_0 a1_1 a1_2).bind fun t111 => ((addr_Width.f a0_2).bind fun t112 => (kedgelaw01_AddrOrder.j0 k a3 t104 ((t105 == 0) != (t111 == t112)) a0_0 a0_1 a0_2))) else (kedgelaw01_AddrOrder.j0 k a3 t104 ((t105 == 0) != false) a0_0 a0_1 a0_2)))) else (if (a0_2 == a1_2) = true then ((addr_Common.f a0_0 a0_1 a0_2 a1_0 a1_1 a1_2).bind fun t113 => ((addr_Width.f a0_2).bind fun t114 => (kedgelaw01_AddrOrder.j0 k a3 t104 ((t105 == 0) != (t113 == t114)) a0_0 a0_1 a0_2))) else (kedgelaw01_AddrOrder.j0 k a3 t104 ((t105 == 0) != false) a0_0 a0_1 a0_2))) else (kedgelaw01_AddrOrder.j0 k a3 t104 true a0_0 a0_1 a0_2))))) = some r := h
  clear h
  replace H := Option.bind_eq_some_iff.mp H
  obtain ⟨t104, A50, H⟩ := H
  replace H : ((addr_Compare.f a0_0 a0_1 a0_2 a1_0 a1_1 a1_2).bind fun t105 => ((addr_Compare.f a1_0 a1_1 a1_2 a0_0 a0_1 a0_2).bind fun t106 => (if t105 = (wrap64 (-t106)) then (if t105 ≤ 0 then ((addr_Compare.f a1_0 a1_1 a1_2 a2_0 a2_1 a2_2).bind fun t107 => (if t107 ≤ 0 then ((addr_Compare.f a0_0 a0_1 a0_2 a2_0 a2_1 a2_2).bind fun t108 => (if t108 > 0 then (kedgelaw01_AddrOrder.j0 k a3 t104 true a0_0 a0_1 a0_2) else (if (a0_2 == a1_2) = true then ((addr_Common.f a0_0 a0_1 a0_2 a1_0 a1_1 a1_2).bind fun t109 => ((addr_Width.f a0_2).bind fun t110 => (kedgelaw01_AddrOrder.j0 k a3 t104 ((t105 == 0) != (t109 == t110)) a0_0 a0_1 a0_2))) else (kedgelaw01_AddrOrder.j0 k a3 t104 ((t105 == 0) != false) a0_0 a0_1 a0_2)))) else (if (a0_2 == a1_2) = true then ((addr_Common.f a0_0 a0_1 a0_2 a1_0 a1_1 a1_2).bind fun t111 => ((addr_Width.f a0_2).bind fun t112 => (kedgelaw01_AddrOrder.j0 k a3 t104 ((t105 == 0) != (t111 == t112)) a0_0 a0_1 a0_2))) else (kedgelaw01_AddrOrder.j0 k a3 t104 ((t105 == 0) != false) a0_0 a0_1 a0_2)))) else (if (a0_2 == a1_2) = true then ((addr_Common.f a0_0 a0_1 a0_2 a1_0 a1_1 a1_2).bind fun t113 => ((addr_Width.f a0_2).bind fun t114 => (kedgelaw01_AddrOrder.j0 k a3 t104 ((t105 == 0) != (t113 == t114)) a0_0 a0_1 a0_2))) else (kedgelaw01_AddrOrder.j0 k a3 t104 ((t105 == 0) != false) a0_0 a0_1 a0_2))) else (kedgelaw01_AddrOrder.j0 k a3 t104 true a0_0 a0_1 a0_2)))) = some r := H
  have A5 := Aside0.mk A50
  clear A50
  replace H := Option.bind_eq_some_iff.mp H
  obtain ⟨t105, A60, H⟩ := H
  replace H : ((addr_Compare.f a1_0 a1_1 a1_2 a0_0 a0_1 a0_2).bind fun t106 => (if t105 = (wrap64 (-t106)) then (if t105 ≤ 0 then ((addr_Compare.f a1_0 a1_1 a1_2 a2_0 a2_1 a2_2).bind fun t107 => (if t107 ≤ 0 then ((addr_Compare.f a0_0 a0_1 a0_2 a2_0 a2_1 a2_2).bind fun t108 => (if t108 > 0 then (kedgelaw01_AddrOrder.j0 k a3 t104 true a0_0 a0_1 a0_2) else (if (a0_2 == a1_2) = true then ((addr_Common.f a0_0 a0_1 a0_2 a1_0 a1_1 a1_2).bind fun t109 => ((addr_Width.f a0_2).bind fun t110 => (kedgelaw01_AddrOrder.j0 k a3 t104 ((t105 == 0) != (t109 == t110)) a0_0 a0_1 a0_2))) else (kedgelaw01_AddrOrder.j0 k a3 t104 ((t105 == 0) != false) a0_0 a0_1 a0_2)))) else (if (a0_2 == a1_2) = true then ((addr_Common.f a0_0 a0_1 a0_2 a1_0 a1_1 a1_2).bind fun t111 => ((addr_Width.f a0_2).bind fun t112 => (kedgelaw01_AddrOrder.j0 k a3 t104 ((t105 == 0) != (t111 == t112)) a0_0 a0_1 a0_2))) else (kedgelaw01_AddrOrder.j0 k a3 t104 ((t105 == 0) != false) a0_0 a0_1 a0_2)))) else (if (a0_2 == a1_2) = true then ((addr_Common.f a0_0 a0_1 a0_2 a1_0 a1_1 a1_2).bind fun t113 => ((addr_Width.f a0_2).bind fun t114 => (kedgelaw01_AddrOrder.j0 k a3 t104 ((t105 == 0) != (t113 == t114)) a0_0 a0_1 a0_2))) else (kedgelaw01_AddrOrder.j0 k a3 t104 ((t105 == 0) != false) a0_0 a0_1 a0_2))) else (kedgelaw01_AddrOrder.j0 k a3 t104 true a0_0 a0_1 a0_2))) = some r := H
  have A6 := Aside0.mk A60
  clear A60
  have HC7 := Aside0.mk H
  clear H
  go_enter Try.func9, Try.ntmps9
  go_upto_region 3 with (first | ((with_reducible refine gate_dst (N := 4) rfl ?_); refine box_event ?hg (N := 4) ?hd (cs := #[.int .u64 a0_0, .int .u64 a0_1, .bool a0_2]) (t := 24) ?hr ?_; (case hd => rfl); (case hg => rfl); (case hr => first | (go_simp; done) | (go_simp; rfl)); intro gb101 hg w8 hbox hb; have n0_ := Aside0.mk (below_step (by repeat (first | (with_reducible first | exact HB.out | apply below_alloc | apply pw_below_drewN | apply below_drew1) | exact HB.out)) hb); have n1_ := Aside0.mk (hbox); have n2_ := Aside0.mk ((by rw [hg]; exact (below_size (by repeat (first | (with_reducible first | exact HB.out | apply below_alloc | apply pw_below_drewN | apply below_drew1) | exact HB.out))) : w.heap.size ≤ gb101)); have n3_ := Aside0.mk ((by rw [hg]; exact (below_size (by repeat (first | (with_reducible first | exact HB.out | apply below_alloc | apply pw_below_drewN | apply below_drew1) | exact HB.out))) : w.heap.size ≤ gb101)); clear HB; have HB := n0_; have BK101 := n1_; have GW101 := n2_; have GE101 := n3_; clear n0_ n1_ n2_ n3_; clear hb hbox hg) | ((with_reducible refine gate_dst (N := 5) rfl ?_); refine box_event ?hg (N := 5) ?hd (cs := #[.int .u64 a1_0, .int .u64 a1_1, .bool a1_2]) (t := 24) ?hr ?_; (case hd => rfl); (case hg => rfl); (case hr => first | (go_simp; done) | (go_simp; rfl)); intro gb102 hg w9 hbox hb; have n0_ := Aside0.mk (blk_below (g := gb101) (o := .cells #[.int .u64 a0_0, .int .u64 a0_1, .bool a0_2] 24 (0, 0)) (by (with_reducible repeat (first | refine blk_drewN ?_ _ | refine blk_drew ?_ | refine blk_alloc ?_ _)); exact BK101.out) hb); have n1_ := Aside0.mk (below_step (by repeat (first | (with_reducible first | exact HB.out | apply below_alloc | apply pw_below_drewN | apply below_drew1 | refine below_set ?_ GE101.out) | exact HB.out)) hb); have n2_ := Aside0.mk (hbox); have n3_ := Aside0.mk ((by rw [hg]; exact (below_size (by repeat (first | (with_reducible first | exact HB.out | apply below_alloc | apply pw_below_drewN | apply below_drew1 | refine below_set ?_ GE101.out) | exact HB.out))) : w.heap.size ≤ gb102)); have n4_ := Aside0.mk ((by rw [hg]; exact (below_size (by repeat (first | (with_reducible first | exact HB.out | apply below_alloc | apply pw_below_drewN | apply below_drew1 | refine below_set ?_ GE101.out) | exact HB.out))) : w.heap.size ≤ gb102)); have n5_ := Aside0.mk ((by rw [hg]; exact Nat.ne_of_lt (blk_lt (g := gb101) (o := .cells #[.int .u64 a0_0, .int .u64 a0_1, .bool a0_2] 24 (0, 0)) (by (with_reducible repeat (first | refine blk_drewN ?_ _ | refine blk_drew ?_ | refine blk_alloc ?_ _)); exact BK101.out)) : gb101 ≠ gb102)); have n6_ := Aside0.mk ((by rw [hg]; exact Nat.ne_of_gt (blk_lt (g := gb101) (o := .cells #[.int .u64 a0_0, .int .u64 a0_1, .bool a0_2] 24 (0, 0)) (by (with_reducible repeat (first | refine blk_drewN ?_ _ | refine blk_drew ?_ | refine blk_alloc ?_ _)); exact BK101.out)) : gb102 ≠ gb101)); clear BK101; clear HB; have BK101 := n0_; have HB := n1_; have BK102 := n2_; have GW102 := n3_; have GE102 := n4_; have NB101_102 := n5_; have NB102_101 := n6_; clear n0_ n1_ n2_ n3_ n4_ n5_ n6_; clear hb hbox hg) | ((with_reducible refine gate_dst (N := 6) rfl ?_); refine box_event ?hg (N := 6) ?hd (cs := #[.int .u64 a2_0, .int .u64 a2_1, .bool a2_2]) (t := 24) ?hr ?_; (case hd => rfl); (case hg => rfl); (case hr => first | (go_simp; done) | (go_simp; rfl)); intro gb103 hg w10 hbox hb; have n0_ := Aside0.mk (blk_below (g := gb101) (o := .cells #[.int .u64 a0_0, .int .u64 a0_1, .bool a0_2] 24 (0, 0)) (by (with_reducible repeat (first | refine blk_drewN ?_ _ | refine blk_drew ?_ | refine blk_alloc ?_ _)); exact BK101.out) hb); have n1_ := Aside0.mk (blk_below (g := gb102) (o := .cells #[.int .u64 a1_0, .int .u64 a1_1, .bool a1_2] 24 (0, 0)) (by (with_reducible repeat (first | refine blk_drewN ?_ _ | refine blk_drew ?_ | refine blk_alloc ?_ _)); exact BK102.out) hb); have n2_ := Aside0.mk (below_step (by repeat (first | (with_reducible first | exact HB.out | apply below_alloc | apply pw_below_drewN | apply below_drew1 | refine below_set ?_ GE101.out | refine below_set ?_ GE102.out) | exact HB.out)) hb); have n3_ := Aside0.mk (hbox); have n4_ := Aside0.mk ((by rw [hg]; exact (below_size (by repeat (first | (with_reducible first | exact HB.out | apply below_alloc | apply pw_below_drewN | apply below_drew1 | refine below_set ?_ GE101.out | refine below_set ?_ GE102.out) | exact HB.out))) : w.heap.size ≤ gb103)); have n5_ := Aside0.mk ((by rw [hg]; exact (below_size (by repeat (first | (with_reducible first | exact HB.out | apply below_alloc | apply pw_below_drewN | apply below_drew1 | refine below_set ?_ GE101.out | refine below_set ?_ GE102.out) | exact HB.out))) : w.heap.size ≤ gb103)); have n6_ := Aside0.mk ((by rw [hg]; exact Nat.ne_of_lt (blk_lt (g := gb101) (o := .cells #[.int .u64 a0_0, .int .u64 a0_1, .bool a0_2] 24 (0, 0)) (by (with_reducible repeat (first | refine blk_drewN ?_ _ | refine blk_drew ?_ | refine blk_alloc ?_ _)); exact BK101.out)) : gb101 ≠ gb103)); have n7_ := Aside0.mk ((by rw [hg]; exact Nat.ne_of_gt (blk_lt (g := gb101) (o := .cells #[.int .u64 a0_0, .int .u64 a0_1, .bool a0_2] 24 (0, 0)) (by (with_reducible repeat (first | refine blk_drewN ?_ _ | refine blk_drew ?_ | refine blk_alloc ?_ _)); exact BK101.out)) : gb103 ≠ gb101)); have n8_ := Aside0.mk ((by rw [hg]; exact Nat.ne_of_lt (blk_lt (g := gb102) (o := .cells #[.int .u64 a1_0, .int .u64 a1_1, .bool a1_2] 24 (0, 0)) (by (with_reducible repeat (first | refine blk_drewN ?_ _ | refine blk_drew ?_ | refine blk_alloc ?_ _)); exact BK102.out)) : gb102 ≠ gb103)); have n9_ := Aside0.mk ((by rw [hg]; exact Nat.ne_of_gt (blk_lt (g := gb102) (o := .cells #[.int .u64 a1_0, .int .u64 a1_1, .bool a1_2] 24 (0, 0)) (by (with_reducible repeat (first | refine blk_drewN ?_ _ | refine blk_drew ?_ | refine blk_alloc ?_ _)); exact BK102.out)) : gb103 ≠ gb102)); clear BK101; clear BK102; clear HB; have BK101 := n0_; have BK102 := n1_; have HB := n2_; have BK103 := n3_; have GW103 := n4_; have GE103 := n5_; have NB101_103 := n6_; have NB103_101 := n7_; have NB102_103 := n8_; have NB103_102 := n9_; clear n0_ n1_ n2_ n3_ n4_ n5_ n6_ n7_ n8_ n9_; clear hb hbox hg) | ((with_reducible refine gate_callee (f := 14) rfl ?_); refine goesL_ (some 13) rfl rfl Try.func14 (by kernel_rfl) rfl #[] rfl (by (try simp only [List.map_toArray, List.map_cons, List.map_nil]); first | done | rfl | (simp only [List.length_drop, List.length_take]; rfl)) ?_; (with_reducible refine (kedgelaw01_awake.calls  t104 _ A5.out).mono ?_); rintro e w11 ⟨rfl, hb⟩; refine ⟨_, rfl, ?_⟩; have n0_ := Aside0.mk (blk_below (g := gb101) (o := .cells #[.int .u64 a0_0, .int .u64 a0_1, .bool a0_2] 24 (0, 0)) (by (with_reducible repeat (first | refine blk_drewN ?_ _ | refine blk_drew ?_ | refine blk_alloc ?_ _)); exact BK101.out) hb); have n1_ := Aside0.mk (blk_below (g := gb102) (o := .cells #[.int .u64 a1_0, .int .u64 a1_1, .bool a1_2] 24 (0, 0)) (by (with_reducible repeat (first | refine blk_drewN ?_ _ | refine blk_drew ?_ | refine blk_alloc ?_ _)); exact BK102.out) hb); have n2_ := Aside0.mk (blk_below (g := gb103) (o := .cells #[.int .u64 a2_0, .int .u64 a2_1, .bool a2_2] 24 (0, 0)) (by (with_reducible repeat (first | refine blk_drewN ?_ _ | refine blk_drew ?_ | refine blk_alloc ?_ _)); exact BK103.out) hb); have n3_ := Aside0.mk (below_step (by repeat (first | (with_reducible first | exact HB.out | apply below_alloc | apply pw_below_drewN | apply below_drew1 | refine below_set ?_ GE101.out | refine below_set ?_ GE102.out | refine below_set ?_ GE103.out) | exact HB.out)) hb); clear BK101; clear BK102; clear BK103; clear HB; have BK101 := n0_; have BK102 := n1_; have BK103 := n2_; have HB := n3_; clear n0_ n1_ n2_ n3_; (try clear hb); (try clear hb2); (try clear hk); (try clear hi); have hnb12 := NB101_102.out; have hnc12 := NB102_101.out; have hnb13 := NB101_103.out; have hnc13 := NB103_101.out; have hcz14_0 : w11.cell? ⟨gb101, 0, none⟩ = some (.int .u64 a0_0) := (blk_cell BK101.out 0).trans rfl; have hcz14_1 : w11.cell? ⟨gb101, 1, none⟩ = some (.int .u64 a0_1) := (blk_cell BK101.out 1).trans rfl; have hcz14_2 : w11.cell? ⟨gb101, 2, none⟩ = some (.bool a0_2) := (blk_cell BK101.out 2).trans rfl; have hfz14_0 := blk_frozen BK101.out 0; have hfz14_1 := blk_frozen BK101.out 1; have hfz14_2 := blk_frozen BK101.out 2; have hnb15 := NB102_103.out; have hnc15 := NB103_102.out; have hcz16_0 : w11.cell? ⟨gb102, 0, none⟩ = some (.int .u64 a1_0) := (blk_cell BK102.out 0).trans rfl; have hcz16_1 : w11.cell? ⟨gb102, 1, none⟩ = some (.int .u64 a1_1) := (blk_cell BK102.out 1).trans rfl; have hcz16_2 : w11.cell? ⟨gb102, 2, none⟩ = some (.bool a1_2) := (blk_cell BK102.out 2).trans rfl; have hfz16_0 := blk_frozen BK102.out 0; have hfz16_1 := blk_frozen BK102.out 1; have hfz16_2 := blk_frozen BK102.out 2) | ((with_reducible refine gate_callee (f := 29) rfl ?_); refine goesL_ (some 16) rfl rfl Try.func29 (by kernel_rfl) rfl #[.agg #[.int .u64 a0_0, .int .u64 a0_1, .bool a0_2], .agg #[.int .u64 a1_0, .int .u64 a1_1, .bool a1_2]] rfl (by (try simp only [List.map_toArray, List.map_cons, List.map_nil]); first | done | rfl | (simp only [List.length_drop, List.length_take]; rfl)) ?_; (with_reducible refine (addr_Compare.calls a0_0 a0_1 a0_2 a1_0 a1_1 a1_2 t105 _ A6.out).mono ?_); rintro e w17 ⟨rfl, hb⟩; refine ⟨_, rfl, ?_⟩; have n0_ := Aside0.mk (blk_below (g := gb101) (o := .cells #[.int .u64 a0_0, .int .u64 a0_1, .bool a0_2] 24 (0, 0)) (by (with_reducible repeat (first | refine blk_drewN ?_ _ | refine blk_drew ?_ | refine blk_alloc ?_ _)); exact BK101.out) hb); have n1_ := Aside0.mk (blk_below (g := gb102) (o := .cells #[.int .u64 a1_0, .int .u64 a1_1, .bool a1_2] 24 (0, 0)) (by (with_reducible repeat (first | refine blk_drewN ?_ _ | refine blk_drew ?_ | refine blk_alloc ?_ _)); exact BK102.out) hb); have n2_ := Aside0.mk (blk_below (g := gb103) (o := .cells #[.int .u64 a2_0, .int .u64 a2_1, .bool a2_2] 24 (0, 0)) (by (with_reducible repeat (first | refine blk_drewN ?_ _ | refine blk_drew ?_ | refine blk_alloc ?_ _)); exact BK103.out) hb); have n3_ := Aside0.mk (below_step (by repeat (first | (with_reducible first | exact HB.out | apply below_alloc | apply pw_below_drewN | apply below_drew1 | refine below_set ?_ GE101.out | refine below_set ?_ GE102.out | refine below_set ?_ GE103.out) | exact HB.out)) hb); clear BK101; clear BK102; clear BK103; clear HB; have BK101 := n0_; have BK102 := n1_; have BK103 := n2_; have HB := n3_; clear n0_ n1_ n2_ n3_; (try clear hb); (try clear hb2); (try clear hk); (try clear hi)))
  (try simp only [Act.put, List.setIfInBounds_toArray, List.set_cons_zero, List.set_cons_succ])
  go_cut [57] (fun v57 wc => ∃ (kq : Nat) (x57_6 : Bool), v57 = .bool x57_6 ∧ Aside0 (kedgelaw01_AddrOrder.j0 kq a3 t104 x57_6 a0_0 a0_1 a0_2 = some r) ∧ Aside0 (kq ≤ k) ∧ Aside0 (wc.heap[gb101]? = some (.cells #[.int .u64 a0_0, .int .u64 a0_1, .bool a0_2] 24 (0, 0))) ∧ Aside0 (wc.heap[gb102]? = some (.cells #[.int .u64 a1_0, .int .u64 a1_1, .bool a1_2] 24 (0, 0))) ∧ Aside0 (wc.heap[gb103]? = some (.cells #[.int .u64 a2_0, .int .u64 a2_1, .bool a2_2] 24 (0, 0))) ∧ Aside0 (Below w.heap.size w wc))
  case first =>
    have H := HC7.out
    clear HC7
    replace H := Option.bind_eq_some_iff.mp H
    obtain ⟨t106, A180, H⟩ := H
    replace H : (if t105 = (wrap64 (-t106)) then (if t105 ≤ 0 then ((addr_Compare.f a1_0 a1_1 a1_2 a2_0 a2_1 a2_2).bind fun t107 => (if t107 ≤ 0 then ((addr_Compare.f a0_0 a0_1 a0_2 a2_0 a2_1 a2_2).bind fun t108 => (if t108 > 0 then (kedgelaw01_AddrOrder.j0 k a3 t104 true a0_0 a0_1 a0_2) else (if (a0_2 == a1_2) = true then ((addr_Common.f a0_0 a0_1 a0_2 a1_0 a1_1 a1_2).bind fun t109 => ((addr_Width.f a0_2).bind fun t110 => (kedgelaw01_AddrOrder.j0 k a3 t104 ((t105 == 0) != (t109 == t110)) a0_0 a0_1 a0_2))) else (kedgelaw01_AddrOrder.j0 k a3 t104 ((t105 == 0) != false) a0_0 a0_1 a0_2)))) else (if (a0_2 == a1_2) = true then ((addr_Common.f a0_0 a0_1 a0_2 a1_0 a1_1 a1_2).bind fun t111 => ((addr_Width.f a0_2).bind fun t112 => (kedgelaw01_AddrOrder.j0 k a3 t104 ((t105 == 0) != (t111 == t112)) a0_0 a0_1 a0_2))) else (kedgelaw01_AddrOrder.j0 k a3 t104 ((t105 == 0) != false) a0_0 a0_1 a0_2)))) else (if (a0_2 == a1_2) = true then ((addr_Common.f a0_0 a0_1 a0_2 a1_0 a1_1 a1_2).bind fun t113 => ((addr_Width.f a0_2).bind fun t114 => (kedgelaw01_AddrOrder.j0 k a3 t104 ((t105 == 0) != (t113 == t114)) a0_0 a0_1 a0_2))) else (kedgelaw01_AddrOrder.j0 k a3 t104 ((t105 == 0) != false) a0_0 a0_1 a0_2))) else (kedgelaw01_AddrOrder.j0 k a3 t104 true a0_0 a0_1 a0_2)) = some r := H
    have A18 := Aside0.mk A180
    clear A180
    by_cases c19 : t105 = (wrap64 (-t106))
    · rw [if_pos c19] at H
      have c19b0 : (t105 == (wrap64 (-t106))) = true := beq_iff_eq.mpr c19
      have c19b1 : (t105 != (wrap64 (-t106))) = false := bne_eq_false_iff_eq.mpr c19
      clear c19
      (first | rw [c19b0] | (simp only [i64_w, i32_w]; rw [c19b0]) | skip)
      by_cases c20 : t105 ≤ 0
      · rw [if_pos c20] at H
        have c20b0 : decide (t105 ≤ 0) = true := decide_eq_true c20
        clear c20
        replace H := Option.bind_eq_some_iff.mp H
        obtain ⟨t107, A210, H⟩ := H
        replace H : (if t107 ≤ 0 then ((addr_Compare.f a0_0 a0_1 a0_2 a2_0 a2_1 a2_2).bind fun t108 => (if t108 > 0 then (kedgelaw01_AddrOrder.j0 k a3 t104 true a0_0 a0_1 a0_2) else (if (a0_2 == a1_2) = true then ((addr_Common.f a0_0 a0_1 a0_2 a1_0 a1_1 a1_2).bind fun t109 => ((addr_Width.f a0_2).bind fun t110 => (kedgelaw01_AddrOrder.j0 k a3 t104 ((t105 == 0) != (t109 == t110)) a0_0 a0_1 a0_2))) else (kedgelaw01_AddrOrder.j0 k a3 t104 ((t105 == 0) != false) a0_0 a0_1 a0_2)))) else (if (a0_2 == a1_2) = true then ((addr_Common.f a0_0 a0_1 a0_2 a1_0 a1_1 a1_2).bind fun t111 => ((addr_Width.f a0_2).bind fun t112 => (kedgelaw01_AddrOrder.j0 k a3 t104 ((t105 == 0) != (t111 == t112)) a0_0 a0_1 a0_2))) else (kedgelaw01_AddrOrder.j0 k a3 t104 ((t105 == 0) != false) a0_0 a0_1 a0_2))) = some r := H
        have A21 := Aside0.mk A210
        clear A210
        by_cases c22 : t107 ≤ 0
        · rw [if_pos c22] at H
          have c22b0 : decide (t107 ≤ 0) = true := decide_eq_true c22
          clear c22
          replace H := Option.bind_eq_some_iff.mp H
          obtain ⟨t108, A230, H⟩ := H
          replace H : (if t108 > 0 then (kedgelaw01_AddrOrder.j0 k a3 t104 true a0_0 a0_1 a0_2) else (if (a0_2 == a1_2) = true then ((addr_Common.f a0_0 a0_1 a0_2 a1_0 a1_1 a1_2).bind fun t109 => ((addr_Width.f a0_2).bind fun t110 => (kedgelaw01_AddrOrder.j0 k a3 t104 ((t105 == 0) != (t109 == t110)) a0_0 a0_1 a0_2))) else (kedgelaw01_AddrOrder.j0 k a3 t104 ((t105 == 0) != false) a0_0 a0_1 a0_2))) = some r := H
          have A23 := Aside0.mk A230
          clear A230
          by_cases c24 : t108 > 0
          · rw [if_pos c24] at H
            have c24b0 : decide (0 < t108) = true := decide_eq_true c24
            clear c24
            have H' := Aside0.mk H
            (exfalso; have HF := H'.out; rw [hrt] at HF; clear H'; simp [kedgelaw01_AddrOrder.j0_iff, kedgelaw01_AddrOrder.j1_iff] at HF; done)
          · rw [if_neg c24] at H
            have c24b0 : decide (0 < t108) = false := decide_eq_false c24
            clear c24
            by_cases c29 : (a0_2 == a1_2) = true
            · rw [if_pos c29] at H
              have c29b0 : (a0_2 == a1_2) = true := c29
              (try (have c29b1 : decide (a0_2 = a1_2) = true := by simpa using c29))
              (try (have c29b2 : (a0_2 == a1_2) = true := by simpa using c29))
              clear c29
              replace H := Option.bind_eq_some_iff.mp H
              obtain ⟨t109, A300, H⟩ := H
              replace H : ((addr_Width.f a0_2).bind fun t110 => (kedgelaw01_AddrOrder.j0 k a3 t104 ((t105 == 0) != (t109 == t110)) a0_0 a0_1 a0_2)) = some r := H
              have A30 := Aside0.mk A300
              clear A300
              replace H := Option.bind_eq_some_iff.mp H
              obtain ⟨t110, A310, H⟩ := H
              replace H : (kedgelaw01_AddrOrder.j0 k a3 t104 ((t105 == 0) != (t109 == t110)) a0_0 a0_1 a0_2) = some r := H
              have A31 := Aside0.mk A310
              clear A310
              have H' := Aside0.mk H
              clear H
              try go_wp2
              have n0_ := Aside0.mk (blk_drew BK101.out)
              have n1_ := Aside0.mk (blk_drew BK102.out)
              have n2_ := Aside0.mk (blk_drew BK103.out)
              have n3_ := Aside0.mk (below_drew1 HB.out)
              clear BK101
              clear BK102
              clear BK103
              clear HB
              have BK101 := n0_
              have BK102 := n1_
              have BK103 := n2_
              have HB := n3_
              clear n0_ n1_ n2_ n3_
              refine start_ (n := 41) (S := fun w' => w'.cell? ⟨gb102, 0, none⟩ = some (.int .u64 a1_0) ∧ w'.cell? ⟨gb102, 1, none⟩ = some (.int .u64 a1_1) ∧ w'.cell? ⟨gb102, 2, none⟩ = some (.bool a1_2) ∧ w'.cell? ⟨gb101, 0, none⟩ = some (.int .u64 a0_0) ∧ w'.cell? ⟨gb101, 1, none⟩ = some (.int .u64 a0_1) ∧ w'.cell? ⟨gb101, 2, none⟩ = some (.bool a0_2) ∧ w'.cell? ⟨gb103, 0, none⟩ = some (.int .u64 a2_0) ∧ w'.cell? ⟨gb103, 1, none⟩ = some (.int .u64 a2_1) ∧ w'.cell? ⟨gb103, 2, none⟩ = some (.bool a2_2)) (ds := []) #[false, false, false, false, false, false, false, false, false, false, false, false, false, false, false, false, false, false, false, false, false, false, false, false, false, false, false, false, false, false, false, false, false, false, false, false, false, false, false, false, false] (by kernel_rfl) rfl rfl ⟨(blk_cell BK102.out 0).trans rfl, (blk_cell BK102.out 1).trans rfl, (blk_cell BK102.out 2).trans rfl, (blk_cell BK101.out 0).trans rfl, (blk_cell BK101.out 1).trans rfl, (blk_cell BK101.out 2).trans rfl, (blk_cell BK103.out 0).trans rfl, (blk_cell BK103.out 1).trans rfl, (blk_cell BK103.out 2).trans rfl⟩ (fun hHeld => ?_); refine with_tabW kedgelaw01_AddrOrder.tab3 kedgelaw01_AddrOrder.bits3 (fun HT_ HW_ => ?_)
              generalize w17.drew = w32 at BK101 BK102 BK103 HB hHeld ⊢
              refine pure_ (i := 0) (N := some 17) (v := ?_) (a' := ?_) (lb 41 1) rfl rfl (any_of HT_.out (by kernel_rfl)) (fun _ _ _ h => h) (Or.inl ⟨by rfl, ?_⟩) ?_ ?_
              rotate_left
              · intro w'
                go_simp
                with_reducible rfl
              rotate_left
              · simp only [Act.put, List.setIfInBounds_toArray, List.set_cons_zero, List.set_cons_succ, i64_w, i32_w]
                rfl
              refine take_ (i := 1) (N := some 18) (v := ?_) (a' := ?_) (lb 41 3) rfl rfl (take_ofW HT_.out HW_.out (by kernel_rfl)) (fun _ _ _ h => h) (Or.inl ⟨by rfl, ?_⟩) hHeld ?_ ?_
              rotate_left
              · rintro w' ⟨s0, s1, s2, s3, s4, s5, s6, s7, s8⟩
                go_simp
                with_reducible rfl
              rotate_left
              · simp only [Act.put, List.setIfInBounds_toArray, List.set_cons_zero, List.set_cons_succ, i64_w, i32_w]
                rfl
              refine take_ (i := 2) (N := some 19) (v := ?_) (a' := ?_) (lb 41 7) rfl rfl (take_ofW HT_.out HW_.out (by kernel_rfl)) (fun _ _ _ h => h) (Or.inl ⟨by rfl, ?_⟩) hHeld ?_ ?_
              rotate_left
              · rintro w' ⟨s0, s1, s2, s3, s4, s5, s6, s7, s8⟩
                go_simp
                with_reducible rfl
              rotate_left
              · simp only [Act.put, List.setIfInBounds_toArray, List.set_cons_zero, List.set_cons_succ, i64_w, i32_w]
                rfl
              refine one_ (i := 3) (N := some 20) (lb 41 15) rfl rfl (one_of HT_.out (by kernel_rfl)) (by decide) (fun K hK => ?_)
              refine goes_ Try.func29 (by kernel_rfl) rfl #[.agg #[.int .u64 a1_0, .int .u64 a1_1, .bool a1_2], .agg #[.int .u64 a0_0, .int .u64 a0_1, .bool a0_2]] (by rfl) rfl rfl (by (try simp only [List.map_toArray, List.map_cons, List.map_nil]); first | done | rfl | (simp only [List.length_drop, List.length_take]; rfl)) ?_
              with_reducible refine (addr_Compare.calls a1_0 a1_1 a1_2 a0_0 a0_1 a0_2 t106 _ A18.out).mono ?_
              rintro e w33 ⟨rfl, hb⟩
              refine ⟨_, rfl, ?_⟩
              have n0_ := Aside0.mk (blk_below (g := gb101) (o := .cells #[.int .u64 a0_0, .int .u64 a0_1, .bool a0_2] 24 (0, 0)) (by (with_reducible repeat (first | refine blk_drewN ?_ _ | refine blk_drew ?_ | refine blk_alloc ?_ _)); exact BK101.out) hb)
              have n1_ := Aside0.mk (blk_below (g := gb102) (o := .cells #[.int .u64 a1_0, .int .u64 a1_1, .bool a1_2] 24 (0, 0)) (by (with_reducible repeat (first | refine blk_drewN ?_ _ | refine blk_drew ?_ | refine blk_alloc ?_ _)); exact BK102.out) hb)
              have n2_ := Aside0.mk (blk_below (g := gb103) (o := .cells #[.int .u64 a2_0, .int .u64 a2_1, .bool a2_2] 24 (0, 0)) (by (with_reducible repeat (first | refine blk_drewN ?_ _ | refine blk_drew ?_ | refine blk_alloc ?_ _)); exact BK103.out) hb)
              have n3_ := Aside0.mk (below_step (by repeat (first | (with_reducible first | exact HB.out | apply below_alloc | apply pw_below_drewN | apply below_drew1 | refine below_set ?_ GE101.out | refine below_set ?_ GE102.out | refine below_set ?_ GE103.out) | exact HB.out)) hb)
              clear BK101
              clear BK102
              clear BK103
              clear HB
              have BK101 := n0_
              have BK102 := n1_
              have BK103 := n2_
              have HB := n3_
              clear n0_ n1_ n2_ n3_
              (try clear hb)
              (try clear hb2)
              (try clear hk)
              (try clear hi)
              refine hK.out _ _ ⟨(blk_cell BK102.out 0).trans rfl, (blk_cell BK102.out 1).trans rfl, (blk_cell BK102.out 2).trans rfl, (blk_cell BK101.out 0).trans rfl, (blk_cell BK101.out 1).trans rfl, (blk_cell BK101.out 2).trans rfl, (blk_cell BK103.out 0).trans rfl, (blk_cell BK103.out 1).trans rfl, (blk_cell BK103.out 2).trans rfl⟩ (fun hHeld => ?_)
              clear hK K
              refine norm_ (a' := ?_) ?_ ?_
              rotate_left
              · show Act.put _ (some 20) _ = _
                simp only [Act.put, List.setIfInBounds_toArray, List.set_cons_zero, List.set_cons_succ, i64_w, i32_w]
                rfl
              refine pure_ (i := 4) (N := some 21) (v := ?_) (a' := ?_) (lb 41 31) rfl rfl (any_of HT_.out (by kernel_rfl)) (fun _ _ _ h => h) (Or.inl ⟨by rfl, ?_⟩) ?_ ?_
              rotate_left
              · intro w'
                go_simp
                with_reducible rfl
              rotate_left
              · simp only [Act.put, List.setIfInBounds_toArray, List.set_cons_zero, List.set_cons_succ, i64_w, i32_w]
                rfl
              refine pure_ (i := 5) (N := some 22) (v := ?_) (a' := ?_) (lb 41 63) rfl rfl (any_of HT_.out (by kernel_rfl)) (fun _ _ _ h => h) (Or.inl ⟨by rfl, ?_⟩) ?_ ?_
              rotate_left
              · intro w'
                go_simp
                with_reducible rfl
              rotate_left
              · simp only [Act.put, List.setIfInBounds_toArray, List.set_cons_zero, List.set_cons_succ, i64_w, i32_w]
                rfl
              refine pure_ (i := 6) (N := some 23) (v := ?_) (a' := ?_) (lb 41 127) rfl rfl (any_of HT_.out (by kernel_rfl)) (fun _ _ _ h => h) (Or.inl ⟨by rfl, ?_⟩) ?_ ?_
              rotate_left
              · intro w'
                go_simp
                with_reducible rfl
              rotate_left
              · simp only [Act.put, List.setIfInBounds_toArray, List.set_cons_zero, List.set_cons_succ, i64_w, i32_w]
                rfl
              refine pure_ (i := 7) (N := some 24) (v := ?_) (a' := ?_) (lb 41 255) rfl rfl (any_of HT_.out (by kernel_rfl)) (fun _ _ _ h => h) (Or.inl ⟨by rfl, ?_⟩) ?_ ?_
              rotate_left
              · intro w'
                go_simp
                with_reducible rfl
              rotate_left
              · simp only [Act.put, List.setIfInBounds_toArray, List.set_cons_zero, List.set_cons_succ, i64_w, i32_w]
                rfl
              refine pure_ (i := 8) (N := some 25) (v := ?_) (a' := ?_) (lb 41 511) rfl rfl (any_of HT_.out (by kernel_rfl)) (fun _ _ _ h => h) (Or.inl ⟨by rfl, ?_⟩) ?_ ?_
              rotate_left
              · intro w'
                go_simp
                with_reducible rfl
              rotate_left
              · simp only [Act.put, List.setIfInBounds_toArray, List.set_cons_zero, List.set_cons_succ, i64_w, i32_w]
                rfl
              refine pure_ (i := 9) (N := some 26) (v := ?_) (a' := ?_) (lb 41 1023) rfl rfl (any_of HT_.out (by kernel_rfl)) (fun _ _ _ h => h) (Or.inl ⟨by rfl, ?_⟩) ?_ ?_
              rotate_left
              · intro w'
                go_simp
                with_reducible rfl
              rotate_left
              · simp only [Act.put, List.setIfInBounds_toArray, List.set_cons_zero, List.set_cons_succ, i64_w, i32_w]
                rfl
              refine take_ (i := 10) (N := some 27) (v := ?_) (a' := ?_) (lb 41 2047) rfl rfl (take_ofW HT_.out HW_.out (by kernel_rfl)) (fun _ _ _ h => h) (Or.inl ⟨by rfl, ?_⟩) hHeld ?_ ?_
              rotate_left
              · rintro w' ⟨s0, s1, s2, s3, s4, s5, s6, s7, s8⟩
                go_simp
                with_reducible rfl
              rotate_left
              · simp only [Act.put, List.setIfInBounds_toArray, List.set_cons_zero, List.set_cons_succ, i64_w, i32_w]
                rfl
              refine take_ (i := 11) (N := some 28) (v := ?_) (a' := ?_) (lb 41 4095) rfl rfl (take_ofW HT_.out HW_.out (by kernel_rfl)) (fun _ _ _ h => h) (Or.inl ⟨by rfl, ?_⟩) hHeld ?_ ?_
              rotate_left
              · rintro w' ⟨s0, s1, s2, s3, s4, s5, s6, s7, s8⟩
                go_simp
                with_reducible rfl
              rotate_left
              · simp only [Act.put, List.setIfInBounds_toArray, List.set_cons_zero, List.set_cons_succ, i64_w, i32_w]
                rfl
              refine one_ (i := 12) (N := some 29) (lb 41 8191) rfl rfl (one_of HT_.out (by kernel_rfl)) (by decide) (fun K hK => ?_)
              refine goes_ Try.func29 (by kernel_rfl) rfl #[.agg #[.int .u64 a1_0, .int .u64 a1_1, .bool a1_2], .agg #[.int .u64 a2_0, .int .u64 a2_1, .bool a2_2]] (by rfl) rfl rfl (by (try simp only [List.map_toArray, List.map_cons, List.map_nil]); first | done | rfl | (simp only [List.length_drop, List.length_take]; rfl)) ?_
              with_reducible refine (addr_Compare.calls a1_0 a1_1 a1_2 a2_0 a2_1 a2_2 t107 _ A21.out).mono ?_
              rintro e w34 ⟨rfl, hb⟩
              refine ⟨_, rfl, ?_⟩
              have n0_ := Aside0.mk (blk_below (g := gb101) (o := .cells #[.int .u64 a0_0, .int .u64 a0_1, .bool a0_2] 24 (0, 0)) (by (with_reducible repeat (first | refine blk_drewN ?_ _ | refine blk_drew ?_ | refine blk_alloc ?_ _)); exact BK101.out) hb)
              have n1_ := Aside0.mk (blk_below (g := gb102) (o := .cells #[.int .u64 a1_0, .int .u64 a1_1, .bool a1_2] 24 (0, 0)) (by (with_reducible repeat (first | refine blk_drewN ?_ _ | refine blk_drew ?_ | refine blk_alloc ?_ _)); exact BK102.out) hb)
              have n2_ := Aside0.mk (blk_below (g := gb103) (o := .cells #[.int .u64 a2_0, .int .u64 a2_1, .bool a2_2] 24 (0, 0)) (by (with_reducible repeat (first | refine blk_drewN ?_ _ | refine blk_drew ?_ | refine blk_alloc ?_ _)); exact BK103.out) hb)
              have n3_ := Aside0.mk (below_step (by repeat (first | (with_reducible first | exact HB.out | apply below_alloc | apply pw_below_drewN | apply below_drew1 | refine below_set ?_ GE101.out | refine below_set ?_ GE102.out | refine below_set ?_ GE103.out) | exact HB.out)) hb)
              clear BK101
              clear BK102
              clear BK103
              clear HB
              have BK101 := n0_
              have BK102 := n1_
              have BK103 := n2_
              have HB := n3_
              clear n0_ n1_ n2_ n3_
              (try clear hb)
              (try clear hb2)
              (try clear hk)
              (try clear hi)
              refine hK.out _ _ ⟨(blk_cell BK102.out 0).trans rfl, (blk_cell BK102.out 1).trans rfl, (blk_cell BK102.out 2).trans rfl, (blk_cell BK101.out 0).trans rfl, (blk_cell BK101.out 1).trans rfl, (blk_cell BK101.out 2).trans rfl, (blk_cell BK103.out 0).trans rfl, (blk_cell BK103.out 1).trans rfl, (blk_cell BK103.out 2).trans rfl⟩ (fun hHeld => ?_)
              clear hK K
              refine norm_ (a' := ?_) ?_ ?_
              rotate_left
              · show Act.put _ (some 29) _ = _
                simp only [Act.put, List.setIfInBounds_toArray, List.set_cons_zero, List.set_cons_succ, i64_w, i32_w]
                rfl
              refine pure_ (i := 13) (N := some 30) (v := ?_) (a' := ?_) (lb 41 16383) rfl rfl (any_of HT_.out (by kernel_rfl)) (fun _ _ _ h => h) (Or.inl ⟨by rfl, ?_⟩) ?_ ?_
              rotate_left
              · intro w'
                go_simp
                with_reducible rfl
              rotate_left
              · simp only [Act.put, List.setIfInBounds_toArray, List.set_cons_zero, List.set_cons_succ, i64_w, i32_w]
                rfl
              refine pure_ (i := 14) (N := some 31) (v := ?_) (a' := ?_) (lb 41 32767) rfl rfl (any_of HT_.out (by kernel_rfl)) (fun _ _ _ h => h) (Or.inl ⟨by rfl, ?_⟩) ?_ ?_
              rotate_left
              · intro w'
                go_simp
                with_reducible rfl
              rotate_left
              · simp only [Act.put, List.setIfInBounds_toArray, List.set_cons_zero, List.set_cons_succ, i64_w, i32_w]
                rfl
              refine pure_ (i := 15) (N := some 32) (v := ?_) (a' := ?_) (lb 41 65535) rfl rfl (any_of HT_.out (by kernel_rfl)) (fun _ _ _ h => h) (Or.inl ⟨by rfl, ?_⟩) ?_ ?_
              rotate_left
              · intro w'
                go_simp
                with_reducible rfl
              rotate_left
              · simp only [Act.put, List.setIfInBounds_toArray, List.set_cons_zero, List.set_cons_succ, i64_w, i32_w]
                rfl
              refine take_ (i := 16) (N := some 33) (v := ?_) (a' := ?_) (lb 41 131071) rfl rfl (take_ofW HT_.out HW_.out (by kernel_rfl)) (fun _ _ _ h => h) (Or.inl ⟨by rfl, ?_⟩) hHeld ?_ ?_
              rotate_left
              · rintro w' ⟨s0, s1, s2, s3, s4, s5, s6, s7, s8⟩
                go_simp
                with_reducible rfl
              rotate_left
              · simp only [Act.put, List.setIfInBounds_toArray, List.set_cons_zero, List.set_cons_succ, i64_w, i32_w]
                rfl
              refine take_ (i := 17) (N := some 34) (v := ?_) (a' := ?_) (lb 41 262143) rfl rfl (take_ofW HT_.out HW_.out (by kernel_rfl)) (fun _ _ _ h => h) (Or.inl ⟨by rfl, ?_⟩) hHeld ?_ ?_
              rotate_left
              · rintro w' ⟨s0, s1, s2, s3, s4, s5, s6, s7, s8⟩
                go_simp
                with_reducible rfl
              rotate_left
              · simp only [Act.put, List.setIfInBounds_toArray, List.set_cons_zero, List.set_cons_succ, i64_w, i32_w]
                rfl
              refine one_ (i := 18) (N := some 35) (lb 41 524287) rfl rfl (one_of HT_.out (by kernel_rfl)) (by decide) (fun K hK => ?_)
              refine goes_ Try.func29 (by kernel_rfl) rfl #[.agg #[.int .u64 a0_0, .int .u64 a0_1, .bool a0_2], .agg #[.int .u64 a2_0, .int .u64 a2_1, .bool a2_2]] (by rfl) rfl rfl (by (try simp only [List.map_toArray, List.map_cons, List.map_nil]); first | done | rfl | (simp only [List.length_drop, List.length_take]; rfl)) ?_
              with_reducible refine (addr_Compare.calls a0_0 a0_1 a0_2 a2_0 a2_1 a2_2 t108 _ A23.out).mono ?_
              rintro e w35 ⟨rfl, hb⟩
              refine ⟨_, rfl, ?_⟩
              have n0_ := Aside0.mk (blk_below (g := gb101) (o := .cells #[.int .u64 a0_0, .int .u64 a0_1, .bool a0_2] 24 (0, 0)) (by (with_reducible repeat (first | refine blk_drewN ?_ _ | refine blk_drew ?_ | refine blk_alloc ?_ _)); exact BK101.out) hb)
              have n1_ := Aside0.mk (blk_below (g := gb102) (o := .cells #[.int .u64 a1_0, .int .u64 a1_1, .bool a1_2] 24 (0, 0)) (by (with_reducible repeat (first | refine blk_drewN ?_ _ | refine blk_drew ?_ | refine blk_alloc ?_ _)); exact BK102.out) hb)
              have n2_ := Aside0.mk (blk_below (g := gb103) (o := .cells #[.int .u64 a2_0, .int .u64 a2_1, .bool a2_2] 24 (0, 0)) (by (with_reducible repeat (first | refine blk_drewN ?_ _ | refine blk_drew ?_ | refine blk_alloc ?_ _)); exact BK103.out) hb)
              have n3_ := Aside0.mk (below_step (by repeat (first | (with_reducible first | exact HB.out | apply below_alloc | apply pw_below_drewN | apply below_drew1 | refine below_set ?_ GE101.out | refine below_set ?_ GE102.out | refine below_set ?_ GE103.out) | exact HB.out)) hb)
              clear BK101
              clear BK102
              clear BK103
              clear HB
              have BK101 := n0_
              have BK102 := n1_
              have BK103 := n2_
              have HB := n3_
              clear n0_ n1_ n2_ n3_
              (try clear hb)
              (try clear hb2)
              (try clear hk)
              (try clear hi)
              refine hK.out _ _ ⟨(blk_cell BK102.out 0).trans rfl, (blk_cell BK102.out 1).trans rfl, (blk_cell BK102.out 2).trans rfl, (blk_cell BK101.out 0).trans rfl, (blk_cell BK101.out 1).trans rfl, (blk_cell BK101.out 2).trans rfl, (blk_cell BK103.out 0).trans rfl, (blk_cell BK103.out 1).trans rfl, (blk_cell BK103.out 2).trans rfl⟩ (fun hHeld => ?_)
              clear hK K
              refine norm_ (a' := ?_) ?_ ?_
              rotate_left
              · show Act.put _ (some 35) _ = _
                simp only [Act.put, List.setIfInBounds_toArray, List.set_cons_zero, List.set_cons_succ, i64_w, i32_w]
                rfl
              refine pure_ (i := 19) (N := some 36) (v := ?_) (a' := ?_) (lb 41 1048575) rfl rfl (any_of HT_.out (by kernel_rfl)) (fun _ _ _ h => h) (Or.inl ⟨by rfl, ?_⟩) ?_ ?_
              rotate_left
              · intro w'
                go_simp
                with_reducible rfl
              rotate_left
              · simp only [Act.put, List.setIfInBounds_toArray, List.set_cons_zero, List.set_cons_succ, i64_w, i32_w]
                rfl
              refine pure_ (i := 20) (N := some 37) (v := ?_) (a' := ?_) (lb 41 2097151) rfl rfl (any_of HT_.out (by kernel_rfl)) (fun _ _ _ h => h) (Or.inl ⟨by rfl, ?_⟩) ?_ ?_
              rotate_left
              · intro w'
                go_simp
                with_reducible rfl
              rotate_left
              · simp only [Act.put, List.setIfInBounds_toArray, List.set_cons_zero, List.set_cons_succ, i64_w, i32_w]
                rfl
              refine pure_ (i := 21) (N := some 38) (v := ?_) (a' := ?_) (lb 41 4194303) rfl rfl (any_of HT_.out (by kernel_rfl)) (fun _ _ _ h => h) (Or.inl ⟨by rfl, ?_⟩) ?_ ?_
              rotate_left
              · intro w'
                go_simp
                with_reducible rfl
              rotate_left
              · simp only [Act.put, List.setIfInBounds_toArray, List.set_cons_zero, List.set_cons_succ, i64_w, i32_w]
                rfl
              refine pure_ (i := 22) (N := some 39) (v := ?_) (a' := ?_) (lb 41 8388607) rfl rfl (any_of HT_.out (by kernel_rfl)) (fun _ _ _ h => h) (Or.inl ⟨by rfl, ?_⟩) ?_ ?_
              rotate_left
              · intro w'
                go_simp
                with_reducible rfl
              rotate_left
              · simp only [Act.put, List.setIfInBounds_toArray, List.set_cons_zero, List.set_cons_succ, i64_w, i32_w]
                rfl
              refine pure_ (i := 23) (N := some 40) (v := ?_) (a' := ?_) (lb 41 16777215) rfl rfl (any_of HT_.out (by kernel_rfl)) (fun _ _ _ h => h) (Or.inl ⟨by rfl, ?_⟩) ?_ ?_
              rotate_left
              · intro w'
                go_simp
                with_reducible rfl
              rotate_left
              · simp only [Act.put, List.setIfInBounds_toArray, List.set_cons_zero, List.set_cons_succ, i64_w, i32_w]
                rfl
              refine pure_ (i := 24) (N := some 41) (v := ?_) (a' := ?_) (lb 41 33554431) rfl rfl (any_of HT_.out (by kernel_rfl)) (fun _ _ _ h => h) (Or.inl ⟨by rfl, ?_⟩) ?_ ?_
              rotate_left
              · intro w'
                go_simp
                with_reducible rfl
              rotate_left
              · simp only [Act.put, List.setIfInBounds_toArray, List.set_cons_zero, List.set_cons_succ, i64_w, i32_w]
                rfl
              refine pure_ (i := 25) (N := some 42) (v := ?_) (a' := ?_) (lb 41 67108863) rfl rfl (any_of HT_.out (by kernel_rfl)) (fun _ _ _ h => h) (Or.inl ⟨by rfl, ?_⟩) ?_ ?_
              rotate_left
              · intro w'
                go_simp
                with_reducible rfl
              rotate_left
              · simp only [Act.put, List.setIfInBounds_toArray, List.set_cons_zero, List.set_cons_succ, i64_w, i32_w]
                rfl
              refine pure_ (i := 27) (N := some 44) (v := ?_) (a' := ?_) (lb 41 201326591) rfl rfl (any_of HT_.out (by kernel_rfl)) (fun _ _ _ h => h) (Or.inl ⟨by rfl, ?_⟩) ?_ ?_
              rotate_left
              · intro w'
                go_simp
                with_reducible rfl
              rotate_left
              · simp only [Act.put, List.setIfInBounds_toArray, List.set_cons_zero, List.set_cons_succ, i64_w, i32_w]
                rfl
              refine take_ (i := 26) (N := some 43) (v := ?_) (a' := ?_) (lb 41 268435455) rfl rfl (take_ofW HT_.out HW_.out (by kernel_rfl)) (fun _ _ _ h => h) (Or.inl ⟨by rfl, ?_⟩) hHeld ?_ ?_
              rotate_left
              · rintro w' ⟨s0, s1, s2, s3, s4, s5, s6, s7, s8⟩
                go_simp
                with_reducible rfl
              rotate_left
              · simp only [Act.put, List.setIfInBounds_toArray, List.set_cons_zero, List.set_cons_succ, i64_w, i32_w]
                rfl
              refine take_ (i := 28) (N := some 45) (v := ?_) (a' := ?_) (lb 41 536870911) rfl rfl (take_ofW HT_.out HW_.out (by kernel_rfl)) (fun _ _ _ h => h) (Or.inl ⟨by rfl, ?_⟩) hHeld ?_ ?_
              rotate_left
              · rintro w' ⟨s0, s1, s2, s3, s4, s5, s6, s7, s8⟩
                go_simp
                with_reducible rfl
              rotate_left
              · simp only [Act.put, List.setIfInBounds_toArray, List.set_cons_zero, List.set_cons_succ, i64_w, i32_w]
                rfl
              refine pure_ (i := 29) (N := some 46) (v := ?_) (a' := ?_) (lb 41 1073741823) rfl rfl (any_of HT_.out (by kernel_rfl)) (fun _ _ _ h => h) (Or.inl ⟨by rfl, ?_⟩) ?_ ?_
              rotate_left
              · intro w'
                go_simp
                with_reducible rfl
              rotate_left
              · simp only [Act.put, List.setIfInBounds_toArray, List.set_cons_zero, List.set_cons_succ, i64_w, i32_w]
                rfl
              refine pure_ (i := 30) (N := some 47) (v := ?_) (a' := ?_) (lb 41 2147483647) rfl rfl (any_of HT_.out (by kernel_rfl)) (fun _ _ _ h => h) (Or.inl ⟨by rfl, ?_⟩) ?_ ?_
              rotate_left
              · intro w'
                go_simp
                with_reducible rfl
              rotate_left
              · simp only [Act.put, List.setIfInBounds_toArray, List.set_cons_zero, List.set_cons_succ, i64_w, i32_w]
                rfl
              refine pure_ (i := 34) (N := some 51) (v := ?_) (a' := ?_) (lb 41 19327352831) rfl rfl (any_of HT_.out (by kernel_rfl)) (fun _ _ _ h => h) (Or.inl ⟨by rfl, ?_⟩) ?_ ?_
              rotate_left
              · intro w'
                go_simp
                with_reducible rfl
              rotate_left
              · simp only [Act.put, List.setIfInBounds_toArray, List.set_cons_zero, List.set_cons_succ, i64_w, i32_w]
                rfl
              refine take_ (i := 31) (N := some 48) (v := ?_) (a' := ?_) (lb 41 21474836479) rfl rfl (take_ofW HT_.out HW_.out (by kernel_rfl)) (fun _ _ _ h => h) (Or.inl ⟨by rfl, ?_⟩) hHeld ?_ ?_
              rotate_left
              · rintro w' ⟨s0, s1, s2, s3, s4, s5, s6, s7, s8⟩
                go_simp
                with_reducible rfl
              rotate_left
              · simp only [Act.put, List.setIfInBounds_toArray, List.set_cons_zero, List.set_cons_succ, i64_w, i32_w]
                rfl
              refine take_ (i := 32) (N := some 49) (v := ?_) (a' := ?_) (lb 41 25769803775) rfl rfl (take_ofW HT_.out HW_.out (by kernel_rfl)) (fun _ _ _ h => h) (Or.inl ⟨by rfl, ?_⟩) hHeld ?_ ?_
              rotate_left
              · rintro w' ⟨s0, s1, s2, s3, s4, s5, s6, s7, s8⟩
                go_simp
                with_reducible rfl
              rotate_left
              · simp only [Act.put, List.setIfInBounds_toArray, List.set_cons_zero, List.set_cons_succ, i64_w, i32_w]
                rfl
              refine take_ (i := 35) (N := some 52) (v := ?_) (a' := ?_) (lb 41 60129542143) rfl rfl (take_ofW HT_.out HW_.out (by kernel_rfl)) (fun _ _ _ h => h) (Or.inl ⟨by rfl, ?_⟩) hHeld ?_ ?_
              rotate_left
              · rintro w' ⟨s0, s1, s2, s3, s4, s5, s6, s7, s8⟩
                go_simp
                with_reducible rfl
              rotate_left
              · simp only [Act.put, List.setIfInBounds_toArray, List.set_cons_zero, List.set_cons_succ, i64_w, i32_w]
                rfl
              refine one_ (i := 33) (N := some 50) (lb 41 68719476735) rfl rfl (one_of HT_.out (by kernel_rfl)) (by decide) (fun K hK => ?_)
              refine goes_ Try.func20 (by kernel_rfl) rfl #[.agg #[.int .u64 a0_0, .int .u64 a0_1, .bool a0_2], .agg #[.int .u64 a1_0, .int .u64 a1_1, .bool a1_2]] (by rfl) rfl rfl (by (try simp only [List.map_toArray, List.map_cons, List.map_nil]); first | done | rfl | (simp only [List.length_drop, List.length_take]; rfl)) ?_
              with_reducible refine (addr_Common.calls a0_0 a0_1 a0_2 a1_0 a1_1 a1_2 t109 _ A30.out).mono ?_
              rintro e w36 ⟨rfl, hb⟩
              refine ⟨_, rfl, ?_⟩
              have n0_ := Aside0.mk (blk_below (g := gb101) (o := .cells #[.int .u64 a0_0, .int .u64 a0_1, .bool a0_2] 24 (0, 0)) (by (with_reducible repeat (first | refine blk_drewN ?_ _ | refine blk_drew ?_ | refine blk_alloc ?_ _)); exact BK101.out) hb)
              have n1_ := Aside0.mk (blk_below (g := gb102) (o := .cells #[.int .u64 a1_0, .int .u64 a1_1, .bool a1_2] 24 (0, 0)) (by (with_reducible repeat (first | refine blk_drewN ?_ _ | refine blk_drew ?_ | refine blk_alloc ?_ _)); exact BK102.out) hb)
              have n2_ := Aside0.mk (blk_below (g := gb103) (o := .cells #[.int .u64 a2_0, .int .u64 a2_1, .bool a2_2] 24 (0, 0)) (by (with_reducible repeat (first | refine blk_drewN ?_ _ | refine blk_drew ?_ | refine blk_alloc ?_ _)); exact BK103.out) hb)
              have n3_ := Aside0.mk (below_step (by repeat (first | (with_reducible first | exact HB.out | apply below_alloc | apply pw_below_drewN | apply below_drew1 | refine below_set ?_ GE101.out | refine below_set ?_ GE102.out | refine below_set ?_ GE103.out) | exact HB.out)) hb)
              clear BK101
              clear BK102
              clear BK103
              clear HB
              have BK101 := n0_
              have BK102 := n1_
              have BK103 := n2_
              have HB := n3_
              clear n0_ n1_ n2_ n3_
              (try clear hb)
              (try clear hb2)
              (try clear hk)
              (try clear hi)
              refine hK.out _ _ ⟨(blk_cell BK102.out 0).trans rfl, (blk_cell BK102.out 1).trans rfl, (blk_cell BK102.out 2).trans rfl, (blk_cell BK101.out 0).trans rfl, (blk_cell BK101.out 1).trans rfl, (blk_cell BK101.out 2).trans rfl, (blk_cell BK103.out 0).trans rfl, (blk_cell BK103.out 1).trans rfl, (blk_cell BK103.out 2).trans rfl⟩ (fun hHeld => ?_)
              clear hK K
              refine norm_ (a' := ?_) ?_ ?_
              rotate_left
              · show Act.put _ (some 50) _ = _
                simp only [Act.put, List.setIfInBounds_toArray, List.set_cons_zero, List.set_cons_succ, i64_w, i32_w]
                rfl
              refine one_ (i := 36) (N := some 53) (lb 41 137438953471) rfl rfl (one_of HT_.out (by kernel_rfl)) (by decide) (fun K hK => ?_)
              refine goes_ Try.func21 (by kernel_rfl) rfl #[.bool a0_2] (by rfl) rfl rfl (by (try simp only [List.map_toArray, List.map_cons, List.map_nil]); first | done | rfl | (simp only [List.length_drop, List.length_take]; rfl)) ?_
              with_reducible refine (addr_Width.calls a0_2 t110 _ A31.out).mono ?_
              rintro e w' ⟨rfl, ⟨nd, rfl⟩⟩
              refine ⟨_, rfl, ?_⟩
              refine hK.out _ _ ⟨(blk_cell BK102.out 0).trans rfl, (blk_cell BK102.out 1).trans rfl, (blk_cell BK102.out 2).trans rfl, (blk_cell BK101.out 0).trans rfl, (blk_cell BK101.out 1).trans rfl, (blk_cell BK101.out 2).trans rfl, (blk_cell BK103.out 0).trans rfl, (blk_cell BK103.out 1).trans rfl, (blk_cell BK103.out 2).trans rfl⟩ (fun hHeld => ?_)
              clear hK K
              refine norm_ (a' := ?_) ?_ ?_
              rotate_left
              · show Act.put _ (some 53) _ = _
                simp only [Act.put, List.setIfInBounds_toArray, List.set_cons_zero, List.set_cons_succ, i64_w, i32_w]
                rfl
              refine pure_ (i := 37) (N := some 54) (v := ?_) (a' := ?_) (lb 41 274877906943) rfl rfl (any_of HT_.out (by kernel_rfl)) (fun _ _ _ h => h) (Or.inl ⟨by rfl, ?_⟩) ?_ ?_
              rotate_left
              · intro w'
                go_simp
                with_reducible rfl
              rotate_left
              · simp only [Act.put, List.setIfInBounds_toArray, List.set_cons_zero, List.set_cons_succ, i64_w, i32_w]
                rfl
              refine pure_ (i := 38) (N := some 55) (v := ?_) (a' := ?_) (lb 41 549755813887) rfl rfl (any_of HT_.out (by kernel_rfl)) (fun _ _ _ h => h) (Or.inl ⟨by rfl, ?_⟩) ?_ ?_
              rotate_left
              · intro w'
                go_simp
                with_reducible rfl
              rotate_left
              · simp only [Act.put, List.setIfInBounds_toArray, List.set_cons_zero, List.set_cons_succ, i64_w, i32_w]
                rfl
              refine pure_ (i := 39) (N := some 56) (v := ?_) (a' := ?_) (lb 41 1099511627775) rfl rfl (any_of HT_.out (by kernel_rfl)) (fun _ _ _ h => h) (Or.inl ⟨by rfl, ?_⟩) ?_ ?_
              rotate_left
              · intro w'
                go_simp
                with_reducible rfl
              rotate_left
              · simp only [Act.put, List.setIfInBounds_toArray, List.set_cons_zero, List.set_cons_succ, i64_w, i32_w]
                rfl
              refine pure_ (i := 40) (N := some 57) (v := ?_) (a' := ?_) (lb 41 2199023255551) rfl rfl (any_of HT_.out (by kernel_rfl)) (fun _ _ _ h => h) (Or.inl ⟨by rfl, ?_⟩) ?_ ?_
              rotate_left
              · intro w'
                go_simp
                with_reducible rfl
              rotate_left
              · simp only [Act.put, List.setIfInBounds_toArray, List.set_cons_zero, List.set_cons_succ, i64_w, i32_w]
                rfl
              refine done_ (done_of HT_.out (by kernel_rfl)) ?_
              try go_wp2
              go_meet
              case rel => exact ⟨_, (((t105 == 0) != (t109 == t110))), (by first | rfl | (simp; done) | (simp [*]; done)), H', ⟨by first | omega | exact Nat.le_refl _⟩, ⟨by (with_reducible repeat (first | refine blk_drewN ?_ _ | refine blk_drew ?_ | refine blk_alloc ?_ _)); exact BK101.out⟩, ⟨by (with_reducible repeat (first | refine blk_drewN ?_ _ | refine blk_drew ?_ | refine blk_alloc ?_ _)); exact BK102.out⟩, ⟨by (with_reducible repeat (first | refine blk_drewN ?_ _ | refine blk_drew ?_ | refine blk_alloc ?_ _)); exact BK103.out⟩, ⟨by repeat (first | (with_reducible first | exact HB.out | apply below_alloc | apply pw_below_drewN | apply below_drew1 | refine below_set ?_ GE101.out | refine below_set ?_ GE102.out | refine below_set ?_ GE103.out) | exact HB.out)⟩⟩
            · rw [if_neg c29] at H
              have c29b0 : (a0_2 == a1_2) = false := by simpa using c29
              (try (have c29b1 : decide (a0_2 = a1_2) = false := by simpa using c29))
              (try (have c29b2 : (a0_2 == a1_2) = false := by simpa using c29))
              (try (have c29b3 : ¬ (a0_2 = a1_2) := by simpa using c29))
              clear c29
              have H' := Aside0.mk H
              clear H
              try go_wp2
              have n0_ := Aside0.mk (blk_drew BK101.out)
              have n1_ := Aside0.mk (blk_drew BK102.out)
              have n2_ := Aside0.mk (blk_drew BK103.out)
              have n3_ := Aside0.mk (below_drew1 HB.out)
              clear BK101
              clear BK102
              clear BK103
              clear HB
              have BK101 := n0_
              have BK102 := n1_
              have BK103 := n2_
              have HB := n3_
              clear n0_ n1_ n2_ n3_
              refine start_ (n := 41) (S := fun w' => w'.cell? ⟨gb102, 0, none⟩ = some (.int .u64 a1_0) ∧ w'.cell? ⟨gb102, 1, none⟩ = some (.int .u64 a1_1) ∧ w'.cell? ⟨gb102, 2, none⟩ = some (.bool a1_2) ∧ w'.cell? ⟨gb101, 0, none⟩ = some (.int .u64 a0_0) ∧ w'.cell? ⟨gb101, 1, none⟩ = some (.int .u64 a0_1) ∧ w'.cell? ⟨gb101, 2, none⟩ = some (.bool a0_2) ∧ w'.cell? ⟨gb103, 0, none⟩ = some (.int .u64 a2_0) ∧ w'.cell? ⟨gb103, 1, none⟩ = some (.int .u64 a2_1) ∧ w'.cell? ⟨gb103, 2, none⟩ = some (.bool a2_2)) (ds := []) #[false, false, false, false, false, false, false, false, false, false, false, false, false, false, false, false, false, false, false, false, false, false, false, false, false, false, false, false, false, false, false, false, false, false, false, false, false, false, false, false, false] (by kernel_rfl) rfl rfl ⟨(blk_cell BK102.out 0).trans rfl, (blk_cell BK102.out 1).trans rfl, (blk_cell BK102.out 2).trans rfl, (blk_cell BK101.out 0).trans rfl, (blk_cell BK101.out 1).trans rfl, (blk_cell BK101.out 2).trans rfl, (blk_cell BK103.out 0).trans rfl, (blk_cell BK103.out 1).trans rfl, (blk_cell BK103.out 2).trans rfl⟩ (fun hHeld => ?_); refine with_tabW kedgelaw01_AddrOrder.tab3 kedgelaw01_AddrOrder.bits3 (fun HT_ HW_ => ?_)
              generalize w17.drew = w37 at BK101 BK102 BK103 HB hHeld ⊢
              refine pure_ (i := 0) (N := some 17) (v := ?_) (a' := ?_) (lb 41 1) rfl rfl (any_of HT_.out (by kernel_rfl)) (fun _ _ _ h => h) (Or.inl ⟨by rfl, ?_⟩) ?_ ?_
              rotate_left
              · intro w'
                go_simp
                with_reducible rfl
              rotate_left
              · simp only [Act.put, List.setIfInBounds_toArray, List.set_cons_zero, List.set_cons_succ, i64_w, i32_w]
                rfl
              refine take_ (i := 1) (N := some 18) (v := ?_) (a' := ?_) (lb 41 3) rfl rfl (take_ofW HT_.out HW_.out (by kernel_rfl)) (fun _ _ _ h => h) (Or.inl ⟨by rfl, ?_⟩) hHeld ?_ ?_
              rotate_left
              · rintro w' ⟨s0, s1, s2, s3, s4, s5, s6, s7, s8⟩
                go_simp
                with_reducible rfl
              rotate_left
              · simp only [Act.put, List.setIfInBounds_toArray, List.set_cons_zero, List.set_cons_succ, i64_w, i32_w]
                rfl
              refine take_ (i := 2) (N := some 19) (v := ?_) (a' := ?_) (lb 41 7) rfl rfl (take_ofW HT_.out HW_.out (by kernel_rfl)) (fun _ _ _ h => h) (Or.inl ⟨by rfl, ?_⟩) hHeld ?_ ?_
              rotate_left
              · rintro w' ⟨s0, s1, s2, s3, s4, s5, s6, s7, s8⟩
                go_simp
                with_reducible rfl
              rotate_left
              · simp only [Act.put, List.setIfInBounds_toArray, List.set_cons_zero, List.set_cons_succ, i64_w, i32_w]
                rfl
              refine one_ (i := 3) (N := some 20) (lb 41 15) rfl rfl (one_of HT_.out (by kernel_rfl)) (by decide) (fun K hK => ?_)
              refine goes_ Try.func29 (by kernel_rfl) rfl #[.agg #[.int .u64 a1_0, .int .u64 a1_1, .bool a1_2], .agg #[.int .u64 a0_0, .int .u64 a0_1, .bool a0_2]] (by rfl) rfl rfl (by (try simp only [List.map_toArray, List.map_cons, List.map_nil]); first | done | rfl | (simp only [List.length_drop, List.length_take]; rfl)) ?_
              with_reducible refine (addr_Compare.calls a1_0 a1_1 a1_2 a0_0 a0_1 a0_2 t106 _ A18.out).mono ?_
              rintro e w38 ⟨rfl, hb⟩
              refine ⟨_, rfl, ?_⟩
              have n0_ := Aside0.mk (blk_below (g := gb101) (o := .cells #[.int .u64 a0_0, .int .u64 a0_1, .bool a0_2] 24 (0, 0)) (by (with_reducible repeat (first | refine blk_drewN ?_ _ | refine blk_drew ?_ | refine blk_alloc ?_ _)); exact BK101.out) hb)
              have n1_ := Aside0.mk (blk_below (g := gb102) (o := .cells #[.int .u64 a1_0, .int .u64 a1_1, .bool a1_2] 24 (0, 0)) (by (with_reducible repeat (first | refine blk_drewN ?_ _ | refine blk_drew ?_ | refine blk_alloc ?_ _)); exact BK102.out) hb)
              have n2_ := Aside0.mk (blk_below (g := gb103) (o := .cells #[.int .u64 a2_0, .int .u64 a2_1, .bool a2_2] 24 (0, 0)) (by (with_reducible repeat (first | refine blk_drewN ?_ _ | refine blk_drew ?_ | refine blk_alloc ?_ _)); exact BK103.out) hb)
              have n3_ := Aside0.mk (below_step (by repeat (first | (with_reducible first | exact HB.out | apply below_alloc | apply pw_below_drewN | apply below_drew1 | refine below_set ?_ GE101.out | refine below_set ?_ GE102.out | refine below_set ?_ GE103.out) | exact HB.out)) hb)
              clear BK101
              clear BK102
              clear BK103
              clear HB
              have BK101 := n0_
              have BK102 := n1_
              have BK103 := n2_
              have HB := n3_
              clear n0_ n1_ n2_ n3_
              (try clear hb)
              (try clear hb2)
              (try clear hk)
              (try clear hi)
              refine hK.out _ _ ⟨(blk_cell BK102.out 0).trans rfl, (blk_cell BK102.out 1).trans rfl, (blk_cell BK102.out 2).trans rfl, (blk_cell BK101.out 0).trans rfl, (blk_cell BK101.out 1).trans rfl, (blk_cell BK101.out 2).trans rfl, (blk_cell BK103.out 0).trans rfl, (blk_cell BK103.out 1).trans rfl, (blk_cell BK103.out 2).trans rfl⟩ (fun hHeld => ?_)
              clear hK K
              refine norm_ (a' := ?_) ?_ ?_
              rotate_left
              · show Act.put _ (some 20) _ = _
                simp only [Act.put, List.setIfInBounds_toArray, List.set_cons_zero, List.set_cons_succ, i64_w, i32_w]
                rfl
              refine pure_ (i := 4) (N := some 21) (v := ?_) (a' := ?_) (lb 41 31) rfl rfl (any_of HT_.out (by kernel_rfl)) (fun _ _ _ h => h) (Or.inl ⟨by rfl, ?_⟩) ?_ ?_
              rotate_left
              · intro w'
                go_simp
                with_reducible rfl
              rotate_left
              · simp only [Act.put, List.setIfInBounds_toArray, List.set_cons_zero, List.set_cons_succ, i64_w, i32_w]
                rfl
              refine pure_ (i := 5) (N := some 22) (v := ?_) (a' := ?_) (lb 41 63) rfl rfl (any_of HT_.out (by kernel_rfl)) (fun _ _ _ h => h) (Or.inl ⟨by rfl, ?_⟩) ?_ ?_
              rotate_left
              · intro w'
                go_simp
                with_reducible rfl
              rotate_left
              · simp only [Act.put, List.setIfInBounds_toArray, List.set_cons_zero, List.set_cons_succ, i64_w, i32_w]
                rfl
              refine pure_ (i := 6) (N := some 23) (v := ?_) (a' := ?_) (lb 41 127) rfl rfl (any_of HT_.out (by kernel_rfl)) (fun _ _ _ h => h) (Or.inl ⟨by rfl, ?_⟩) ?_ ?_
              rotate_left
              · intro w'
                go_simp
                with_reducible rfl
              rotate_left
              · simp only [Act.put, List.setIfInBounds_toArray, List.set_cons_zero, List.set_cons_succ, i64_w, i32_w]
                rfl
              refine pure_ (i := 7) (N := some 24) (v := ?_) (a' := ?_) (lb 41 255) rfl rfl (any_of HT_.out (by kernel_rfl)) (fun _ _ _ h => h) (Or.inl ⟨by rfl, ?_⟩) ?_ ?_
              rotate_left
              · intro w'
                go_simp
                with_reducible rfl
              rotate_left
              · simp only [Act.put, List.setIfInBounds_toArray, List.set_cons_zero, List.set_cons_succ, i64_w, i32_w]
                rfl
              refine pure_ (i := 8) (N := some 25) (v := ?_) (a' := ?_) (lb 41 511) rfl rfl (any_of HT_.out (by kernel_rfl)) (fun _ _ _ h => h) (Or.inl ⟨by rfl, ?_⟩) ?_ ?_
              rotate_left
              · intro w'
                go_simp
                with_reducible rfl
              rotate_left
              · simp only [Act.put, List.setIfInBounds_toArray, List.set_cons_zero, List.set_cons_succ, i64_w, i32_w]
                rfl
              refine pure_ (i := 9) (N := some 26) (v := ?_) (a' := ?_) (lb 41 1023) rfl rfl (any_of HT_.out (by kernel_rfl)) (fun _ _ _ h => h) (Or.inl ⟨by rfl, ?_⟩) ?_ ?_
              rotate_left
              · intro w'
                go_simp
                with_reducible rfl
              rotate_left
              · simp only [Act.put, List.setIfInBounds_toArray, List.set_cons_zero, List.set_cons_succ, i64_w, i32_w]
                rfl
              refine take_ (i := 10) (N := some 27) (v := ?_) (a' := ?_) (lb 41 2047) rfl rfl (take_ofW HT_.out HW_.out (by kernel_rfl)) (fun _ _ _ h => h) (Or.inl ⟨by rfl, ?_⟩) hHeld ?_ ?_
              rotate_left
              · rintro w' ⟨s0, s1, s2, s3, s4, s5, s6, s7, s8⟩
                go_simp
                with_reducible rfl
              rotate_left
              · simp only [Act.put, List.setIfInBounds_toArray, List.set_cons_zero, List.set_cons_succ, i64_w, i32_w]
                rfl
              refine take_ (i := 11) (N := some 28) (v := ?_) (a' := ?_) (lb 41 4095) rfl rfl (take_ofW HT_.out HW_.out (by kernel_rfl)) (fun _ _ _ h => h) (Or.inl ⟨by rfl, ?_⟩) hHeld ?_ ?_
              rotate_left
              · rintro w' ⟨s0, s1, s2, s3, s4, s5, s6, s7, s8⟩
                go_simp
                with_reducible rfl
              rotate_left
              · simp only [Act.put, List.setIfInBounds_toArray, List.set_cons_zero, List.set_cons_succ, i64_w, i32_w]
                rfl
              refine one_ (i := 12) (N := some 29) (lb 41 8191) rfl rfl (one_of HT_.out (by kernel_rfl)) (by decide) (fun K hK => ?_)
              refine goes_ Try.func29 (by kernel_rfl) rfl #[.agg #[.int .u64 a1_0, .int .u64 a1_1, .bool a1_2], .agg #[.int .u64 a2_0, .int .u64 a2_1, .bool a2_2]] (by rfl) rfl rfl (by (try simp only [List.map_toArray, List.map_cons, List.map_nil]); first | done | rfl | (simp only [List.length_drop, List.length_take]; rfl)) ?_
              with_reducible refine (addr_Compare.calls a1_0 a1_1 a1_2 a2_0 a2_1 a2_2 t107 _ A21.out).mono ?_
              rintro e w39 ⟨rfl, hb⟩
              refine ⟨_, rfl, ?_⟩
              have n0_ := Aside0.mk (blk_below (g := gb101) (o := .cells #[.int .u64 a0_0, .int .u64 a0_1, .bool a0_2] 24 (0, 0)) (by (with_reducible repeat (first | refine blk_drewN ?_ _ | refine blk_drew ?_ | refine blk_alloc ?_ _)); exact BK101.out) hb)
              have n1_ := Aside0.mk (blk_below (g := gb102) (o := .cells #[.int .u64 a1_0, .int .u64 a1_1, .bool a1_2] 24 (0, 0)) (by (with_reducible repeat (first | refine blk_drewN ?_ _ | refine blk_drew ?_ | refine blk_alloc ?_ _)); exact BK102.out) hb)
              have n2_ := Aside0.mk (blk_below (g := gb103) (o := .cells #[.int .u64 a2_0, .int .u64 a2_1, .bool a2_2] 24 (0, 0)) (by (with_reducible repeat (first | refine blk_drewN ?_ _ | refine blk_drew ?_ | refine blk_alloc ?_ _)); exact BK103.out) hb)
              have n3_ := Aside0.mk (below_step (by repeat (first | (with_reducible first | exact HB.out | apply below_alloc | apply pw_below_drewN | apply below_drew1 | refine below_set ?_ GE101.out | refine below_set ?_ GE102.out | refine below_set ?_ GE103.out) | exact HB.out)) hb)
              clear BK101
              clear BK102
              clear BK103
              clear HB
              have BK101 := n0_
              have BK102 := n1_
              have BK103 := n2_
              have HB := n3_
              clear n0_ n1_ n2_ n3_
              (try clear hb)
              (try clear hb2)
              (try clear hk)
              (try clear hi)
              refine hK.out _ _ ⟨(blk_cell BK102.out 0).trans rfl, (blk_cell BK102.out 1).trans rfl, (blk_cell BK102.out 2).trans rfl, (blk_cell BK101.out 0).trans rfl, (blk_cell BK101.out 1).trans rfl, (blk_cell BK101.out 2).trans rfl, (blk_cell BK103.out 0).trans rfl, (blk_cell BK103.out 1).trans rfl, (blk_cell BK103.out 2).trans rfl⟩ (fun hHeld => ?_)
              clear hK K
              refine norm_ (a' := ?_) ?_ ?_
              rotate_left
              · show Act.put _ (some 29) _ = _
                simp only [Act.put, List.setIfInBounds_toArray, List.set_cons_zero, List.set_cons_succ, i64_w, i32_w]
                rfl
              refine pure_ (i := 13) (N := some 30) (v := ?_) (a' := ?_) (lb 41 16383) rfl rfl (any_of HT_.out (by kernel_rfl)) (fun _ _ _ h => h) (Or.inl ⟨by rfl, ?_⟩) ?_ ?_
              rotate_left
              · intro w'
                go_simp
                with_reducible rfl
              rotate_left
              · simp only [Act.put, List.setIfInBounds_toArray, List.set_cons_zero, List.set_cons_succ, i64_w, i32_w]
                rfl
              refine pure_ (i := 14) (N := some 31) (v := ?_) (a' := ?_) (lb 41 32767) rfl rfl (any_of HT_.out (by kernel_rfl)) (fun _ _ _ h => h) (Or.inl ⟨by rfl, ?_⟩) ?_ ?_
              rotate_left
              · intro w'
                go_simp
                with_reducible rfl
              rotate_left
              · simp only [Act.put, List.setIfInBounds_toArray, List.set_cons_zero, List.set_cons_succ, i64_w, i32_w]
                rfl
              refine pure_ (i := 15) (N := some 32) (v := ?_) (a' := ?_) (lb 41 65535) rfl rfl (any_of HT_.out (by kernel_rfl)) (fun _ _ _ h => h) (Or.inl ⟨by rfl, ?_⟩) ?_ ?_
              rotate_left
              · intro w'
                go_simp
                with_reducible rfl
              rotate_left
              · simp only [Act.put, List.setIfInBounds_toArray, List.set_cons_zero, List.set_cons_succ, i64_w, i32_w]
                rfl
              refine take_ (i := 16) (N := some 33) (v := ?_) (a' := ?_) (lb 41 131071) rfl rfl (take_ofW HT_.out HW_.out (by kernel_rfl)) (fun _ _ _ h => h) (Or.inl ⟨by rfl, ?_⟩) hHeld ?_ ?_
              rotate_left
              · rintro w' ⟨s0, s1, s2, s3, s4, s5, s6, s7, s8⟩
                go_simp
                with_reducible rfl
              rotate_left
              · simp only [Act.put, List.setIfInBounds_toArray, List.set_cons_zero, List.set_cons_succ, i64_w, i32_w]
                rfl
              refine take_ (i := 17) (N := some 34) (v := ?_) (a' := ?_) (lb 41 262143) rfl rfl (take_ofW HT_.out HW_.out (by kernel_rfl)) (fun _ _ _ h => h) (Or.inl ⟨by rfl, ?_⟩) hHeld ?_ ?_
              rotate_left
              · rintro w' ⟨s0, s1, s2, s3, s4, s5, s6, s7, s8⟩
                go_simp
                with_reducible rfl
              rotate_left
              · simp only [Act.put, List.setIfInBounds_toArray, List.set_cons_zero, List.set_cons_succ, i64_w, i32_w]
                rfl
              refine one_ (i := 18) (N := some 35) (lb 41 524287) rfl rfl (one_of HT_.out (by kernel_rfl)) (by decide) (fun K hK => ?_)
              refine goes_ Try.func29 (by kernel_rfl) rfl #[.agg #[.int .u64 a0_0, .int .u64 a0_1, .bool a0_2], .agg #[.int .u64 a2_0, .int .u64 a2_1, .bool a2_2]] (by rfl) rfl rfl (by (try simp only [List.map_toArray, List.map_cons, List.map_nil]); first | done | rfl | (simp only [List.length_drop, List.length_take]; rfl)) ?_
              with_reducible refine (addr_Compare.calls a0_0 a0_1 a0_2 a2_0 a2_1 a2_2 t108 _ A23.out).mono ?_
              rintro e w40 ⟨rfl, hb⟩
              refine ⟨_, rfl, ?_⟩
              have n0_ := Aside0.mk (blk_below (g := gb101) (o := .cells #[.int .u64 a0_0, .int .u64 a0_1, .bool a0_2] 24 (0, 0)) (by (with_reducible repeat (first | refine blk_drewN ?_ _ | refine blk_drew ?_ | refine blk_alloc ?_ _)); exact BK101.out) hb)
              have n1_ := Aside0.mk (blk_below (g := gb102) (o := .cells #[.int .u64 a1_0, .int .u64 a1_1, .bool a1_2] 24 (0, 0)) (by (with_reducible repeat (first | refine blk_drewN ?_ _ | refine blk_drew ?_ | refine blk_alloc ?_ _)); exact BK102.out) hb)
              have n2_ := Aside0.mk (blk_below (g := gb103) (o := .cells #[.int .u64 a2_0, .int .u64 a2_1, .bool a2_2] 24 (0, 0)) (by (with_reducible repeat (first | refine blk_drewN ?_ _ | refine blk_drew ?_ | refine blk_alloc ?_ _)); exact BK103.out) hb)
              have n3_ := Aside0.mk (below_step (by repeat (first | (with_reducible first | exact HB.out | apply below_alloc | apply pw_below_drewN | apply below_drew1 | refine below_set ?_ GE101.out | refine below_set ?_ GE102.out | refine below_set ?_ GE103.out) | exact HB.out)) hb)
              clear BK101
              clear BK102
              clear BK103
              clear HB
              have BK101 := n0_
              have BK102 := n1_
              have BK103 := n2_
              have HB := n3_
              clear n0_ n1_ n2_ n3_
              (try clear hb)
              (try clear hb2)
              (try clear hk)
              (try clear hi)
              refine hK.out _ _ ⟨(blk_cell BK102.out 0).trans rfl, (blk_cell BK102.out 1).trans rfl, (blk_cell BK102.out 2).trans rfl, (blk_cell BK101.out 0).trans rfl, (blk_cell BK101.out 1).trans rfl, (blk_cell BK101.out 2).trans rfl, (blk_cell BK103.out 0).trans rfl, (blk_cell BK103.out 1).trans rfl, (blk_cell BK103.out 2).trans rfl⟩ (fun hHeld => ?_)
              clear hK K
              refine norm_ (a' := ?_) ?_ ?_
              rotate_left
              · show Act.put _ (some 35) _ = _
                simp only [Act.put, List.setIfInBounds_toArray, List.set_cons_zero, List.set_cons_succ, i64_w, i32_w]
                rfl
              refine pure_ (i := 19) (N := some 36) (v := ?_) (a' := ?_) (lb 41 1048575) rfl rfl (any_of HT_.out (by kernel_rfl)) (fun _ _ _ h => h) (Or.inl ⟨by rfl, ?_⟩) ?_ ?_
              rotate_left
              · intro w'
                go_simp
                with_reducible rfl
              rotate_left
              · simp only [Act.put, List.setIfInBounds_toArray, List.set_cons_zero, List.set_cons_succ, i64_w, i32_w]
                rfl
              refine pure_ (i := 20) (N := some 37) (v := ?_) (a' := ?_) (lb 41 2097151) rfl rfl (any_of HT_.out (by kernel_rfl)) (fun _ _ _ h => h) (Or.inl ⟨by rfl, ?_⟩) ?_ ?_
              rotate_left
              · intro w'
                go_simp
                with_reducible rfl
              rotate_left
              · simp only [Act.put, List.setIfInBounds_toArray, List.set_cons_zero, List.set_cons_succ, i64_w, i32_w]
                rfl
              refine pure_ (i := 21) (N := some 38) (v := ?_) (a' := ?_) (lb 41 4194303) rfl rfl (any_of HT_.out (by kernel_rfl)) (fun _ _ _ h => h) (Or.inl ⟨by rfl, ?_⟩) ?_ ?_
              rotate_left
              · intro w'
                go_simp
                with_reducible rfl
              rotate_left
              · simp only [Act.put, List.setIfInBounds_toArray, List.set_cons_zero, List.set_cons_succ, i64_w, i32_w]
                rfl
              refine pure_ (i := 22) (N := some 39) (v := ?_) (a' := ?_) (lb 41 8388607) rfl rfl (any_of HT_.out (by kernel_rfl)) (fun _ _ _ h => h) (Or.inl ⟨by rfl, ?_⟩) ?_ ?_
              rotate_left
              · intro w'
                go_simp
                with_reducible rfl
              rotate_left
              · simp only [Act.put, List.setIfInBounds_toArray, List.set_cons_zero, List.set_cons_succ, i64_w, i32_w]
                rfl
              refine pure_ (i := 23) (N := some 40) (v := ?_) (a' := ?_) (lb 41 16777215) rfl rfl (any_of HT_.out (by kernel_rfl)) (fun _ _ _ h => h) (Or.inl ⟨by rfl, ?_⟩) ?_ ?_
              rotate_left
              · intro w'
                go_simp
                with_reducible rfl
              rotate_left
              · simp only [Act.put, List.setIfInBounds_toArray, List.set_cons_zero, List.set_cons_succ, i64_w, i32_w]
                rfl
              refine pure_ (i := 24) (N := some 41) (v := ?_) (a' := ?_) (lb 41 33554431) rfl rfl (any_of HT_.out (by kernel_rfl)) (fun _ _ _ h => h) (Or.inl ⟨by rfl, ?_⟩) ?_ ?_
              rotate_left
              · intro w'
                go_simp
                with_reducible rfl
              rotate_left
              · simp only [Act.put, List.setIfInBounds_toArray, List.set_cons_zero, List.set_cons_succ, i64_w, i32_w]
                rfl
              refine pure_ (i := 25) (N := some 42) (v := ?_) (a' := ?_) (lb 41 67108863) rfl rfl (any_of HT_.out (by kernel_rfl)) (fun _ _ _ h => h) (Or.inl ⟨by rfl, ?_⟩) ?_ ?_
              rotate_left
              · intro w'
                go_simp
                with_reducible rfl
              rotate_left
              · simp only [Act.put, List.setIfInBounds_toArray, List.set_cons_zero, List.set_cons_succ, i64_w, i32_w]
                rfl
              refine pure_ (i := 27) (N := some 44) (v := ?_) (a' := ?_) (lb 41 201326591) rfl rfl (any_of HT_.out (by kernel_rfl)) (fun _ _ _ h => h) (Or.inl ⟨by rfl, ?_⟩) ?_ ?_
              rotate_left
              · intro w'
                go_simp
                with_reducible rfl
              rotate_left
              · simp only [Act.put, List.setIfInBounds_toArray, List.set_cons_zero, List.set_cons_succ, i64_w, i32_w]
                rfl
              refine take_ (i := 26) (N := some 43) (v := ?_) (a' := ?_) (lb 41 268435455) rfl rfl (take_ofW HT_.out HW_.out (by kernel_rfl)) (fun _ _ _ h => h) (Or.inl ⟨by rfl, ?_⟩) hHeld ?_ ?_
              rotate_left
              · rintro w' ⟨s0, s1, s2, s3, s4, s5, s6, s7, s8⟩
                go_simp
                with_reducible rfl
              rotate_left
              · simp only [Act.put, List.setIfInBounds_toArray, List.set_cons_zero, List.set_cons_succ, i64_w, i32_w]
                rfl
              refine take_ (i := 28) (N := some 45) (v := ?_) (a' := ?_) (lb 41 536870911) rfl rfl (take_ofW HT_.out HW_.out (by kernel_rfl)) (fun _ _ _ h => h) (Or.inl ⟨by rfl, ?_⟩) hHeld ?_ ?_
              rotate_left
              · rintro w' ⟨s0, s1, s2, s3, s4, s5, s6, s7, s8⟩
                go_simp
                with_reducible rfl
              rotate_left
              · simp only [Act.put, List.setIfInBounds_toArray, List.set_cons_zero, List.set_cons_succ, i64_w, i32_w]
                rfl
              refine pure_ (i := 29) (N := some 46) (v := ?_) (a' := ?_) (lb 41 1073741823) rfl rfl (any_of HT_.out (by kernel_rfl)) (fun _ _ _ h => h) (Or.inl ⟨by rfl, ?_⟩) ?_ ?_
              rotate_left
              · intro w'
                go_simp
                with_reducible rfl
              rotate_left
              · simp only [Act.put, List.setIfInBounds_toArray, List.set_cons_zero, List.set_cons_succ, i64_w, i32_w]
                rfl
              refine pure_ (i := 30) (N := some 47) (v := ?_) (a' := ?_) (lb 41 2147483647) rfl rfl (any_of HT_.out (by kernel_rfl)) (fun _ _ _ h => h) (Or.inl ⟨by rfl, ?_⟩) ?_ ?_
              rotate_left
              · intro w'
                go_simp
                with_reducible rfl
              rotate_left
              · simp only [Act.put, List.setIfInBounds_toArray, List.set_cons_zero, List.set_cons_succ, i64_w, i32_w]
                rfl
              refine pure_ (i := 31) (N := some 48) (v := undef) (a' := ?_) (lb 41 4294967295) rfl rfl (any_of HT_.out (by kernel_rfl)) (fun _ _ _ h => h) (Or.inr ⟨by rfl, rfl⟩) ?_ ?_
              rotate_left
              · simp only [Act.put, List.setIfInBounds_toArray, List.set_cons_zero, List.set_cons_succ, i64_w, i32_w]
                rfl
              refine pure_ (i := 32) (N := some 49) (v := undef) (a' := ?_) (lb 41 8589934591) rfl rfl (any_of HT_.out (by kernel_rfl)) (fun _ _ _ h => h) (Or.inr ⟨by rfl, rfl⟩) ?_ ?_
              rotate_left
              · simp only [Act.put, List.setIfInBounds_toArray, List.set_cons_zero, List.set_cons_succ, i64_w, i32_w]
                rfl
              refine pure_ (i := 33) (N := some 50) (v := undef) (a' := ?_) (lb 41 17179869183) rfl rfl (any_of HT_.out (by kernel_rfl)) (fun _ _ _ h => h) (Or.inr ⟨by rfl, rfl⟩) ?_ ?_
              rotate_left
              · simp only [Act.put, List.setIfInBounds_toArray, List.set_cons_zero, List.set_cons_succ, i64_w, i32_w]
                rfl
              refine pure_ (i := 34) (N := some 51) (v := undef) (a' := ?_) (lb 41 34359738367) rfl rfl (any_of HT_.out (by kernel_rfl)) (fun _ _ _ h => h) (Or.inr ⟨by rfl, rfl⟩) ?_ ?_
              rotate_left
              · simp only [Act.put, List.setIfInBounds_toArray, List.set_cons_zero, List.set_cons_succ, i64_w, i32_w]
                rfl
              refine pure_ (i := 35) (N := some 52) (v := undef) (a' := ?_) (lb 41 68719476735) rfl rfl (any_of HT_.out (by kernel_rfl)) (fun _ _ _ h => h) (Or.inr ⟨by rfl, rfl⟩) ?_ ?_
              rotate_left
              · simp only [Act.put, List.setIfInBounds_toArray, List.set_cons_zero, List.set_cons_succ, i64_w, i32_w]
                rfl
              refine pure_ (i := 36) (N := some 53) (v := undef) (a' := ?_) (lb 41 137438953471) rfl rfl (any_of HT_.out (by kernel_rfl)) (fun _ _ _ h => h) (Or.inr ⟨by rfl, rfl⟩) ?_ ?_
              rotate_left
              · simp only [Act.put, List.setIfInBounds_toArray, List.set_cons_zero, List.set_cons_succ, i64_w, i32_w]
                rfl
              refine pure_ (i := 37) (N := some 54) (v := undef) (a' := ?_) (lb 41 274877906943) rfl rfl (any_of HT_.out (by kernel_rfl)) (fun _ _ _ h => h) (Or.inr ⟨by rfl, rfl⟩) ?_ ?_
              rotate_left
              · simp only [Act.put, List.setIfInBounds_toArray, List.set_cons_zero, List.set_cons_succ, i64_w, i32_w]
                rfl
              refine pure_ (i := 38) (N := some 55) (v := ?_) (a' := ?_) (lb 41 549755813887) rfl rfl (any_of HT_.out (by kernel_rfl)) (fun _ _ _ h => h) (Or.inl ⟨by rfl, ?_⟩) ?_ ?_
              rotate_left
              · intro w'
                go_simp
                with_reducible rfl
              rotate_left
              · simp only [Act.put, List.setIfInBounds_toArray, List.set_cons_zero, List.set_cons_succ, i64_w, i32_w]
                rfl
              refine pure_ (i := 39) (N := some 56) (v := ?_) (a' := ?_) (lb 41 1099511627775) rfl rfl (any_of HT_.out (by kernel_rfl)) (fun _ _ _ h => h) (Or.inl ⟨by rfl, ?_⟩) ?_ ?_
              rotate_left
              · intro w'
                go_simp
                with_reducible rfl
              rotate_left
              · simp only [Act.put, List.setIfInBounds_toArray, List.set_cons_zero, List.set_cons_succ, i64_w, i32_w]
                rfl
              refine pure_ (i := 40) (N := some 57) (v := ?_) (a' := ?_) (lb 41 2199023255551) rfl rfl (any_of HT_.out (by kernel_rfl)) (fun _ _ _ h => h) (Or.inl ⟨by rfl, ?_⟩) ?_ ?_
              rotate_left
              · intro w'
                go_simp
                with_reducible rfl
              rotate_left
              · simp only [Act.put, List.setIfInBounds_toArray, List.set_cons_zero, List.set_cons_succ, i64_w, i32_w]
                rfl
              refine done_ (done_of HT_.out (by kernel_rfl)) ?_
              try go_wp2
              go_meet
              case rel => exact ⟨_, (((t105 == 0) != false)), (by first | rfl | (simp; done) | (simp [*]; done)), H', ⟨by first | omega | exact Nat.le_refl _⟩, ⟨by (with_reducible repeat (first | refine blk_drewN ?_ _ | refine blk_drew ?_ | refine blk_alloc ?_ _)); exact BK101.out⟩, ⟨by (with_reducible repeat (first | refine blk_drewN ?_ _ | refine blk_drew ?_ | refine blk_alloc ?_ _)); exact BK102.out⟩, ⟨by (with_reducible repeat (first | refine blk_drewN ?_ _ | refine blk_drew ?_ | refine blk_alloc ?_ _)); exact BK103.out⟩, ⟨by repeat (first | (with_reducible first | exact HB.out | apply below_alloc | apply pw_below_drewN | apply below_drew1 | refine below_set ?_ GE101.out | refine below_set ?_ GE102.out | refine below_set ?_ GE103.out) | exact HB.out)⟩⟩
        · rw [if_neg c22] at H
          have c22b0 : decide (t107 ≤ 0) = false := decide_eq_false c22
          clear c22
          by_cases c41 : (a0_2 == a1_2) = true
          · rw [if_pos c41] at H
            have c41b0 : (a0_2 == a1_2) = true := c41
            (try (have c41b1 : decide (a0_2 = a1_2) = true := by simpa using c41))
            (try (have c41b2 : (a0_2 == a1_2) = true := by simpa using c41))
            clear c41
            replace H := Option.bind_eq_some_iff.mp H
            obtain ⟨t111, A420, H⟩ := H
            replace H : ((addr_Width.f a0_2).bind fun t112 => (kedgelaw01_AddrOrder.j0 k a3 t104 ((t105 == 0) != (t111 == t112)) a0_0 a0_1 a0_2)) = some r := H
            have A42 := Aside0.mk A420
            clear A420
            replace H := Option.bind_eq_some_iff.mp H
            obtain ⟨t112, A430, H⟩ := H
            replace H : (kedgelaw01_AddrOrder.j0 k a3 t104 ((t105 == 0) != (t111 == t112)) a0_0 a0_1 a0_2) = some r := H
            have A43 := Aside0.mk A430
            clear A430
            have H' := Aside0.mk H
            clear H
            try go_wp2
            have n0_ := Aside0.mk (blk_drew BK101.out)
            have n1_ := Aside0.mk (blk_drew BK102.out)
            have n2_ := Aside0.mk (blk_drew BK103.out)
            have n3_ := Aside0.mk (below_drew1 HB.out)
            clear BK101
            clear BK102
            clear BK103
            clear HB
            have BK101 := n0_
            have BK102 := n1_
            have BK103 := n2_
            have HB := n3_
            clear n0_ n1_ n2_ n3_
            refine start_ (n := 41) (S := fun w' => w'.cell? ⟨gb102, 0, none⟩ = some (.int .u64 a1_0) ∧ w'.cell? ⟨gb102, 1, none⟩ = some (.int .u64 a1_1) ∧ w'.cell? ⟨gb102, 2, none⟩ = some (.bool a1_2) ∧ w'.cell? ⟨gb101, 0, none⟩ = some (.int .u64 a0_0) ∧ w'.cell? ⟨gb101, 1, none⟩ = some (.int .u64 a0_1) ∧ w'.cell? ⟨gb101, 2, none⟩ = some (.bool a0_2) ∧ w'.cell? ⟨gb103, 0, none⟩ = some (.int .u64 a2_0) ∧ w'.cell? ⟨gb103, 1, none⟩ = some (.int .u64 a2_1) ∧ w'.cell? ⟨gb103, 2, none⟩ = some (.bool a2_2)) (ds := []) #[false, false, false, false, false, false, false, false, false, false, false, false, false, false, false, false, false, false, false, false, false, false, false, false, false, false, false, false, false, false, false, false, false, false, false, false, false, false, false, false, false] (by kernel_rfl) rfl rfl ⟨(blk_cell BK102.out 0).trans rfl, (blk_cell BK102.out 1).trans rfl, (blk_cell BK102.out 2).trans rfl, (blk_cell BK101.out 0).trans rfl, (blk_cell BK101.out 1).trans rfl, (blk_cell BK101.out 2).trans rfl, (blk_cell BK103.out 0).trans rfl, (blk_cell BK103.out 1).trans rfl, (blk_cell BK103.out 2).trans rfl⟩ (fun hHeld => ?_); refine with_tabW kedgelaw01_AddrOrder.tab3 kedgelaw01_AddrOrder.bits3 (fun HT_ HW_ => ?_)
            generalize w17.drew = w44 at BK101 BK102 BK103 HB hHeld ⊢
            refine pure_ (i := 0) (N := some 17) (v := ?_) (a' := ?_) (lb 41 1) rfl rfl (any_of HT_.out (by kernel_rfl)) (fun _ _ _ h => h) (Or.inl ⟨by rfl, ?_⟩) ?_ ?_
            rotate_left
            · intro w'
              go_simp
              with_reducible rfl
            rotate_left
            · simp only [Act.put, List.setIfInBounds_toArray, List.set_cons_zero, List.set_cons_succ, i64_w, i32_w]
              rfl
            refine take_ (i := 1) (N := some 18) (v := ?_) (a' := ?_) (lb 41 3) rfl rfl (take_ofW HT_.out HW_.out (by kernel_rfl)) (fun _ _ _ h => h) (Or.inl ⟨by rfl, ?_⟩) hHeld ?_ ?_
            rotate_left
            · rintro w' ⟨s0, s1, s2, s3, s4, s5, s6, s7, s8⟩
              go_simp
              with_reducible rfl
            rotate_left
            · simp only [Act.put, List.setIfInBounds_toArray, List.set_cons_zero, List.set_cons_succ, i64_w, i32_w]
              rfl
            refine take_ (i := 2) (N := some 19) (v := ?_) (a' := ?_) (lb 41 7) rfl rfl (take_ofW HT_.out HW_.out (by kernel_rfl)) (fun _ _ _ h => h) (Or.inl ⟨by rfl, ?_⟩) hHeld ?_ ?_
            rotate_left
            · rintro w' ⟨s0, s1, s2, s3, s4, s5, s6, s7, s8⟩
              go_simp
              with_reducible rfl
            rotate_left
            · simp only [Act.put, List.setIfInBounds_toArray, List.set_cons_zero, List.set_cons_succ, i64_w, i32_w]
              rfl
            refine one_ (i := 3) (N := some 20) (lb 41 15) rfl rfl (one_of HT_.out (by kernel_rfl)) (by decide) (fun K hK => ?_)
            refine goes_ Try.func29 (by kernel_rfl) rfl #[.agg #[.int .u64 a1_0, .int .u64 a1_1, .bool a1_2], .agg #[.int .u64 a0_0, .int .u64 a0_1, .bool a0_2]] (by rfl) rfl rfl (by (try simp only [List.map_toArray, List.map_cons, List.map_nil]); first | done | rfl | (simp only [List.length_drop, List.length_take]; rfl)) ?_
            with_reducible refine (addr_Compare.calls a1_0 a1_1 a1_2 a0_0 a0_1 a0_2 t106 _ A18.out).mono ?_
            rintro e w45 ⟨rfl, hb⟩
            refine ⟨_, rfl, ?_⟩
            have n0_ := Aside0.mk (blk_below (g := gb101) (o := .cells #[.int .u64 a0_0, .int .u64 a0_1, .bool a0_2] 24 (0, 0)) (by (with_reducible repeat (first | refine blk_drewN ?_ _ | refine blk_drew ?_ | refine blk_alloc ?_ _)); exact BK101.out) hb)
            have n1_ := Aside0.mk (blk_below (g := gb102) (o := .cells #[.int .u64 a1_0, .int .u64 a1_1, .bool a1_2] 24 (0, 0)) (by (with_reducible repeat (first | refine blk_drewN ?_ _ | refine blk_drew ?_ | refine blk_alloc ?_ _)); exact BK102.out) hb)
            have n2_ := Aside0.mk (blk_below (g := gb103) (o := .cells #[.int .u64 a2_0, .int .u64 a2_1, .bool a2_2] 24 (0, 0)) (by (with_reducible repeat (first | refine blk_drewN ?_ _ | refine blk_drew ?_ | refine blk_alloc ?_ _)); exact BK103.out) hb)
            have n3_ := Aside0.mk (below_step (by repeat (first | (with_reducible first | exact HB.out | apply below_alloc | apply pw_below_drewN | apply below_drew1 | refine below_set ?_ GE101.out | refine below_set ?_ GE102.out | refine below_set ?_ GE103.out) | exact HB.out)) hb)
            clear BK101
            clear BK102
            clear BK103
            clear HB
            have BK101 := n0_
            have BK102 := n1_
            have BK103 := n2_
            have HB := n3_
            clear n0_ n1_ n2_ n3_
            (try clear hb)
            (try clear hb2)
            (try clear hk)
            (try clear hi)
            refine hK.out _ _ ⟨(blk_cell BK102.out 0).trans rfl, (blk_cell BK102.out 1).trans rfl, (blk_cell BK102.out 2).trans rfl, (blk_cell BK101.out 0).trans rfl, (blk_cell BK101.out 1).trans rfl, (blk_cell BK101.out 2).trans rfl, (blk_cell BK103.out 0).trans rfl, (blk_cell BK103.out 1).trans rfl, (blk_cell BK103.out 2).trans rfl⟩ (fun hHeld => ?_)
            clear hK K
            refine norm_ (a' := ?_) ?_ ?_
            rotate_left
            · show Act.put _ (some 20) _ = _
              simp only [Act.put, List.setIfInBounds_toArray, List.set_cons_zero, List.set_cons_succ, i64_w, i32_w]
              rfl
            refine pure_ (i := 4) (N := some 21) (v := ?_) (a' := ?_) (lb 41 31) rfl rfl (any_of HT_.out (by kernel_rfl)) (fun _ _ _ h => h) (Or.inl ⟨by rfl, ?_⟩) ?_ ?_
            rotate_left
            · intro w'
              go_simp
              with_reducible rfl
            rotate_left
            · simp only [Act.put, List.setIfInBounds_toArray, List.set_cons_zero, List.set_cons_succ, i64_w, i32_w]
              rfl
            refine pure_ (i := 5) (N := some 22) (v := ?_) (a' := ?_) (lb 41 63) rfl rfl (any_of HT_.out (by kernel_rfl)) (fun _ _ _ h => h) (Or.inl ⟨by rfl, ?_⟩) ?_ ?_
            rotate_left
            · intro w'
              go_simp
              with_reducible rfl
            rotate_left
            · simp only [Act.put, List.setIfInBounds_toArray, List.set_cons_zero, List.set_cons_succ, i64_w, i32_w]
              rfl
            refine pure_ (i := 6) (N := some 23) (v := ?_) (a' := ?_) (lb 41 127) rfl rfl (any_of HT_.out (by kernel_rfl)) (fun _ _ _ h => h) (Or.inl ⟨by rfl, ?_⟩) ?_ ?_
            rotate_left
            · intro w'
              go_simp
              with_reducible rfl
            rotate_left
            · simp only [Act.put, List.setIfInBounds_toArray, List.set_cons_zero, List.set_cons_succ, i64_w, i32_w]
              rfl
            refine pure_ (i := 7) (N := some 24) (v := ?_) (a' := ?_) (lb 41 255) rfl rfl (any_of HT_.out (by kernel_rfl)) (fun _ _ _ h => h) (Or.inl ⟨by rfl, ?_⟩) ?_ ?_
            rotate_left
            · intro w'
              go_simp
              with_reducible rfl
            rotate_left
            · simp only [Act.put, List.setIfInBounds_toArray, List.set_cons_zero, List.set_cons_succ, i64_w, i32_w]
              rfl
            refine pure_ (i := 8) (N := some 25) (v := ?_) (a' := ?_) (lb 41 511) rfl rfl (any_of HT_.out (by kernel_rfl)) (fun _ _ _ h => h) (Or.inl ⟨by rfl, ?_⟩) ?_ ?_
            rotate_left
            · intro w'
              go_simp
              with_reducible rfl
            rotate_left
            · simp only [Act.put, List.setIfInBounds_toArray, List.set_cons_zero, List.set_cons_succ, i64_w, i32_w]
              rfl
            refine pure_ (i := 9) (N := some 26) (v := ?_) (a' := ?_) (lb 41 1023) rfl rfl (any_of HT_.out (by kernel_rfl)) (fun _ _ _ h => h) (Or.inl ⟨by rfl, ?_⟩) ?_ ?_
            rotate_left
            · intro w'
              go_simp
              with_reducible rfl
            rotate_left
            · simp only [Act.put, List.setIfInBounds_toArray, List.set_cons_zero, List.set_cons_succ, i64_w, i32_w]
              rfl
            refine take_ (i := 10) (N := some 27) (v := ?_) (a' := ?_) (lb 41 2047) rfl rfl (take_ofW HT_.out HW_.out (by kernel_rfl)) (fun _ _ _ h => h) (Or.inl ⟨by rfl, ?_⟩) hHeld ?_ ?_
            rotate_left
            · rintro w' ⟨s0, s1, s2, s3, s4, s5, s6, s7, s8⟩
              go_simp
              with_reducible rfl
            rotate_left
            · simp only [Act.put, List.setIfInBounds_toArray, List.set_cons_zero, List.set_cons_succ, i64_w, i32_w]
              rfl
            refine take_ (i := 11) (N := some 28) (v := ?_) (a' := ?_) (lb 41 4095) rfl rfl (take_ofW HT_.out HW_.out (by kernel_rfl)) (fun _ _ _ h => h) (Or.inl ⟨by rfl, ?_⟩) hHeld ?_ ?_
            rotate_left
            · rintro w' ⟨s0, s1, s2, s3, s4, s5, s6, s7, s8⟩
              go_simp
              with_reducible rfl
            rotate_left
            · simp only [Act.put, List.setIfInBounds_toArray, List.set_cons_zero, List.set_cons_succ, i64_w, i32_w]
              rfl
            refine one_ (i := 12) (N := some 29) (lb 41 8191) rfl rfl (one_of HT_.out (by kernel_rfl)) (by decide) (fun K hK => ?_)
            refine goes_ Try.func29 (by kernel_rfl) rfl #[.agg #[.int .u64 a1_0, .int .u64 a1_1, .bool a1_2], .agg #[.int .u64 a2_0, .int .u64 a2_1, .bool a2_2]] (by rfl) rfl rfl (by (try simp only [List.map_toArray, List.map_cons, List.map_nil]); first | done | rfl | (simp only [List.length_drop, List.length_take]; rfl)) ?_
            with_reducible refine (addr_Compare.calls a1_0 a1_1 a1_2 a2_0 a2_1 a2_2 t107 _ A21.out).mono ?_
            rintro e w46 ⟨rfl, hb⟩
            refine ⟨_, rfl, ?_⟩
            have n0_ := Aside0.mk (blk_below (g := gb101) (o := .cells #[.int .u64 a0_0, .int .u64 a0_1, .bool a0_2] 24 (0, 0)) (by (with_reducible repeat (first | refine blk_drewN ?_ _ | refine blk_drew ?_ | refine blk_alloc ?_ _)); exact BK101.out) hb)
            have n1_ := Aside0.mk (blk_below (g := gb102) (o := .cells #[.int .u64 a1_0, .int .u64 a1_1, .bool a1_2] 24 (0, 0)) (by (with_reducible repeat (first | refine blk_drewN ?_ _ | refine blk_drew ?_ | refine blk_alloc ?_ _)); exact BK102.out) hb)
            have n2_ := Aside0.mk (blk_below (g := gb103) (o := .cells #[.int .u64 a2_0, .int .u64 a2_1, .bool a2_2] 24 (0, 0)) (by (with_reducible repeat (first | refine blk_drewN ?_ _ | refine blk_drew ?_ | refine blk_alloc ?_ _)); exact BK103.out) hb)
            have n3_ := Aside0.mk (below_step (by repeat (first | (with_reducible first | exact HB.out | apply below_alloc | apply pw_below_drewN | apply below_drew1 | refine below_set ?_ GE101.out | refine below_set ?_ GE102.out | refine below_set ?_ GE103.out) | exact HB.out)) hb)
            clear BK101
            clear BK102
            clear BK103
            clear HB
            have BK101 := n0_
            have BK102 := n1_
            have BK103 := n2_
            have HB := n3_
            clear n0_ n1_ n2_ n3_
            (try clear hb)
            (try clear hb2)
            (try clear hk)
            (try clear hi)
            refine hK.out _ _ ⟨(blk_cell BK102.out 0).trans rfl, (blk_cell BK102.out 1).trans rfl, (blk_cell BK102.out 2).trans rfl, (blk_cell BK101.out 0).trans rfl, (blk_cell BK101.out 1).trans rfl, (blk_cell BK101.out 2).trans rfl, (blk_cell BK103.out 0).trans rfl, (blk_cell BK103.out 1).trans rfl, (blk_cell BK103.out 2).trans rfl⟩ (fun hHeld => ?_)
            clear hK K
            refine norm_ (a' := ?_) ?_ ?_
            rotate_left
            · show Act.put _ (some 29) _ = _
              simp only [Act.put, List.setIfInBounds_toArray, List.set_cons_zero, List.set_cons_succ, i64_w, i32_w]
              rfl
            refine pure_ (i := 13) (N := some 30) (v := ?_) (a' := ?_) (lb 41 16383) rfl rfl (any_of HT_.out (by kernel_rfl)) (fun _ _ _ h => h) (Or.inl ⟨by rfl, ?_⟩) ?_ ?_
            rotate_left
            · intro w'
              go_simp
              with_reducible rfl
            rotate_left
            · simp only [Act.put, List.setIfInBounds_toArray, List.set_cons_zero, List.set_cons_succ, i64_w, i32_w]
              rfl
            refine pure_ (i := 14) (N := some 31) (v := ?_) (a' := ?_) (lb 41 32767) rfl rfl (any_of HT_.out (by kernel_rfl)) (fun _ _ _ h => h) (Or.inl ⟨by rfl, ?_⟩) ?_ ?_
            rotate_left
            · intro w'
              go_simp
              with_reducible rfl
            rotate_left
            · simp only [Act.put, List.setIfInBounds_toArray, List.set_cons_zero, List.set_cons_succ, i64_w, i32_w]
              rfl
            refine pure_ (i := 15) (N := some 32) (v := ?_) (a' := ?_) (lb 41 65535) rfl rfl (any_of HT_.out (by kernel_rfl)) (fun _ _ _ h => h) (Or.inl ⟨by rfl, ?_⟩) ?_ ?_
            rotate_left
            · intro w'
              go_simp
              with_reducible rfl
            rotate_left
            · simp only [Act.put, List.setIfInBounds_toArray, List.set_cons_zero, List.set_cons_succ, i64_w, i32_w]
              rfl
            refine pure_ (i := 16) (N := some 33) (v := undef) (a' := ?_) (lb 41 131071) rfl rfl (any_of HT_.out (by kernel_rfl)) (fun _ _ _ h => h) (Or.inr ⟨by rfl, rfl⟩) ?_ ?_
            rotate_left
            · simp only [Act.put, List.setIfInBounds_toArray, List.set_cons_zero, List.set_cons_succ, i64_w, i32_w]
              rfl
            refine pure_ (i := 17) (N := some 34) (v := undef) (a' := ?_) (lb 41 262143) rfl rfl (any_of HT_.out (by kernel_rfl)) (fun _ _ _ h => h) (Or.inr ⟨by rfl, rfl⟩) ?_ ?_
            rotate_left
            · simp only [Act.put, List.setIfInBounds_toArray, List.set_cons_zero, List.set_cons_succ, i64_w, i32_w]
              rfl
            refine pure_ (i := 18) (N := some 35) (v := undef) (a' := ?_) (lb 41 524287) rfl rfl (any_of HT_.out (by kernel_rfl)) (fun _ _ _ h => h) (Or.inr ⟨by rfl, rfl⟩) ?_ ?_
            rotate_left
            · simp only [Act.put, List.setIfInBounds_toArray, List.set_cons_zero, List.set_cons_succ, i64_w, i32_w]
              rfl
            refine pure_ (i := 19) (N := some 36) (v := undef) (a' := ?_) (lb 41 1048575) rfl rfl (any_of HT_.out (by kernel_rfl)) (fun _ _ _ h => h) (Or.inr ⟨by rfl, rfl⟩) ?_ ?_
            rotate_left
            · simp only [Act.put, List.setIfInBounds_toArray, List.set_cons_zero, List.set_cons_succ, i64_w, i32_w]
              rfl
            refine pure_ (i := 20) (N := some 37) (v := ?_) (a' := ?_) (lb 41 2097151) rfl rfl (any_of HT_.out (by kernel_rfl)) (fun _ _ _ h => h) (Or.inl ⟨by rfl, ?_⟩) ?_ ?_
            rotate_left
            · intro w'
              go_simp
              with_reducible rfl
            rotate_left
            · simp only [Act.put, List.setIfInBounds_toArray, List.set_cons_zero, List.set_cons_succ, i64_w, i32_w]
              rfl
            refine pure_ (i := 21) (N := some 38) (v := ?_) (a' := ?_) (lb 41 4194303) rfl rfl (any_of HT_.out (by kernel_rfl)) (fun _ _ _ h => h) (Or.inl ⟨by rfl, ?_⟩) ?_ ?_
            rotate_left
            · intro w'
              go_simp
              with_reducible rfl
            rotate_left
            · simp only [Act.put, List.setIfInBounds_toArray, List.set_cons_zero, List.set_cons_succ, i64_w, i32_w]
              rfl
            refine pure_ (i := 22) (N := some 39) (v := ?_) (a' := ?_) (lb 41 8388607) rfl rfl (any_of HT_.out (by kernel_rfl)) (fun _ _ _ h => h) (Or.inl ⟨by rfl, ?_⟩) ?_ ?_
            rotate_left
            · intro w'
              go_simp
              with_reducible rfl
            rotate_left
            · simp only [Act.put, List.setIfInBounds_toArray, List.set_cons_zero, List.set_cons_succ, i64_w, i32_w]
              rfl
            refine pure_ (i := 23) (N := some 40) (v := ?_) (a' := ?_) (lb 41 16777215) rfl rfl (any_of HT_.out (by kernel_rfl)) (fun _ _ _ h => h) (Or.inl ⟨by rfl, ?_⟩) ?_ ?_
            rotate_left
            · intro w'
              go_simp
              with_reducible rfl
            rotate_left
            · simp only [Act.put, List.setIfInBounds_toArray, List.set_cons_zero, List.set_cons_succ, i64_w, i32_w]
              rfl
            refine pure_ (i := 24) (N := some 41) (v := ?_) (a' := ?_) (lb 41 33554431) rfl rfl (any_of HT_.out (by kernel_rfl)) (fun _ _ _ h => h) (Or.inl ⟨by rfl, ?_⟩) ?_ ?_
            rotate_left
            · intro w'
              go_simp
              with_reducible rfl
            rotate_left
            · simp only [Act.put, List.setIfInBounds_toArray, List.set_cons_zero, List.set_cons_succ, i64_w, i32_w]
              rfl
            refine pure_ (i := 25) (N := some 42) (v := ?_) (a' := ?_) (lb 41 67108863) rfl rfl (any_of HT_.out (by kernel_rfl)) (fun _ _ _ h => h) (Or.inl ⟨by rfl, ?_⟩) ?_ ?_
            rotate_left
            · intro w'
              go_simp
              with_reducible rfl
            rotate_left
            · simp only [Act.put, List.setIfInBounds_toArray, List.set_cons_zero, List.set_cons_succ, i64_w, i32_w]
              rfl
            refine pure_ (i := 27) (N := some 44) (v := ?_) (a' := ?_) (lb 41 201326591) rfl rfl (any_of HT_.out (by kernel_rfl)) (fun _ _ _ h => h) (Or.inl ⟨by rfl, ?_⟩) ?_ ?_
            rotate_left
            · intro w'
              go_simp
              with_reducible rfl
            rotate_left
            · simp only [Act.put, List.setIfInBounds_toArray, List.set_cons_zero, List.set_cons_succ, i64_w, i32_w]
              rfl
            refine take_ (i := 26) (N := some 43) (v := ?_) (a' := ?_) (lb 41 268435455) rfl rfl (take_ofW HT_.out HW_.out (by kernel_rfl)) (fun _ _ _ h => h) (Or.inl ⟨by rfl, ?_⟩) hHeld ?_ ?_
            rotate_left
            · rintro w' ⟨s0, s1, s2, s3, s4, s5, s6, s7, s8⟩
              go_simp
              with_reducible rfl
            rotate_left
            · simp only [Act.put, List.setIfInBounds_toArray, List.set_cons_zero, List.set_cons_succ, i64_w, i32_w]
              rfl
            refine take_ (i := 28) (N := some 45) (v := ?_) (a' := ?_) (lb 41 536870911) rfl rfl (take_ofW HT_.out HW_.out (by kernel_rfl)) (fun _ _ _ h => h) (Or.inl ⟨by rfl, ?_⟩) hHeld ?_ ?_
            rotate_left
            · rintro w' ⟨s0, s1, s2, s3, s4, s5, s6, s7, s8⟩
              go_simp
              with_reducible rfl
            rotate_left
            · simp only [Act.put, List.setIfInBounds_toArray, List.set_cons_zero, List.set_cons_succ, i64_w, i32_w]
              rfl
            refine pure_ (i := 29) (N := some 46) (v := ?_) (a' := ?_) (lb 41 1073741823) rfl rfl (any_of HT_.out (by kernel_rfl)) (fun _ _ _ h => h) (Or.inl ⟨by rfl, ?_⟩) ?_ ?_
            rotate_left
            · intro w'
              go_simp
              with_reducible rfl
            rotate_left
            · simp only [Act.put, List.setIfInBounds_toArray, List.set_cons_zero, List.set_cons_succ, i64_w, i32_w]
              rfl
            refine pure_ (i := 30) (N := some 47) (v := ?_) (a' := ?_) (lb 41 2147483647) rfl rfl (any_of HT_.out (by kernel_rfl)) (fun _ _ _ h => h) (Or.inl ⟨by rfl, ?_⟩) ?_ ?_
            rotate_left
            · intro w'
              go_simp
              with_reducible rfl
            rotate_left
            · simp only [Act.put, List.setIfInBounds_toArray, List.set_cons_zero, List.set_cons_succ, i64_w, i32_w]
              rfl
            refine pure_ (i := 34) (N := some 51) (v := ?_) (a' := ?_) (lb 41 19327352831) rfl rfl (any_of HT_.out (by kernel_rfl)) (fun _ _ _ h => h) (Or.inl ⟨by rfl, ?_⟩) ?_ ?_
            rotate_left
            · intro w'
              go_simp
              with_reducible rfl
            rotate_left
            · simp only [Act.put, List.setIfInBounds_toArray, List.set_cons_zero, List.set_cons_succ, i64_w, i32_w]
              rfl
            refine take_ (i := 31) (N := some 48) (v := ?_) (a' := ?_) (lb 41 21474836479) rfl rfl (take_ofW HT_.out HW_.out (by kernel_rfl)) (fun _ _ _ h => h) (Or.inl ⟨by rfl, ?_⟩) hHeld ?_ ?_
            rotate_left
            · rintro w' ⟨s0, s1, s2, s3, s4, s5, s6, s7, s8⟩
              go_simp
              with_reducible rfl
            rotate_left
            · simp only [Act.put, List.setIfInBounds_toArray, List.set_cons_zero, List.set_cons_succ, i64_w, i32_w]
              rfl
            refine take_ (i := 32) (N := some 49) (v := ?_) (a' := ?_) (lb 41 25769803775) rfl rfl (take_ofW HT_.out HW_.out (by kernel_rfl)) (fun _ _ _ h => h) (Or.inl ⟨by rfl, ?_⟩) hHeld ?_ ?_
            rotate_left
            · rintro w' ⟨s0, s1, s2, s3, s4, s5, s6, s7, s8⟩
              go_simp
              with_reducible rfl
            rotate_left
            · simp only [Act.put, List.setIfInBounds_toArray, List.set_cons_zero, List.set_cons_succ, i64_w, i32_w]
              rfl
            refine take_ (i := 35) (N := some 52) (v := ?_) (a' := ?_) (lb 41 60129542143) rfl rfl (take_ofW HT_.out HW_.out (by kernel_rfl)) (fun _ _ _ h => h) (Or.inl ⟨by rfl, ?_⟩) hHeld ?_ ?_
            rotate_left
            · rintro w' ⟨s0, s1, s2, s3, s4, s5, s6, s7, s8⟩
              go_simp
              with_reducible rfl
            rotate_left
            · simp only [Act.put, List.setIfInBounds_toArray, List.set_cons_zero, List.set_cons_succ, i64_w, i32_w]
              rfl
            refine one_ (i := 33) (N := some 50) (lb 41 68719476735) rfl rfl (one_of HT_.out (by kernel_rfl)) (by decide) (fun K hK => ?_)
            refine goes_ Try.func20 (by kernel_rfl) rfl #[.agg #[.int .u64 a0_0, .int .u64 a0_1, .bool a0_2], .agg #[.int .u64 a1_0, .int .u64 a1_1, .bool a1_2]] (by rfl) rfl rfl (by (try simp only [List.map_toArray, List.map_cons, List.map_nil]); first | done | rfl | (simp only [List.length_drop, List.length_take]; rfl)) ?_
            with_reducible refine (addr_Common.calls a0_0 a0_1 a0_2 a1_0 a1_1 a1_2 t111 _ A42.out).mono ?_
            rintro e w47 ⟨rfl, hb⟩
            refine ⟨_, rfl, ?_⟩
            have n0_ := Aside0.mk (blk_below (g := gb101) (o := .cells #[.int .u64 a0_0, .int .u64 a0_1, .bool a0_2] 24 (0, 0)) (by (with_reducible repeat (first | refine blk_drewN ?_ _ | refine blk_drew ?_ | refine blk_alloc ?_ _)); exact BK101.out) hb)
            have n1_ := Aside0.mk (blk_below (g := gb102) (o := .cells #[.int .u64 a1_0, .int .u64 a1_1, .bool a1_2] 24 (0, 0)) (by (with_reducible repeat (first | refine blk_drewN ?_ _ | refine blk_drew ?_ | refine blk_alloc ?_ _)); exact BK102.out) hb)
            have n2_ := Aside0.mk (blk_below (g := gb103) (o := .cells #[.int .u64 a2_0, .int .u64 a2_1, .bool a2_2] 24 (0, 0)) (by (with_reducible repeat (first | refine blk_drewN ?_ _ | refine blk_drew ?_ | refine blk_alloc ?_ _)); exact BK103.out) hb)
            have n3_ := Aside0.mk (below_step (by repeat (first | (with_reducible first | exact HB.out | apply below_alloc | apply pw_below_drewN | apply below_drew1 | refine below_set ?_ GE101.out | refine below_set ?_ GE102.out | refine below_set ?_ GE103.out) | exact HB.out)) hb)
            clear BK101
            clear BK102
            clear BK103
            clear HB
            have BK101 := n0_
            have BK102 := n1_
            have BK103 := n2_
            have HB := n3_
            clear n0_ n1_ n2_ n3_
            (try clear hb)
            (try clear hb2)
            (try clear hk)
            (try clear hi)
            refine hK.out _ _ ⟨(blk_cell BK102.out 0).trans rfl, (blk_cell BK102.out 1).trans rfl, (blk_cell BK102.out 2).trans rfl, (blk_cell BK101.out 0).trans rfl, (blk_cell BK101.out 1).trans rfl, (blk_cell BK101.out 2).trans rfl, (blk_cell BK103.out 0).trans rfl, (blk_cell BK103.out 1).trans rfl, (blk_cell BK103.out 2).trans rfl⟩ (fun hHeld => ?_)
            clear hK K
            refine norm_ (a' := ?_) ?_ ?_
            rotate_left
            · show Act.put _ (some 50) _ = _
              simp only [Act.put, List.setIfInBounds_toArray, List.set_cons_zero, List.set_cons_succ, i64_w, i32_w]
              rfl
            refine one_ (i := 36) (N := some 53) (lb 41 137438953471) rfl rfl (one_of HT_.out (by kernel_rfl)) (by decide) (fun K hK => ?_)
            refine goes_ Try.func21 (by kernel_rfl) rfl #[.bool a0_2] (by rfl) rfl rfl (by (try simp only [List.map_toArray, List.map_cons, List.map_nil]); first | done | rfl | (simp only [List.length_drop, List.length_take]; rfl)) ?_
            with_reducible refine (addr_Width.calls a0_2 t112 _ A43.out).mono ?_
            rintro e w' ⟨rfl, ⟨nd, rfl⟩⟩
            refine ⟨_, rfl, ?_⟩
            refine hK.out _ _ ⟨(blk_cell BK102.out 0).trans rfl, (blk_cell BK102.out 1).trans rfl, (blk_cell BK102.out 2).trans rfl, (blk_cell BK101.out 0).trans rfl, (blk_cell BK101.out 1).trans rfl, (blk_cell BK101.out 2).trans rfl, (blk_cell BK103.out 0).trans rfl, (blk_cell BK103.out 1).trans rfl, (blk_cell BK103.out 2).trans rfl⟩ (fun hHeld => ?_)
            clear hK K
            refine norm_ (a' := ?_) ?_ ?_
            rotate_left
            · show Act.put _ (some 53) _ = _
              simp only [Act.put, List.setIfInBounds_toArray, List.set_cons_zero, List.set_cons_succ, i64_w, i32_w]
              rfl
            refine pure_ (i := 37) (N := some 54) (v := ?_) (a' := ?_) (lb 41 274877906943) rfl rfl (any_of HT_.out (by kernel_rfl)) (fun _ _ _ h => h) (Or.inl ⟨by rfl, ?_⟩) ?_ ?_
            rotate_left
            · intro w'
              go_simp
              with_reducible rfl
            rotate_left
            · simp only [Act.put, List.setIfInBounds_toArray, List.set_cons_zero, List.set_cons_succ, i64_w, i32_w]
              rfl
            refine pure_ (i := 38) (N := some 55) (v := ?_) (a' := ?_) (lb 41 549755813887) rfl rfl (any_of HT_.out (by kernel_rfl)) (fun _ _ _ h => h) (Or.inl ⟨by rfl, ?_⟩) ?_ ?_
            rotate_left
            · intro w'
              go_simp
              with_reducible rfl
            rotate_left
            · simp only [Act.put, List.setIfInBounds_toArray, List.set_cons_zero, List.set_cons_succ, i64_w, i32_w]
              rfl
            refine pure_ (i := 39) (N := some 56) (v := ?_) (a' := ?_) (lb 41 1099511627775) rfl rfl (any_of HT_.out (by kernel_rfl)) (fun _ _ _ h => h) (Or.inl ⟨by rfl, ?_⟩) ?_ ?_
            rotate_left
            · intro w'
              go_simp
              with_reducible rfl
            rotate_left
            · simp only [Act.put, List.setIfInBounds_toArray, List.set_cons_zero, List.set_cons_succ, i64_w, i32_w]
              rfl
            refine pure_ (i := 40) (N := some 57) (v := ?_) (a' := ?_) (lb 41 2199023255551) rfl rfl (any_of HT_.out (by kernel_rfl)) (fun _ _ _ h => h) (Or.inl ⟨by rfl, ?_⟩) ?_ ?_
            rotate_left
            · intro w'
              go_simp
              with_reducible rfl
            rotate_left
            · simp only [Act.put, List.setIfInBounds_toArray, List.set_cons_zero, List.set_cons_succ, i64_w, i32_w]
              rfl
            refine done_ (done_of HT_.out (by kernel_rfl)) ?_
            try go_wp2
            go_meet
            case rel => exact ⟨_, (((t105 == 0) != (t111 == t112))), (by first | rfl | (simp; done) | (simp [*]; done)), H', ⟨by first | omega | exact Nat.le_refl _⟩, ⟨by (with_reducible repeat (first | refine blk_drewN ?_ _ | refine blk_drew ?_ | refine blk_alloc ?_ _)); exact BK101.out⟩, ⟨by (with_reducible repeat (first | refine blk_drewN ?_ _ | refine blk_drew ?_ | refine blk_alloc ?_ _)); exact BK102.out⟩, ⟨by (with_reducible repeat (first | refine blk_drewN ?_ _ | refine blk_drew ?_ | refine blk_alloc ?_ _)); exact BK103.out⟩, ⟨by repeat (first | (with_reducible first | exact HB.out | apply below_alloc | apply pw_below_drewN | apply below_drew1 | refine below_set ?_ GE101.out | refine below_set ?_ GE102.out | refine below_set ?_ GE103.out) | exact HB.out)⟩⟩
          · rw [if_neg c41] at H
            have c41b0 : (a0_2 == a1_2) = false := by simpa using c41
            (try (have c41b1 : decide (a0_2 = a1_2) = false := by simpa using c41))
            (try (have c41b2 : (a0_2 == a1_2) = false := by simpa using c41))
            (try (have c41b3 : ¬ (a0_2 = a1_2) := by simpa using c41))
            clear c41
            have H' := Aside0.mk H
            clear H
            try go_wp2
            have n0_ := Aside0.mk (blk_drew BK101.out)
            have n1_ := Aside0.mk (blk_drew BK102.out)
            have n2_ := Aside0.mk (blk_drew BK103.out)
            have n3_ := Aside0.mk (below_drew1 HB.out)
            clear BK101
            clear BK102
            clear BK103
            clear HB
            have BK101 := n0_
            have BK102 := n1_
            have BK103 := n2_
            have HB := n3_
            clear n0_ n1_ n2_ n3_
            refine start_ (n := 41) (S := fun w' => w'.cell? ⟨gb102, 0, none⟩ = some (.int .u64 a1_0) ∧ w'.cell? ⟨gb102, 1, none⟩ = some (.int .u64 a1_1) ∧ w'.cell? ⟨gb102, 2, none⟩ = some (.bool a1_2) ∧ w'.cell? ⟨gb101, 0, none⟩ = some (.int .u64 a0_0) ∧ w'.cell? ⟨gb101, 1, none⟩ = some (.int .u64 a0_1) ∧ w'.cell? ⟨gb101, 2, none⟩ = some (.bool a0_2) ∧ w'.cell? ⟨gb103, 0, none⟩ = some (.int .u64 a2_0) ∧ w'.cell? ⟨gb103, 1, none⟩ = some (.int .u64 a2_1) ∧ w'.cell? ⟨gb103, 2, none⟩ = some (.bool a2_2)) (ds := []) #[false, false, false, false, false, false, false, false, false, false, false, false, false, false, false, false, false, false, false, false, false, false, false, false, false, false, false, false, false, false, false, false, false, false, false, false, false, false, false, false, false] (by kernel_rfl) rfl rfl ⟨(blk_cell BK102.out 0).trans rfl, (blk_cell BK102.out 1).trans rfl, (blk_cell BK102.out 2).trans rfl, (blk_cell BK101.out 0).trans rfl, (blk_cell BK101.out 1).trans rfl, (blk_cell BK101.out 2).trans rfl, (blk_cell BK103.out 0).trans rfl, (blk_cell BK103.out 1).trans rfl, (blk_cell BK103.out 2).trans rfl⟩ (fun hHeld => ?_); refine with_tabW kedgelaw01_AddrOrder.tab3 kedgelaw01_AddrOrder.bits3 (fun HT_ HW_ => ?_)
            generalize w17.drew = w48 at BK101 BK102 BK103 HB hHeld ⊢
            refine pure_ (i := 0) (N := some 17) (v := ?_) (a' := ?_) (lb 41 1) rfl rfl (any_of HT_.out (by kernel_rfl)) (fun _ _ _ h => h) (Or.inl ⟨by rfl, ?_⟩) ?_ ?_
            rotate_left
            · intro w'
              go_simp
              with_reducible rfl
            rotate_left
            · simp only [Act.put, List.setIfInBounds_toArray, List.set_cons_zero, List.set_cons_succ, i64_w, i32_w]
              rfl
            refine take_ (i := 1) (N := some 18) (v := ?_) (a' := ?_) (lb 41 3) rfl rfl (take_ofW HT_.out HW_.out (by kernel_rfl)) (fun _ _ _ h => h) (Or.inl ⟨by rfl, ?_⟩) hHeld ?_ ?_
            rotate_left
            · rintro w' ⟨s0, s1, s2, s3, s4, s5, s6, s7, s8⟩
              go_simp
              with_reducible rfl
            rotate_left
            · simp only [Act.put, List.setIfInBounds_toArray, List.set_cons_zero, List.set_cons_succ, i64_w, i32_w]
              rfl
            refine take_ (i := 2) (N := some 19) (v := ?_) (a' := ?_) (lb 41 7) rfl rfl (take_ofW HT_.out HW_.out (by kernel_rfl)) (fun _ _ _ h => h) (Or.inl ⟨by rfl, ?_⟩) hHeld ?_ ?_
            rotate_left
            · rintro w' ⟨s0, s1, s2, s3, s4, s5, s6, s7, s8⟩
              go_simp
              with_reducible rfl
            rotate_left
            · simp only [Act.put, List.setIfInBounds_toArray, List.set_cons_zero, List.set_cons_succ, i64_w, i32_w]
              rfl
            refine one_ (i := 3) (N := some 20) (lb 41 15) rfl rfl (one_of HT_.out (by kernel_rfl)) (by decide) (fun K hK => ?_)
            refine goes_ Try.func29 (by kernel_rfl) rfl #[.agg #[.int .u64 a1_0, .int .u64 a1_1, .bool a1_2], .agg #[.int .u64 a0_0, .int .u64 a0_1, .bool a0_2]] (by rfl) rfl rfl (by (try simp only [List.map_toArray, List.map_cons, List.map_nil]); first | done | rfl | (simp only [List.length_drop, List.length_take]; rfl)) ?_
            with_reducible refine (addr_Compare.calls a1_0 a1_1 a1_2 a0_0 a0_1 a0_2 t106 _ A18.out).mono ?_
            rintro e w49 ⟨rfl, hb⟩
            refine ⟨_, rfl, ?_⟩
            have n0_ := Aside0.mk (blk_below (g := gb101) (o := .cells #[.int .u64 a0_0, .int .u64 a0_1, .bool a0_2] 24 (0, 0)) (by (with_reducible repeat (first | refine blk_drewN ?_ _ | refine blk_drew ?_ | refine blk_alloc ?_ _)); exact BK101.out) hb)
            have n1_ := Aside0.mk (blk_below (g := gb102) (o := .cells #[.int .u64 a1_0, .int .u64 a1_1, .bool a1_2] 24 (0, 0)) (by (with_reducible repeat (first | refine blk_drewN ?_ _ | refine blk_drew ?_ | refine blk_alloc ?_ _)); exact BK102.out) hb)
            have n2_ := Aside0.mk (blk_below (g := gb103) (o := .cells #[.int .u64 a2_0, .int .u64 a2_1, .bool a2_2] 24 (0, 0)) (by (with_reducible repeat (first | refine blk_drewN ?_ _ | refine blk_drew ?_ | refine blk_alloc ?_ _)); exact BK103.out) hb)
            have n3_ := Aside0.mk (below_step (by repeat (first | (with_reducible first | exact HB.out | apply below_alloc | apply pw_below_drewN | apply below_drew1 | refine below_set ?_ GE101.out | refine below_set ?_ GE102.out | refine below_set ?_ GE103.out) | exact HB.out)) hb)
            clear BK101
            clear BK102
            clear BK103
            clear HB
            have BK101 := n0_
            have BK102 := n1_
            have BK103 := n2_
            have HB := n3_
            clear n0_ n1_ n2_ n3_
            (try clear hb)
            (try clear hb2)
            (try clear hk)
            (try clear hi)
            refine hK.out _ _ ⟨(blk_cell BK102.out 0).trans rfl, (blk_cell BK102.out 1).trans rfl, (blk_cell BK102.out 2).trans rfl, (blk_cell BK101.out 0).trans rfl, (blk_cell BK101.out 1).trans rfl, (blk_cell BK101.out 2).trans rfl, (blk_cell BK103.out 0).trans rfl, (blk_cell BK103.out 1).trans rfl, (blk_cell BK103.out 2).trans rfl⟩ (fun hHeld => ?_)
            clear hK K
            refine norm_ (a' := ?_) ?_ ?_
            rotate_left
            · show Act.put _ (some 20) _ = _
              simp only [Act.put, List.setIfInBounds_toArray, List.set_cons_zero, List.set_cons_succ, i64_w, i32_w]
              rfl
            refine pure_ (i := 4) (N := some 21) (v := ?_) (a' := ?_) (lb 41 31) rfl rfl (any_of HT_.out (by kernel_rfl)) (fun _ _ _ h => h) (Or.inl ⟨by rfl, ?_⟩) ?_ ?_
            rotate_left
            · intro w'
              go_simp
              with_reducible rfl
            rotate_left
            · simp only [Act.put, List.setIfInBounds_toArray, List.set_cons_zero, List.set_cons_succ, i64_w, i32_w]
              rfl
            refine pure_ (i := 5) (N := some 22) (v := ?_) (a' := ?_) (lb 41 63) rfl rfl (any_of HT_.out (by kernel_rfl)) (fun _ _ _ h => h) (Or.inl ⟨by rfl, ?_⟩) ?_ ?_
            rotate_left
            · intro w'
              go_simp
              with_reducible rfl
            rotate_left
            · simp only [Act.put, List.setIfInBounds_toArray, List.set_cons_zero, List.set_cons_succ, i64_w, i32_w]
              rfl
            refine pure_ (i := 6) (N := some 23) (v := ?_) (a' := ?_) (lb 41 127) rfl rfl (any_of HT_.out (by kernel_rfl)) (fun _ _ _ h => h) (Or.inl ⟨by rfl, ?_⟩) ?_ ?_
            rotate_left
            · intro w'
              go_simp
              with_reducible rfl
            rotate_left
            · simp only [Act.put, List.setIfInBounds_toArray, List.set_cons_zero, List.set_cons_succ, i64_w, i32_w]
              rfl
            refine pure_ (i := 7) (N := some 24) (v := ?_) (a' := ?_) (lb 41 255) rfl rfl (any_of HT_.out (by kernel_rfl)) (fun _ _ _ h => h) (Or.inl ⟨by rfl, ?_⟩) ?_ ?_
            rotate_left
            · intro w'
              go_simp
              with_reducible rfl
            rotate_left
            · simp only [Act.put, List.setIfInBounds_toArray, List.set_cons_zero, List.set_cons_succ, i64_w, i32_w]
              rfl
            refine pure_ (i := 8) (N := some 25) (v := ?_) (a' := ?_) (lb 41 511) rfl rfl (any_of HT_.out (by kernel_rfl)) (fun _ _ _ h => h) (Or.inl ⟨by rfl, ?_⟩) ?_ ?_
            rotate_left
            · intro w'
              go_simp
              with_reducible rfl
            rotate_left
            · simp only [Act.put, List.setIfInBounds_toArray, List.set_cons_zero, List.set_cons_succ, i64_w, i32_w]
              rfl
            refine pure_ (i := 9) (N := some 26) (v := ?_) (a' := ?_) (lb 41 1023) rfl rfl (any_of HT_.out (by kernel_rfl)) (fun _ _ _ h => h) (Or.inl ⟨by rfl, ?_⟩) ?_ ?_
            rotate_left
            · intro w'
              go_simp
              with_reducible rfl
            rotate_left
            · simp only [Act.put, List.setIfInBounds_toArray, List.set_cons_zero, List.set_cons_succ, i64_w, i32_w]
              rfl
            refine take_ (i := 10) (N := some 27) (v := ?_) (a' := ?_) (lb 41 2047) rfl rfl (take_ofW HT_.out HW_.out (by kernel_rfl)) (fun _ _ _ h => h) (Or.inl ⟨by rfl, ?_⟩) hHeld ?_ ?_
            rotate_left
            · rintro w' ⟨s0, s1, s2, s3, s4, s5, s6, s7, s8⟩
              go_simp
              with_reducible rfl
            rotate_left
            · simp only [Act.put, List.setIfInBounds_toArray, List.set_cons_zero, List.set_cons_succ, i64_w, i32_w]
              rfl
            refine take_ (i := 11) (N := some 28) (v := ?_) (a' := ?_) (lb 41 4095) rfl rfl (take_ofW HT_.out HW_.out (by kernel_rfl)) (fun _ _ _ h => h) (Or.inl ⟨by rfl, ?_⟩) hHeld ?_ ?_
            rotate_left
            · rintro w' ⟨s0, s1, s2, s3, s4, s5, s6, s7, s8⟩
              go_simp
              with_reducible rfl
            rotate_left
            · simp only [Act.put, List.setIfInBounds_toArray, List.set_cons_zero, List.set_cons_succ, i64_w, i32_w]
              rfl
            refine one_ (i := 12) (N := some 29) (lb 41 8191) rfl rfl (one_of HT_.out (by kernel_rfl)) (by decide) (fun K hK => ?_)
            refine goes_ Try.func29 (by kernel_rfl) rfl #[.agg #[.int .u64 a1_0, .int .u64 a1_1, .bool a1_2], .agg #[.int .u64 a2_0, .int .u64 a2_1, .bool a2_2]] (by rfl) rfl rfl (by (try simp only [List.map_toArray, List.map_cons, List.map_nil]); first | done | rfl | (simp only [List.length_drop, List.length_take]; rfl)) ?_
            with_reducible refine (addr_Compare.calls a1_0 a1_1 a1_2 a2_0 a2_1 a2_2 t107 _ A21.out).mono ?_
            rintro e w50 ⟨rfl, hb⟩
            refine ⟨_, rfl, ?_⟩
            have n0_ := Aside0.mk (blk_below (g := gb101) (o := .cells #[.int .u64 a0_0, .int .u64 a0_1, .bool a0_2] 24 (0, 0)) (by (with_reducible repeat (first | refine blk_drewN ?_ _ | refine blk_drew ?_ | refine blk_alloc ?_ _)); exact BK101.out) hb)
            have n1_ := Aside0.mk (blk_below (g := gb102) (o := .cells #[.int .u64 a1_0, .int .u64 a1_1, .bool a1_2] 24 (0, 0)) (by (with_reducible repeat (first | refine blk_drewN ?_ _ | refine blk_drew ?_ | refine blk_alloc ?_ _)); exact BK102.out) hb)
            have n2_ := Aside0.mk (blk_below (g := gb103) (o := .cells #[.int .u64 a2_0, .int .u64 a2_1, .bool a2_2] 24 (0, 0)) (by (with_reducible repeat (first | refine blk_drewN ?_ _ | refine blk_drew ?_ | refine blk_alloc ?_ _)); exact BK103.out) hb)
            have n3_ := Aside0.mk (below_step (by repeat (first | (with_reducible first | exact HB.out | apply below_alloc | apply pw_below_drewN | apply below_drew1 | refine below_set ?_ GE101.out | refine below_set ?_ GE102.out | refine below_set ?_ GE103.out) | exact HB.out)) hb)
            clear BK101
            clear BK102
            clear BK103
            clear HB
            have BK101 := n0_
            have BK102 := n1_
            have BK103 := n2_
            have HB := n3_
            clear n0_ n1_ n2_ n3_
            (try clear hb)
            (try clear hb2)
            (try clear hk)
            (try clear hi)
            refine hK.out _ _ ⟨(blk_cell BK102.out 0).trans rfl, (blk_cell BK102.out 1).trans rfl, (blk_cell BK102.out 2).trans rfl, (blk_cell BK101.out 0).trans rfl, (blk_cell BK101.out 1).trans rfl, (blk_cell BK101.out 2).trans rfl, (blk_cell BK103.out 0).trans rfl, (blk_cell BK103.out 1).trans rfl, (blk_cell BK103.out 2).trans rfl⟩ (fun hHeld => ?_)
            clear hK K
            refine norm_ (a' := ?_) ?_ ?_
            rotate_left
            · show Act.put _ (some 29) _ = _
              simp only [Act.put, List.setIfInBounds_toArray, List.set_cons_zero, List.set_cons_succ, i64_w, i32_w]
              rfl
            refine pure_ (i := 13) (N := some 30) (v := ?_) (a' := ?_) (lb 41 16383) rfl rfl (any_of HT_.out (by kernel_rfl)) (fun _ _ _ h => h) (Or.inl ⟨by rfl, ?_⟩) ?_ ?_
            rotate_left
            · intro w'
              go_simp
              with_reducible rfl
            rotate_left
            · simp only [Act.put, List.setIfInBounds_toArray, List.set_cons_zero, List.set_cons_succ, i64_w, i32_w]
              rfl
            refine pure_ (i := 14) (N := some 31) (v := ?_) (a' := ?_) (lb 41 32767) rfl rfl (any_of HT_.out (by kernel_rfl)) (fun _ _ _ h => h) (Or.inl ⟨by rfl, ?_⟩) ?_ ?_
            rotate_left
            · intro w'
              go_simp
              with_reducible rfl
            rotate_left
            · simp only [Act.put, List.setIfInBounds_toArray, List.set_cons_zero, List.set_cons_succ, i64_w, i32_w]
              rfl
            refine pure_ (i := 15) (N := some 32) (v := ?_) (a' := ?_) (lb 41 65535) rfl rfl (any_of HT_.out (by kernel_rfl)) (fun _ _ _ h => h) (Or.inl ⟨by rfl, ?_⟩) ?_ ?_
            rotate_left
            · intro w'
              go_simp
              with_reducible rfl
            rotate_left
            · simp only [Act.put, List.setIfInBounds_toArray, List.set_cons_zero, List.set_cons_succ, i64_w, i32_w]
              rfl
            refine pure_ (i := 16) (N := some 33) (v := undef) (a' := ?_) (lb 41 131071) rfl rfl (any_of HT_.out (by kernel_rfl)) (fun _ _ _ h => h) (Or.inr ⟨by rfl, rfl⟩) ?_ ?_
            rotate_left
            · simp only [Act.put, List.setIfInBounds_toArray, List.set_cons_zero, List.set_cons_succ, i64_w, i32_w]
              rfl
            refine pure_ (i := 17) (N := some 34) (v := undef) (a' := ?_) (lb 41 262143) rfl rfl (any_of HT_.out (by kernel_rfl)) (fun _ _ _ h => h) (Or.inr ⟨by rfl, rfl⟩) ?_ ?_
            rotate_left
            · simp only [Act.put, List.setIfInBounds_toArray, List.set_cons_zero, List.set_cons_succ, i64_w, i32_w]
              rfl
            refine pure_ (i := 18) (N := some 35) (v := undef) (a' := ?_) (lb 41 524287) rfl rfl (any_of HT_.out (by kernel_rfl)) (fun _ _ _ h => h) (Or.inr ⟨by rfl, rfl⟩) ?_ ?_
            rotate_left
            · simp only [Act.put, List.setIfInBounds_toArray, List.set_cons_zero, List.set_cons_succ, i64_w, i32_w]
              rfl
            refine pure_ (i := 19) (N := some 36) (v := undef) (a' := ?_) (lb 41 1048575) rfl rfl (any_of HT_.out (by kernel_rfl)) (fun _ _ _ h => h) (Or.inr ⟨by rfl, rfl⟩) ?_ ?_
            rotate_left
            · simp only [Act.put, List.setIfInBounds_toArray, List.set_cons_zero, List.set_cons_succ, i64_w, i32_w]
              rfl
            refine pure_ (i := 20) (N := some 37) (v := ?_) (a' := ?_) (lb 41 2097151) rfl rfl (any_of HT_.out (by kernel_rfl)) (fun _ _ _ h => h) (Or.inl ⟨by rfl, ?_⟩) ?_ ?_
            rotate_left
            · intro w'
              go_simp
              with_reducible rfl
            rotate_left
            · simp only [Act.put, List.setIfInBounds_toArray, List.set_cons_zero, List.set_cons_succ, i64_w, i32_w]
              rfl
            refine pure_ (i := 21) (N := some 38) (v := ?_) (a' := ?_) (lb 41 4194303) rfl rfl (any_of HT_.out (by kernel_rfl)) (fun _ _ _ h => h) (Or.inl ⟨by rfl, ?_⟩) ?_ ?_
            rotate_left
            · intro w'
              go_simp
              with_reducible rfl
            rotate_left
            · simp only [Act.put, List.setIfInBounds_toArray, List.set_cons_zero, List.set_cons_succ, i64_w, i32_w]
              rfl
            refine pure_ (i := 22) (N := some 39) (v := ?_) (a' := ?_) (lb 41 8388607) rfl rfl (any_of HT_.out (by kernel_rfl)) (fun _ _ _ h => h) (Or.inl ⟨by rfl, ?_⟩) ?_ ?_
            rotate_left
            · intro w'
              go_simp
              with_reducible rfl
            rotate_left
            · simp only [Act.put, List.setIfInBounds_toArray, List.set_cons_zero, List.set_cons_succ, i64_w, i32_w]
              rfl
            refine pure_ (i := 23) (N := some 40) (v := ?_) (a' := ?_) (lb 41 16777215) rfl rfl (any_of HT_.out (by kernel_rfl)) (fun _ _ _ h => h) (Or.inl ⟨by rfl, ?_⟩) ?_ ?_
            rotate_left
            · intro w'
              go_simp
              with_reducible rfl
            rotate_left
            · simp only [Act.put, List.setIfInBounds_toArray, List.set_cons_zero, List.set_cons_succ, i64_w, i32_w]
              rfl
            refine pure_ (i := 24) (N := some 41) (v := ?_) (a' := ?_) (lb 41 33554431) rfl rfl (any_of HT_.out (by kernel_rfl)) (fun _ _ _ h => h) (Or.inl ⟨by rfl, ?_⟩) ?_ ?_
            rotate_left
            · intro w'
              go_simp
              with_reducible rfl
            rotate_left
            · simp only [Act.put, List.setIfInBounds_toArray, List.set_cons_zero, List.set_cons_succ, i64_w, i32_w]
              rfl
            refine pure_ (i := 25) (N := some 42) (v := ?_) (a' := ?_) (lb 41 67108863) rfl rfl (any_of HT_.out (by kernel_rfl)) (fun _ _ _ h => h) (Or.inl ⟨by rfl, ?_⟩) ?_ ?_
            rotate_left
            · intro w'
              go_simp
              with_reducible rfl
            rotate_left
            · simp only [Act.put, List.setIfInBounds_toArray, List.set_cons_zero, List.set_cons_succ, i64_w, i32_w]
              rfl
            refine pure_ (i := 27) (N := some 44) (v := ?_) (a' := ?_) (lb 41 201326591) rfl rfl (any_of HT_.out (by kernel_rfl)) (fun _ _ _ h => h) (Or.inl ⟨by rfl, ?_⟩) ?_ ?_
            rotate_left
            · intro w'
              go_simp
              with_reducible rfl
            rotate_left
            · simp only [Act.put, List.setIfInBounds_toArray, List.set_cons_zero, List.set_cons_succ, i64_w, i32_w]
              rfl
            refine take_ (i := 26) (N := some 43) (v := ?_) (a' := ?_) (lb 41 268435455) rfl rfl (take_ofW HT_.out HW_.out (by kernel_rfl)) (fun _ _ _ h => h) (Or.inl ⟨by rfl, ?_⟩) hHeld ?_ ?_
            rotate_left
            · rintro w' ⟨s0, s1, s2, s3, s4, s5, s6, s7, s8⟩
              go_simp
              with_reducible rfl
            rotate_left
            · simp only [Act.put, List.setIfInBounds_toArray, List.set_cons_zero, List.set_cons_succ, i64_w, i32_w]
              rfl
            refine take_ (i := 28) (N := some 45) (v := ?_) (a' := ?_) (lb 41 536870911) rfl rfl (take_ofW HT_.out HW_.out (by kernel_rfl)) (fun _ _ _ h => h) (Or.inl ⟨by rfl, ?_⟩) hHeld ?_ ?_
            rotate_left
            · rintro w' ⟨s0, s1, s2, s3, s4, s5, s6, s7, s8⟩
              go_simp
              with_reducible rfl
            rotate_left
            · simp only [Act.put, List.setIfInBounds_toArray, List.set_cons_zero, List.set_cons_succ, i64_w, i32_w]
              rfl
            refine pure_ (i := 29) (N := some 46) (v := ?_) (a' := ?_) (lb 41 1073741823) rfl rfl (any_of HT_.out (by kernel_rfl)) (fun _ _ _ h => h) (Or.inl ⟨by rfl, ?_⟩) ?_ ?_
            rotate_left
            · intro w'
              go_simp
              with_reducible rfl
            rotate_left
            · simp only [Act.put, List.setIfInBounds_toArray, List.set_cons_zero, List.set_cons_succ, i64_w, i32_w]
              rfl
            refine pure_ (i := 30) (N := some 47) (v := ?_) (a' := ?_) (lb 41 2147483647) rfl rfl (any_of HT_.out (by kernel_rfl)) (fun _ _ _ h => h) (Or.inl ⟨by rfl, ?_⟩) ?_ ?_
            rotate_left
            · intro w'
              go_simp
              with_reducible rfl
            rotate_left
            · simp only [Act.put, List.setIfInBounds_toArray, List.set_cons_zero, List.set_cons_succ, i64_w, i32_w]
              rfl
            refine pure_ (i := 31) (N := some 48) (v := undef) (a' := ?_) (lb 41 4294967295) rfl rfl (any_of HT_.out (by kernel_rfl)) (fun _ _ _ h => h) (Or.inr ⟨by rfl, rfl⟩) ?_ ?_
            rotate_left
            · simp only [Act.put, List.setIfInBounds_toArray, List.set_cons_zero, List.set_cons_succ, i64_w, i32_w]
              rfl
            refine pure_ (i := 32) (N := some 49) (v := undef) (a' := ?_) (lb 41 8589934591) rfl rfl (any_of HT_.out (by kernel_rfl)) (fun _ _ _ h => h) (Or.inr ⟨by rfl, rfl⟩) ?_ ?_
            rotate_left
            · simp only [Act.put, List.setIfInBounds_toArray, List.set_cons_zero, List.set_cons_succ, i64_w, i32_w]
              rfl
            refine pure_ (i := 33) (N := some 50) (v := undef) (a' := ?_) (lb 41 17179869183) rfl rfl (any_of HT_.out (by kernel_rfl)) (fun _ _ _ h => h) (Or.inr ⟨by rfl, rfl⟩) ?_ ?_
            rotate_left
            · simp only [Act.put, List.setIfInBounds_toArray, List.set_cons_zero, List.set_cons_succ, i64_w, i32_w]
              rfl
            refine pure_ (i := 34) (N := some 51) (v := undef) (a' := ?_) (lb 41 34359738367) rfl rfl (any_of HT_.out (by kernel_rfl)) (fun _ _ _ h => h) (Or.inr ⟨by rfl, rfl⟩) ?_ ?_
            rotate_left
            · simp only [Act.put, List.setIfInBounds_toArray, List.set_cons_zero, List.set_cons_succ, i64_w, i32_w]
              rfl
            refine pure_ (i := 35) (N := some 52) (v := undef) (a' := ?_) (lb 41 68719476735) rfl rfl (any_of HT_.out (by kernel_rfl)) (fun _ _ _ h => h) (Or.inr ⟨by rfl, rfl⟩) ?_ ?_
            rotate_left
            · simp only [Act.put, List.setIfInBounds_toArray, List.set_cons_zero, List.set_cons_succ, i64_w, i32_w]
              rfl
            refine pure_ (i := 36) (N := some 53) (v := undef) (a' := ?_) (lb 41 137438953471) rfl rfl (any_of HT_.out (by kernel_rfl)) (fun _ _ _ h => h) (Or.inr ⟨by rfl, rfl⟩) ?_ ?_
            rotate_left
            · simp only [Act.put, List.setIfInBounds_toArray, List.set_cons_zero, List.set_cons_succ, i64_w, i32_w]
              rfl
            refine pure_ (i := 37) (N := some 54) (v := undef) (a' := ?_) (lb 41 274877906943) rfl rfl (any_of HT_.out (by kernel_rfl)) (fun _ _ _ h => h) (Or.inr ⟨by rfl, rfl⟩) ?_ ?_
            rotate_left
            · simp only [Act.put, List.setIfInBounds_toArray, List.set_cons_zero, List.set_cons_succ, i64_w, i32_w]
              rfl
            refine pure_ (i := 38) (N := some 55) (v := ?_) (a' := ?_) (lb 41 549755813887) rfl rfl (any_of HT_.out (by kernel_rfl)) (fun _ _ _ h => h) (Or.inl ⟨by rfl, ?_⟩) ?_ ?_
            rotate_left
            · intro w'
              go_simp
              with_reducible rfl
            rotate_left
            · simp only [Act.put, List.setIfInBounds_toArray, List.set_cons_zero, List.set_cons_succ, i64_w, i32_w]
              rfl
            refine pure_ (i := 39) (N := some 56) (v := ?_) (a' := ?_) (lb 41 1099511627775) rfl rfl (any_of HT_.out (by kernel_rfl)) (fun _ _ _ h => h) (Or.inl ⟨by rfl, ?_⟩) ?_ ?_
            rotate_left
            · intro w'
              go_simp
              with_reducible rfl
            rotate_left
            · simp only [Act.put, List.setIfInBounds_toArray, List.set_cons_zero, List.set_cons_succ, i64_w, i32_w]
              rfl
            refine pure_ (i := 40) (N := some 57) (v := ?_) (a' := ?_) (lb 41 2199023255551) rfl rfl (any_of HT_.out (by kernel_rfl)) (fun _ _ _ h => h) (Or.inl ⟨by rfl, ?_⟩) ?_ ?_
            rotate_left
            · intro w'
              go_simp
              with_reducible rfl
            rotate_left
            · simp only [Act.put, List.setIfInBounds_toArray, List.set_cons_zero, List.set_cons_succ, i64_w, i32_w]
              rfl
            refine done_ (done_of HT_.out (by kernel_rfl)) ?_
            try go_wp2
            go_meet
            case rel => exact ⟨_, (((t105 == 0) != false)), (by first | rfl | (simp; done) | (simp [*]; done)), H', ⟨by first | omega | exact Nat.le_refl _⟩, ⟨by (with_reducible repeat (first | refine blk_drewN ?_ _ | refine blk_drew ?_ | refine blk_alloc ?_ _)); exact BK101.out⟩, ⟨by (with_reducible repeat (first | refine blk_drewN ?_ _ | refine blk_drew ?_ | refine blk_alloc ?_ _)); exact BK102.out⟩, ⟨by (with_reducible repeat (first | refine blk_drewN ?_ _ | refine blk_drew ?_ | refine blk_alloc ?_ _)); exact BK103.out⟩, ⟨by repeat (first | (with_reducible first | exact HB.out | apply below_alloc | apply pw_below_drewN | apply below_drew1 | refine below_set ?_ GE101.out | refine below_set ?_ GE102.out | refine below_set ?_ GE103.out) | exact HB.out)⟩⟩
      · rw [if_neg c20] at H
        have c20b0 : decide (t105 ≤ 0) = false := decide_eq_false c20
        clear c20
        by_cases c51 : (a0_2 == a1_2) = true
        · rw [if_pos c51] at H
          have c51b0 : (a0_2 == a1_2) = true := c51
          (try (have c51b1 : decide (a0_2 = a1_2) = true := by simpa using c51))
          (try (have c51b2 : (a0_2 == a1_2) = true := by simpa using c51))
          clear c51
          replace H := Option.bind_eq_some_iff.mp H
          obtain ⟨t113, A520, H⟩ := H
          replace H : ((addr_Width.f a0_2).bind fun t114 => (kedgelaw01_AddrOrder.j0 k a3 t104 ((t105 == 0) != (t113 == t114)) a0_0 a0_1 a0_2)) = some r := H
          have A52 := Aside0.mk A520
          clear A520
          replace H := Option.bind_eq_some_iff.mp H
          obtain ⟨t114, A530, H⟩ := H
          replace H : (kedgelaw01_AddrOrder.j0 k a3 t104 ((t105 == 0) != (t113 == t114)) a0_0 a0_1 a0_2) = some r := H
          have A53 := Aside0.mk A530
          clear A530
          have H' := Aside0.mk H
          clear H
          try go_wp2
          have n0_ := Aside0.mk (blk_drew BK101.out)
          have n1_ := Aside0.mk (blk_drew BK102.out)
          have n2_ := Aside0.mk (blk_drew BK103.out)
          have n3_ := Aside0.mk (below_drew1 HB.out)
          clear BK101
          clear BK102
          clear BK103
          clear HB
          have BK101 := n0_
          have BK102 := n1_
          have BK103 := n2_
          have HB := n3_
          clear n0_ n1_ n2_ n3_
          refine start_ (n := 41) (S := fun w' => w'.cell? ⟨gb102, 0, none⟩ = some (.int .u64 a1_0) ∧ w'.cell? ⟨gb102, 1, none⟩ = some (.int .u64 a1_1) ∧ w'.cell? ⟨gb102, 2, none⟩ = some (.bool a1_2) ∧ w'.cell? ⟨gb101, 0, none⟩ = some (.int .u64 a0_0) ∧ w'.cell? ⟨gb101, 1, none⟩ = some (.int .u64 a0_1) ∧ w'.cell? ⟨gb101, 2, none⟩ = some (.bool a0_2)) (ds := []) #[false, false, false, false, false, false, false, false, false, false, false, false, false, false, false, false, false, false, false, false, false, false, false, false, false, false, false, false, false, false, false, false, false, false, false, false, false, false, false, false, false] (by kernel_rfl) rfl rfl ⟨(blk_cell BK102.out 0).trans rfl, (blk_cell BK102.out 1).trans rfl, (blk_cell BK102.out 2).trans rfl, (blk_cell BK101.out 0).trans rfl, (blk_cell BK101.out 1).trans rfl, (blk_cell BK101.out 2).trans rfl⟩ (fun hHeld => ?_); refine with_tabW kedgelaw01_AddrOrder.tab3 kedgelaw01_AddrOrder.bits3 (fun HT_ HW_ => ?_)
          generalize w17.drew = w54 at BK101 BK102 BK103 HB hHeld ⊢
          refine pure_ (i := 0) (N := some 17) (v := ?_) (a' := ?_) (lb 41 1) rfl rfl (any_of HT_.out (by kernel_rfl)) (fun _ _ _ h => h) (Or.inl ⟨by rfl, ?_⟩) ?_ ?_
          rotate_left
          · intro w'
            go_simp
            with_reducible rfl
          rotate_left
          · simp only [Act.put, List.setIfInBounds_toArray, List.set_cons_zero, List.set_cons_succ, i64_w, i32_w]
            rfl
          refine take_ (i := 1) (N := some 18) (v := ?_) (a' := ?_) (lb 41 3) rfl rfl (take_ofW HT_.out HW_.out (by kernel_rfl)) (fun _ _ _ h => h) (Or.inl ⟨by rfl, ?_⟩) hHeld ?_ ?_
          rotate_left
          · rintro w' ⟨s0, s1, s2, s3, s4, s5⟩
            go_simp
            with_reducible rfl
          rotate_left
          · simp only [Act.put, List.setIfInBounds_toArray, List.set_cons_zero, List.set_cons_succ, i64_w, i32_w]
            rfl
          refine take_ (i := 2) (N := some 19) (v := ?_) (a' := ?_) (lb 41 7) rfl rfl (take_ofW HT_.out HW_.out (by kernel_rfl)) (fun _ _ _ h => h) (Or.inl ⟨by rfl, ?_⟩) hHeld ?_ ?_
          rotate_left
          · rintro w' ⟨s0, s1, s2, s3, s4, s5⟩
            go_simp
            with_reducible rfl
          rotate_left
          · simp only [Act.put, List.setIfInBounds_toArray, List.set_cons_zero, List.set_cons_succ, i64_w, i32_w]
            rfl
          refine one_ (i := 3) (N := some 20) (lb 41 15) rfl rfl (one_of HT_.out (by kernel_rfl)) (by decide) (fun K hK => ?_)
          refine goes_ Try.func29 (by kernel_rfl) rfl #[.agg #[.int .u64 a1_0, .int .u64 a1_1, .bool a1_2], .agg #[.int .u64 a0_0, .int .u64 a0_1, .bool a0_2]] (by rfl) rfl rfl (by (try simp only [List.map_toArray, List.map_cons, List.map_nil]); first | done | rfl | (simp only [List.length_drop, List.length_take]; rfl)) ?_
          with_reducible refine (addr_Compare.calls a1_0 a1_1 a1_2 a0_0 a0_1 a0_2 t106 _ A18.out).mono ?_
          rintro e w55 ⟨rfl, hb⟩
          refine ⟨_, rfl, ?_⟩
          have n0_ := Aside0.mk (blk_below (g := gb101) (o := .cells #[.int .u64 a0_0, .int .u64 a0_1, .bool a0_2] 24 (0, 0)) (by (with_reducible repeat (first | refine blk_drewN ?_ _ | refine blk_drew ?_ | refine blk_alloc ?_ _)); exact BK101.out) hb)
          have n1_ := Aside0.mk (blk_below (g := gb102) (o := .cells #[.int .u64 a1_0, .int .u64 a1_1, .bool a1_2] 24 (0, 0)) (by (with_reducible repeat (first | refine blk_drewN ?_ _ | refine blk_drew ?_ | refine blk_alloc ?_ _)); exact BK102.out) hb)
          have n2_ := Aside0.mk (blk_below (g := gb103) (o := .cells #[.int .u64 a2_0, .int .u64 a2_1, .bool a2_2] 24 (0, 0)) (by (with_reducible repeat (first | refine blk_drewN ?_ _ | refine blk_drew ?_ | refine blk_alloc ?_ _)); exact BK103.out) hb)
          have n3_ := Aside0.mk (below_step (by repeat (first | (with_reducible first | exact HB.out | apply below_alloc | apply pw_below_drewN | apply below_drew1 | refine below_set ?_ GE101.out | refine below_set ?_ GE102.out | refine below_set ?_ GE103.out) | exact HB.out)) hb)
          clear BK101
          clear BK102
          clear BK103
          clear HB
          have BK101 := n0_
          have BK102 := n1_
          have BK103 := n2_
          have HB := n3_
          clear n0_ n1_ n2_ n3_
          (try clear hb)
          (try clear hb2)
          (try clear hk)
          (try clear hi)
          refine hK.out _ _ ⟨(blk_cell BK102.out 0).trans rfl, (blk_cell BK102.out 1).trans rfl, (blk_cell BK102.out 2).trans rfl, (blk_cell BK101.out 0).trans rfl, (blk_cell BK101.out 1).trans rfl, (blk_cell BK101.out 2).trans rfl⟩ (fun hHeld => ?_)
          clear hK K
          refine norm_ (a' := ?_) ?_ ?_
          rotate_left
          · show Act.put _ (some 20) _ = _
            simp only [Act.put, List.setIfInBounds_toArray, List.set_cons_zero, List.set_cons_succ, i64_w, i32_w]
            rfl
          refine pure_ (i := 4) (N := some 21) (v := ?_) (a' := ?_) (lb 41 31) rfl rfl (any_of HT_.out (by kernel_rfl)) (fun _ _ _ h => h) (Or.inl ⟨by rfl, ?_⟩) ?_ ?_
          rotate_left
          · intro w'
            go_simp
            with_reducible rfl
          rotate_left
          · simp only [Act.put, List.setIfInBounds_toArray, List.set_cons_zero, List.set_cons_succ, i64_w, i32_w]
            rfl
          refine pure_ (i := 5) (N := some 22) (v := ?_) (a' := ?_) (lb 41 63) rfl rfl (any_of HT_.out (by kernel_rfl)) (fun _ _ _ h => h) (Or.inl ⟨by rfl, ?_⟩) ?_ ?_
          rotate_left
          · intro w'
            go_simp
            with_reducible rfl
          rotate_left
          · simp only [Act.put, List.setIfInBounds_toArray, List.set_cons_zero, List.set_cons_succ, i64_w, i32_w]
            rfl
          refine pure_ (i := 6) (N := some 23) (v := ?_) (a' := ?_) (lb 41 127) rfl rfl (any_of HT_.out (by kernel_rfl)) (fun _ _ _ h => h) (Or.inl ⟨by rfl, ?_⟩) ?_ ?_
          rotate_left
          · intro w'
            go_simp
            with_reducible rfl
          rotate_left
          · simp only [Act.put, List.setIfInBounds_toArray, List.set_cons_zero, List.set_cons_succ, i64_w, i32_w]
            rfl
          refine pure_ (i := 7) (N := some 24) (v := ?_) (a' := ?_) (lb 41 255) rfl rfl (any_of HT_.out (by kernel_rfl)) (fun _ _ _ h => h) (Or.inl ⟨by rfl, ?_⟩) ?_ ?_
          rotate_left
          · intro w'
            go_simp
            with_reducible rfl
          rotate_left
          · simp only [Act.put, List.setIfInBounds_toArray, List.set_cons_zero, List.set_cons_succ, i64_w, i32_w]
            rfl
          refine pure_ (i := 8) (N := some 25) (v := ?_) (a' := ?_) (lb 41 511) rfl rfl (any_of HT_.out (by kernel_rfl)) (fun _ _ _ h => h) (Or.inl ⟨by rfl, ?_⟩) ?_ ?_
          rotate_left
          · intro w'
            go_simp
            with_reducible rfl
          rotate_left
          · simp only [Act.put, List.setIfInBounds_toArray, List.set_cons_zero, List.set_cons_succ, i64_w, i32_w]
            rfl
          refine pure_ (i := 9) (N := some 26) (v := ?_) (a' := ?_) (lb 41 1023) rfl rfl (any_of HT_.out (by kernel_rfl)) (fun _ _ _ h => h) (Or.inl ⟨by rfl, ?_⟩) ?_ ?_
          rotate_left
          · intro w'
            go_simp
            with_reducible rfl
          rotate_left
          · simp only [Act.put, List.setIfInBounds_toArray, List.set_cons_zero, List.set_cons_succ, i64_w, i32_w]
            rfl
          refine pure_ (i := 10) (N := some 27) (v := undef) (a' := ?_) (lb 41 2047) rfl rfl (any_of HT_.out (by kernel_rfl)) (fun _ _ _ h => h) (Or.inr ⟨by rfl, rfl⟩) ?_ ?_
          rotate_left
          · simp only [Act.put, List.setIfInBounds_toArray, List.set_cons_zero, List.set_cons_succ, i64_w, i32_w]
            rfl
          refine pure_ (i := 11) (N := some 28) (v := undef) (a' := ?_) (lb 41 4095) rfl rfl (any_of HT_.out (by kernel_rfl)) (fun _ _ _ h => h) (Or.inr ⟨by rfl, rfl⟩) ?_ ?_
          rotate_left
          · simp only [Act.put, List.setIfInBounds_toArray, List.set_cons_zero, List.set_cons_succ, i64_w, i32_w]
            rfl
          refine pure_ (i := 12) (N := some 29) (v := undef) (a' := ?_) (lb 41 8191) rfl rfl (any_of HT_.out (by kernel_rfl)) (fun _ _ _ h => h) (Or.inr ⟨by rfl, rfl⟩) ?_ ?_
          rotate_left
          · simp only [Act.put, List.setIfInBounds_toArray, List.set_cons_zero, List.set_cons_succ, i64_w, i32_w]
            rfl
          refine pure_ (i := 13) (N := some 30) (v := undef) (a' := ?_) (lb 41 16383) rfl rfl (any_of HT_.out (by kernel_rfl)) (fun _ _ _ h => h) (Or.inr ⟨by rfl, rfl⟩) ?_ ?_
          rotate_left
          · simp only [Act.put, List.setIfInBounds_toArray, List.set_cons_zero, List.set_cons_succ, i64_w, i32_w]
            rfl
          refine pure_ (i := 14) (N := some 31) (v := ?_) (a' := ?_) (lb 41 32767) rfl rfl (any_of HT_.out (by kernel_rfl)) (fun _ _ _ h => h) (Or.inl ⟨by rfl, ?_⟩) ?_ ?_
          rotate_left
          · intro w'
            go_simp
            with_reducible rfl
          rotate_left
          · simp only [Act.put, List.setIfInBounds_toArray, List.set_cons_zero, List.set_cons_succ, i64_w, i32_w]
            rfl
          refine pure_ (i := 15) (N := some 32) (v := ?_) (a' := ?_) (lb 41 65535) rfl rfl (any_of HT_.out (by kernel_rfl)) (fun _ _ _ h => h) (Or.inl ⟨by rfl, ?_⟩) ?_ ?_
          rotate_left
          · intro w'
            go_simp
            with_reducible rfl
          rotate_left
          · simp only [Act.put, List.setIfInBounds_toArray, List.set_cons_zero, List.set_cons_succ, i64_w, i32_w]
            rfl
          refine pure_ (i := 16) (N := some 33) (v := undef) (a' := ?_) (lb 41 131071) rfl rfl (any_of HT_.out (by kernel_rfl)) (fun _ _ _ h => h) (Or.inr ⟨by rfl, rfl⟩) ?_ ?_
          rotate_left
          · simp only [Act.put, List.setIfInBounds_toArray, List.set_cons_zero, List.set_cons_succ, i64_w, i32_w]
            rfl
          refine pure_ (i := 17) (N := some 34) (v := undef) (a' := ?_) (lb 41 262143) rfl rfl (any_of HT_.out (by kernel_rfl)) (fun _ _ _ h => h) (Or.inr ⟨by rfl, rfl⟩) ?_ ?_
          rotate_left
          · simp only [Act.put, List.setIfInBounds_toArray, List.set_cons_zero, List.set_cons_succ, i64_w, i32_w]
            rfl
          refine pure_ (i := 18) (N := some 35) (v := undef) (a' := ?_) (lb 41 524287) rfl rfl (any_of HT_.out (by kernel_rfl)) (fun _ _ _ h => h) (Or.inr ⟨by rfl, rfl⟩) ?_ ?_
          rotate_left
          · simp only [Act.put, List.setIfInBounds_toArray, List.set_cons_zero, List.set_cons_succ, i64_w, i32_w]
            rfl
          refine pure_ (i := 19) (N := some 36) (v := undef) (a' := ?_) (lb 41 1048575) rfl rfl (any_of HT_.out (by kernel_rfl)) (fun _ _ _ h => h) (Or.inr ⟨by rfl, rfl⟩) ?_ ?_
          rotate_left
          · simp only [Act.put, List.setIfInBounds_toArray, List.set_cons_zero, List.set_cons_succ, i64_w, i32_w]
            rfl
          refine pure_ (i := 20) (N := some 37) (v := ?_) (a' := ?_) (lb 41 2097151) rfl rfl (any_of HT_.out (by kernel_rfl)) (fun _ _ _ h => h) (Or.inl ⟨by rfl, ?_⟩) ?_ ?_
          rotate_left
          · intro w'
            go_simp
            with_reducible rfl
          rotate_left
          · simp only [Act.put, List.setIfInBounds_toArray, List.set_cons_zero, List.set_cons_succ, i64_w, i32_w]
            rfl
          refine pure_ (i := 21) (N := some 38) (v := ?_) (a' := ?_) (lb 41 4194303) rfl rfl (any_of HT_.out (by kernel_rfl)) (fun _ _ _ h => h) (Or.inl ⟨by rfl, ?_⟩) ?_ ?_
          rotate_left
          · intro w'
            go_simp
            with_reducible rfl
          rotate_left
          · simp only [Act.put, List.setIfInBounds_toArray, List.set_cons_zero, List.set_cons_succ, i64_w, i32_w]
            rfl
          refine pure_ (i := 22) (N := some 39) (v := ?_) (a' := ?_) (lb 41 8388607) rfl rfl (any_of HT_.out (by kernel_rfl)) (fun _ _ _ h => h) (Or.inl ⟨by rfl, ?_⟩) ?_ ?_
          rotate_left
          · intro w'
            go_simp
            with_reducible rfl
          rotate_left
          · simp only [Act.put, List.setIfInBounds_toArray, List.set_cons_zero, List.set_cons_succ, i64_w, i32_w]
            rfl
          refine pure_ (i := 23) (N := some 40) (v := ?_) (a' := ?_) (lb 41 16777215) rfl rfl (any_of HT_.out (by kernel_rfl)) (fun _ _ _ h => h) (Or.inl ⟨by rfl, ?_⟩) ?_ ?_
          rotate_left
          · intro w'
            go_simp
            with_reducible rfl
          rotate_left
          · simp only [Act.put, List.setIfInBounds_toArray, List.set_cons_zero, List.set_cons_succ, i64_w, i32_w]
            rfl
          refine pure_ (i := 24) (N := some 41) (v := ?_) (a' := ?_) (lb 41 33554431) rfl rfl (any_of HT_.out (by kernel_rfl)) (fun _ _ _ h => h) (Or.inl ⟨by rfl, ?_⟩) ?_ ?_
          rotate_left
          · intro w'
            go_simp
            with_reducible rfl
          rotate_left
          · simp only [Act.put, List.setIfInBounds_toArray, List.set_cons_zero, List.set_cons_succ, i64_w, i32_w]
            rfl
          refine pure_ (i := 25) (N := some 42) (v := ?_) (a' := ?_) (lb 41 67108863) rfl rfl (any_of HT_.out (by kernel_rfl)) (fun _ _ _ h => h) (Or.inl ⟨by rfl, ?_⟩) ?_ ?_
          rotate_left
          · intro w'
            go_simp
            with_reducible rfl
          rotate_left
          · simp only [Act.put, List.setIfInBounds_toArray, List.set_cons_zero, List.set_cons_succ, i64_w, i32_w]
            rfl
          refine pure_ (i := 27) (N := some 44) (v := ?_) (a' := ?_) (lb 41 201326591) rfl rfl (any_of HT_.out (by kernel_rfl)) (fun _ _ _ h => h) (Or.inl ⟨by rfl, ?_⟩) ?_ ?_
          rotate_left
          · intro w'
            go_simp
            with_reducible rfl
          rotate_left
          · simp only [Act.put, List.setIfInBounds_toArray, List.set_cons_zero, List.set_cons_succ, i64_w, i32_w]
            rfl
          refine take_ (i := 26) (N := some 43) (v := ?_) (a' := ?_) (lb 41 268435455) rfl rfl (take_ofW HT_.out HW_.out (by kernel_rfl)) (fun _ _ _ h => h) (Or.inl ⟨by rfl, ?_⟩) hHeld ?_ ?_
          rotate_left
          · rintro w' ⟨s0, s1, s2, s3, s4, s5⟩
            go_simp
            with_reducible rfl
          rotate_left
          · simp only [Act.put, List.setIfInBounds_toArray, List.set_cons_zero, List.set_cons_succ, i64_w, i32_w]
            rfl
          refine take_ (i := 28) (N := some 45) (v := ?_) (a' := ?_) (lb 41 536870911) rfl rfl (take_ofW HT_.out HW_.out (by kernel_rfl)) (fun _ _ _ h => h) (Or.inl ⟨by rfl, ?_⟩) hHeld ?_ ?_
          rotate_left
          · rintro w' ⟨s0, s1, s2, s3, s4, s5⟩
            go_simp
            with_reducible rfl
          rotate_left
          · simp only [Act.put, List.setIfInBounds_toArray, List.set_cons_zero, List.set_cons_succ, i64_w, i32_w]
            rfl
          refine pure_ (i := 29) (N := some 46) (v := ?_) (a' := ?_) (lb 41 1073741823) rfl rfl (any_of HT_.out (by kernel_rfl)) (fun _ _ _ h => h) (Or.inl ⟨by rfl, ?_⟩) ?_ ?_
          rotate_left
          · intro w'
            go_simp
            with_reducible rfl
          rotate_left
          · simp only [Act.put, List.setIfInBounds_toArray, List.set_cons_zero, List.set_cons_succ, i64_w, i32_w]
            rfl
          refine pure_ (i := 30) (N := some 47) (v := ?_) (a' := ?_) (lb 41 2147483647) rfl rfl (any_of HT_.out (by kernel_rfl)) (fun _ _ _ h => h) (Or.inl ⟨by rfl, ?_⟩) ?_ ?_
          rotate_left
          · intro w'
            go_simp
            with_reducible rfl
          rotate_left
          · simp only [Act.put, List.setIfInBounds_toArray, List.set_cons_zero, List.set_cons_succ, i64_w, i32_w]
            rfl
          refine pure_ (i := 34) (N := some 51) (v := ?_) (a' := ?_) (lb 41 19327352831) rfl rfl (any_of HT_.out (by kernel_rfl)) (fun _ _ _ h => h) (Or.inl ⟨by rfl, ?_⟩) ?_ ?_
          rotate_left
          · intro w'
            go_simp
            with_reducible rfl
          rotate_left
          · simp only [Act.put, List.setIfInBounds_toArray, List.set_cons_zero, List.set_cons_succ, i64_w, i32_w]
            rfl
          refine take_ (i := 31) (N := some 48) (v := ?_) (a' := ?_) (lb 41 21474836479) rfl rfl (take_ofW HT_.out HW_.out (by kernel_rfl)) (fun _ _ _ h => h) (Or.inl ⟨by rfl, ?_⟩) hHeld ?_ ?_
          rotate_left
          · rintro w' ⟨s0, s1, s2, s3, s4, s5⟩
            go_simp
            with_reducible rfl
          rotate_left
          · simp only [Act.put, List.setIfInBounds_toArray, List.set_cons_zero, List.set_cons_succ, i64_w, i32_w]
            rfl
          refine take_ (i := 32) (N := some 49) (v := ?_) (a' := ?_) (lb 41 25769803775) rfl rfl (take_ofW HT_.out HW_.out (by kernel_rfl)) (fun _ _ _ h => h) (Or.inl ⟨by rfl, ?_⟩) hHeld ?_ ?_
          rotate_left
          · rintro w' ⟨s0, s1, s2, s3, s4, s5⟩
            go_simp
            with_reducible rfl
          rotate_left
          · simp only [Act.put, List.setIfInBounds_toArray, List.set_cons_zero, List.set_cons_succ, i64_w, i32_w]
            rfl
          refine take_ (i := 35) (N := some 52) (v := ?_) (a' := ?_) (lb 41 60129542143) rfl rfl (take_ofW HT_.out HW_.out (by kernel_rfl)) (fun _ _ _ h => h) (Or.inl ⟨by rfl, ?_⟩) hHeld ?_ ?_
          rotate_left
          · rintro w' ⟨s0, s1, s2, s3, s4, s5⟩
            go_simp
            with_reducible rfl
          rotate_left
          · simp only [Act.put, List.setIfInBounds_toArray, List.set_cons_zero, List.set_cons_succ, i64_w, i32_w]
            rfl
          refine one_ (i := 33) (N := some 50) (lb 41 68719476735) rfl rfl (one_of HT_.out (by kernel_rfl)) (by decide) (fun K hK => ?_)
          refine goes_ Try.func20 (by kernel_rfl) rfl #[.agg #[.int .u64 a0_0, .int .u64 a0_1, .bool a0_2], .agg #[.int .u64 a1_0, .int .u64 a1_1, .bool a1_2]] (by rfl) rfl rfl (by (try simp only [List.map_toArray, List.map_cons, List.map_nil]); first | done | rfl | (simp only [List.length_drop, List.length_take]; rfl)) ?_
          with_reducible refine (addr_Common.calls a0_0 a0_1 a0_2 a1_0 a1_1 a1_2 t113 _ A52.out).mono ?_
          rintro e w56 ⟨rfl, hb⟩
          refine ⟨_, rfl, ?_⟩
          have n0_ := Aside0.mk (blk_below (g := gb101) (o := .cells #[.int .u64 a0_0, .int .u64 a0_1, .bool a0_2] 24 (0, 0)) (by (with_reducible repeat (first | refine blk_drewN ?_ _ | refine blk_drew ?_ | refine blk_alloc ?_ _)); exact BK101.out) hb)
          have n1_ := Aside0.mk (blk_below (g := gb102) (o := .cells #[.int .u64 a1_0, .int .u64 a1_1, .bool a1_2] 24 (0, 0)) (by (with_reducible repeat (first | refine blk_drewN ?_ _ | refine blk_drew ?_ | refine blk_alloc ?_ _)); exact BK102.out) hb)
          have n2_ := Aside0.mk (blk_below (g := gb103) (o := .cells #[.int .u64 a2_0, .int .u64 a2_1, .bool a2_2] 24 (0, 0)) (by (with_reducible repeat (first | refine blk_drewN ?_ _ | refine blk_drew ?_ | refine blk_alloc ?_ _)); exact BK103.out) hb)
          have n3_ := Aside0.mk (below_step (by repeat (first | (with_reducible first | exact HB.out | apply below_alloc | apply pw_below_drewN | apply below_drew1 | refine below_set ?_ GE101.out | refine below_set ?_ GE102.out | refine below_set ?_ GE103.out) | exact HB.out)) hb)
          clear BK101
          clear BK102
          clear BK103
          clear HB
          have BK101 := n0_
          have BK102 := n1_
          have BK103 := n2_
          have HB := n3_
          clear n0_ n1_ n2_ n3_
          (try clear hb)
          (try clear hb2)
          (try clear hk)
          (try clear hi)
          refine hK.out _ _ ⟨(blk_cell BK102.out 0).trans rfl, (blk_cell BK102.out 1).trans rfl, (blk_cell BK102.out 2).trans rfl, (blk_cell BK101.out 0).trans rfl, (blk_cell BK101.out 1).trans rfl, (blk_cell BK101.out 2).trans rfl⟩ (fun hHeld => ?_)
          clear hK K
          refine norm_ (a' := ?_) ?_ ?_
          rotate_left
          · show Act.put _ (some 50) _ = _
            simp only [Act.put, List.setIfInBounds_toArray, List.set_cons_zero, List.set_cons_succ, i64_w, i32_w]
            rfl
          refine one_ (i := 36) (N := some 53) (lb 41 137438953471) rfl rfl (one_of HT_.out (by kernel_rfl)) (by decide) (fun K hK => ?_)
          refine goes_ Try.func21 (by kernel_rfl) rfl #[.bool a0_2] (by rfl) rfl rfl (by (try simp only [List.map_toArray, List.map_cons, List.map_nil]); first | done | rfl | (simp only [List.length_drop, List.length_take]; rfl)) ?_
          with_reducible refine (addr_Width.calls a0_2 t114 _ A53.out).mono ?_
          rintro e w' ⟨rfl, ⟨nd, rfl⟩⟩
          refine ⟨_, rfl, ?_⟩
          refine hK.out _ _ ⟨(blk_cell BK102.out 0).trans rfl, (blk_cell BK102.out 1).trans rfl, (blk_cell BK102.out 2).trans rfl, (blk_cell BK101.out 0).trans rfl, (blk_cell BK101.out 1).trans rfl, (blk_cell BK101.out 2).trans rfl⟩ (fun hHeld => ?_)
          clear hK K
          refine norm_ (a' := ?_) ?_ ?_
          rotate_left
          · show Act.put _ (some 53) _ = _
            simp only [Act.put, List.setIfInBounds_toArray, List.set_cons_zero, List.set_cons_succ, i64_w, i32_w]
            rfl
          refine pure_ (i := 37) (N := some 54) (v := ?_) (a' := ?_) (lb 41 274877906943) rfl rfl (any_of HT_.out (by kernel_rfl)) (fun _ _ _ h => h) (Or.inl ⟨by rfl, ?_⟩) ?_ ?_
          rotate_left
          · intro w'
            go_simp
            with_reducible rfl
          rotate_left
          · simp only [Act.put, List.setIfInBounds_toArray, List.set_cons_zero, List.set_cons_succ, i64_w, i32_w]
            rfl
          refine pure_ (i := 38) (N := some 55) (v := ?_) (a' := ?_) (lb 41 549755813887) rfl rfl (any_of HT_.out (by kernel_rfl)) (fun _ _ _ h => h) (Or.inl ⟨by rfl, ?_⟩) ?_ ?_
          rotate_left
          · intro w'
            go_simp
            with_reducible rfl
          rotate_left
          · simp only [Act.put, List.setIfInBounds_toArray, List.set_cons_zero, List.set_cons_succ, i64_w, i32_w]
            rfl
          refine pure_ (i := 39) (N := some 56) (v := ?_) (a' := ?_) (lb 41 1099511627775) rfl rfl (any_of HT_.out (by kernel_rfl)) (fun _ _ _ h => h) (Or.inl ⟨by rfl, ?_⟩) ?_ ?_
          rotate_left
          · intro w'
            go_simp
            with_reducible rfl
          rotate_left
          · simp only [Act.put, List.setIfInBounds_toArray, List.set_cons_zero, List.set_cons_succ, i64_w, i32_w]
            rfl
          refine pure_ (i := 40) (N := some 57) (v := ?_) (a' := ?_) (lb 41 2199023255551) rfl rfl (any_of HT_.out (by kernel_rfl)) (fun _ _ _ h => h) (Or.inl ⟨by rfl, ?_⟩) ?_ ?_
          rotate_left
          · intro w'
            go_simp
            with_reducible rfl
          rotate_left
          · simp only [Act.put, List.setIfInBounds_toArray, List.set_cons_zero, List.set_cons_succ, i64_w, i32_w]
            rfl
          refine done_ (done_of HT_.out (by kernel_rfl)) ?_
          try go_wp2
          go_meet
          case rel => exact ⟨_, (((t105 == 0) != (t113 == t114))), (by first | rfl | (simp; done) | (simp [*]; done)), H', ⟨by first | omega | exact Nat.le_refl _⟩, ⟨by (with_reducible repeat (first | refine blk_drewN ?_ _ | refine blk_drew ?_ | refine blk_alloc ?_ _)); exact BK101.out⟩, ⟨by (with_reducible repeat (first | refine blk_drewN ?_ _ | refine blk_drew ?_ | refine blk_alloc ?_ _)); exact BK102.out⟩, ⟨by (with_reducible repeat (first | refine blk_drewN ?_ _ | refine blk_drew ?_ | refine blk_alloc ?_ _)); exact BK103.out⟩, ⟨by repeat (first | (with_reducible first | exact HB.out | apply below_alloc | apply pw_below_drewN | apply below_drew1 | refine below_set ?_ GE101.out | refine below_set ?_ GE102.out | refine below_set ?_ GE103.out) | exact HB.out)⟩⟩
        · rw [if_neg c51] at H
          have c51b0 : (a0_2 == a1_2) = false := by simpa using c51
          (try (have c51b1 : decide (a0_2 = a1_2) = false := by simpa using c51))
          (try (have c51b2 : (a0_2 == a1_2) = false := by simpa using c51))
          (try (have c51b3 : ¬ (a0_2 = a1_2) := by simpa using c51))
          clear c51
          have H' := Aside0.mk H
          clear H
          try go_wp2
          have n0_ := Aside0.mk (blk_drew BK101.out)
          have n1_ := Aside0.mk (blk_drew BK102.out)
          have n2_ := Aside0.mk (blk_drew BK103.out)
          have n3_ := Aside0.mk (below_drew1 HB.out)
          clear BK101
          clear BK102
          clear BK103
          clear HB
          have BK101 := n0_
          have BK102 := n1_
          have BK103 := n2_
          have HB := n3_
          clear n0_ n1_ n2_ n3_
          refine start_ (n := 41) (S := fun w' => w'.cell? ⟨gb102, 0, none⟩ = some (.int .u64 a1_0) ∧ w'.cell? ⟨gb102, 1, none⟩ = some (.int .u64 a1_1) ∧ w'.cell? ⟨gb102, 2, none⟩ = some (.bool a1_2) ∧ w'.cell? ⟨gb101, 0, none⟩ = some (.int .u64 a0_0) ∧ w'.cell? ⟨gb101, 1, none⟩ = some (.int .u64 a0_1) ∧ w'.cell? ⟨gb101, 2, none⟩ = some (.bool a0_2)) (ds := []) #[false, false, false, false, false, false, false, false, false, false, false, false, false, false, false, false, false, false, false, false, false, false, false, false, false, false, false, false, false, false, false, false, false, false, false, false, false, false, false, false, false] (by kernel_rfl) rfl rfl ⟨(blk_cell BK102.out 0).trans rfl, (blk_cell BK102.out 1).trans rfl, (blk_cell BK102.out 2).trans rfl, (blk_cell BK101.out 0).trans rfl, (blk_cell BK101.out 1).trans rfl, (blk_cell BK101.out 2).trans rfl⟩ (fun hHeld => ?_); refine with_tabW kedgelaw01_AddrOrder.tab3 kedgelaw01_AddrOrder.bits3 (fun HT_ HW_ => ?_)
          generalize w17.drew = w57 at BK101 BK102 BK103 HB hHeld ⊢
          refine pure_ (i := 0) (N := some 17) (v := ?_) (a' := ?_) (lb 41 1) rfl rfl (any_of HT_.out (by kernel_rfl)) (fun _ _ _ h => h) (Or.inl ⟨by rfl, ?_⟩) ?_ ?_
          rotate_left
          · intro w'
            go_simp
            with_reducible rfl
          rotate_left
          · simp only [Act.put, List.setIfInBounds_toArray, List.set_cons_zero, List.set_cons_succ, i64_w, i32_w]
            rfl
          refine take_ (i := 1) (N := some 18) (v := ?_) (a' := ?_) (lb 41 3) rfl rfl (take_ofW HT_.out HW_.out (by kernel_rfl)) (fun _ _ _ h => h) (Or.inl ⟨by rfl, ?_⟩) hHeld ?_ ?_
          rotate_left
          · rintro w' ⟨s0, s1, s2, s3, s4, s5⟩
            go_simp
            with_reducible rfl
          rotate_left
          · simp only [Act.put, List.setIfInBounds_toArray, List.set_cons_zero, List.set_cons_succ, i64_w, i32_w]
            rfl
          refine take_ (i := 2) (N := some 19) (v := ?_) (a' := ?_) (lb 41 7) rfl rfl (take_ofW HT_.out HW_.out (by kernel_rfl)) (fun _ _ _ h => h) (Or.inl ⟨by rfl, ?_⟩) hHeld ?_ ?_
          rotate_left
          · rintro w' ⟨s0, s1, s2, s3, s4, s5⟩
            go_simp
            with_reducible rfl
          rotate_left
          · simp only [Act.put, List.setIfInBounds_toArray, List.set_cons_zero, List.set_cons_succ, i64_w, i32_w]
            rfl
          refine one_ (i := 3) (N := some 20) (lb 41 15) rfl rfl (one_of HT_.out (by kernel_rfl)) (by decide) (fun K hK => ?_)
          refine goes_ Try.func29 (by kernel_rfl) rfl #[.agg #[.int .u64 a1_0, .int .u64 a1_1, .bool a1_2], .agg #[.int .u64 a0_0, .int .u64 a0_1, .bool a0_2]] (by rfl) rfl rfl (by (try simp only [List.map_toArray, List.map_cons, List.map_nil]); first | done | rfl | (simp only [List.length_drop, List.length_take]; rfl)) ?_
          with_reducible refine (addr_Compare.calls a1_0 a1_1 a1_2 a0_0 a0_1 a0_2 t106 _ A18.out).mono ?_
          rintro e w58 ⟨rfl, hb⟩
          refine ⟨_, rfl, ?_⟩
          have n0_ := Aside0.mk (blk_below (g := gb101) (o := .cells #[.int .u64 a0_0, .int .u64 a0_1, .bool a0_2] 24 (0, 0)) (by (with_reducible repeat (first | refine blk_drewN ?_ _ | refine blk_drew ?_ | refine blk_alloc ?_ _)); exact BK101.out) hb)
          have n1_ := Aside0.mk (blk_below (g := gb102) (o := .cells #[.int .u64 a1_0, .int .u64 a1_1, .bool a1_2] 24 (0, 0)) (by (with_reducible repeat (first | refine blk_drewN ?_ _ | refine blk_drew ?_ | refine blk_alloc ?_ _)); exact BK102.out) hb)
          have n2_ := Aside0.mk (blk_below (g := gb103) (o := .cells #[.int .u64 a2_0, .int .u64 a2_1, .bool a2_2] 24 (0, 0)) (by (with_reducible repeat (first | refine blk_drewN ?_ _ | refine blk_drew ?_ | refine blk_alloc ?_ _)); exact BK103.out) hb)
          have n3_ := Aside0.mk (below_step (by repeat (first | (with_reducible first | exact HB.out | apply below_alloc | apply pw_below_drewN | apply below_drew1 | refine below_set ?_ GE101.out | refine below_set ?_ GE102.out | refine below_set ?_ GE103.out) | exact HB.out)) hb)
          clear BK101
          clear BK102
          clear BK103
          clear HB
          have BK101 := n0_
          have BK102 := n1_
          have BK103 := n2_
          have HB := n3_
          clear n0_ n1_ n2_ n3_
          (try clear hb)
          (try clear hb2)
          (try clear hk)
          (try clear hi)
          refine hK.out _ _ ⟨(blk_cell BK102.out 0).trans rfl, (blk_cell BK102.out 1).trans rfl, (blk_cell BK102.out 2).trans rfl, (blk_cell BK101.out 0).trans rfl, (blk_cell BK101.out 1).trans rfl, (blk_cell BK101.out 2).trans rfl⟩ (fun hHeld => ?_)
          clear hK K
          refine norm_ (a' := ?_) ?_ ?_
          rotate_left
          · show Act.put _ (some 20) _ = _
            simp only [Act.put, List.setIfInBounds_toArray, List.set_cons_zero, List.set_cons_succ, i64_w, i32_w]
            rfl
          refine pure_ (i := 4) (N := some 21) (v := ?_) (a' := ?_) (lb 41 31) rfl rfl (any_of HT_.out (by kernel_rfl)) (fun _ _ _ h => h) (Or.inl ⟨by rfl, ?_⟩) ?_ ?_
          rotate_left
          · intro w'
            go_simp
            with_reducible rfl
          rotate_left
          · simp only [Act.put, List.setIfInBounds_toArray, List.set_cons_zero, List.set_cons_succ, i64_w, i32_w]
            rfl
          refine pure_ (i := 5) (N := some 22) (v := ?_) (a' := ?_) (lb 41 63) rfl rfl (any_of HT_.out (by kernel_rfl)) (fun _ _ _ h => h) (Or.inl ⟨by rfl, ?_⟩) ?_ ?_
          rotate_left
          · intro w'
            go_simp
            with_reducible rfl
          rotate_left
          · simp only [Act.put, List.setIfInBounds_toArray, List.set_cons_zero, List.set_cons_succ, i64_w, i32_w]
            rfl
          refine pure_ (i := 6) (N := some 23) (v := ?_) (a' := ?_) (lb 41 127) rfl rfl (any_of HT_.out (by kernel_rfl)) (fun _ _ _ h => h) (Or.inl ⟨by rfl, ?_⟩) ?_ ?_
          rotate_left
          · intro w'
            go_simp
            with_reducible rfl
          rotate_left
          · simp only [Act.put, List.setIfInBounds_toArray, List.set_cons_zero, List.set_cons_succ, i64_w, i32_w]
            rfl
          refine pure_ (i := 7) (N := some 24) (v := ?_) (a' := ?_) (lb 41 255) rfl rfl (any_of HT_.out (by kernel_rfl)) (fun _ _ _ h => h) (Or.inl ⟨by rfl, ?_⟩) ?_ ?_
          rotate_left
          · intro w'
            go_simp
            with_reducible rfl
          rotate_left
          · simp only [Act.put, List.setIfInBounds_toArray, List.set_cons_zero, List.set_cons_succ, i64_w, i32_w]
            rfl
          refine pure_ (i := 8) (N := some 25) (v := ?_) (a' := ?_) (lb 41 511) rfl rfl (any_of HT_.out (by kernel_rfl)) (fun _ _ _ h => h) (Or.inl ⟨by rfl, ?_⟩) ?_ ?_
          rotate_left
          · intro w'
            go_simp
            with_reducible rfl
          rotate_left
          · simp only [Act.put, List.setIfInBounds_toArray, List.set_cons_zero, List.set_cons_succ, i64_w, i32_w]
            rfl
          refine pure_ (i := 9) (N := some 26) (v := ?_) (a' := ?_) (lb 41 1023) rfl rfl (any_of HT_.out (by kernel_rfl)) (fun _ _ _ h => h) (Or.inl ⟨by rfl, ?_⟩) ?_ ?_
          rotate_left
          · intro w'
            go_simp
            with_reducible rfl
          rotate_left
          · simp only [Act.put, List.setIfInBounds_toArray, List.set_cons_zero, List.set_cons_succ, i64_w, i32_w]
            rfl
          refine pure_ (i := 10) (N := some 27) (v := undef) (a' := ?_) (lb 41 2047) rfl rfl (any_of HT_.out (by kernel_rfl)) (fun _ _ _ h => h) (Or.inr ⟨by rfl, rfl⟩) ?_ ?_
          rotate_left
          · simp only [Act.put, List.setIfInBounds_toArray, List.set_cons_zero, List.set_cons_succ, i64_w, i32_w]
            rfl
          refine pure_ (i := 11) (N := some 28) (v := undef) (a' := ?_) (lb 41 4095) rfl rfl (any_of HT_.out (by kernel_rfl)) (fun _ _ _ h => h) (Or.inr ⟨by rfl, rfl⟩) ?_ ?_
          rotate_left
          · simp only [Act.put, List.setIfInBounds_toArray, List.set_cons_zero, List.set_cons_succ, i64_w, i32_w]
            rfl
          refine pure_ (i := 12) (N := some 29) (v := undef) (a' := ?_) (lb 41 8191) rfl rfl (any_of HT_.out (by kernel_rfl)) (fun _ _ _ h => h) (Or.inr ⟨by rfl, rfl⟩) ?_ ?_
          rotate_left
          · simp only [Act.put, List.setIfInBounds_toArray, List.set_cons_zero, List.set_cons_succ, i64_w, i32_w]
            rfl
          refine pure_ (i := 13) (N := some 30) (v := undef) (a' := ?_) (lb 41 16383) rfl rfl (any_of HT_.out (by kernel_rfl)) (fun _ _ _ h => h) (Or.inr ⟨by rfl, rfl⟩) ?_ ?_
          rotate_left
          · simp only [Act.put, List.setIfInBounds_toArray, List.set_cons_zero, List.set_cons_succ, i64_w, i32_w]
            rfl
          refine pure_ (i := 14) (N := some 31) (v := ?_) (a' := ?_) (lb 41 32767) rfl rfl (any_of HT_.out (by kernel_rfl)) (fun _ _ _ h => h) (Or.inl ⟨by rfl, ?_⟩) ?_ ?_
          rotate_left
          · intro w'
            go_simp
            with_reducible rfl
          rotate_left
          · simp only [Act.put, List.setIfInBounds_toArray, List.set_cons_zero, List.set_cons_succ, i64_w, i32_w]
            rfl
          refine pure_ (i := 15) (N := some 32) (v := ?_) (a' := ?_) (lb 41 65535) rfl rfl (any_of HT_.out (by kernel_rfl)) (fun _ _ _ h => h) (Or.inl ⟨by rfl, ?_⟩) ?_ ?_
          rotate_left
          · intro w'
            go_simp
            with_reducible rfl
          rotate_left
          · simp only [Act.put, List.setIfInBounds_toArray, List.set_cons_zero, List.set_cons_succ, i64_w, i32_w]
            rfl
          refine pure_ (i := 16) (N := some 33) (v := undef) (a' := ?_) (lb 41 131071) rfl rfl (any_of HT_.out (by kernel_rfl)) (fun _ _ _ h => h) (Or.inr ⟨by rfl, rfl⟩) ?_ ?_
          rotate_left
          · simp only [Act.put, List.setIfInBounds_toArray, List.set_cons_zero, List.set_cons_succ, i64_w, i32_w]
            rfl
          refine pure_ (i := 17) (N := some 34) (v := undef) (a' := ?_) (lb 41 262143) rfl rfl (any_of HT_.out (by kernel_rfl)) (fun _ _ _ h => h) (Or.inr ⟨by rfl, rfl⟩) ?_ ?_
          rotate_left
          · simp only [Act.put, List.setIfInBounds_toArray, List.set_cons_zero, List.set_cons_succ, i64_w, i32_w]
            rfl
          refine pure_ (i := 18) (N := some 35) (v := undef) (a' := ?_) (lb 41 524287) rfl rfl (any_of HT_.out (by kernel_rfl)) (fun _ _ _ h => h) (Or.inr ⟨by rfl, rfl⟩) ?_ ?_
          rotate_left
          · simp only [Act.put, List.setIfInBounds_toArray, List.set_cons_zero, List.set_cons_succ, i64_w, i32_w]
            rfl
          refine pure_ (i := 19) (N := some 36) (v := undef) (a' := ?_) (lb 41 1048575) rfl rfl (any_of HT_.out (by kernel_rfl)) (fun _ _ _ h => h) (Or.inr ⟨by rfl, rfl⟩) ?_ ?_
          rotate_left
          · simp only [Act.put, List.setIfInBounds_toArray, List.set_cons_zero, List.set_cons_succ, i64_w, i32_w]
            rfl
          refine pure_ (i := 20) (N := some 37) (v := ?_) (a' := ?_) (lb 41 2097151) rfl rfl (any_of HT_.out (by kernel_rfl)) (fun _ _ _ h => h) (Or.inl ⟨by rfl, ?_⟩) ?_ ?_
          rotate_left
          · intro w'
            go_simp
            with_reducible rfl
          rotate_left
          · simp only [Act.put, List.setIfInBounds_toArray, List.set_cons_zero, List.set_cons_succ, i64_w, i32_w]
            rfl
          refine pure_ (i := 21) (N := some 38) (v := ?_) (a' := ?_) (lb 41 4194303) rfl rfl (any_of HT_.out (by kernel_rfl)) (fun _ _ _ h => h) (Or.inl ⟨by rfl, ?_⟩) ?_ ?_
          rotate_left
          · intro w'
            go_simp
            with_reducible rfl
          rotate_left
          · simp only [Act.put, List.setIfInBounds_toArray, List.set_cons_zero, List.set_cons_succ, i64_w, i32_w]
            rfl
          refine pure_ (i := 22) (N := some 39) (v := ?_) (a' := ?_) (lb 41 8388607) rfl rfl (any_of HT_.out (by kernel_rfl)) (fun _ _ _ h => h) (Or.inl ⟨by rfl, ?_⟩) ?_ ?_
          rotate_left
          · intro w'
            go_simp
            with_reducible rfl
          rotate_left
          · simp only [Act.put, List.setIfInBounds_toArray, List.set_cons_zero, List.set_cons_succ, i64_w, i32_w]
            rfl
          refine pure_ (i := 23) (N := some 40) (v := ?_) (a' := ?_) (lb 41 16777215) rfl rfl (any_of HT_.out (by kernel_rfl)) (fun _ _ _ h => h) (Or.inl ⟨by rfl, ?_⟩) ?_ ?_
          rotate_left
          · intro w'
            go_simp
            with_reducible rfl
          rotate_left
          · simp only [Act.put, List.setIfInBounds_toArray, List.set_cons_zero, List.set_cons_succ, i64_w, i32_w]
            rfl
          refine pure_ (i := 24) (N := some 41) (v := ?_) (a' := ?_) (lb 41 33554431) rfl rfl (any_of HT_.out (by kernel_rfl)) (fun _ _ _ h => h) (Or.inl ⟨by rfl, ?_⟩) ?_ ?_
          rotate_left
          · intro w'
            go_simp
            with_reducible rfl
          rotate_left
          · simp only [Act.put, List.setIfInBounds_toArray, List.set_cons_zero, List.set_cons_succ, i64_w, i32_w]
            rfl
          refine pure_ (i := 25) (N := some 42) (v := ?_) (a' := ?_) (lb 41 67108863) rfl rfl (any_of HT_.out (by kernel_rfl)) (fun _ _ _ h => h) (Or.inl ⟨by rfl, ?_⟩) ?_ ?_
          rotate_left
          · intro w'
            go_simp
            with_reducible rfl
          rotate_left
          · simp only [Act.put, List.setIfInBounds_toArray, List.set_cons_zero, List.set_cons_succ, i64_w, i32_w]
            rfl
          refine pure_ (i := 27) (N := some 44) (v := ?_) (a' := ?_) (lb 41 201326591) rfl rfl (any_of HT_.out (by kernel_rfl)) (fun _ _ _ h => h) (Or.inl ⟨by rfl, ?_⟩) ?_ ?_
          rotate_left
          · intro w'
            go_simp
            with_reducible rfl
          rotate_left
          · simp only [Act.put, List.setIfInBounds_toArray, List.set_cons_zero, List.set_cons_succ, i64_w, i32_w]
            rfl
          refine take_ (i := 26) (N := some 43) (v := ?_) (a' := ?_) (lb 41 268435455) rfl rfl (take_ofW HT_.out HW_.out (by kernel_rfl)) (fun _ _ _ h => h) (Or.inl ⟨by rfl, ?_⟩) hHeld ?_ ?_
          rotate_left
          · rintro w' ⟨s0, s1, s2, s3, s4, s5⟩
            go_simp
            with_reducible rfl
          rotate_left
          · simp only [Act.put, List.setIfInBounds_toArray, List.set_cons_zero, List.set_cons_succ, i64_w, i32_w]
            rfl
          refine take_ (i := 28) (N := some 45) (v := ?_) (a' := ?_) (lb 41 536870911) rfl rfl (take_ofW HT_.out HW_.out (by kernel_rfl)) (fun _ _ _ h => h) (Or.inl ⟨by rfl, ?_⟩) hHeld ?_ ?_
          rotate_left
          · rintro w' ⟨s0, s1, s2, s3, s4, s5⟩
            go_simp
            with_reducible rfl
          rotate_left
          · simp only [Act.put, List.setIfInBounds_toArray, List.set_cons_zero, List.set_cons_succ, i64_w, i32_w]
            rfl
          refine pure_ (i := 29) (N := some 46) (v := ?_) (a' := ?_) (lb 41 1073741823) rfl rfl (any_of HT_.out (by kernel_rfl)) (fun _ _ _ h => h) (Or.inl ⟨by rfl, ?_⟩) ?_ ?_
          rotate_left
          · intro w'
            go_simp
            with_reducible rfl
          rotate_left
          · simp only [Act.put, List.setIfInBounds_toArray, List.set_cons_zero, List.set_cons_succ, i64_w, i32_w]
            rfl
          refine pure_ (i := 30) (N := some 47) (v := ?_) (a' := ?_) (lb 41 2147483647) rfl rfl (any_of HT_.out (by kernel_rfl)) (fun _ _ _ h => h) (Or.inl ⟨by rfl, ?_⟩) ?_ ?_
          rotate_left
          · intro w'
            go_simp
            with_reducible rfl
          rotate_left
          · simp only [Act.put, List.setIfInBounds_toArray, List.set_cons_zero, List.set_cons_succ, i64_w, i32_w]
            rfl
          refine pure_ (i := 31) (N := some 48) (v := undef) (a' := ?_) (lb 41 4294967295) rfl rfl (any_of HT_.out (by kernel_rfl)) (fun _ _ _ h => h) (Or.inr ⟨by rfl, rfl⟩) ?_ ?_
          rotate_left
          · simp only [Act.put, List.setIfInBounds_toArray, List.set_cons_zero, List.set_cons_succ, i64_w, i32_w]
            rfl
          refine pure_ (i := 32) (N := some 49) (v := undef) (a' := ?_) (lb 41 8589934591) rfl rfl (any_of HT_.out (by kernel_rfl)) (fun _ _ _ h => h) (Or.inr ⟨by rfl, rfl⟩) ?_ ?_
          rotate_left
          · simp only [Act.put, List.setIfInBounds_toArray, List.set_cons_zero, List.set_cons_succ, i64_w, i32_w]
            rfl
          refine pure_ (i := 33) (N := some 50) (v := undef) (a' := ?_) (lb 41 17179869183) rfl rfl (any_of HT_.out (by kernel_rfl)) (fun _ _ _ h => h) (Or.inr ⟨by rfl, rfl⟩) ?_ ?_
          rotate_left
          · simp only [Act.put, List.setIfInBounds_toArray, List.set_cons_zero, List.set_cons_succ, i64_w, i32_w]
            rfl
          refine pure_ (i := 34) (N := some 51) (v := undef) (a' := ?_) (lb 41 34359738367) rfl rfl (any_of HT_.out (by kernel_rfl)) (fun _ _ _ h => h) (Or.inr ⟨by rfl, rfl⟩) ?_ ?_
          rotate_left
          · simp only [Act.put, List.setIfInBounds_toArray, List.set_cons_zero, List.set_cons_succ, i64_w, i32_w]
            rfl
          refine pure_ (i := 35) (N := some 52) (v := undef) (a' := ?_) (lb 41 68719476735) rfl rfl (any_of HT_.out (by kernel_rfl)) (fun _ _ _ h => h) (Or.inr ⟨by rfl, rfl⟩) ?_ ?_
          rotate_left
          · simp only [Act.put, List.setIfInBounds_toArray, List.set_cons_zero, List.set_cons_succ, i64_w, i32_w]
            rfl
          refine pure_ (i := 36) (N := some 53) (v := undef) (a' := ?_) (lb 41 137438953471) rfl rfl (any_of HT_.out (by kernel_rfl)) (fun _ _ _ h => h) (Or.inr ⟨by rfl, rfl⟩) ?_ ?_
          rotate_left
          · simp only [Act.put, List.setIfInBounds_toArray, List.set_cons_zero, List.set_cons_succ, i64_w, i32_w]
            rfl
          refine pure_ (i := 37) (N := some 54) (v := undef) (a' := ?_) (lb 41 274877906943) rfl rfl (any_of HT_.out (by kernel_rfl)) (fun _ _ _ h => h) (Or.inr ⟨by rfl, rfl⟩) ?_ ?_
          rotate_left
          · simp only [Act.put, List.setIfInBounds_toArray, List.set_cons_zero, List.set_cons_succ, i64_w, i32_w]
            rfl
          refine pure_ (i := 38) (N := some 55) (v := ?_) (a' := ?_) (lb 41 549755813887) rfl rfl (any_of HT_.out (by kernel_rfl)) (fun _ _ _ h => h) (Or.inl ⟨by rfl, ?_⟩) ?_ ?_
          rotate_left
          · intro w'
            go_simp
            with_reducible rfl
          rotate_left
          · simp only [Act.put, List.setIfInBounds_toArray, List.set_cons_zero, List.set_cons_succ, i64_w, i32_w]
            rfl
          refine pure_ (i := 39) (N := some 56) (v := ?_) (a' := ?_) (lb 41 1099511627775) rfl rfl (any_of HT_.out (by kernel_rfl)) (fun _ _ _ h => h) (Or.inl ⟨by rfl, ?_⟩) ?_ ?_
          rotate_left
          · intro w'
            go_simp
            with_reducible rfl
          rotate_left
          · simp only [Act.put, List.setIfInBounds_toArray, List.set_cons_zero, List.set_cons_succ, i64_w, i32_w]
            rfl
          refine pure_ (i := 40) (N := some 57) (v := ?_) (a' := ?_) (lb 41 2199023255551) rfl rfl (any_of HT_.out (by kernel_rfl)) (fun _ _ _ h => h) (Or.inl ⟨by rfl, ?_⟩) ?_ ?_
          rotate_left
          · intro w'
            go_simp
            with_reducible rfl
          rotate_left
          · simp only [Act.put, List.setIfInBounds_toArray, List.set_cons_zero, List.set_cons_succ, i64_w, i32_w]
            rfl
          refine done_ (done_of HT_.out (by kernel_rfl)) ?_
          try go_wp2
          go_meet
          case rel => exact ⟨_, (((t105 == 0) != false)), (by first | rfl | (simp; done) | (simp [*]; done)), H', ⟨by first | omega | exact Nat.le_refl _⟩, ⟨by (with_reducible repeat (first | refine blk_drewN ?_ _ | refine blk_drew ?_ | refine blk_alloc ?_ _)); exact BK101.out⟩, ⟨by (with_reducible repeat (first | refine blk_drewN ?_ _ | refine blk_drew ?_ | refine blk_alloc ?_ _)); exact BK102.out⟩, ⟨by (with_reducible repeat (first | refine blk_drewN ?_ _ | refine blk_drew ?_ | refine blk_alloc ?_ _)); exact BK103.out⟩, ⟨by repeat (first | (with_reducible first | exact HB.out | apply below_alloc | apply pw_below_drewN | apply below_drew1 | refine below_set ?_ GE101.out | refine below_set ?_ GE102.out | refine below_set ?_ GE103.out) | exact HB.out)⟩⟩
    · rw [if_neg c19] at H
      have c19b0 : (t105 == (wrap64 (-t106))) = false := beq_eq_false_iff_ne.mpr c19
      have c19b1 : (t105 != (wrap64 (-t106))) = true := bne_iff_ne.mpr c19
      (first | rw [c19b0] | (simp only [i64_w, i32_w]; rw [c19b0]) | skip)
      have H' := Aside0.mk H
      (exfalso; have HF := H'.out; rw [hrt] at HF; clear H'; simp [kedgelaw01_AddrOrder.j0_iff, kedgelaw01_AddrOrder.j1_iff] at HF; done)
  case rest =>
    clear HC7
    try clear c1
    try clear c2
    try clear p2
    try clear c5
    try clear p6
    try clear c19
    try clear c19b0
    try clear c19b1
    try clear c29
    try clear c51
    try clear c51b0
    try clear c51b1
    try clear c51b2
    obtain ⟨kq, x57_6, rfl, HA, HJ6, BK101, BK102, BK103, HB⟩ := hcut
    cases kq with
    | zero => exact absurd HA.out (by simp [kedgelaw01_AddrOrder.j0])
    | succ kj6 =>
      have H := HA.out
      clear HA
      simp only [kedgelaw01_AddrOrder.j0] at H
      by_cases c61 : x57_6 = true
      · subst c61
        have H1 : (some false) = some r := by rw [if_pos rfl] at H; exact H
        clear H
        have H := H1
        clear H1
        obtain rfl := Option.some.inj H
        go_wp2
        go_ret
        exact ⟨by first | rfl | (simp [errW_none, errW_some] <;> rfl) | (simp [*, errW_none, errW_some] <;> rfl), by repeat (first | (with_reducible first | exact HB.out | apply below_alloc | apply pw_below_drewN | apply below_drew1 | refine below_set ?_ GE101.out | refine below_set ?_ GE102.out | refine below_set ?_ GE103.out) | exact HB.out)⟩
      · replace c61 := Bool.eq_false_iff.mpr c61
        subst c61
        have H1 : ((addr_Next.f a0_0 a0_1 a0_2).bind fun bt115 => (if t104 = true then (if bt115.2.2.2 = true then ((addr_Compare.f a0_0 a0_1 a0_2 bt115.1 bt115.2.1 bt115.2.2.1).bind fun t120 => (if t120 = (-1) then ((addr_Mask.f a0_0 a0_1 a0_2 a3).bind fun bt121 => ((addr_Compare.f bt121.1 bt121.2.1 bt121.2.2 a0_0 a0_1 a0_2).bind fun t124 => (if t124 ≤ 0 then ((addr_Fill.f a0_0 a0_1 a0_2 a3).bind fun bt125 => ((addr_Compare.f bt125.1 bt125.2.1 bt125.2.2 a0_0 a0_1 a0_2).bind fun t128 => (if t128 ≥ 0 then (kedgelaw01_AddrOrder.j1 kj6 true) else (kedgelaw01_AddrOrder.j1 kj6 false)))) else (kedgelaw01_AddrOrder.j1 kj6 false)))) else (kedgelaw01_AddrOrder.j1 kj6 false))) else ((addr_Mask.f a0_0 a0_1 a0_2 a3).bind fun bt129 => ((addr_Compare.f bt129.1 bt129.2.1 bt129.2.2 a0_0 a0_1 a0_2).bind fun t132 => (if t132 ≤ 0 then ((addr_Fill.f a0_0 a0_1 a0_2 a3).bind fun bt133 => ((addr_Compare.f bt133.1 bt133.2.1 bt133.2.2 a0_0 a0_1 a0_2).bind fun t136 => (if t136 ≥ 0 then ((addr_Fill.f a0_0 a0_1 a0_2 0).bind fun bt137 => ((addr_Compare.f bt137.1 bt137.2.1 bt137.2.2 a0_0 a0_1 a0_2).bind fun t140 => (kedgelaw01_AddrOrder.j1 kj6 (t140 == 0)))) else (kedgelaw01_AddrOrder.j1 kj6 false)))) else (kedgelaw01_AddrOrder.j1 kj6 false))))) else (kedgelaw01_AddrOrder.j1 kj6 false))) = some r := by rw [if_neg (show ¬ (false = true) by decide)] at H; exact H
        clear H
        have H := H1
        clear H1
        replace H := Option.bind_eq_some_iff.mp H
        obtain ⟨⟨t115, t116, t117, t118⟩, A620, H⟩ := H
        replace H : (if t104 = true then (if t118 = true then ((addr_Compare.f a0_0 a0_1 a0_2 t115 t116 t117).bind fun t120 => (if t120 = (-1) then ((addr_Mask.f a0_0 a0_1 a0_2 a3).bind fun bt121 => ((addr_Compare.f bt121.1 bt121.2.1 bt121.2.2 a0_0 a0_1 a0_2).bind fun t124 => (if t124 ≤ 0 then ((addr_Fill.f a0_0 a0_1 a0_2 a3).bind fun bt125 => ((addr_Compare.f bt125.1 bt125.2.1 bt125.2.2 a0_0 a0_1 a0_2).bind fun t128 => (if t128 ≥ 0 then (kedgelaw01_AddrOrder.j1 kj6 true) else (kedgelaw01_AddrOrder.j1 kj6 false)))) else (kedgelaw01_AddrOrder.j1 kj6 false)))) else (kedgelaw01_AddrOrder.j1 kj6 false))) else ((addr_Mask.f a0_0 a0_1 a0_2 a3).bind fun bt129 => ((addr_Compare.f bt129.1 bt129.2.1 bt129.2.2 a0_0 a0_1 a0_2).bind fun t132 => (if t132 ≤ 0 then ((addr_Fill.f a0_0 a0_1 a0_2 a3).bind fun bt133 => ((addr_Compare.f bt133.1 bt133.2.1 bt133.2.2 a0_0 a0_1 a0_2).bind fun t136 => (if t136 ≥ 0 then ((addr_Fill.f a0_0 a0_1 a0_2 0).bind fun bt137 => ((addr_Compare.f bt137.1 bt137.2.1 bt137.2.2 a0_0 a0_1 a0_2).bind fun t140 => (kedgelaw01_AddrOrder.j1 kj6 (t140 == 0)))) else (kedgelaw01_AddrOrder.j1 kj6 false)))) else (kedgelaw01_AddrOrder.j1 kj6 false))))) else (kedgelaw01_AddrOrder.j1 kj6 false)) = some r := H
        have A62 := Aside0.mk A620
        clear A620
        have HC63 := Aside0.mk H
        clear H
        have hnb64 := NB101_102.out
        have hnc64 := NB102_101.out
        have hnb65 := NB101_103.out
        have hnc65 := NB103_101.out
        have hcz66_0 : wc.cell? ⟨gb101, 0, none⟩ = some (.int .u64 a0_0) := (blk_cell BK101.out 0).trans rfl
        have hcz66_1 : wc.cell? ⟨gb101, 1, none⟩ = some (.int .u64 a0_1) := (blk_cell BK101.out 1).trans rfl
        have hcz66_2 : wc.cell? ⟨gb101, 2, none⟩ = some (.bool a0_2) := (blk_cell BK101.out 2).trans rfl
        have hfz66_0 := blk_frozen BK101.out 0
        have hfz66_1 := blk_frozen BK101.out 1
        have hfz66_2 := blk_frozen BK101.out 2
        go_upto_region 6 with (first | ((with_reducible refine gate_callee (f := 38) rfl ?_); refine goesL_ (some 60) rfl rfl Try.func38 (by kernel_rfl) rfl #[.agg #[.int .u64 a0_0, .int .u64 a0_1, .bool a0_2]] rfl (by (try simp only [List.map_toArray, List.map_cons, List.map_nil]); first | done | rfl | (simp only [List.length_drop, List.length_take]; rfl)) ?_; (with_reducible refine (addr_Next.calls a0_0 a0_1 a0_2 t115 t116 t117 t118 _ A62.out).mono ?_); rintro e w67 ⟨rfl, hb⟩; refine ⟨_, rfl, ?_⟩; have n0_ := Aside0.mk (blk_below (g := gb101) (o := .cells #[.int .u64 a0_0, .int .u64 a0_1, .bool a0_2] 24 (0, 0)) (by (with_reducible repeat (first | refine blk_drewN ?_ _ | refine blk_drew ?_ | refine blk_alloc ?_ _)); exact BK101.out) hb); have n1_ := Aside0.mk (blk_below (g := gb102) (o := .cells #[.int .u64 a1_0, .int .u64 a1_1, .bool a1_2] 24 (0, 0)) (by (with_reducible repeat (first | refine blk_drewN ?_ _ | refine blk_drew ?_ | refine blk_alloc ?_ _)); exact BK102.out) hb); have n2_ := Aside0.mk (blk_below (g := gb103) (o := .cells #[.int .u64 a2_0, .int .u64 a2_1, .bool a2_2] 24 (0, 0)) (by (with_reducible repeat (first | refine blk_drewN ?_ _ | refine blk_drew ?_ | refine blk_alloc ?_ _)); exact BK103.out) hb); have n3_ := Aside0.mk (below_step (by repeat (first | (with_reducible first | exact HB.out | apply below_alloc | apply pw_below_drewN | apply below_drew1 | refine below_set ?_ GE101.out | refine below_set ?_ GE102.out | refine below_set ?_ GE103.out) | exact HB.out)) hb); clear BK101; clear BK102; clear BK103; clear HB; have BK101 := n0_; have BK102 := n1_; have BK103 := n2_; have HB := n3_; clear n0_ n1_ n2_ n3_; (try clear hb); (try clear hb2); (try clear hk); (try clear hi)) | ((with_reducible refine gate_dst (N := 11) rfl ?_); refine box_event ?hg (N := 11) ?hd (cs := #[.int .u64 0, .int .u64 0, .bool false]) (t := 24) ?hr ?_; (case hd => rfl); (case hg => rfl); (case hr => first | (go_simp; done) | (go_simp; rfl)); intro gb119 hg w68 hbox hb; have n0_ := Aside0.mk (blk_below (g := gb101) (o := .cells #[.int .u64 a0_0, .int .u64 a0_1, .bool a0_2] 24 (0, 0)) (by (with_reducible repeat (first | refine blk_drewN ?_ _ | refine blk_drew ?_ | refine blk_alloc ?_ _)); exact BK101.out) hb); have n1_ := Aside0.mk (blk_below (g := gb102) (o := .cells #[.int .u64 a1_0, .int .u64 a1_1, .bool a1_2] 24 (0, 0)) (by (with_reducible repeat (first | refine blk_drewN ?_ _ | refine blk_drew ?_ | refine blk_alloc ?_ _)); exact BK102.out) hb); have n2_ := Aside0.mk (blk_below (g := gb103) (o := .cells #[.int .u64 a2_0, .int .u64 a2_1, .bool a2_2] 24 (0, 0)) (by (with_reducible repeat (first | refine blk_drewN ?_ _ | refine blk_drew ?_ | refine blk_alloc ?_ _)); exact BK103.out) hb); have n3_ := Aside0.mk (below_step (by repeat (first | (with_reducible first | exact HB.out | apply below_alloc | apply pw_below_drewN | apply below_drew1 | refine below_set ?_ GE101.out | refine below_set ?_ GE102.out | refine below_set ?_ GE103.out) | exact HB.out)) hb); have n4_ := Aside0.mk (hbox); have n5_ := Aside0.mk ((by rw [hg]; exact (below_size (by repeat (first | (with_reducible first | exact HB.out | apply below_alloc | apply pw_below_drewN | apply below_drew1 | refine below_set ?_ GE101.out | refine below_set ?_ GE102.out | refine below_set ?_ GE103.out) | exact HB.out))) : w.heap.size ≤ gb119)); have n6_ := Aside0.mk ((by rw [hg]; exact (below_size (by repeat (first | (with_reducible first | exact HB.out | apply below_alloc | apply pw_below_drewN | apply below_drew1 | refine below_set ?_ GE101.out | refine below_set ?_ GE102.out | refine below_set ?_ GE103.out) | exact HB.out))) : w.heap.size ≤ gb119)); have n7_ := Aside0.mk ((by rw [hg]; exact Nat.ne_of_lt (blk_lt (g := gb101) (o := .cells #[.int .u64 a0_0, .int .u64 a0_1, .bool a0_2] 24 (0, 0)) (by (with_reducible repeat (first | refine blk_drewN ?_ _ | refine blk_drew ?_ | refine blk_alloc ?_ _)); exact BK101.out)) : gb101 ≠ gb119)); have n8_ := Aside0.mk ((by rw [hg]; exact Nat.ne_of_gt (blk_lt (g := gb101) (o := .cells #[.int .u64 a0_0, .int .u64 a0_1, .bool a0_2] 24 (0, 0)) (by (with_reducible repeat (first | refine blk_drewN ?_ _ | refine blk_drew ?_ | refine blk_alloc ?_ _)); exact BK101.out)) : gb119 ≠ gb101)); have n9_ := Aside0.mk ((by rw [hg]; exact Nat.ne_of_lt (blk_lt (g := gb102) (o := .cells #[.int .u64 a1_0, .int .u64 a1_1, .bool a1_2] 24 (0, 0)) (by (with_reducible repeat (first | refine blk_drewN ?_ _ | refine blk_drew ?_ | refine blk_alloc ?_ _)); exact BK102.out)) : gb102 ≠ gb119)); have n10_ := Aside0.mk ((by rw [hg]; exact Nat.ne_of_gt (blk_lt (g := gb102) (o := .cells #[.int .u64 a1_0, .int .u64 a1_1, .bool a1_2] 24 (0, 0)) (by (with_reducible repeat (first | refine blk_drewN ?_ _ | refine blk_drew ?_ | refine blk_alloc ?_ _)); exact BK102.out)) : gb119 ≠ gb102)); have n11_ := Aside0.mk ((by rw [hg]; exact Nat.ne_of_lt (blk_lt (g := gb103) (o := .cells #[.int .u64 a2_0, .int .u64 a2_1, .bool a2_2] 24 (0, 0)) (by (with_reducible repeat (first | refine blk_drewN ?_ _ | refine blk_drew ?_ | refine blk_alloc ?_ _)); exact BK103.out)) : gb103 ≠ gb119)); have n12_ := Aside0.mk ((by rw [hg]; exact Nat.ne_of_gt (blk_lt (g := gb103) (o := .cells #[.int .u64 a2_0, .int .u64 a2_1, .bool a2_2] 24 (0, 0)) (by (with_reducible repeat (first | refine blk_drewN ?_ _ | refine blk_drew ?_ | refine blk_alloc ?_ _)); exact BK103.out)) : gb119 ≠ gb103)); clear BK101; clear BK102; clear BK103; clear HB; have BK101 := n0_; have BK102 := n1_; have BK103 := n2_; have HB := n3_; have BK119 := n4_; have GW119 := n5_; have GE119 := n6_; have NB101_119 := n7_; have NB119_101 := n8_; have NB102_119 := n9_; have NB119_102 := n10_; have NB103_119 := n11_; have NB119_103 := n12_; clear n0_ n1_ n2_ n3_ n4_ n5_ n6_ n7_ n8_ n9_ n10_ n11_ n12_; clear hb hbox hg; have hnb69 := NB119_101.out; have hnc69 := NB101_119.out; have hnb70 := NB119_102.out; have hnc70 := NB102_119.out; have hnb71 := NB119_103.out; have hnc71 := NB103_119.out; have hcz72_0 : w68.cell? ⟨gb119, 0, none⟩ = some (.int .u64 0) := (blk_cell BK119.out 0).trans rfl; have hcz72_1 : w68.cell? ⟨gb119, 1, none⟩ = some (.int .u64 0) := (blk_cell BK119.out 1).trans rfl; have hcz72_2 : w68.cell? ⟨gb119, 2, none⟩ = some (.bool false) := (blk_cell BK119.out 2).trans rfl; have hfz72_0 := blk_frozen BK119.out 0; have hfz72_1 := blk_frozen BK119.out 1; have hfz72_2 := blk_frozen BK119.out 2))
        (try simp only [Act.put, List.setIfInBounds_toArray, List.set_cons_zero, List.set_cons_succ])
        go_cut [8] (fun v8 wc => ∃ (kq : Nat) (x8_62 : Bool), v8 = .bool x8_62 ∧ Aside0 (kedgelaw01_AddrOrder.j1 kq x8_62 = some r) ∧ Aside0 (kq ≤ kj6) ∧ Aside0 (wc.heap[gb101]? = some (.cells #[.int .u64 a0_0, .int .u64 a0_1, .bool a0_2] 24 (0, 0))) ∧ Aside0 (wc.heap[gb102]? = some (.cells #[.int .u64 a1_0, .int .u64 a1_1, .bool a1_2] 24 (0, 0))) ∧ Aside0 (wc.heap[gb103]? = some (.cells #[.int .u64 a2_0, .int .u64 a2_1, .bool a2_2] 24 (0, 0))) ∧ Aside0 (wc.heap[gb119]? = some (.cells #[.int .u64 t115, .int .u64 t116, .bool t117] 24 (0, 0))) ∧ Aside0 (Below w.heap.size w wc))
        case first =>
          have H := HC63.out
          clear HC63
          by_cases c73 : t104 = true
          · subst c73
            have H1 : (if t118 = true then ((addr_Compare.f a0_0 a0_1 a0_2 t115 t116 t117).bind fun t120 => (if t120 = (-1) then ((addr_Mask.f a0_0 a0_1 a0_2 a3).bind fun bt121 => ((addr_Compare.f bt121.1 bt121.2.1 bt121.2.2 a0_0 a0_1 a0_2).bind fun t124 => (if t124 ≤ 0 then ((addr_Fill.f a0_0 a0_1 a0_2 a3).bind fun bt125 => ((addr_Compare.f bt125.1 bt125.2.1 bt125.2.2 a0_0 a0_1 a0_2).bind fun t128 => (if t128 ≥ 0 then (kedgelaw01_AddrOrder.j1 kj6 true) else (kedgelaw01_AddrOrder.j1 kj6 false)))) else (kedgelaw01_AddrOrder.j1 kj6 false)))) else (kedgelaw01_AddrOrder.j1 kj6 false))) else ((addr_Mask.f a0_0 a0_1 a0_2 a3).bind fun bt129 => ((addr_Compare.f bt129.1 bt129.2.1 bt129.2.2 a0_0 a0_1 a0_2).bind fun t132 => (if t132 ≤ 0 then ((addr_Fill.f a0_0 a0_1 a0_2 a3).bind fun bt133 => ((addr_Compare.f bt133.1 bt133.2.1 bt133.2.2 a0_0 a0_1 a0_2).bind fun t136 => (if t136 ≥ 0 then ((addr_Fill.f a0_0 a0_1 a0_2 0).bind fun bt137 => ((addr_Compare.f bt137.1 bt137.2.1 bt137.2.2 a0_0 a0_1 a0_2).bind fun t140 => (kedgelaw01_AddrOrder.j1 kj6 (t140 == 0)))) else (kedgelaw01_AddrOrder.j1 kj6 false)))) else (kedgelaw01_AddrOrder.j1 kj6 false))))) = some r := by rw [if_pos rfl] at H; exact H
            clear H
            have H := H1
            clear H1
            by_cases c74 : t118 = true
            · subst c74
              have H1 : ((addr_Compare.f a0_0 a0_1 a0_2 t115 t116 t117).bind fun t120 => (if t120 = (-1) then ((addr_Mask.f a0_0 a0_1 a0_2 a3).bind fun bt121 => ((addr_Compare.f bt121.1 bt121.2.1 bt121.2.2 a0_0 a0_1 a0_2).bind fun t124 => (if t124 ≤ 0 then ((addr_Fill.f a0_0 a0_1 a0_2 a3).bind fun bt125 => ((addr_Compare.f bt125.1 bt125.2.1 bt125.2.2 a0_0 a0_1 a0_2).bind fun t128 => (if t128 ≥ 0 then (kedgelaw01_AddrOrder.j1 kj6 true) else (kedgelaw01_AddrOrder.j1 kj6 false)))) else (kedgelaw01_AddrOrder.j1 kj6 false)))) else (kedgelaw01_AddrOrder.j1 kj6 false))) = some r := by rw [if_pos rfl] at H; exact H
              clear H
              have H := H1
              clear H1
              replace H := Option.bind_eq_some_iff.mp H
              obtain ⟨t120, A750, H⟩ := H
              replace H : (if t120 = (-1) then ((addr_Mask.f a0_0 a0_1 a0_2 a3).bind fun bt121 => ((addr_Compare.f bt121.1 bt121.2.1 bt121.2.2 a0_0 a0_1 a0_2).bind fun t124 => (if t124 ≤ 0 then ((addr_Fill.f a0_0 a0_1 a0_2 a3).bind fun bt125 => ((addr_Compare.f bt125.1 bt125.2.1 bt125.2.2 a0_0 a0_1 a0_2).bind fun t128 => (if t128 ≥ 0 then (kedgelaw01_AddrOrder.j1 kj6 true) else (kedgelaw01_AddrOrder.j1 kj6 false)))) else (kedgelaw01_AddrOrder.j1 kj6 false)))) else (kedgelaw01_AddrOrder.j1 kj6 false)) = some r := H
              have A75 := Aside0.mk A750
              clear A750
              by_cases c76 : t120 = (-1)
              · rw [if_pos c76] at H
                have c76b0 : (t120 == (-1)) = true := beq_iff_eq.mpr c76
                have c76b1 : (t120 != (-1)) = false := bne_eq_false_iff_eq.mpr c76
                clear c76
                (first | rw [c76b0] | (simp only [i64_w, i32_w]; rw [c76b0]) | skip)
                replace H := Option.bind_eq_some_iff.mp H
                obtain ⟨⟨t121, t122, t123⟩, A770, H⟩ := H
                replace H : ((addr_Compare.f t121 t122 t123 a0_0 a0_1 a0_2).bind fun t124 => (if t124 ≤ 0 then ((addr_Fill.f a0_0 a0_1 a0_2 a3).bind fun bt125 => ((addr_Compare.f bt125.1 bt125.2.1 bt125.2.2 a0_0 a0_1 a0_2).bind fun t128 => (if t128 ≥ 0 then (kedgelaw01_AddrOrder.j1 kj6 true) else (kedgelaw01_AddrOrder.j1 kj6 false)))) else (kedgelaw01_AddrOrder.j1 kj6 false))) = some r := H
                have A77 := Aside0.mk A770
                clear A770
                replace H := Option.bind_eq_some_iff.mp H
                obtain ⟨t124, A780, H⟩ := H
                replace H : (if t124 ≤ 0 then ((addr_Fill.f a0_0 a0_1 a0_2 a3).bind fun bt125 => ((addr_Compare.f bt125.1 bt125.2.1 bt125.2.2 a0_0 a0_1 a0_2).bind fun t128 => (if t128 ≥ 0 then (kedgelaw01_AddrOrder.j1 kj6 true) else (kedgelaw01_AddrOrder.j1 kj6 false)))) else (kedgelaw01_AddrOrder.j1 kj6 false)) = some r := H
                have A78 := Aside0.mk A780
                clear A780
                by_cases c79 : t124 ≤ 0
                · rw [if_pos c79] at H
                  have c79b0 : decide (t124 ≤ 0) = true := decide_eq_true c79
                  clear c79
                  replace H := Option.bind_eq_some_iff.mp H
                  obtain ⟨⟨t125, t126, t127⟩, A800, H⟩ := H
                  replace H : ((addr_Compare.f t125 t126 t127 a0_0 a0_1 a0_2).bind fun t128 => (if t128 ≥ 0 then (kedgelaw01_AddrOrder.j1 kj6 true) else (kedgelaw01_AddrOrder.j1 kj6 false))) = some r := H
                  have A80 := Aside0.mk A800
                  clear A800
                  replace H := Option.bind_eq_some_iff.mp H
                  obtain ⟨t128, A810, H⟩ := H
                  replace H : (if t128 ≥ 0 then (kedgelaw01_AddrOrder.j1 kj6 true) else (kedgelaw01_AddrOrder.j1 kj6 false)) = some r := H
                  have A81 := Aside0.mk A810
                  clear A810
                  by_cases c82 : t128 ≥ 0
                  · rw [if_pos c82] at H
                    have c82b0 : decide (0 ≤ t128) = true := decide_eq_true c82
                    clear c82
                    have H' := Aside0.mk H
                    clear H
                    try go_wp2
                    have n0_ : Aside0 ((((w68.setCell ⟨gb119, 0, none⟩ (.int .u64 t115)).setCell ⟨gb119, 1, none⟩ (.int .u64 t116)).setCell ⟨gb119, 2, none⟩ (.bool t117)).heap[gb101]? = some (.cells #[.int .u64 a0_0, .int .u64 a0_1, .bool a0_2] 24 (0, 0))) := ⟨by (with_reducible repeat (first | refine blk_drewN ?_ _ | refine blk_drew ?_ | refine blk_alloc ?_ _)); refine blk_far ?_ NB101_119.out _; (with_reducible repeat (first | refine blk_drewN ?_ _ | refine blk_drew ?_ | refine blk_alloc ?_ _)); refine blk_far ?_ NB101_119.out _; (with_reducible repeat (first | refine blk_drewN ?_ _ | refine blk_drew ?_ | refine blk_alloc ?_ _)); refine blk_far ?_ NB101_119.out _; (with_reducible repeat (first | refine blk_drewN ?_ _ | refine blk_drew ?_ | refine blk_alloc ?_ _)); exact BK101.out⟩
                    have n1_ : Aside0 ((((w68.setCell ⟨gb119, 0, none⟩ (.int .u64 t115)).setCell ⟨gb119, 1, none⟩ (.int .u64 t116)).setCell ⟨gb119, 2, none⟩ (.bool t117)).heap[gb102]? = some (.cells #[.int .u64 a1_0, .int .u64 a1_1, .bool a1_2] 24 (0, 0))) := ⟨by (with_reducible repeat (first | refine blk_drewN ?_ _ | refine blk_drew ?_ | refine blk_alloc ?_ _)); refine blk_far ?_ NB102_119.out _; (with_reducible repeat (first | refine blk_drewN ?_ _ | refine blk_drew ?_ | refine blk_alloc ?_ _)); refine blk_far ?_ NB102_119.out _; (with_reducible repeat (first | refine blk_drewN ?_ _ | refine blk_drew ?_ | refine blk_alloc ?_ _)); refine blk_far ?_ NB102_119.out _; (with_reducible repeat (first | refine blk_drewN ?_ _ | refine blk_drew ?_ | refine blk_alloc ?_ _)); exact BK102.out⟩
                    have n2_ : Aside0 ((((w68.setCell ⟨gb119, 0, none⟩ (.int .u64 t115)).setCell ⟨gb119, 1, none⟩ (.int .u64 t116)).setCell ⟨gb119, 2, none⟩ (.bool t117)).heap[gb103]? = some (.cells #[.int .u64 a2_0, .int .u64 a2_1, .bool a2_2] 24 (0, 0))) := ⟨by (with_reducible repeat (first | refine blk_drewN ?_ _ | refine blk_drew ?_ | refine blk_alloc ?_ _)); refine blk_far ?_ NB103_119.out _; (with_reducible repeat (first | refine blk_drewN ?_ _ | refine blk_drew ?_ | refine blk_alloc ?_ _)); refine blk_far ?_ NB103_119.out _; (with_reducible repeat (first | refine blk_drewN ?_ _ | refine blk_drew ?_ | refine blk_alloc ?_ _)); refine blk_far ?_ NB103_119.out _; (with_reducible repeat (first | refine blk_drewN ?_ _ | refine blk_drew ?_ | refine blk_alloc ?_ _)); exact BK103.out⟩
                    have n3_ : Aside0 ((((w68.setCell ⟨gb119, 0, none⟩ (.int .u64 t115)).setCell ⟨gb119, 1, none⟩ (.int .u64 t116)).setCell ⟨gb119, 2, none⟩ (.bool t117)).heap[gb119]? = some (.cells #[.int .u64 t115, .int .u64 t116, .bool t117] 24 (0, 0))) := ⟨by (with_reducible repeat (first | refine blk_drewN ?_ _ | refine blk_drew ?_ | refine blk_alloc ?_ _)); refine blk_put (cs := #[.int .u64 t115, .int .u64 t116, .bool false]) ?_ 2 _ rfl; (with_reducible repeat (first | refine blk_drewN ?_ _ | refine blk_drew ?_ | refine blk_alloc ?_ _)); refine blk_put (cs := #[.int .u64 t115, .int .u64 0, .bool false]) ?_ 1 _ rfl; (with_reducible repeat (first | refine blk_drewN ?_ _ | refine blk_drew ?_ | refine blk_alloc ?_ _)); refine blk_put (cs := #[.int .u64 0, .int .u64 0, .bool false]) ?_ 0 _ rfl; (with_reducible repeat (first | refine blk_drewN ?_ _ | refine blk_drew ?_ | refine blk_alloc ?_ _)); exact BK119.out⟩
                    have n4_ : Aside0 (Below w.heap.size w (((w68.setCell ⟨gb119, 0, none⟩ (.int .u64 t115)).setCell ⟨gb119, 1, none⟩ (.int .u64 t116)).setCell ⟨gb119, 2, none⟩ (.bool t117))) := ⟨by repeat (first | (with_reducible first | exact HB.out | apply below_alloc | apply pw_below_drewN | apply below_drew1 | refine below_set ?_ GE101.out | refine below_set ?_ GE102.out | refine below_set ?_ GE103.out | refine below_set ?_ GE119.out) | exact HB.out)⟩
                    (try clear BK101)
                    (try clear BK102)
                    (try clear BK103)
                    (try clear BK119)
                    (try clear HB)
                    generalize (((w68.setCell ⟨gb119, 0, none⟩ (.int .u64 t115)).setCell ⟨gb119, 1, none⟩ (.int .u64 t116)).setCell ⟨gb119, 2, none⟩ (.bool t117)) = w83 at n0_ n1_ n2_ n3_ n4_ ⊢
                    have BK101 := n0_
                    have BK102 := n1_
                    have BK103 := n2_
                    have BK119 := n3_
                    have HB := n4_
                    clear n0_ n1_ n2_ n3_ n4_
                    have n0_ := Aside0.mk (blk_drew BK101.out)
                    have n1_ := Aside0.mk (blk_drew BK102.out)
                    have n2_ := Aside0.mk (blk_drew BK103.out)
                    have n3_ := Aside0.mk (blk_drew BK119.out)
                    have n4_ := Aside0.mk (below_drew1 HB.out)
                    clear BK101
                    clear BK102
                    clear BK103
                    clear BK119
                    clear HB
                    have BK101 := n0_
                    have BK102 := n1_
                    have BK103 := n2_
                    have BK119 := n3_
                    have HB := n4_
                    clear n0_ n1_ n2_ n3_ n4_
                    refine start_ (n := 38) (S := fun w' => w'.cell? ⟨gb101, 0, none⟩ = some (.int .u64 a0_0) ∧ w'.cell? ⟨gb101, 1, none⟩ = some (.int .u64 a0_1) ∧ w'.cell? ⟨gb101, 2, none⟩ = some (.bool a0_2) ∧ w'.cell? ⟨gb119, 0, none⟩ = some (.int .u64 t115) ∧ w'.cell? ⟨gb119, 1, none⟩ = some (.int .u64 t116) ∧ w'.cell? ⟨gb119, 2, none⟩ = some (.bool t117)) (ds := []) #[false, false, false, false, false, false, false, false, false, false, false, false, false, false, false, false, false, false, false, false, false, false, false, false, false, false, false, false, false, false, false, false, false, false, false, false, false, false] (by kernel_rfl) rfl rfl ⟨(blk_cell BK101.out 0).trans rfl, (blk_cell BK101.out 1).trans rfl, (blk_cell BK101.out 2).trans rfl, (blk_cell BK119.out 0).trans rfl, (blk_cell BK119.out 1).trans rfl, (blk_cell BK119.out 2).trans rfl⟩ (fun hHeld => ?_); refine with_tabW kedgelaw01_AddrOrder.tab6 kedgelaw01_AddrOrder.bits6 (fun HT_ HW_ => ?_)
                    generalize w83.drew = w84 at BK101 BK102 BK103 BK119 HB hHeld ⊢
                    refine pure_ (i := 0) (N := some 63) (v := ?_) (a' := ?_) (lb 38 1) rfl rfl (any_of HT_.out (by kernel_rfl)) (fun _ _ _ h => h) (Or.inl ⟨by rfl, ?_⟩) ?_ ?_
                    rotate_left
                    · intro w'
                      go_simp
                      with_reducible rfl
                    rotate_left
                    · simp only [Act.put, List.setIfInBounds_toArray, List.set_cons_zero, List.set_cons_succ, i64_w, i32_w]
                      rfl
                    refine pure_ (i := 1) (N := some 64) (v := ?_) (a' := ?_) (lb 38 3) rfl rfl (any_of HT_.out (by kernel_rfl)) (fun _ _ _ h => h) (Or.inl ⟨by rfl, ?_⟩) ?_ ?_
                    rotate_left
                    · intro w'
                      go_simp
                      with_reducible rfl
                    rotate_left
                    · simp only [Act.put, List.setIfInBounds_toArray, List.set_cons_zero, List.set_cons_succ, i64_w, i32_w]
                      rfl
                    refine pure_ (i := 2) (N := some 65) (v := ?_) (a' := ?_) (lb 38 7) rfl rfl (any_of HT_.out (by kernel_rfl)) (fun _ _ _ h => h) (Or.inl ⟨by rfl, ?_⟩) ?_ ?_
                    rotate_left
                    · intro w'
                      go_simp
                      with_reducible rfl
                    rotate_left
                    · simp only [Act.put, List.setIfInBounds_toArray, List.set_cons_zero, List.set_cons_succ, i64_w, i32_w]
                      rfl
                    refine pure_ (i := 3) (N := some 66) (v := ?_) (a' := ?_) (lb 38 15) rfl rfl (any_of HT_.out (by kernel_rfl)) (fun _ _ _ h => h) (Or.inl ⟨by rfl, ?_⟩) ?_ ?_
                    rotate_left
                    · intro w'
                      go_simp
                      with_reducible rfl
                    rotate_left
                    · simp only [Act.put, List.setIfInBounds_toArray, List.set_cons_zero, List.set_cons_succ, i64_w, i32_w]
                      rfl
                    refine pure_ (i := 4) (N := some 67) (v := ?_) (a' := ?_) (lb 38 31) rfl rfl (any_of HT_.out (by kernel_rfl)) (fun _ _ _ h => h) (Or.inl ⟨by rfl, ?_⟩) ?_ ?_
                    rotate_left
                    · intro w'
                      go_simp
                      with_reducible rfl
                    rotate_left
                    · simp only [Act.put, List.setIfInBounds_toArray, List.set_cons_zero, List.set_cons_succ, i64_w, i32_w]
                      rfl
                    refine take_ (i := 5) (N := some 68) (v := ?_) (a' := ?_) (lb 38 63) rfl rfl (take_ofW HT_.out HW_.out (by kernel_rfl)) (fun _ _ _ h => h) (Or.inl ⟨by rfl, ?_⟩) hHeld ?_ ?_
                    rotate_left
                    · rintro w' ⟨s0, s1, s2, s3, s4, s5⟩
                      go_simp
                      with_reducible rfl
                    rotate_left
                    · simp only [Act.put, List.setIfInBounds_toArray, List.set_cons_zero, List.set_cons_succ, i64_w, i32_w]
                      rfl
                    refine take_ (i := 6) (N := some 69) (v := ?_) (a' := ?_) (lb 38 127) rfl rfl (take_ofW HT_.out HW_.out (by kernel_rfl)) (fun _ _ _ h => h) (Or.inl ⟨by rfl, ?_⟩) hHeld ?_ ?_
                    rotate_left
                    · rintro w' ⟨s0, s1, s2, s3, s4, s5⟩
                      go_simp
                      with_reducible rfl
                    rotate_left
                    · simp only [Act.put, List.setIfInBounds_toArray, List.set_cons_zero, List.set_cons_succ, i64_w, i32_w]
                      rfl
                    refine one_ (i := 7) (N := some 70) (lb 38 255) rfl rfl (one_of HT_.out (by kernel_rfl)) (by decide) (fun K hK => ?_)
                    refine goes_ Try.func29 (by kernel_rfl) rfl #[.agg #[.int .u64 a0_0, .int .u64 a0_1, .bool a0_2], .agg #[.int .u64 t115, .int .u64 t116, .bool t117]] (by rfl) rfl rfl (by (try simp only [List.map_toArray, List.map_cons, List.map_nil]); first | done | rfl | (simp only [List.length_drop, List.length_take]; rfl)) ?_
                    with_reducible refine (addr_Compare.calls a0_0 a0_1 a0_2 t115 t116 t117 t120 _ A75.out).mono ?_
                    rintro e w85 ⟨rfl, hb⟩
                    refine ⟨_, rfl, ?_⟩
                    have n0_ := Aside0.mk (blk_below (g := gb101) (o := .cells #[.int .u64 a0_0, .int .u64 a0_1, .bool a0_2] 24 (0, 0)) (by (with_reducible repeat (first | refine blk_drewN ?_ _ | refine blk_drew ?_ | refine blk_alloc ?_ _)); exact BK101.out) hb)
                    have n1_ := Aside0.mk (blk_below (g := gb102) (o := .cells #[.int .u64 a1_0, .int .u64 a1_1, .bool a1_2] 24 (0, 0)) (by (with_reducible repeat (first | refine blk_drewN ?_ _ | refine blk_drew ?_ | refine blk_alloc ?_ _)); exact BK102.out) hb)
                    have n2_ := Aside0.mk (blk_below (g := gb103) (o := .cells #[.int .u64 a2_0, .int .u64 a2_1, .bool a2_2] 24 (0, 0)) (by (with_reducible repeat (first | refine blk_drewN ?_ _ | refine blk_drew ?_ | refine blk_alloc ?_ _)); exact BK103.out) hb)
                    have n3_ := Aside0.mk (blk_below (g := gb119) (o := .cells #[.int .u64 t115, .int .u64 t116, .bool t117] 24 (0, 0)) (by (with_reducible repeat (first | refine blk_drewN ?_ _ | refine blk_drew ?_ | refine blk_alloc ?_ _)); exact BK119.out) hb)
                    have n4_ := Aside0.mk (below_step (by repeat (first | (with_reducible first | exact HB.out | apply below_alloc | apply pw_below_drewN | apply below_drew1 | refine below_set ?_ GE101.out | refine below_set ?_ GE102.out | refine below_set ?_ GE103.out | refine below_set ?_ GE119.out) | exact HB.out)) hb)
                    clear BK101
                    clear BK102
                    clear BK103
                    clear BK119
                    clear HB
                    have BK101 := n0_
                    have BK102 := n1_
                    have BK103 := n2_
                    have BK119 := n3_
                    have HB := n4_
                    clear n0_ n1_ n2_ n3_ n4_
                    (try clear hb)
                    (try clear hb2)
                    (try clear hk)
                    (try clear hi)
                    refine hK.out _ _ ⟨(blk_cell BK101.out 0).trans rfl, (blk_cell BK101.out 1).trans rfl, (blk_cell BK101.out 2).trans rfl, (blk_cell BK119.out 0).trans rfl, (blk_cell BK119.out 1).trans rfl, (blk_cell BK119.out 2).trans rfl⟩ (fun hHeld => ?_)
                    clear hK K
                    refine norm_ (a' := ?_) ?_ ?_
                    rotate_left
                    · show Act.put _ (some 70) _ = _
                      simp only [Act.put, List.setIfInBounds_toArray, List.set_cons_zero, List.set_cons_succ, i64_w, i32_w]
                      rfl
                    refine pure_ (i := 8) (N := some 71) (v := ?_) (a' := ?_) (lb 38 511) rfl rfl (any_of HT_.out (by kernel_rfl)) (fun _ _ _ h => h) (Or.inl ⟨by rfl, ?_⟩) ?_ ?_
                    rotate_left
                    · intro w'
                      go_simp
                      with_reducible rfl
                    rotate_left
                    · simp only [Act.put, List.setIfInBounds_toArray, List.set_cons_zero, List.set_cons_succ, i64_w, i32_w]
                      rfl
                    refine pure_ (i := 9) (N := some 72) (v := ?_) (a' := ?_) (lb 38 1023) rfl rfl (any_of HT_.out (by kernel_rfl)) (fun _ _ _ h => h) (Or.inl ⟨by rfl, ?_⟩) ?_ ?_
                    rotate_left
                    · intro w'
                      go_simp
                      with_reducible rfl
                    rotate_left
                    · simp only [Act.put, List.setIfInBounds_toArray, List.set_cons_zero, List.set_cons_succ, i64_w, i32_w]
                      rfl
                    refine pure_ (i := 10) (N := some 73) (v := ?_) (a' := ?_) (lb 38 2047) rfl rfl (any_of HT_.out (by kernel_rfl)) (fun _ _ _ h => h) (Or.inl ⟨by rfl, ?_⟩) ?_ ?_
                    rotate_left
                    · intro w'
                      go_simp
                      with_reducible rfl
                    rotate_left
                    · simp only [Act.put, List.setIfInBounds_toArray, List.set_cons_zero, List.set_cons_succ, i64_w, i32_w]
                      rfl
                    refine pure_ (i := 11) (N := some 74) (v := ?_) (a' := ?_) (lb 38 4095) rfl rfl (any_of HT_.out (by kernel_rfl)) (fun _ _ _ h => h) (Or.inl ⟨by rfl, ?_⟩) ?_ ?_
                    rotate_left
                    · intro w'
                      go_simp
                      with_reducible rfl
                    rotate_left
                    · simp only [Act.put, List.setIfInBounds_toArray, List.set_cons_zero, List.set_cons_succ, i64_w, i32_w]
                      rfl
                    refine pure_ (i := 13) (N := some 76) (v := ?_) (a' := ?_) (lb 38 12287) rfl rfl (any_of HT_.out (by kernel_rfl)) (fun _ _ _ h => h) (Or.inl ⟨by rfl, ?_⟩) ?_ ?_
                    rotate_left
                    · intro w'
                      go_simp
                      with_reducible rfl
                    rotate_left
                    · simp only [Act.put, List.setIfInBounds_toArray, List.set_cons_zero, List.set_cons_succ, i64_w, i32_w]
                      rfl
                    refine take_ (i := 12) (N := some 75) (v := ?_) (a' := ?_) (lb 38 16383) rfl rfl (take_ofW HT_.out HW_.out (by kernel_rfl)) (fun _ _ _ h => h) (Or.inl ⟨by rfl, ?_⟩) hHeld ?_ ?_
                    rotate_left
                    · rintro w' ⟨s0, s1, s2, s3, s4, s5⟩
                      go_simp
                      with_reducible rfl
                    rotate_left
                    · simp only [Act.put, List.setIfInBounds_toArray, List.set_cons_zero, List.set_cons_succ, i64_w, i32_w]
                      rfl
                    refine take_ (i := 15) (N := some 78) (v := ?_) (a' := ?_) (lb 38 49151) rfl rfl (take_ofW HT_.out HW_.out (by kernel_rfl)) (fun _ _ _ h => h) (Or.inl ⟨by rfl, ?_⟩) hHeld ?_ ?_
                    rotate_left
                    · rintro w' ⟨s0, s1, s2, s3, s4, s5⟩
                      go_simp
                      with_reducible rfl
                    rotate_left
                    · simp only [Act.put, List.setIfInBounds_toArray, List.set_cons_zero, List.set_cons_succ, i64_w, i32_w]
                      rfl
                    refine one_ (i := 14) (N := some 77) (lb 38 65535) rfl rfl (one_of HT_.out (by kernel_rfl)) (by decide) (fun K hK => ?_)
                    refine goes_ Try.func18 (by kernel_rfl) rfl #[.agg #[.int .u64 a0_0, .int .u64 a0_1, .bool a0_2], .int .i64 a3] (by rfl) rfl rfl (by (try simp only [List.map_toArray, List.map_cons, List.map_nil]); first | done | rfl | (simp only [List.length_drop, List.length_take]; rfl)) ?_
                    with_reducible refine (addr_Mask.calls a0_0 a0_1 a0_2 a3 t121 t122 t123 _ A77.out).mono ?_
                    rintro e w86 ⟨rfl, hb⟩
                    refine ⟨_, rfl, ?_⟩
                    have n0_ := Aside0.mk (blk_below (g := gb101) (o := .cells #[.int .u64 a0_0, .int .u64 a0_1, .bool a0_2] 24 (0, 0)) (by (with_reducible repeat (first | refine blk_drewN ?_ _ | refine blk_drew ?_ | refine blk_alloc ?_ _)); exact BK101.out) hb)
                    have n1_ := Aside0.mk (blk_below (g := gb102) (o := .cells #[.int .u64 a1_0, .int .u64 a1_1, .bool a1_2] 24 (0, 0)) (by (with_reducible repeat (first | refine blk_drewN ?_ _ | refine blk_drew ?_ | refine blk_alloc ?_ _)); exact BK102.out) hb)
                    have n2_ := Aside0.mk (blk_below (g := gb103) (o := .cells #[.int .u64 a2_0, .int .u64 a2_1, .bool a2_2] 24 (0, 0)) (by (with_reducible repeat (first | refine blk_drewN ?_ _ | refine blk_drew ?_ | refine blk_alloc ?_ _)); exact BK103.out) hb)
                    have n3_ := Aside0.mk (blk_below (g := gb119) (o := .cells #[.int .u64 t115, .int .u64 t116, .bool t117] 24 (0, 0)) (by (with_reducible repeat (first | refine blk_drewN ?_ _ | refine blk_drew ?_ | refine blk_alloc ?_ _)); exact BK119.out) hb)
                    have n4_ := Aside0.mk (below_step (by repeat (first | (with_reducible first | exact HB.out | apply below_alloc | apply pw_below_drewN | apply below_drew1 | refine below_set ?_ GE101.out | refine below_set ?_ GE102.out | refine below_set ?_ GE103.out | refine below_set ?_ GE119.out) | exact HB.out)) hb)
                    clear BK101
                    clear BK102
                    clear BK103
                    clear BK119
                    clear HB
                    have BK101 := n0_
                    have BK102 := n1_
                    have BK103 := n2_
                    have BK119 := n3_
                    have HB := n4_
                    clear n0_ n1_ n2_ n3_ n4_
                    (try clear hb)
                    (try clear hb2)
                    (try clear hk)
                    (try clear hi)
                    refine hK.out _ _ ⟨(blk_cell BK101.out 0).trans rfl, (blk_cell BK101.out 1).trans rfl, (blk_cell BK101.out 2).trans rfl, (blk_cell BK119.out 0).trans rfl, (blk_cell BK119.out 1).trans rfl, (blk_cell BK119.out 2).trans rfl⟩ (fun hHeld => ?_)
                    clear hK K
                    refine norm_ (a' := ?_) ?_ ?_
                    rotate_left
                    · show Act.put _ (some 77) _ = _
                      simp only [Act.put, List.setIfInBounds_toArray, List.set_cons_zero, List.set_cons_succ, i64_w, i32_w]
                      rfl
                    refine one_ (i := 16) (N := some 79) (lb 38 131071) rfl rfl (one_of HT_.out (by kernel_rfl)) (by decide) (fun K hK => ?_)
                    refine goes_ Try.func29 (by kernel_rfl) rfl #[.agg #[.int .u64 t121, .int .u64 t122, .bool t123], .agg #[.int .u64 a0_0, .int .u64 a0_1, .bool a0_2]] (by rfl) rfl rfl (by (try simp only [List.map_toArray, List.map_cons, List.map_nil]); first | done | rfl | (simp only [List.length_drop, List.length_take]; rfl)) ?_
                    with_reducible refine (addr_Compare.calls t121 t122 t123 a0_0 a0_1 a0_2 t124 _ A78.out).mono ?_
                    rintro e w87 ⟨rfl, hb⟩
                    refine ⟨_, rfl, ?_⟩
                    have n0_ := Aside0.mk (blk_below (g := gb101) (o := .cells #[.int .u64 a0_0, .int .u64 a0_1, .bool a0_2] 24 (0, 0)) (by (with_reducible repeat (first | refine blk_drewN ?_ _ | refine blk_drew ?_ | refine blk_alloc ?_ _)); exact BK101.out) hb)
                    have n1_ := Aside0.mk (blk_below (g := gb102) (o := .cells #[.int .u64 a1_0, .int .u64 a1_1, .bool a1_2] 24 (0, 0)) (by (with_reducible repeat (first | refine blk_drewN ?_ _ | refine blk_drew ?_ | refine blk_alloc ?_ _)); exact BK102.out) hb)
                    have n2_ := Aside0.mk (blk_below (g := gb103) (o := .cells #[.int .u64 a2_0, .int .u64 a2_1, .bool a2_2] 24 (0, 0)) (by (with_reducible repeat (first | refine blk_drewN ?_ _ | refine blk_drew ?_ | refine blk_alloc ?_ _)); exact BK103.out) hb)
                    have n3_ := Aside0.mk (blk_below (g := gb119) (o := .cells #[.int .u64 t115, .int .u64 t116, .bool t117] 24 (0, 0)) (by (with_reducible repeat (first | refine blk_drewN ?_ _ | refine blk_drew ?_ | refine blk_alloc ?_ _)); exact BK119.out) hb)
                    have n4_ := Aside0.mk (below_step (by repeat (first | (with_reducible first | exact HB.out | apply below_alloc | apply pw_below_drewN | apply below_drew1 | refine below_set ?_ GE101.out | refine below_set ?_ GE102.out | refine below_set ?_ GE103.out | refine below_set ?_ GE119.out) | exact HB.out)) hb)
                    clear BK101
                    clear BK102
                    clear BK103
                    clear BK119
                    clear HB
                    have BK101 := n0_
                    have BK102 := n1_
                    have BK103 := n2_
                    have BK119 := n3_
                    have HB := n4_
                    clear n0_ n1_ n2_ n3_ n4_
                    (try clear hb)
                    (try clear hb2)
                    (try clear hk)
                    (try clear hi)
                    refine hK.out _ _ ⟨(blk_cell BK101.out 0).trans rfl, (blk_cell BK101.out 1).trans rfl, (blk_cell BK101.out 2).trans rfl, (blk_cell BK119.out 0).trans rfl, (blk_cell BK119.out 1).trans rfl, (blk_cell BK119.out 2).trans rfl⟩ (fun hHeld => ?_)
                    clear hK K
                    refine norm_ (a' := ?_) ?_ ?_
                    rotate_left
                    · show Act.put _ (some 79) _ = _
                      simp only [Act.put, List.setIfInBounds_toArray, List.set_cons_zero, List.set_cons_succ, i64_w, i32_w]
                      rfl
                    refine pure_ (i := 17) (N := some 80) (v := ?_) (a' := ?_) (lb 38 262143) rfl rfl (any_of HT_.out (by kernel_rfl)) (fun _ _ _ h => h) (Or.inl ⟨by rfl, ?_⟩) ?_ ?_
                    rotate_left
                    · intro w'
                      go_simp
                      with_reducible rfl
                    rotate_left
                    · simp only [Act.put, List.setIfInBounds_toArray, List.set_cons_zero, List.set_cons_succ, i64_w, i32_w]
                      rfl
                    refine pure_ (i := 18) (N := some 81) (v := ?_) (a' := ?_) (lb 38 524287) rfl rfl (any_of HT_.out (by kernel_rfl)) (fun _ _ _ h => h) (Or.inl ⟨by rfl, ?_⟩) ?_ ?_
                    rotate_left
                    · intro w'
                      go_simp
                      with_reducible rfl
                    rotate_left
                    · simp only [Act.put, List.setIfInBounds_toArray, List.set_cons_zero, List.set_cons_succ, i64_w, i32_w]
                      rfl
                    refine pure_ (i := 19) (N := some 82) (v := ?_) (a' := ?_) (lb 38 1048575) rfl rfl (any_of HT_.out (by kernel_rfl)) (fun _ _ _ h => h) (Or.inl ⟨by rfl, ?_⟩) ?_ ?_
                    rotate_left
                    · intro w'
                      go_simp
                      with_reducible rfl
                    rotate_left
                    · simp only [Act.put, List.setIfInBounds_toArray, List.set_cons_zero, List.set_cons_succ, i64_w, i32_w]
                      rfl
                    refine pure_ (i := 21) (N := some 84) (v := ?_) (a' := ?_) (lb 38 3145727) rfl rfl (any_of HT_.out (by kernel_rfl)) (fun _ _ _ h => h) (Or.inl ⟨by rfl, ?_⟩) ?_ ?_
                    rotate_left
                    · intro w'
                      go_simp
                      with_reducible rfl
                    rotate_left
                    · simp only [Act.put, List.setIfInBounds_toArray, List.set_cons_zero, List.set_cons_succ, i64_w, i32_w]
                      rfl
                    refine take_ (i := 20) (N := some 83) (v := ?_) (a' := ?_) (lb 38 4194303) rfl rfl (take_ofW HT_.out HW_.out (by kernel_rfl)) (fun _ _ _ h => h) (Or.inl ⟨by rfl, ?_⟩) hHeld ?_ ?_
                    rotate_left
                    · rintro w' ⟨s0, s1, s2, s3, s4, s5⟩
                      go_simp
                      with_reducible rfl
                    rotate_left
                    · simp only [Act.put, List.setIfInBounds_toArray, List.set_cons_zero, List.set_cons_succ, i64_w, i32_w]
                      rfl
                    refine take_ (i := 23) (N := some 86) (v := ?_) (a' := ?_) (lb 38 12582911) rfl rfl (take_ofW HT_.out HW_.out (by kernel_rfl)) (fun _ _ _ h => h) (Or.inl ⟨by rfl, ?_⟩) hHeld ?_ ?_
                    rotate_left
                    · rintro w' ⟨s0, s1, s2, s3, s4, s5⟩
                      go_simp
                      with_reducible rfl
                    rotate_left
                    · simp only [Act.put, List.setIfInBounds_toArray, List.set_cons_zero, List.set_cons_succ, i64_w, i32_w]
                      rfl
                    refine one_ (i := 22) (N := some 85) (lb 38 16777215) rfl rfl (one_of HT_.out (by kernel_rfl)) (by decide) (fun K hK => ?_)
                    refine goes_ Try.func15 (by kernel_rfl) rfl #[.agg #[.int .u64 a0_0, .int .u64 a0_1, .bool a0_2], .int .i64 a3] (by rfl) rfl rfl (by (try simp only [List.map_toArray, List.map_cons, List.map_nil]); first | done | rfl | (simp only [List.length_drop, List.length_take]; rfl)) ?_
                    with_reducible refine (addr_Fill.calls a0_0 a0_1 a0_2 a3 t125 t126 t127 _ A80.out).mono ?_
                    rintro e w88 ⟨rfl, hb⟩
                    refine ⟨_, rfl, ?_⟩
                    have n0_ := Aside0.mk (blk_below (g := gb101) (o := .cells #[.int .u64 a0_0, .int .u64 a0_1, .bool a0_2] 24 (0, 0)) (by (with_reducible repeat (first | refine blk_drewN ?_ _ | refine blk_drew ?_ | refine blk_alloc ?_ _)); exact BK101.out) hb)
                    have n1_ := Aside0.mk (blk_below (g := gb102) (o := .cells #[.int .u64 a1_0, .int .u64 a1_1, .bool a1_2] 24 (0, 0)) (by (with_reducible repeat (first | refine blk_drewN ?_ _ | refine blk_drew ?_ | refine blk_alloc ?_ _)); exact BK102.out) hb)
                    have n2_ := Aside0.mk (blk_below (g := gb103) (o := .cells #[.int .u64 a2_0, .int .u64 a2_1, .bool a2_2] 24 (0, 0)) (by (with_reducible repeat (first | refine blk_drewN ?_ _ | refine blk_drew ?_ | refine blk_alloc ?_ _)); exact BK103.out) hb)
                    have n3_ := Aside0.mk (blk_below (g := gb119) (o := .cells #[.int .u64 t115, .int .u64 t116, .bool t117] 24 (0, 0)) (by (with_reducible repeat (first | refine blk_drewN ?_ _ | refine blk_drew ?_ | refine blk_alloc ?_ _)); exact BK119.out) hb)
                    have n4_ := Aside0.mk (below_step (by repeat (first | (with_reducible first | exact HB.out | apply below_alloc | apply pw_below_drewN | apply below_drew1 | refine below_set ?_ GE101.out | refine below_set ?_ GE102.out | refine below_set ?_ GE103.out | refine below_set ?_ GE119.out) | exact HB.out)) hb)
                    clear BK101
                    clear BK102
                    clear BK103
                    clear BK119
                    clear HB
                    have BK101 := n0_
                    have BK102 := n1_
                    have BK103 := n2_
                    have BK119 := n3_
                    have HB := n4_
                    clear n0_ n1_ n2_ n3_ n4_
                    (try clear hb)
                    (try clear hb2)
                    (try clear hk)
                    (try clear hi)
                    refine hK.out _ _ ⟨(blk_cell BK101.out 0).trans rfl, (blk_cell BK101.out 1).trans rfl, (blk_cell BK101.out 2).trans rfl, (blk_cell BK119.out 0).trans rfl, (blk_cell BK119.out 1).trans rfl, (blk_cell BK119.out 2).trans rfl⟩ (fun hHeld => ?_)
                    clear hK K
                    refine norm_ (a' := ?_) ?_ ?_
                    rotate_left
                    · show Act.put _ (some 85) _ = _
                      simp only [Act.put, List.setIfInBounds_toArray, List.set_cons_zero, List.set_cons_succ, i64_w, i32_w]
                      rfl
                    refine one_ (i := 24) (N := some 87) (lb 38 33554431) rfl rfl (one_of HT_.out (by kernel_rfl)) (by decide) (fun K hK => ?_)
                    refine goes_ Try.func29 (by kernel_rfl) rfl #[.agg #[.int .u64 t125, .int .u64 t126, .bool t127], .agg #[.int .u64 a0_0, .int .u64 a0_1, .bool a0_2]] (by rfl) rfl rfl (by (try simp only [List.map_toArray, List.map_cons, List.map_nil]); first | done | rfl | (simp only [List.length_drop, List.length_take]; rfl)) ?_
                    with_reducible refine (addr_Compare.calls t125 t126 t127 a0_0 a0_1 a0_2 t128 _ A81.out).mono ?_
                    rintro e w89 ⟨rfl, hb⟩
                    refine ⟨_, rfl, ?_⟩
                    have n0_ := Aside0.mk (blk_below (g := gb101) (o := .cells #[.int .u64 a0_0, .int .u64 a0_1, .bool a0_2] 24 (0, 0)) (by (with_reducible repeat (first | refine blk_drewN ?_ _ | refine blk_drew ?_ | refine blk_alloc ?_ _)); exact BK101.out) hb)
                    have n1_ := Aside0.mk (blk_below (g := gb102) (o := .cells #[.int .u64 a1_0, .int .u64 a1_1, .bool a1_2] 24 (0, 0)) (by (with_reducible repeat (first | refine blk_drewN ?_ _ | refine blk_drew ?_ | refine blk_alloc ?_ _)); exact BK102.out) hb)
                    have n2_ := Aside0.mk (blk_below (g := gb103) (o := .cells #[.int .u64 a2_0, .int .u64 a2_1, .bool a2_2] 24 (0, 0)) (by (with_reducible repeat (first | refine blk_drewN ?_ _ | refine blk_drew ?_ | refine blk_alloc ?_ _)); exact BK103.out) hb)
                    have n3_ := Aside0.mk (blk_below (g := gb119) (o := .cells #[.int .u64 t115, .int .u64 t116, .bool t117] 24 (0, 0)) (by (with_reducible repeat (first | refine blk_drewN ?_ _ | refine blk_drew ?_ | refine blk_alloc ?_ _)); exact BK119.out) hb)
                    have n4_ := Aside0.mk (below_step (by repeat (first | (with_reducible first | exact HB.out | apply below_alloc | apply pw_below_drewN | apply below_drew1 | refine below_set ?_ GE101.out | refine below_set ?_ GE102.out | refine below_set ?_ GE103.out | refine below_set ?_ GE119.out) | exact HB.out)) hb)
                    clear BK101
                    clear BK102
                    clear BK103
                    clear BK119
                    clear HB
                    have BK101 := n0_
                    have BK102 := n1_
                    have BK103 := n2_
                    have BK119 := n3_
                    have HB := n4_
                    clear n0_ n1_ n2_ n3_ n4_
                    (try clear hb)
                    (try clear hb2)
                    (try clear hk)
                    (try clear hi)
                    refine hK.out _ _ ⟨(blk_cell BK101.out 0).trans rfl, (blk_cell BK101.out 1).trans rfl, (blk_cell BK101.out 2).trans rfl, (blk_cell BK119.out 0).trans rfl, (blk_cell BK119.out 1).trans rfl, (blk_cell BK119.out 2).trans rfl⟩ (fun hHeld => ?_)
                    clear hK K
                    refine norm_ (a' := ?_) ?_ ?_
                    rotate_left
                    · show Act.put _ (some 87) _ = _
                      simp only [Act.put, List.setIfInBounds_toArray, List.set_cons_zero, List.set_cons_succ, i64_w, i32_w]
                      rfl
                    refine pure_ (i := 25) (N := some 88) (v := ?_) (a' := ?_) (lb 38 67108863) rfl rfl (any_of HT_.out (by kernel_rfl)) (fun _ _ _ h => h) (Or.inl ⟨by rfl, ?_⟩) ?_ ?_
                    rotate_left
                    · intro w'
                      go_simp
                      with_reducible rfl
                    rotate_left
                    · simp only [Act.put, List.setIfInBounds_toArray, List.set_cons_zero, List.set_cons_succ, i64_w, i32_w]
                      rfl
                    refine pure_ (i := 26) (N := some 89) (v := ?_) (a' := ?_) (lb 38 134217727) rfl rfl (any_of HT_.out (by kernel_rfl)) (fun _ _ _ h => h) (Or.inl ⟨by rfl, ?_⟩) ?_ ?_
                    rotate_left
                    · intro w'
                      go_simp
                      with_reducible rfl
                    rotate_left
                    · simp only [Act.put, List.setIfInBounds_toArray, List.set_cons_zero, List.set_cons_succ, i64_w, i32_w]
                      rfl
                    refine pure_ (i := 27) (N := some 90) (v := ?_) (a' := ?_) (lb 38 268435455) rfl rfl (any_of HT_.out (by kernel_rfl)) (fun _ _ _ h => h) (Or.inl ⟨by rfl, ?_⟩) ?_ ?_
                    rotate_left
                    · intro w'
                      go_simp
                      with_reducible rfl
                    rotate_left
                    · simp only [Act.put, List.setIfInBounds_toArray, List.set_cons_zero, List.set_cons_succ, i64_w, i32_w]
                      rfl
                    refine pure_ (i := 28) (N := some 91) (v := ?_) (a' := ?_) (lb 38 536870911) rfl rfl (any_of HT_.out (by kernel_rfl)) (fun _ _ _ h => h) (Or.inl ⟨by rfl, ?_⟩) ?_ ?_
                    rotate_left
                    · intro w'
                      go_simp
                      with_reducible rfl
                    rotate_left
                    · simp only [Act.put, List.setIfInBounds_toArray, List.set_cons_zero, List.set_cons_succ, i64_w, i32_w]
                      rfl
                    refine pure_ (i := 29) (N := some 92) (v := ?_) (a' := ?_) (lb 38 1073741823) rfl rfl (any_of HT_.out (by kernel_rfl)) (fun _ _ _ h => h) (Or.inl ⟨by rfl, ?_⟩) ?_ ?_
                    rotate_left
                    · intro w'
                      go_simp
                      with_reducible rfl
                    rotate_left
                    · simp only [Act.put, List.setIfInBounds_toArray, List.set_cons_zero, List.set_cons_succ, i64_w, i32_w]
                      rfl
                    refine pure_ (i := 30) (N := some 93) (v := undef) (a' := ?_) (lb 38 2147483647) rfl rfl (any_of HT_.out (by kernel_rfl)) (fun _ _ _ h => h) (Or.inr ⟨by rfl, rfl⟩) ?_ ?_
                    rotate_left
                    · simp only [Act.put, List.setIfInBounds_toArray, List.set_cons_zero, List.set_cons_succ, i64_w, i32_w]
                      rfl
                    refine pure_ (i := 31) (N := some 94) (v := undef) (a' := ?_) (lb 38 4294967295) rfl rfl (any_of HT_.out (by kernel_rfl)) (fun _ _ _ h => h) (Or.inr ⟨by rfl, rfl⟩) ?_ ?_
                    rotate_left
                    · simp only [Act.put, List.setIfInBounds_toArray, List.set_cons_zero, List.set_cons_succ, i64_w, i32_w]
                      rfl
                    refine pure_ (i := 32) (N := some 95) (v := undef) (a' := ?_) (lb 38 8589934591) rfl rfl (any_of HT_.out (by kernel_rfl)) (fun _ _ _ h => h) (Or.inr ⟨by rfl, rfl⟩) ?_ ?_
                    rotate_left
                    · simp only [Act.put, List.setIfInBounds_toArray, List.set_cons_zero, List.set_cons_succ, i64_w, i32_w]
                      rfl
                    refine pure_ (i := 33) (N := some 96) (v := undef) (a' := ?_) (lb 38 17179869183) rfl rfl (any_of HT_.out (by kernel_rfl)) (fun _ _ _ h => h) (Or.inr ⟨by rfl, rfl⟩) ?_ ?_
                    rotate_left
                    · simp only [Act.put, List.setIfInBounds_toArray, List.set_cons_zero, List.set_cons_succ, i64_w, i32_w]
                      rfl
                    refine pure_ (i := 34) (N := some 97) (v := undef) (a' := ?_) (lb 38 34359738367) rfl rfl (any_of HT_.out (by kernel_rfl)) (fun _ _ _ h => h) (Or.inr ⟨by rfl, rfl⟩) ?_ ?_
                    rotate_left
                    · simp only [Act.put, List.setIfInBounds_toArray, List.set_cons_zero, List.set_cons_succ, i64_w, i32_w]
                      rfl
                    refine pure_ (i := 35) (N := some 98) (v := ?_) (a' := ?_) (lb 38 68719476735) rfl rfl (any_of HT_.out (by kernel_rfl)) (fun _ _ _ h => h) (Or.inl ⟨by rfl, ?_⟩) ?_ ?_
                    rotate_left
                    · intro w'
                      go_simp
                      with_reducible rfl
                    rotate_left
                    · simp only [Act.put, List.setIfInBounds_toArray, List.set_cons_zero, List.set_cons_succ, i64_w, i32_w]
                      rfl
                    refine pure_ (i := 36) (N := some 99) (v := ?_) (a' := ?_) (lb 38 137438953471) rfl rfl (any_of HT_.out (by kernel_rfl)) (fun _ _ _ h => h) (Or.inl ⟨by rfl, ?_⟩) ?_ ?_
                    rotate_left
                    · intro w'
                      go_simp
                      with_reducible rfl
                    rotate_left
                    · simp only [Act.put, List.setIfInBounds_toArray, List.set_cons_zero, List.set_cons_succ, i64_w, i32_w]
                      rfl
                    refine pure_ (i := 37) (N := some 8) (v := ?_) (a' := ?_) (lb 38 274877906943) rfl rfl (any_of HT_.out (by kernel_rfl)) (fun _ _ _ h => h) (Or.inl ⟨by rfl, ?_⟩) ?_ ?_
                    rotate_left
                    · intro w'
                      go_simp
                      with_reducible rfl
                    rotate_left
                    · simp only [Act.put, List.setIfInBounds_toArray, List.set_cons_zero, List.set_cons_succ, i64_w, i32_w]
                      rfl
                    refine done_ (done_of HT_.out (by kernel_rfl)) ?_
                    try go_wp2
                    go_meet
                    case rel => exact ⟨_, (true), (by first | rfl | (simp; done) | (simp [*]; done)), H', ⟨by have := HJ6.out; first | omega | exact Nat.le_refl _⟩, ⟨by (with_reducible repeat (first | refine blk_drewN ?_ _ | refine blk_drew ?_ | refine blk_alloc ?_ _)); exact BK101.out⟩, ⟨by (with_reducible repeat (first | refine blk_drewN ?_ _ | refine blk_drew ?_ | refine blk_alloc ?_ _)); exact BK102.out⟩, ⟨by (with_reducible repeat (first | refine blk_drewN ?_ _ | refine blk_drew ?_ | refine blk_alloc ?_ _)); exact BK103.out⟩, ⟨by (with_reducible repeat (first | refine blk_drewN ?_ _ | refine blk_drew ?_ | refine blk_alloc ?_ _)); exact BK119.out⟩, ⟨by repeat (first | (with_reducible first | exact HB.out | apply below_alloc | apply pw_below_drewN | apply below_drew1 | refine below_set ?_ GE101.out | refine below_set ?_ GE102.out | refine below_set ?_ GE103.out | refine below_set ?_ GE119.out) | exact HB.out)⟩⟩
                  · rw [if_neg c82] at H
                    have c82b0 : decide (0 ≤ t128) = false := decide_eq_false c82
                    clear c82
                    have H' := Aside0.mk H
                    (exfalso; have HF := H'.out; rw [hrt] at HF; clear H'; simp [kedgelaw01_AddrOrder.j0_iff, kedgelaw01_AddrOrder.j1_iff] at HF; done)
                · rw [if_neg c79] at H
                  have c79b0 : decide (t124 ≤ 0) = false := decide_eq_false c79
                  clear c79
                  have H' := Aside0.mk H
                  (exfalso; have HF := H'.out; rw [hrt] at HF; clear H'; simp [kedgelaw01_AddrOrder.j0_iff, kedgelaw01_AddrOrder.j1_iff] at HF; done)
              · rw [if_neg c76] at H
                have c76b0 : (t120 == (-1)) = false := beq_eq_false_iff_ne.mpr c76
                have c76b1 : (t120 != (-1)) = true := bne_iff_ne.mpr c76
                (first | rw [c76b0] | (simp only [i64_w, i32_w]; rw [c76b0]) | skip)
                have H' := Aside0.mk H
                (exfalso; have HF := H'.out; rw [hrt] at HF; clear H'; simp [kedgelaw01_AddrOrder.j0_iff, kedgelaw01_AddrOrder.j1_iff] at HF; done)
            · replace c74 := Bool.eq_false_iff.mpr c74
              subst c74
              have H1 : ((addr_Mask.f a0_0 a0_1 a0_2 a3).bind fun bt129 => ((addr_Compare.f bt129.1 bt129.2.1 bt129.2.2 a0_0 a0_1 a0_2).bind fun t132 => (if t132 ≤ 0 then ((addr_Fill.f a0_0 a0_1 a0_2 a3).bind fun bt133 => ((addr_Compare.f bt133.1 bt133.2.1 bt133.2.2 a0_0 a0_1 a0_2).bind fun t136 => (if t136 ≥ 0 then ((addr_Fill.f a0_0 a0_1 a0_2 0).bind fun bt137 => ((addr_Compare.f bt137.1 bt137.2.1 bt137.2.2 a0_0 a0_1 a0_2).bind fun t140 => (kedgelaw01_AddrOrder.j1 kj6 (t140 == 0)))) else (kedgelaw01_AddrOrder.j1 kj6 false)))) else (kedgelaw01_AddrOrder.j1 kj6 false)))) = some r := by rw [if_neg (show ¬ (false = true) by decide)] at H; exact H
              clear H
              have H := H1
              clear H1
              replace H := Option.bind_eq_some_iff.mp H
              obtain ⟨⟨t129, t130, t131⟩, A1050, H⟩ := H
              replace H : ((addr_Compare.f t129 t130 t131 a0_0 a0_1 a0_2).bind fun t132 => (if t132 ≤ 0 then ((addr_Fill.f a0_0 a0_1 a0_2 a3).bind fun bt133 => ((addr_Compare.f bt133.1 bt133.2.1 bt133.2.2 a0_0 a0_1 a0_2).bind fun t136 => (if t136 ≥ 0 then ((addr_Fill.f a0_0 a0_1 a0_2 0).bind fun bt137 => ((addr_Compare.f bt137.1 bt137.2.1 bt137.2.2 a0_0 a0_1 a0_2).bind fun t140 => (kedgelaw01_AddrOrder.j1 kj6 (t140 == 0)))) else (kedgelaw01_AddrOrder.j1 kj6 false)))) else (kedgelaw01_AddrOrder.j1 kj6 false))) = some r := H
              have A105 := Aside0.mk A1050
              clear A1050
              replace H := Option.bind_eq_some_iff.mp H
              obtain ⟨t132, A1060, H⟩ := H
              replace H : (if t132 ≤ 0 then ((addr_Fill.f a0_0 a0_1 a0_2 a3).bind fun bt133 => ((addr_Compare.f bt133.1 bt133.2.1 bt133.2.2 a0_0 a0_1 a0_2).bind fun t136 => (if t136 ≥ 0 then ((addr_Fill.f a0_0 a0_1 a0_2 0).bind fun bt137 => ((addr_Compare.f bt137.1 bt137.2.1 bt137.2.2 a0_0 a0_1 a0_2).bind fun t140 => (kedgelaw01_AddrOrder.j1 kj6 (t140 == 0)))) else (kedgelaw01_AddrOrder.j1 kj6 false)))) else (kedgelaw01_AddrOrder.j1 kj6 false)) = some r := H
              have A106 := Aside0.mk A1060
              clear A1060
              by_cases c107 : t132 ≤ 0
              · rw [if_pos c107] at H
                have c107b0 : decide (t132 ≤ 0) = true := decide_eq_true c107
                clear c107
                replace H := Option.bind_eq_some_iff.mp H
                obtain ⟨⟨t133, t134, t135⟩, A1080, H⟩ := H
                replace H : ((addr_Compare.f t133 t134 t135 a0_0 a0_1 a0_2).bind fun t136 => (if t136 ≥ 0 then ((addr_Fill.f a0_0 a0_1 a0_2 0).bind fun bt137 => ((addr_Compare.f bt137.1 bt137.2.1 bt137.2.2 a0_0 a0_1 a0_2).bind fun t140 => (kedgelaw01_AddrOrder.j1 kj6 (t140 == 0)))) else (kedgelaw01_AddrOrder.j1 kj6 false))) = some r := H
                have A108 := Aside0.mk A1080
                clear A1080
                replace H := Option.bind_eq_some_iff.mp H
                obtain ⟨t136, A1090, H⟩ := H
                replace H : (if t136 ≥ 0 then ((addr_Fill.f a0_0 a0_1 a0_2 0).bind fun bt137 => ((addr_Compare.f bt137.1 bt137.2.1 bt137.2.2 a0_0 a0_1 a0_2).bind fun t140 => (kedgelaw01_AddrOrder.j1 kj6 (t140 == 0)))) else (kedgelaw01_AddrOrder.j1 kj6 false)) = some r := H
                have A109 := Aside0.mk A1090
                clear A1090
                by_cases c110 : t136 ≥ 0
                · rw [if_pos c110] at H
                  have c110b0 : decide (0 ≤ t136) = true := decide_eq_true c110
                  clear c110
                  replace H := Option.bind_eq_some_iff.mp H
                  obtain ⟨⟨t137, t138, t139⟩, A1110, H⟩ := H
                  replace H : ((addr_Compare.f t137 t138 t139 a0_0 a0_1 a0_2).bind fun t140 => (kedgelaw01_AddrOrder.j1 kj6 (t140 == 0))) = some r := H
                  have A111 := Aside0.mk A1110
                  clear A1110
                  replace H := Option.bind_eq_some_iff.mp H
                  obtain ⟨t140, A1120, H⟩ := H
                  replace H : (kedgelaw01_AddrOrder.j1 kj6 (t140 == 0)) = some r := H
                  have A112 := Aside0.mk A1120
                  clear A1120
                  have H' := Aside0.mk H
                  clear H
                  try go_wp2
                  have n0_ : Aside0 ((((w68.setCell ⟨gb119, 0, none⟩ (.int .u64 t115)).setCell ⟨gb119, 1, none⟩ (.int .u64 t116)).setCell ⟨gb119, 2, none⟩ (.bool t117)).heap[gb101]? = some (.cells #[.int .u64 a0_0, .int .u64 a0_1, .bool a0_2] 24 (0, 0))) := ⟨by (with_reducible repeat (first | refine blk_drewN ?_ _ | refine blk_drew ?_ | refine blk_alloc ?_ _)); refine blk_far ?_ NB101_119.out _; (with_reducible repeat (first | refine blk_drewN ?_ _ | refine blk_drew ?_ | refine blk_alloc ?_ _)); refine blk_far ?_ NB101_119.out _; (with_reducible repeat (first | refine blk_drewN ?_ _ | refine blk_drew ?_ | refine blk_alloc ?_ _)); refine blk_far ?_ NB101_119.out _; (with_reducible repeat (first | refine blk_drewN ?_ _ | refine blk_drew ?_ | refine blk_alloc ?_ _)); exact BK101.out⟩
                  have n1_ : Aside0 ((((w68.setCell ⟨gb119, 0, none⟩ (.int .u64 t115)).setCell ⟨gb119, 1, none⟩ (.int .u64 t116)).setCell ⟨gb119, 2, none⟩ (.bool t117)).heap[gb102]? = some (.cells #[.int .u64 a1_0, .int .u64 a1_1, .bool a1_2] 24 (0, 0))) := ⟨by (with_reducible repeat (first | refine blk_drewN ?_ _ | refine blk_drew ?_ | refine blk_alloc ?_ _)); refine blk_far ?_ NB102_119.out _; (with_reducible repeat (first | refine blk_drewN ?_ _ | refine blk_drew ?_ | refine blk_alloc ?_ _)); refine blk_far ?_ NB102_119.out _; (with_reducible repeat (first | refine blk_drewN ?_ _ | refine blk_drew ?_ | refine blk_alloc ?_ _)); refine blk_far ?_ NB102_119.out _; (with_reducible repeat (first | refine blk_drewN ?_ _ | refine blk_drew ?_ | refine blk_alloc ?_ _)); exact BK102.out⟩
                  have n2_ : Aside0 ((((w68.setCell ⟨gb119, 0, none⟩ (.int .u64 t115)).setCell ⟨gb119, 1, none⟩ (.int .u64 t116)).setCell ⟨gb119, 2, none⟩ (.bool t117)).heap[gb103]? = some (.cells #[.int .u64 a2_0, .int .u64 a2_1, .bool a2_2] 24 (0, 0))) := ⟨by (with_reducible repeat (first | refine blk_drewN ?_ _ | refine blk_drew ?_ | refine blk_alloc ?_ _)); refine blk_far ?_ NB103_119.out _; (with_reducible repeat (first | refine blk_drewN ?_ _ | refine blk_drew ?_ | refine blk_alloc ?_ _)); refine blk_far ?_ NB103_119.out _; (with_reducible repeat (first | refine blk_drewN ?_ _ | refine blk_drew ?_ | refine blk_alloc ?_ _)); refine blk_far ?_ NB103_119.out _; (with_reducible repeat (first | refine blk_drewN ?_ _ | refine blk_drew ?_ | refine blk_alloc ?_ _)); exact BK103.out⟩
                  have n3_ : Aside0 ((((w68.setCell ⟨gb119, 0, none⟩ (.int .u64 t115)).setCell ⟨gb119, 1, none⟩ (.int .u64 t116)).setCell ⟨gb119, 2, none⟩ (.bool t117)).heap[gb119]? = some (.cells #[.int .u64 t115, .int .u64 t116, .bool t117] 24 (0, 0))) := ⟨by (with_reducible repeat (first | refine blk_drewN ?_ _ | refine blk_drew ?_ | refine blk_alloc ?_ _)); refine blk_put (cs := #[.int .u64 t115, .int .u64 t116, .bool false]) ?_ 2 _ rfl; (with_reducible repeat (first | refine blk_drewN ?_ _ | refine blk_drew ?_ | refine blk_alloc ?_ _)); refine blk_put (cs := #[.int .u64 t115, .int .u64 0, .bool false]) ?_ 1 _ rfl; (with_reducible repeat (first | refine blk_drewN ?_ _ | refine blk_drew ?_ | refine blk_alloc ?_ _)); refine blk_put (cs := #[.int .u64 0, .int .u64 0, .bool false]) ?_ 0 _ rfl; (with_reducible repeat (first | refine blk_drewN ?_ _ | refine blk_drew ?_ | refine blk_alloc ?_ _)); exact BK119.out⟩
                  have n4_ : Aside0 (Below w.heap.size w (((w68.setCell ⟨gb119, 0, none⟩ (.int .u64 t115)).setCell ⟨gb119, 1, none⟩ (.int .u64 t116)).setCell ⟨gb119, 2, none⟩ (.bool t117))) := ⟨by repeat (first | (with_reducible first | exact HB.out | apply below_alloc | apply pw_below_drewN | apply below_drew1 | refine below_set ?_ GE101.out | refine below_set ?_ GE102.out | refine below_set ?_ GE103.out | refine below_set ?_ GE119.out) | exact HB.out)⟩
                  (try clear BK101)
                  (try clear BK102)
                  (try clear BK103)
                  (try clear BK119)
                  (try clear HB)
                  generalize (((w68.setCell ⟨gb119, 0, none⟩ (.int .u64 t115)).setCell ⟨gb119, 1, none⟩ (.int .u64 t116)).setCell ⟨gb119, 2, none⟩ (.bool t117)) = w113 at n0_ n1_ n2_ n3_ n4_ ⊢
                  have BK101 := n0_
                  have BK102 := n1_
                  have BK103 := n2_
                  have BK119 := n3_
                  have HB := n4_
                  clear n0_ n1_ n2_ n3_ n4_
                  have n0_ := Aside0.mk (blk_drew BK101.out)
                  have n1_ := Aside0.mk (blk_drew BK102.out)
                  have n2_ := Aside0.mk (blk_drew BK103.out)
                  have n3_ := Aside0.mk (blk_drew BK119.out)
                  have n4_ := Aside0.mk (below_drew1 HB.out)
                  clear BK101
                  clear BK102
                  clear BK103
                  clear BK119
                  clear HB
                  have BK101 := n0_
                  have BK102 := n1_
                  have BK103 := n2_
                  have BK119 := n3_
                  have HB := n4_
                  clear n0_ n1_ n2_ n3_ n4_
                  refine start_ (n := 38) (S := fun w' => w'.cell? ⟨gb101, 0, none⟩ = some (.int .u64 a0_0) ∧ w'.cell? ⟨gb101, 1, none⟩ = some (.int .u64 a0_1) ∧ w'.cell? ⟨gb101, 2, none⟩ = some (.bool a0_2)) (ds := []) #[false, false, false, false, false, false, false, false, false, false, false, false, false, false, false, false, false, false, false, false, false, false, false, false, false, false, false, false, false, false, false, false, false, false, false, false, false, false] (by kernel_rfl) rfl rfl ⟨(blk_cell BK101.out 0).trans rfl, (blk_cell BK101.out 1).trans rfl, (blk_cell BK101.out 2).trans rfl⟩ (fun hHeld => ?_); refine with_tabW kedgelaw01_AddrOrder.tab6 kedgelaw01_AddrOrder.bits6 (fun HT_ HW_ => ?_)
                  generalize w113.drew = w114 at BK101 BK102 BK103 BK119 HB hHeld ⊢
                  refine pure_ (i := 0) (N := some 63) (v := ?_) (a' := ?_) (lb 38 1) rfl rfl (any_of HT_.out (by kernel_rfl)) (fun _ _ _ h => h) (Or.inl ⟨by rfl, ?_⟩) ?_ ?_
                  rotate_left
                  · intro w'
                    go_simp
                    with_reducible rfl
                  rotate_left
                  · simp only [Act.put, List.setIfInBounds_toArray, List.set_cons_zero, List.set_cons_succ, i64_w, i32_w]
                    rfl
                  refine pure_ (i := 1) (N := some 64) (v := ?_) (a' := ?_) (lb 38 3) rfl rfl (any_of HT_.out (by kernel_rfl)) (fun _ _ _ h => h) (Or.inl ⟨by rfl, ?_⟩) ?_ ?_
                  rotate_left
                  · intro w'
                    go_simp
                    with_reducible rfl
                  rotate_left
                  · simp only [Act.put, List.setIfInBounds_toArray, List.set_cons_zero, List.set_cons_succ, i64_w, i32_w]
                    rfl
                  refine pure_ (i := 2) (N := some 65) (v := ?_) (a' := ?_) (lb 38 7) rfl rfl (any_of HT_.out (by kernel_rfl)) (fun _ _ _ h => h) (Or.inl ⟨by rfl, ?_⟩) ?_ ?_
                  rotate_left
                  · intro w'
                    go_simp
                    with_reducible rfl
                  rotate_left
                  · simp only [Act.put, List.setIfInBounds_toArray, List.set_cons_zero, List.set_cons_succ, i64_w, i32_w]
                    rfl
                  refine pure_ (i := 3) (N := some 66) (v := ?_) (a' := ?_) (lb 38 15) rfl rfl (any_of HT_.out (by kernel_rfl)) (fun _ _ _ h => h) (Or.inl ⟨by rfl, ?_⟩) ?_ ?_
                  rotate_left
                  · intro w'
                    go_simp
                    with_reducible rfl
                  rotate_left
                  · simp only [Act.put, List.setIfInBounds_toArray, List.set_cons_zero, List.set_cons_succ, i64_w, i32_w]
                    rfl
                  refine pure_ (i := 4) (N := some 67) (v := ?_) (a' := ?_) (lb 38 31) rfl rfl (any_of HT_.out (by kernel_rfl)) (fun _ _ _ h => h) (Or.inl ⟨by rfl, ?_⟩) ?_ ?_
                  rotate_left
                  · intro w'
                    go_simp
                    with_reducible rfl
                  rotate_left
                  · simp only [Act.put, List.setIfInBounds_toArray, List.set_cons_zero, List.set_cons_succ, i64_w, i32_w]
                    rfl
                  refine pure_ (i := 5) (N := some 68) (v := undef) (a' := ?_) (lb 38 63) rfl rfl (any_of HT_.out (by kernel_rfl)) (fun _ _ _ h => h) (Or.inr ⟨by rfl, rfl⟩) ?_ ?_
                  rotate_left
                  · simp only [Act.put, List.setIfInBounds_toArray, List.set_cons_zero, List.set_cons_succ, i64_w, i32_w]
                    rfl
                  refine pure_ (i := 6) (N := some 69) (v := undef) (a' := ?_) (lb 38 127) rfl rfl (any_of HT_.out (by kernel_rfl)) (fun _ _ _ h => h) (Or.inr ⟨by rfl, rfl⟩) ?_ ?_
                  rotate_left
                  · simp only [Act.put, List.setIfInBounds_toArray, List.set_cons_zero, List.set_cons_succ, i64_w, i32_w]
                    rfl
                  refine pure_ (i := 7) (N := some 70) (v := undef) (a' := ?_) (lb 38 255) rfl rfl (any_of HT_.out (by kernel_rfl)) (fun _ _ _ h => h) (Or.inr ⟨by rfl, rfl⟩) ?_ ?_
                  rotate_left
                  · simp only [Act.put, List.setIfInBounds_toArray, List.set_cons_zero, List.set_cons_succ, i64_w, i32_w]
                    rfl
                  refine pure_ (i := 8) (N := some 71) (v := undef) (a' := ?_) (lb 38 511) rfl rfl (any_of HT_.out (by kernel_rfl)) (fun _ _ _ h => h) (Or.inr ⟨by rfl, rfl⟩) ?_ ?_
                  rotate_left
                  · simp only [Act.put, List.setIfInBounds_toArray, List.set_cons_zero, List.set_cons_succ, i64_w, i32_w]
                    rfl
                  refine pure_ (i := 9) (N := some 72) (v := ?_) (a' := ?_) (lb 38 1023) rfl rfl (any_of HT_.out (by kernel_rfl)) (fun _ _ _ h => h) (Or.inl ⟨by rfl, ?_⟩) ?_ ?_
                  rotate_left
                  · intro w'
                    go_simp
                    with_reducible rfl
                  rotate_left
                  · simp only [Act.put, List.setIfInBounds_toArray, List.set_cons_zero, List.set_cons_succ, i64_w, i32_w]
                    rfl
                  refine pure_ (i := 10) (N := some 73) (v := ?_) (a' := ?_) (lb 38 2047) rfl rfl (any_of HT_.out (by kernel_rfl)) (fun _ _ _ h => h) (Or.inl ⟨by rfl, ?_⟩) ?_ ?_
                  rotate_left
                  · intro w'
                    go_simp
                    with_reducible rfl
                  rotate_left
                  · simp only [Act.put, List.setIfInBounds_toArray, List.set_cons_zero, List.set_cons_succ, i64_w, i32_w]
                    rfl
                  refine pure_ (i := 11) (N := some 74) (v := ?_) (a' := ?_) (lb 38 4095) rfl rfl (any_of HT_.out (by kernel_rfl)) (fun _ _ _ h => h) (Or.inl ⟨by rfl, ?_⟩) ?_ ?_
                  rotate_left
                  · intro w'
                    go_simp
                    with_reducible rfl
                  rotate_left
                  · simp only [Act.put, List.setIfInBounds_toArray, List.set_cons_zero, List.set_cons_succ, i64_w, i32_w]
                    rfl
                  refine pure_ (i := 13) (N := some 76) (v := ?_) (a' := ?_) (lb 38 12287) rfl rfl (any_of HT_.out (by kernel_rfl)) (fun _ _ _ h => h) (Or.inl ⟨by rfl, ?_⟩) ?_ ?_
                  rotate_left
                  · intro w'
                    go_simp
                    with_reducible rfl
                  rotate_left
                  · simp only [Act.put, List.setIfInBounds_toArray, List.set_cons_zero, List.set_cons_succ, i64_w, i32_w]
                    rfl
                  refine take_ (i := 12) (N := some 75) (v := ?_) (a' := ?_) (lb 38 16383) rfl rfl (take_ofW HT_.out HW_.out (by kernel_rfl)) (fun _ _ _ h => h) (Or.inl ⟨by rfl, ?_⟩) hHeld ?_ ?_
                  rotate_left
                  · rintro w' ⟨s0, s1, s2⟩
                    go_simp
                    with_reducible rfl
                  rotate_left
                  · simp only [Act.put, List.setIfInBounds_toArray, List.set_cons_zero, List.set_cons_succ, i64_w, i32_w]
                    rfl
                  refine take_ (i := 15) (N := some 78) (v := ?_) (a' := ?_) (lb 38 49151) rfl rfl (take_ofW HT_.out HW_.out (by kernel_rfl)) (fun _ _ _ h => h) (Or.inl ⟨by rfl, ?_⟩) hHeld ?_ ?_
                  rotate_left
                  · rintro w' ⟨s0, s1, s2⟩
                    go_simp
                    with_reducible rfl
                  rotate_left
                  · simp only [Act.put, List.setIfInBounds_toArray, List.set_cons_zero, List.set_cons_succ, i64_w, i32_w]
                    rfl
                  refine one_ (i := 14) (N := some 77) (lb 38 65535) rfl rfl (one_of HT_.out (by kernel_rfl)) (by decide) (fun K hK => ?_)
                  refine goes_ Try.func18 (by kernel_rfl) rfl #[.agg #[.int .u64 a0_0, .int .u64 a0_1, .bool a0_2], .int .i64 a3] (by rfl) rfl rfl (by (try simp only [List.map_toArray, List.map_cons, List.map_nil]); first | done | rfl | (simp only [List.length_drop, List.length_take]; rfl)) ?_
                  with_reducible refine (addr_Mask.calls a0_0 a0_1 a0_2 a3 t129 t130 t131 _ A105.out).mono ?_
                  rintro e w115 ⟨rfl, hb⟩
                  refine ⟨_, rfl, ?_⟩
                  have n0_ := Aside0.mk (blk_below (g := gb101) (o := .cells #[.int .u64 a0_0, .int .u64 a0_1, .bool a0_2] 24 (0, 0)) (by (with_reducible repeat (first | refine blk_drewN ?_ _ | refine blk_drew ?_ | refine blk_alloc ?_ _)); exact BK101.out) hb)
                  have n1_ := Aside0.mk (blk_below (g := gb102) (o := .cells #[.int .u64 a1_0, .int .u64 a1_1, .bool a1_2] 24 (0, 0)) (by (with_reducible repeat (first | refine blk_drewN ?_ _ | refine blk_drew ?_ | refine blk_alloc ?_ _)); exact BK102.out) hb)
                  have n2_ := Aside0.mk (blk_below (g := gb103) (o := .cells #[.int .u64 a2_0, .int .u64 a2_1, .bool a2_2] 24 (0, 0)) (by (with_reducible repeat (first | refine blk_drewN ?_ _ | refine blk_drew ?_ | refine blk_alloc ?_ _)); exact BK103.out) hb)
                  have n3_ := Aside0.mk (blk_below (g := gb119) (o := .cells #[.int .u64 t115, .int .u64 t116, .bool t117] 24 (0, 0)) (by (with_reducible repeat (first | refine blk_drewN ?_ _ | refine blk_drew ?_ | refine blk_alloc ?_ _)); exact BK119.out) hb)
                  have n4_ := Aside0.mk (below_step (by repeat (first | (with_reducible first | exact HB.out | apply below_alloc | apply pw_below_drewN | apply below_drew1 | refine below_set ?_ GE101.out | refine below_set ?_ GE102.out | refine below_set ?_ GE103.out | refine below_set ?_ GE119.out) | exact HB.out)) hb)
                  clear BK101
                  clear BK102
                  clear BK103
                  clear BK119
                  clear HB
                  have BK101 := n0_
                  have BK102 := n1_
                  have BK103 := n2_
                  have BK119 := n3_
                  have HB := n4_
                  clear n0_ n1_ n2_ n3_ n4_
                  (try clear hb)
                  (try clear hb2)
                  (try clear hk)
                  (try clear hi)
                  refine hK.out _ _ ⟨(blk_cell BK101.out 0).trans rfl, (blk_cell BK101.out 1).trans rfl, (blk_cell BK101.out 2).trans rfl⟩ (fun hHeld => ?_)
                  clear hK K
                  refine norm_ (a' := ?_) ?_ ?_
                  rotate_left
                  · show Act.put _ (some 77) _ = _
                    simp only [Act.put, List.setIfInBounds_toArray, List.set_cons_zero, List.set_cons_succ, i64_w, i32_w]
                    rfl
                  refine one_ (i := 16) (N := some 79) (lb 38 131071) rfl rfl (one_of HT_.out (by kernel_rfl)) (by decide) (fun K hK => ?_)
                  refine goes_ Try.func29 (by kernel_rfl) rfl #[.agg #[.int .u64 t129, .int .u64 t130, .bool t131], .agg #[.int .u64 a0_0, .int .u64 a0_1, .bool a0_2]] (by rfl) rfl rfl (by (try simp only [List.map_toArray, List.map_cons, List.map_nil]); first | done | rfl | (simp only [List.length_drop, List.length_take]; rfl)) ?_
                  with_reducible refine (addr_Compare.calls t129 t130 t131 a0_0 a0_1 a0_2 t132 _ A106.out).mono ?_
                  rintro e w116 ⟨rfl, hb⟩
                  refine ⟨_, rfl, ?_⟩
                  have n0_ := Aside0.mk (blk_below (g := gb101) (o := .cells #[.int .u64 a0_0, .int .u64 a0_1, .bool a0_2] 24 (0, 0)) (by (with_reducible repeat (first | refine blk_drewN ?_ _ | refine blk_drew ?_ | refine blk_alloc ?_ _)); exact BK101.out) hb)
                  have n1_ := Aside0.mk (blk_below (g := gb102) (o := .cells #[.int .u64 a1_0, .int .u64 a1_1, .bool a1_2] 24 (0, 0)) (by (with_reducible repeat (first | refine blk_drewN ?_ _ | refine blk_drew ?_ | refine blk_alloc ?_ _)); exact BK102.out) hb)
                  have n2_ := Aside0.mk (blk_below (g := gb103) (o := .cells #[.int .u64 a2_0, .int .u64 a2_1, .bool a2_2] 24 (0, 0)) (by (with_reducible repeat (first | refine blk_drewN ?_ _ | refine blk_drew ?_ | refine blk_alloc ?_ _)); exact BK103.out) hb)
                  have n3_ := Aside0.mk (blk_below (g := gb119) (o := .cells #[.int .u64 t115, .int .u64 t116, .bool t117] 24 (0, 0)) (by (with_reducible repeat (first | refine blk_drewN ?_ _ | refine blk_drew ?_ | refine blk_alloc ?_ _)); exact BK119.out) hb)
                  have n4_ := Aside0.mk (below_step (by repeat (first | (with_reducible first | exact HB.out | apply below_alloc | apply pw_below_drewN | apply below_drew1 | refine below_set ?_ GE101.out | refine below_set ?_ GE102.out | refine below_set ?_ GE103.out | refine below_set ?_ GE119.out) | exact HB.out)) hb)
                  clear BK101
                  clear BK102
                  clear BK103
                  clear BK119
                  clear HB
                  have BK101 := n0_
                  have BK102 := n1_
                  have BK103 := n2_
                  have BK119 := n3_
                  have HB := n4_
                  clear n0_ n1_ n2_ n3_ n4_
                  (try clear hb)
                  (try clear hb2)
                  (try clear hk)
                  (try clear hi)
                  refine hK.out _ _ ⟨(blk_cell BK101.out 0).trans rfl, (blk_cell BK101.out 1).trans rfl, (blk_cell BK101.out 2).trans rfl⟩ (fun hHeld => ?_)
                  clear hK K
                  refine norm_ (a' := ?_) ?_ ?_
                  rotate_left
                  · show Act.put _ (some 79) _ = _
                    simp only [Act.put, List.setIfInBounds_toArray, List.set_cons_zero, List.set_cons_succ, i64_w, i32_w]
                    rfl
                  refine pure_ (i := 17) (N := some 80) (v := ?_) (a' := ?_) (lb 38 262143) rfl rfl (any_of HT_.out (by kernel_rfl)) (fun _ _ _ h => h) (Or.inl ⟨by rfl, ?_⟩) ?_ ?_
                  rotate_left
                  · intro w'
                    go_simp
                    with_reducible rfl
                  rotate_left
                  · simp only [Act.put, List.setIfInBounds_toArray, List.set_cons_zero, List.set_cons_succ, i64_w, i32_w]
                    rfl
                  refine pure_ (i := 18) (N := some 81) (v := ?_) (a' := ?_) (lb 38 524287) rfl rfl (any_of HT_.out (by kernel_rfl)) (fun _ _ _ h => h) (Or.inl ⟨by rfl, ?_⟩) ?_ ?_
                  rotate_left
                  · intro w'
                    go_simp
                    with_reducible rfl
                  rotate_left
                  · simp only [Act.put, List.setIfInBounds_toArray, List.set_cons_zero, List.set_cons_succ, i64_w, i32_w]
                    rfl
                  refine pure_ (i := 19) (N := some 82) (v := ?_) (a' := ?_) (lb 38 1048575) rfl rfl (any_of HT_.out (by kernel_rfl)) (fun _ _ _ h => h) (Or.inl ⟨by rfl, ?_⟩) ?_ ?_
                  rotate_left
                  · intro w'
                    go_simp
                    with_reducible rfl
                  rotate_left
                  · simp only [Act.put, List.setIfInBounds_toArray, List.set_cons_zero, List.set_cons_succ, i64_w, i32_w]
                    rfl
                  refine pure_ (i := 21) (N := some 84) (v := ?_) (a' := ?_) (lb 38 3145727) rfl rfl (any_of HT_.out (by kernel_rfl)) (fun _ _ _ h => h) (Or.inl ⟨by rfl, ?_⟩) ?_ ?_
                  rotate_left
                  · intro w'
                    go_simp
                    with_reducible rfl
                  rotate_left
                  · simp only [Act.put, List.setIfInBounds_toArray, List.set_cons_zero, List.set_cons_succ, i64_w, i32_w]
                    rfl
                  refine take_ (i := 20) (N := some 83) (v := ?_) (a' := ?_) (lb 38 4194303) rfl rfl (take_ofW HT_.out HW_.out (by kernel_rfl)) (fun _ _ _ h => h) (Or.inl ⟨by rfl, ?_⟩) hHeld ?_ ?_
                  rotate_left
                  · rintro w' ⟨s0, s1, s2⟩
                    go_simp
                    with_reducible rfl
                  rotate_left
                  · simp only [Act.put, List.setIfInBounds_toArray, List.set_cons_zero, List.set_cons_succ, i64_w, i32_w]
                    rfl
                  refine take_ (i := 23) (N := some 86) (v := ?_) (a' := ?_) (lb 38 12582911) rfl rfl (take_ofW HT_.out HW_.out (by kernel_rfl)) (fun _ _ _ h => h) (Or.inl ⟨by rfl, ?_⟩) hHeld ?_ ?_
                  rotate_left
                  · rintro w' ⟨s0, s1, s2⟩
                    go_simp
                    with_reducible rfl
                  rotate_left
                  · simp only [Act.put, List.setIfInBounds_toArray, List.set_cons_zero, List.set_cons_succ, i64_w, i32_w]
                    rfl
                  refine one_ (i := 22) (N := some 85) (lb 38 16777215) rfl rfl (one_of HT_.out (by kernel_rfl)) (by decide) (fun K hK => ?_)
                  refine goes_ Try.func15 (by kernel_rfl) rfl #[.agg #[.int .u64 a0_0, .int .u64 a0_1, .bool a0_2], .int .i64 a3] (by rfl) rfl rfl (by (try simp only [List.map_toArray, List.map_cons, List.map_nil]); first | done | rfl | (simp only [List.length_drop, List.length_take]; rfl)) ?_
                  with_reducible refine (addr_Fill.calls a0_0 a0_1 a0_2 a3 t133 t134 t135 _ A108.out).mono ?_
                  rintro e w117 ⟨rfl, hb⟩
                  refine ⟨_, rfl, ?_⟩
                  have n0_ := Aside0.mk (blk_below (g := gb101) (o := .cells #[.int .u64 a0_0, .int .u64 a0_1, .bool a0_2] 24 (0, 0)) (by (with_reducible repeat (first | refine blk_drewN ?_ _ | refine blk_drew ?_ | refine blk_alloc ?_ _)); exact BK101.out) hb)
                  have n1_ := Aside0.mk (blk_below (g := gb102) (o := .cells #[.int .u64 a1_0, .int .u64 a1_1, .bool a1_2] 24 (0, 0)) (by (with_reducible repeat (first | refine blk_drewN ?_ _ | refine blk_drew ?_ | refine blk_alloc ?_ _)); exact BK102.out) hb)
                  have n2_ := Aside0.mk (blk_below (g := gb103) (o := .cells #[.int .u64 a2_0, .int .u64 a2_1, .bool a2_2] 24 (0, 0)) (by (with_reducible repeat (first | refine blk_drewN ?_ _ | refine blk_drew ?_ | refine blk_alloc ?_ _)); exact BK103.out) hb)
                  have n3_ := Aside0.mk (blk_below (g := gb119) (o := .cells #[.int .u64 t115, .int .u64 t116, .bool t117] 24 (0, 0)) (by (with_reducible repeat (first | refine blk_drewN ?_ _ | refine blk_drew ?_ | refine blk_alloc ?_ _)); exact BK119.out) hb)
                  have n4_ := Aside0.mk (below_step (by repeat (first | (with_reducible first | exact HB.out | apply below_alloc | apply pw_below_drewN | apply below_drew1 | refine below_set ?_ GE101.out | refine below_set ?_ GE102.out | refine below_set ?_ GE103.out | refine below_set ?_ GE119.out) | exact HB.out)) hb)
                  clear BK101
                  clear BK102
                  clear BK103
                  clear BK119
                  clear HB
                  have BK101 := n0_
                  have BK102 := n1_
                  have BK103 := n2_
                  have BK119 := n3_
                  have HB := n4_
                  clear n0_ n1_ n2_ n3_ n4_
                  (try clear hb)
                  (try clear hb2)
                  (try clear hk)
                  (try clear hi)
                  refine hK.out _ _ ⟨(blk_cell BK101.out 0).trans rfl, (blk_cell BK101.out 1).trans rfl, (blk_cell BK101.out 2).trans rfl⟩ (fun hHeld => ?_)
                  clear hK K
                  refine norm_ (a' := ?_) ?_ ?_
                  rotate_left
                  · show Act.put _ (some 85) _ = _
                    simp only [Act.put, List.setIfInBounds_toArray, List.set_cons_zero, List.set_cons_succ, i64_w, i32_w]
                    rfl
                  refine one_ (i := 24) (N := some 87) (lb 38 33554431) rfl rfl (one_of HT_.out (by kernel_rfl)) (by decide) (fun K hK => ?_)
                  refine goes_ Try.func29 (by kernel_rfl) rfl #[.agg #[.int .u64 t133, .int .u64 t134, .bool t135], .agg #[.int .u64 a0_0, .int .u64 a0_1, .bool a0_2]] (by rfl) rfl rfl (by (try simp only [List.map_toArray, List.map_cons, List.map_nil]); first | done | rfl | (simp only [List.length_drop, List.length_take]; rfl)) ?_
                  with_reducible refine (addr_Compare.calls t133 t134 t135 a0_0 a0_1 a0_2 t136 _ A109.out).mono ?_
                  rintro e w118 ⟨rfl, hb⟩
                  refine ⟨_, rfl, ?_⟩
                  have n0_ := Aside0.mk (blk_below (g := gb101) (o := .cells #[.int .u64 a0_0, .int .u64 a0_1, .bool a0_2] 24 (0, 0)) (by (with_reducible repeat (first | refine blk_drewN ?_ _ | refine blk_drew ?_ | refine blk_alloc ?_ _)); exact BK101.out) hb)
                  have n1_ := Aside0.mk (blk_below (g := gb102) (o := .cells #[.int .u64 a1_0, .int .u64 a1_1, .bool a1_2] 24 (0, 0)) (by (with_reducible repeat (first | refine blk_drewN ?_ _ | refine blk_drew ?_ | refine blk_alloc ?_ _)); exact BK102.out) hb)
                  have n2_ := Aside0.mk (blk_below (g := gb103) (o := .cells #[.int .u64 a2_0, .int .u64 a2_1, .bool a2_2] 24 (0, 0)) (by (with_reducible repeat (first | refine blk_drewN ?_ _ | refine blk_drew ?_ | refine blk_alloc ?_ _)); exact BK103.out) hb)
                  have n3_ := Aside0.mk (blk_below (g := gb119) (o := .cells #[.int .u64 t115, .int .u64 t116, .bool t117] 24 (0, 0)) (by (with_reducible repeat (first | refine blk_drewN ?_ _ | refine blk_drew ?_ | refine blk_alloc ?_ _)); exact BK119.out) hb)
                  have n4_ := Aside0.mk (below_step (by repeat (first | (with_reducible first | exact HB.out | apply below_alloc | apply pw_below_drewN | apply below_drew1 | refine below_set ?_ GE101.out | refine below_set ?_ GE102.out | refine below_set ?_ GE103.out | refine below_set ?_ GE119.out) | exact HB.out)) hb)
                  clear BK101
                  clear BK102
                  clear BK103
                  clear BK119
                  clear HB
                  have BK101 := n0_
                  have BK102 := n1_
                  have BK103 := n2_
                  have BK119 := n3_
                  have HB := n4_
                  clear n0_ n1_ n2_ n3_ n4_
                  (try clear hb)
                  (try clear hb2)
                  (try clear hk)
                  (try clear hi)
                  refine hK.out _ _ ⟨(blk_cell BK101.out 0).trans rfl, (blk_cell BK101.out 1).trans rfl, (blk_cell BK101.out 2).trans rfl⟩ (fun hHeld => ?_)
                  clear hK K
                  refine norm_ (a' := ?_) ?_ ?_
                  rotate_left
                  · show Act.put _ (some 87) _ = _
                    simp only [Act.put, List.setIfInBounds_toArray, List.set_cons_zero, List.set_cons_succ, i64_w, i32_w]
                    rfl
                  refine pure_ (i := 25) (N := some 88) (v := ?_) (a' := ?_) (lb 38 67108863) rfl rfl (any_of HT_.out (by kernel_rfl)) (fun _ _ _ h => h) (Or.inl ⟨by rfl, ?_⟩) ?_ ?_
                  rotate_left
                  · intro w'
                    go_simp
                    with_reducible rfl
                  rotate_left
                  · simp only [Act.put, List.setIfInBounds_toArray, List.set_cons_zero, List.set_cons_succ, i64_w, i32_w]
                    rfl
                  refine pure_ (i := 26) (N := some 89) (v := ?_) (a' := ?_) (lb 38 134217727) rfl rfl (any_of HT_.out (by kernel_rfl)) (fun _ _ _ h => h) (Or.inl ⟨by rfl, ?_⟩) ?_ ?_
                  rotate_left
                  · intro w'
                    go_simp
                    with_reducible rfl
                  rotate_left
                  · simp only [Act.put, List.setIfInBounds_toArray, List.set_cons_zero, List.set_cons_succ, i64_w, i32_w]
                    rfl
                  refine pure_ (i := 27) (N := some 90) (v := ?_) (a' := ?_) (lb 38 268435455) rfl rfl (any_of HT_.out (by kernel_rfl)) (fun _ _ _ h => h) (Or.inl ⟨by rfl, ?_⟩) ?_ ?_
                  rotate_left
                  · intro w'
                    go_simp
                    with_reducible rfl
                  rotate_left
                  · simp only [Act.put, List.setIfInBounds_toArray, List.set_cons_zero, List.set_cons_succ, i64_w, i32_w]
                    rfl
                  refine pure_ (i := 28) (N := some 91) (v := ?_) (a' := ?_) (lb 38 536870911) rfl rfl (any_of HT_.out (by kernel_rfl)) (fun _ _ _ h => h) (Or.inl ⟨by rfl, ?_⟩) ?_ ?_
                  rotate_left
                  · intro w'
                    go_simp
                    with_reducible rfl
                  rotate_left
                  · simp only [Act.put, List.setIfInBounds_toArray, List.set_cons_zero, List.set_cons_succ, i64_w, i32_w]
                    rfl
                  refine pure_ (i := 29) (N := some 92) (v := ?_) (a' := ?_) (lb 38 1073741823) rfl rfl (any_of HT_.out (by kernel_rfl)) (fun _ _ _ h => h) (Or.inl ⟨by rfl, ?_⟩) ?_ ?_
                  rotate_left
                  · intro w'
                    go_simp
                    with_reducible rfl
                  rotate_left
                  · simp only [Act.put, List.setIfInBounds_toArray, List.set_cons_zero, List.set_cons_succ, i64_w, i32_w]
                    rfl
                  refine take_ (i := 30) (N := some 93) (v := ?_) (a' := ?_) (lb 38 2147483647) rfl rfl (take_ofW HT_.out HW_.out (by kernel_rfl)) (fun _ _ _ h => h) (Or.inl ⟨by rfl, ?_⟩) hHeld ?_ ?_
                  rotate_left
                  · rintro w' ⟨s0, s1, s2⟩
                    go_simp
                    with_reducible rfl
                  rotate_left
                  · simp only [Act.put, List.setIfInBounds_toArray, List.set_cons_zero, List.set_cons_succ, i64_w, i32_w]
                    rfl
                  refine take_ (i := 32) (N := some 95) (v := ?_) (a' := ?_) (lb 38 6442450943) rfl rfl (take_ofW HT_.out HW_.out (by kernel_rfl)) (fun _ _ _ h => h) (Or.inl ⟨by rfl, ?_⟩) hHeld ?_ ?_
                  rotate_left
                  · rintro w' ⟨s0, s1, s2⟩
                    go_simp
                    with_reducible rfl
                  rotate_left
                  · simp only [Act.put, List.setIfInBounds_toArray, List.set_cons_zero, List.set_cons_succ, i64_w, i32_w]
                    rfl
                  refine one_ (i := 31) (N := some 94) (lb 38 8589934591) rfl rfl (one_of HT_.out (by kernel_rfl)) (by decide) (fun K hK => ?_)
                  refine goes_ Try.func15 (by kernel_rfl) rfl #[.agg #[.int .u64 a0_0, .int .u64 a0_1, .bool a0_2], .int .i64 0] (by rfl) rfl rfl (by (try simp only [List.map_toArray, List.map_cons, List.map_nil]); first | done | rfl | (simp only [List.length_drop, List.length_take]; rfl)) ?_
                  with_reducible refine (addr_Fill.calls a0_0 a0_1 a0_2 0 t137 t138 t139 _ A111.out).mono ?_
                  rintro e w119 ⟨rfl, hb⟩
                  refine ⟨_, rfl, ?_⟩
                  have n0_ := Aside0.mk (blk_below (g := gb101) (o := .cells #[.int .u64 a0_0, .int .u64 a0_1, .bool a0_2] 24 (0, 0)) (by (with_reducible repeat (first | refine blk_drewN ?_ _ | refine blk_drew ?_ | refine blk_alloc ?_ _)); exact BK101.out) hb)
                  have n1_ := Aside0.mk (blk_below (g := gb102) (o := .cells #[.int .u64 a1_0, .int .u64 a1_1, .bool a1_2] 24 (0, 0)) (by (with_reducible repeat (first | refine blk_drewN ?_ _ | refine blk_drew ?_ | refine blk_alloc ?_ _)); exact BK102.out) hb)
                  have n2_ := Aside0.mk (blk_below (g := gb103) (o := .cells #[.int .u64 a2_0, .int .u64 a2_1, .bool a2_2] 24 (0, 0)) (by (with_reducible repeat (first | refine blk_drewN ?_ _ | refine blk_drew ?_ | refine blk_alloc ?_ _)); exact BK103.out) hb)
                  have n3_ := Aside0.mk (blk_below (g := gb119) (o := .cells #[.int .u64 t115, .int .u64 t116, .bool t117] 24 (0, 0)) (by (with_reducible repeat (first | refine blk_drewN ?_ _ | refine blk_drew ?_ | refine blk_alloc ?_ _)); exact BK119.out) hb)
                  have n4_ := Aside0.mk (below_step (by repeat (first | (with_reducible first | exact HB.out | apply below_alloc | apply pw_below_drewN | apply below_drew1 | refine below_set ?_ GE101.out | refine below_set ?_ GE102.out | refine below_set ?_ GE103.out | refine below_set ?_ GE119.out) | exact HB.out)) hb)
                  clear BK101
                  clear BK102
                  clear BK103
                  clear BK119
                  clear HB
                  have BK101 := n0_
                  have BK102 := n1_
                  have BK103 := n2_
                  have BK119 := n3_
                  have HB := n4_
                  clear n0_ n1_ n2_ n3_ n4_
                  (try clear hb)
                  (try clear hb2)
                  (try clear hk)
                  (try clear hi)
                  refine hK.out _ _ ⟨(blk_cell BK101.out 0).trans rfl, (blk_cell BK101.out 1).trans rfl, (blk_cell BK101.out 2).trans rfl⟩ (fun hHeld => ?_)
                  clear hK K
                  refine norm_ (a' := ?_) ?_ ?_
                  rotate_left
                  · show Act.put _ (some 94) _ = _
                    simp only [Act.put, List.setIfInBounds_toArray, List.set_cons_zero, List.set_cons_succ, i64_w, i32_w]
                    rfl
                  refine one_ (i := 33) (N := some 96) (lb 38 17179869183) rfl rfl (one_of HT_.out (by kernel_rfl)) (by decide) (fun K hK => ?_)
                  refine goes_ Try.func29 (by kernel_rfl) rfl #[.agg #[.int .u64 t137, .int .u64 t138, .bool t139], .agg #[.int .u64 a0_0, .int .u64 a0_1, .bool a0_2]] (by rfl) rfl rfl (by (try simp only [List.map_toArray, List.map_cons, List.map_nil]); first | done | rfl | (simp only [List.length_drop, List.length_take]; rfl)) ?_
                  with_reducible refine (addr_Compare.calls t137 t138 t139 a0_0 a0_1 a0_2 t140 _ A112.out).mono ?_
                  rintro e w120 ⟨rfl, hb⟩
                  refine ⟨_, rfl, ?_⟩
                  have n0_ := Aside0.mk (blk_below (g := gb101) (o := .cells #[.int .u64 a0_0, .int .u64 a0_1, .bool a0_2] 24 (0, 0)) (by (with_reducible repeat (first | refine blk_drewN ?_ _ | refine blk_drew ?_ | refine blk_alloc ?_ _)); exact BK101.out) hb)
                  have n1_ := Aside0.mk (blk_below (g := gb102) (o := .cells #[.int .u64 a1_0, .int .u64 a1_1, .bool a1_2] 24 (0, 0)) (by (with_reducible repeat (first | refine blk_drewN ?_ _ | refine blk_drew ?_ | refine blk_alloc ?_ _)); exact BK102.out) hb)
                  have n2_ := Aside0.mk (blk_below (g := gb103) (o := .cells #[.int .u64 a2_0, .int .u64 a2_1, .bool a2_2] 24 (0, 0)) (by (with_reducible repeat (first | refine blk_drewN ?_ _ | refine blk_drew ?_ | refine blk_alloc ?_ _)); exact BK103.out) hb)
                  have n3_ := Aside0.mk (blk_below (g := gb119) (o := .cells #[.int .u64 t115, .int .u64 t116, .bool t117] 24 (0, 0)) (by (with_reducible repeat (first | refine blk_drewN ?_ _ | refine blk_drew ?_ | refine blk_alloc ?_ _)); exact BK119.out) hb)
                  have n4_ := Aside0.mk (below_step (by repeat (first | (with_reducible first | exact HB.out | apply below_alloc | apply pw_below_drewN | apply below_drew1 | refine below_set ?_ GE101.out | refine below_set ?_ GE102.out | refine below_set ?_ GE103.out | refine below_set ?_ GE119.out) | exact HB.out)) hb)
                  clear BK101
                  clear BK102
                  clear BK103
                  clear BK119
                  clear HB
                  have BK101 := n0_
                  have BK102 := n1_
                  have BK103 := n2_
                  have BK119 := n3_
                  have HB := n4_
                  clear n0_ n1_ n2_ n3_ n4_
                  (try clear hb)
                  (try clear hb2)
                  (try clear hk)
                  (try clear hi)
                  refine hK.out _ _ ⟨(blk_cell BK101.out 0).trans rfl, (blk_cell BK101.out 1).trans rfl, (blk_cell BK101.out 2).trans rfl⟩ (fun hHeld => ?_)
                  clear hK K
                  refine norm_ (a' := ?_) ?_ ?_
                  rotate_left
                  · show Act.put _ (some 96) _ = _
                    simp only [Act.put, List.setIfInBounds_toArray, List.set_cons_zero, List.set_cons_succ, i64_w, i32_w]
                    rfl
                  refine pure_ (i := 34) (N := some 97) (v := ?_) (a' := ?_) (lb 38 34359738367) rfl rfl (any_of HT_.out (by kernel_rfl)) (fun _ _ _ h => h) (Or.inl ⟨by rfl, ?_⟩) ?_ ?_
                  rotate_left
                  · intro w'
                    go_simp
                    with_reducible rfl
                  rotate_left
                  · simp only [Act.put, List.setIfInBounds_toArray, List.set_cons_zero, List.set_cons_succ, i64_w, i32_w]
                    rfl
                  refine pure_ (i := 35) (N := some 98) (v := ?_) (a' := ?_) (lb 38 68719476735) rfl rfl (any_of HT_.out (by kernel_rfl)) (fun _ _ _ h => h) (Or.inl ⟨by rfl, ?_⟩) ?_ ?_
                  rotate_left
                  · intro w'
                    go_simp
                    with_reducible rfl
                  rotate_left
                  · simp only [Act.put, List.setIfInBounds_toArray, List.set_cons_zero, List.set_cons_succ, i64_w, i32_w]
                    rfl
                  refine pure_ (i := 36) (N := some 99) (v := ?_) (a' := ?_) (lb 38 137438953471) rfl rfl (any_of HT_.out (by kernel_rfl)) (fun _ _ _ h => h) (Or.inl ⟨by rfl, ?_⟩) ?_ ?_
                  rotate_left
                  · intro w'
                    go_simp
                    with_reducible rfl
                  rotate_left
                  · simp only [Act.put, List.setIfInBounds_toArray, List.set_cons_zero, List.set_cons_succ, i64_w, i32_w]
                    rfl
                  refine pure_ (i := 37) (N := some 8) (v := ?_) (a' := ?_) (lb 38 274877906943) rfl rfl (any_of HT_.out (by kernel_rfl)) (fun _ _ _ h => h) (Or.inl ⟨by rfl, ?_⟩) ?_ ?_
                  rotate_left
                  · intro w'
                    go_simp
                    with_reducible rfl
                  rotate_left
                  · simp only [Act.put, List.setIfInBounds_toArray, List.set_cons_zero, List.set_cons_succ, i64_w, i32_w]
                    rfl
                  refine done_ (done_of HT_.out (by kernel_rfl)) ?_
                  try go_wp2
                  go_meet
                  case rel => exact ⟨_, ((t140 == 0)), (by first | rfl | (simp; done) | (simp [*]; done)), H', ⟨by have := HJ6.out; first | omega | exact Nat.le_refl _⟩, ⟨by (with_reducible repeat (first | refine blk_drewN ?_ _ | refine blk_drew ?_ | refine blk_alloc ?_ _)); exact BK101.out⟩, ⟨by (with_reducible repeat (first | refine blk_drewN ?_ _ | refine blk_drew ?_ | refine blk_alloc ?_ _)); exact BK102.out⟩, ⟨by (with_reducible repeat (first | refine blk_drewN ?_ _ | refine blk_drew ?_ | refine blk_alloc ?_ _)); exact BK103.out⟩, ⟨by (with_reducible repeat (first | refine blk_drewN ?_ _ | refine blk_drew ?_ | refine blk_alloc ?_ _)); exact BK119.out⟩, ⟨by repeat (first | (with_reducible first | exact HB.out | apply below_alloc | apply pw_below_drewN | apply below_drew1 | refine below_set ?_ GE101.out | refine below_set ?_ GE102.out | refine below_set ?_ GE103.out | refine below_set ?_ GE119.out) | exact HB.out)⟩⟩
                · rw [if_neg c110] at H
                  have c110b0 : decide (0 ≤ t136) = false := decide_eq_false c110
                  clear c110
                  have H' := Aside0.mk H
                  (exfalso; have HF := H'.out; rw [hrt] at HF; clear H'; simp [kedgelaw01_AddrOrder.j0_iff, kedgelaw01_AddrOrder.j1_iff] at HF; done)
              · rw [if_neg c107] at H
                have c107b0 : decide (t132 ≤ 0) = false := decide_eq_false c107
                clear c107
                have H' := Aside0.mk H
                (exfalso; have HF := H'.out; rw [hrt] at HF; clear H'; simp [kedgelaw01_AddrOrder.j0_iff, kedgelaw01_AddrOrder.j1_iff] at HF; done)
          · replace c73 := Bool.eq_false_iff.mpr c73
            subst c73
            have H1 : (kedgelaw01_AddrOrder.j1 kj6 false) = some r := by rw [if_neg (show ¬ (false = true) by decide)] at H; exact H
            clear H
            have H := H1
            clear H1
            have H' := Aside0.mk H
            (exfalso; have HF := H'.out; rw [hrt] at HF; clear H'; simp [kedgelaw01_AddrOrder.j0_iff, kedgelaw01_AddrOrder.j1_iff] at HF; done)
        case rest =>
          clear HC63
          try clear c1
          try clear c2
          try clear p2
          try clear c7
          try clear c10
          try clear c18
          try clear c29
          try clear c73
          try clear c107
          try clear c107b0
          obtain ⟨kq, x8_62, rfl, HA, HJ62, BK101, BK102, BK103, BK119, HB⟩ := hcut
          cases kq with
          | zero => exact absurd HA.out (by simp [kedgelaw01_AddrOrder.j1])
          | succ kj62 =>
            have H := HA.out
            clear HA
            simp only [kedgelaw01_AddrOrder.j1] at H
            obtain rfl := Option.some.inj H
            go_wp2
            go_ret
            exact ⟨by first | rfl | (simp [errW_none, errW_some] <;> rfl) | (simp [*, errW_none, errW_some] <;> rfl), by repeat (first | (with_reducible first | exact HB.out | apply below_alloc | apply pw_below_drewN | apply below_drew1 | refine below_set ?_ GE101.out | refine below_set ?_ GE102.out | refine below_set ?_ GE103.out | refine below_set ?_ GE119.out) | exact HB.out)⟩

end
end Go.Proofs.Ytbaeaiiohkfieaa.PH
