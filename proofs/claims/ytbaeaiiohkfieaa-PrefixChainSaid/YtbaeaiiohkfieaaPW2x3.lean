-- Written by a program of this session (wip/tools/pp.py drives the kit's print with hand-proved contracts); Lean checks it.
import Derived.Test.YtbaeaiiohkfieaaReg
import Derived.Test.YtbaeaiiohkfieaaPW2x0
import Derived.Test.YtbaeaiiohkfieaaPW2x1
namespace Go.Proofs.Ytbaeaiiohkfieaa.PW2
open Go.RowKit Go.Proofs.Ytbaeaiiohkfieaa.Hand Go.Proofs.Ytbaeaiiohkfieaa.PP Go.Proofs.YtbaeaiiohkfieaaW.PrintWords Go.Proofs.YtbaeaiiohkfieaaW.PrintLast Go.Proofs.YtbaeaiiohkfieaaW.PrintMore
open Go.Proofs.Ytbaeaiiohkfieaa.Reg (lb)
attribute [local go_sem] max2_int min2_int max_two min_two max_three min_three max_four min_four   -- for this text's walks alone
set_option linter.unusedVariables false
set_option linter.unusedSimpArgs false

noncomputable section
attribute [local go_sem high] eqA34
/-! ### kedgelaw02_awake: function 22 -/
def kedgelaw02_awake.j0 : Nat → Bool → Option (Bool)
  | 0, _ => none
  | k + 1, x0 => some x0
def kedgelaw02_awake.f (k : Nat)  : Option (Bool) := (addr_From.f (([10, 0, 0, 0] : List Int))).bind fun bt104 => ((addr_From.f (([10, 1, 0, 0] : List Int))).bind fun bt112 => ((addr_From.f (([11, 0, 0, 0] : List Int))).bind fun bt120 => ((prefix_Of.f bt104.1 bt104.2.1 bt104.2.2.1 8).bind fun bt125 => ((prefix_Sibling.f bt125.1 bt125.2.1 bt125.2.2.1 bt125.2.2.2).bind fun bt129 => (if bt129.2.2.2.2 = true then ((prefix_Of.f bt104.1 bt104.2.1 bt104.2.2.1 8).bind fun bt135 => ((prefix_Of.f bt112.1 bt112.2.1 bt112.2.2.1 16).bind fun bt139 => ((prefix_Covers.f k bt135.1 bt135.2.1 bt135.2.2.1 bt135.2.2.2 bt139.1 bt139.2.1 bt139.2.2.1 bt139.2.2.2).bind fun t143 => (if t143 = true then ((prefix_Of.f bt120.1 bt120.2.1 bt120.2.2.1 8).bind fun bt144 => (if ((bt129.1 == bt144.1 && (bt129.2.1 == bt144.2.1 && (bt129.2.2.1 == bt144.2.2.1))) && (bt129.2.2.2.1 == bt144.2.2.2)) = true then ((prefix_Sane.f bt129.1 bt129.2.1 bt129.2.2.1 bt129.2.2.2.1).bind fun t148 => (if t148 = true then (kedgelaw02_awake.j0 k (bt129.2.2.2.1 == 8)) else (kedgelaw02_awake.j0 k false))) else (kedgelaw02_awake.j0 k false))) else (kedgelaw02_awake.j0 k false))))) else (kedgelaw02_awake.j0 k false))))))
theorem kedgelaw02_awake.j0_iff {k0 : Nat} {x0 : Bool} {r : Bool} : kedgelaw02_awake.j0 k0 x0 = some r ↔ ∃ k, k0 = k + 1 ∧ (some x0) = some r := by
  cases k0 with
  | zero => simp [kedgelaw02_awake.j0]
  | succ k => exact ⟨fun h => ⟨k, rfl, h⟩, fun ⟨k', e, h⟩ => by cases e; exact h⟩
theorem kedgelaw02_awake.mono_l : ∀ k, (∀ y0, LeO (kedgelaw02_awake.j0 k y0) (kedgelaw02_awake.j0 (k + 1) y0))
  | 0 => fun _ r h => by simp [kedgelaw02_awake.j0] at h
  | k + 1 => by
    have ih0 := kedgelaw02_awake.mono_l k
    · intro y0
      unfold kedgelaw02_awake.j0
      repeat' first
      | (with_reducible exact ih0 _)
      | (with_reducible exact prefix_Covers.mono _ _ _ _ _ _ _ _ _)
      | (with_reducible exact LeO.refl _)
      | (with_reducible exact LeO.none _)
      | (with_reducible refine LeO.ite ?_ ?_)
      | (with_reducible refine LeO.bind ?_ (fun _ => ?_))
      | exact ih0 _
      | exact prefix_Covers.mono _ _ _ _ _ _ _ _ _
      | exact LeO.none _
      | refine LeO.ite ?_ ?_
      | refine LeO.bind ?_ (fun _ => ?_)
theorem kedgelaw02_awake.mono : ∀ k, LeO (kedgelaw02_awake.f k ) (kedgelaw02_awake.f (k + 1) ) := by
  intro  k
  have ih0 := kedgelaw02_awake.mono_l k
  unfold kedgelaw02_awake.f
  repeat' first
      | (with_reducible exact ih0 _)
      | (with_reducible exact prefix_Covers.mono _ _ _ _ _ _ _ _ _)
      | (with_reducible exact LeO.refl _)
      | (with_reducible exact LeO.none _)
      | (with_reducible refine LeO.ite ?_ ?_)
      | (with_reducible refine LeO.bind ?_ (fun _ => ?_))
      | exact ih0 _
      | exact prefix_Covers.mono _ _ _ _ _ _ _ _ _
      | exact LeO.none _
      | refine LeO.ite ?_ ?_
      | refine LeO.bind ?_ (fun _ => ?_)
def kedgelaw02_awake.T5 : Bool × List (List Nat × List Nat) := (true, [([], []), ([0], [0]), ([1], [1]), ([2, 1, 1], [1, 2]), ([1], [1]), ([4, 3, 1], [1, 4]), ([3, 5, 5, 1], [1, 3, 5]), ([1, 6], [1, 6]), ([7, 6], [7]), ([8], [8]), ([8], [8]), ([10, 8, 8], [8, 10]), ([9, 11, 8], [8, 9, 11]), ([8, 12], [8, 12]), ([13, 11], [13]), ([14], [14]), ([15, 14, 14], [14, 15]), ([14, 16], [14, 16]), ([17, 16], [17]), ([18], [18]), ([19, 18], [18, 19]), ([20, 18], [18, 20]), ([18, 21], [18, 21]), ([22, 18, 0, 1, 2, 3, 4, 5, 6, 7, 8, 9, 10, 11, 12, 13, 14, 15, 16, 17, 18, 19, 20, 21, 22], [22])])
def kedgelaw02_awake.B5 : List Nat := [0, 1, 3, 7, 3, 31, 63, 127, 255, 511, 511, 1535, 4095, 8191, 16383, 32767, 65535, 131071, 262143, 524287, 1048575, 2097151, 4194303, 8388607]
theorem kedgelaw02_awake.tab5 : rtab .any (opsOf Try.f22 5) = kedgelaw02_awake.T5 := by kernel_rfl
theorem kedgelaw02_awake.bits5 : waitsOk kedgelaw02_awake.T5.2 kedgelaw02_awake.B5 = true := by kernel_rfl
set_option maxHeartbeats 8000000 in
set_option maxRecDepth 100000 in
theorem kedgelaw02_awake.calls (k : Nat)  (r : Bool) (hrt : r = true) (w : World) (h : kedgelaw02_awake.f k  = some r) :
    Calls Try.prog 22 #[] w fun e w' => e = .returned (.bool r) ∧ Below w.heap.size w w' := by
  have hu24 := Try.underlying24
  have hu34 := Try.underlying34
  have HB := Aside0.mk (Below.refl w.heap.size w)
  have H : ((addr_From.f (([10, 0, 0, 0] : List Int))).bind fun bt104 => ((addr_From.f (([10, 1, 0, 0] : List Int))).bind fun bt112 => ((addr_From.f (([11, 0, 0, 0] : List Int))).bind fun bt120 => ((prefix_Of.f bt104.1 bt104.2.1 bt104.2.2.1 8).bind fun bt125 => ((prefix_Sibling.f bt125.1 bt125.2.1 bt125.2.2.1 bt125.2.2.2).bind fun bt129 => (if bt129.2.2.2.2 = true then ((prefix_Of.f bt104.1 bt104.2.1 bt104.2.2.1 8).bind fun bt135 => ((prefix_Of.f bt112.1 bt112.2.1 bt112.2.2.1 16).bind fun bt139 => ((prefix_Covers.f k bt135.1 bt135.2.1 bt135.2.2.1 bt135.2.2.2 bt139.1 bt139.2.1 bt139.2.2.1 bt139.2.2.2).bind fun t143 => (if t143 = true then ((prefix_Of.f bt120.1 bt120.2.1 bt120.2.2.1 8).bind fun bt144 => (if ((bt129.1 == bt144.1 && (bt129.2.1 == bt144.2.1 && (bt129.2.2.1 == bt144.2.2.1))) && (bt129.2.2.2.1 == bt144.2.2.2)) = true then ((prefix_Sane.f bt129.1 bt129.2.1 bt129.2.2.1 bt129.2.2.2.1).bind fun t148 => (if t148 = true then (kedgelaw02_awake.j0 k (bt129.2.2.2.1 == 8)) else (kedgelaw02_awake.j0 k false))) else (kedgelaw02_awake.j0 k false))) else (kedgelaw02_awake.j0 k false))))) else (kedgelaw02_awake.j0 k false))))))) = some r := h
  clear h
  obtain ⟨y101, hy101⟩ : ∃ y_ : List Int, y_ = (([10, 0, 0, 0] : List Int)) := ⟨_, rfl⟩
  replace H : ((addr_From.f y101).bind fun bt104 => ((addr_From.f (([10, 1, 0, 0] : List Int))).bind fun bt112 => ((addr_From.f (([11, 0, 0, 0] : List Int))).bind fun bt120 => ((prefix_Of.f bt104.1 bt104.2.1 bt104.2.2.1 8).bind fun bt125 => ((prefix_Sibling.f bt125.1 bt125.2.1 bt125.2.2.1 bt125.2.2.2).bind fun bt129 => (if bt129.2.2.2.2 = true then ((prefix_Of.f bt104.1 bt104.2.1 bt104.2.2.1 8).bind fun bt135 => ((prefix_Of.f bt112.1 bt112.2.1 bt112.2.2.1 16).bind fun bt139 => ((prefix_Covers.f k bt135.1 bt135.2.1 bt135.2.2.1 bt135.2.2.2 bt139.1 bt139.2.1 bt139.2.2.1 bt139.2.2.2).bind fun t143 => (if t143 = true then ((prefix_Of.f bt120.1 bt120.2.1 bt120.2.2.1 8).bind fun bt144 => (if ((bt129.1 == bt144.1 && (bt129.2.1 == bt144.2.1 && (bt129.2.2.1 == bt144.2.2.1))) && (bt129.2.2.2.1 == bt144.2.2.2)) = true then ((prefix_Sane.f bt129.1 bt129.2.1 bt129.2.2.1 bt129.2.2.2.1).bind fun t148 => (if t148 = true then (kedgelaw02_awake.j0 k (bt129.2.2.2.1 == 8)) else (kedgelaw02_awake.j0 k false))) else (kedgelaw02_awake.j0 k false))) else (kedgelaw02_awake.j0 k false))))) else (kedgelaw02_awake.j0 k false))))))) = some r := by first | (rw [hy101]; with_reducible exact H) | (have H2_ := (Option.bind_some _ _).symm.trans H; rw [hy101]; with_reducible exact H2_) | (have H2_ := (Option.bind_some _ _).symm.trans H; with_reducible exact H2_) | with_reducible exact H | (rw [hy101]; exact H) | exact H
  have Ny101 := Aside0.mk hy101
  clear hy101
  replace H := Option.bind_eq_some_iff.mp H
  obtain ⟨⟨t104, t105, t106, t107⟩, A10, H⟩ := H
  replace H : ((addr_From.f (([10, 1, 0, 0] : List Int))).bind fun bt112 => ((addr_From.f (([11, 0, 0, 0] : List Int))).bind fun bt120 => ((prefix_Of.f t104 t105 t106 8).bind fun bt125 => ((prefix_Sibling.f bt125.1 bt125.2.1 bt125.2.2.1 bt125.2.2.2).bind fun bt129 => (if bt129.2.2.2.2 = true then ((prefix_Of.f t104 t105 t106 8).bind fun bt135 => ((prefix_Of.f bt112.1 bt112.2.1 bt112.2.2.1 16).bind fun bt139 => ((prefix_Covers.f k bt135.1 bt135.2.1 bt135.2.2.1 bt135.2.2.2 bt139.1 bt139.2.1 bt139.2.2.1 bt139.2.2.2).bind fun t143 => (if t143 = true then ((prefix_Of.f bt120.1 bt120.2.1 bt120.2.2.1 8).bind fun bt144 => (if ((bt129.1 == bt144.1 && (bt129.2.1 == bt144.2.1 && (bt129.2.2.1 == bt144.2.2.1))) && (bt129.2.2.2.1 == bt144.2.2.2)) = true then ((prefix_Sane.f bt129.1 bt129.2.1 bt129.2.2.1 bt129.2.2.2.1).bind fun t148 => (if t148 = true then (kedgelaw02_awake.j0 k (bt129.2.2.2.1 == 8)) else (kedgelaw02_awake.j0 k false))) else (kedgelaw02_awake.j0 k false))) else (kedgelaw02_awake.j0 k false))))) else (kedgelaw02_awake.j0 k false)))))) = some r := H
  have A1 := Aside0.mk A10
  clear A10
  obtain ⟨y109, hy109⟩ : ∃ y_ : List Int, y_ = (([10, 1, 0, 0] : List Int)) := ⟨_, rfl⟩
  replace H : ((addr_From.f y109).bind fun bt112 => ((addr_From.f (([11, 0, 0, 0] : List Int))).bind fun bt120 => ((prefix_Of.f t104 t105 t106 8).bind fun bt125 => ((prefix_Sibling.f bt125.1 bt125.2.1 bt125.2.2.1 bt125.2.2.2).bind fun bt129 => (if bt129.2.2.2.2 = true then ((prefix_Of.f t104 t105 t106 8).bind fun bt135 => ((prefix_Of.f bt112.1 bt112.2.1 bt112.2.2.1 16).bind fun bt139 => ((prefix_Covers.f k bt135.1 bt135.2.1 bt135.2.2.1 bt135.2.2.2 bt139.1 bt139.2.1 bt139.2.2.1 bt139.2.2.2).bind fun t143 => (if t143 = true then ((prefix_Of.f bt120.1 bt120.2.1 bt120.2.2.1 8).bind fun bt144 => (if ((bt129.1 == bt144.1 && (bt129.2.1 == bt144.2.1 && (bt129.2.2.1 == bt144.2.2.1))) && (bt129.2.2.2.1 == bt144.2.2.2)) = true then ((prefix_Sane.f bt129.1 bt129.2.1 bt129.2.2.1 bt129.2.2.2.1).bind fun t148 => (if t148 = true then (kedgelaw02_awake.j0 k (bt129.2.2.2.1 == 8)) else (kedgelaw02_awake.j0 k false))) else (kedgelaw02_awake.j0 k false))) else (kedgelaw02_awake.j0 k false))))) else (kedgelaw02_awake.j0 k false)))))) = some r := by first | (rw [hy109]; with_reducible exact H) | (have H2_ := (Option.bind_some _ _).symm.trans H; rw [hy109]; with_reducible exact H2_) | (have H2_ := (Option.bind_some _ _).symm.trans H; with_reducible exact H2_) | with_reducible exact H | (rw [hy109]; exact H) | exact H
  have Ny109 := Aside0.mk hy109
  clear hy109
  replace H := Option.bind_eq_some_iff.mp H
  obtain ⟨⟨t112, t113, t114, t115⟩, A20, H⟩ := H
  replace H : ((addr_From.f (([11, 0, 0, 0] : List Int))).bind fun bt120 => ((prefix_Of.f t104 t105 t106 8).bind fun bt125 => ((prefix_Sibling.f bt125.1 bt125.2.1 bt125.2.2.1 bt125.2.2.2).bind fun bt129 => (if bt129.2.2.2.2 = true then ((prefix_Of.f t104 t105 t106 8).bind fun bt135 => ((prefix_Of.f t112 t113 t114 16).bind fun bt139 => ((prefix_Covers.f k bt135.1 bt135.2.1 bt135.2.2.1 bt135.2.2.2 bt139.1 bt139.2.1 bt139.2.2.1 bt139.2.2.2).bind fun t143 => (if t143 = true then ((prefix_Of.f bt120.1 bt120.2.1 bt120.2.2.1 8).bind fun bt144 => (if ((bt129.1 == bt144.1 && (bt129.2.1 == bt144.2.1 && (bt129.2.2.1 == bt144.2.2.1))) && (bt129.2.2.2.1 == bt144.2.2.2)) = true then ((prefix_Sane.f bt129.1 bt129.2.1 bt129.2.2.1 bt129.2.2.2.1).bind fun t148 => (if t148 = true then (kedgelaw02_awake.j0 k (bt129.2.2.2.1 == 8)) else (kedgelaw02_awake.j0 k false))) else (kedgelaw02_awake.j0 k false))) else (kedgelaw02_awake.j0 k false))))) else (kedgelaw02_awake.j0 k false))))) = some r := H
  have A2 := Aside0.mk A20
  clear A20
  obtain ⟨y117, hy117⟩ : ∃ y_ : List Int, y_ = (([11, 0, 0, 0] : List Int)) := ⟨_, rfl⟩
  replace H : ((addr_From.f y117).bind fun bt120 => ((prefix_Of.f t104 t105 t106 8).bind fun bt125 => ((prefix_Sibling.f bt125.1 bt125.2.1 bt125.2.2.1 bt125.2.2.2).bind fun bt129 => (if bt129.2.2.2.2 = true then ((prefix_Of.f t104 t105 t106 8).bind fun bt135 => ((prefix_Of.f t112 t113 t114 16).bind fun bt139 => ((prefix_Covers.f k bt135.1 bt135.2.1 bt135.2.2.1 bt135.2.2.2 bt139.1 bt139.2.1 bt139.2.2.1 bt139.2.2.2).bind fun t143 => (if t143 = true then ((prefix_Of.f bt120.1 bt120.2.1 bt120.2.2.1 8).bind fun bt144 => (if ((bt129.1 == bt144.1 && (bt129.2.1 == bt144.2.1 && (bt129.2.2.1 == bt144.2.2.1))) && (bt129.2.2.2.1 == bt144.2.2.2)) = true then ((prefix_Sane.f bt129.1 bt129.2.1 bt129.2.2.1 bt129.2.2.2.1).bind fun t148 => (if t148 = true then (kedgelaw02_awake.j0 k (bt129.2.2.2.1 == 8)) else (kedgelaw02_awake.j0 k false))) else (kedgelaw02_awake.j0 k false))) else (kedgelaw02_awake.j0 k false))))) else (kedgelaw02_awake.j0 k false))))) = some r := by first | (rw [hy117]; with_reducible exact H) | (have H2_ := (Option.bind_some _ _).symm.trans H; rw [hy117]; with_reducible exact H2_) | (have H2_ := (Option.bind_some _ _).symm.trans H; with_reducible exact H2_) | with_reducible exact H | (rw [hy117]; exact H) | exact H
  have Ny117 := Aside0.mk hy117
  clear hy117
  replace H := Option.bind_eq_some_iff.mp H
  obtain ⟨⟨t120, t121, t122, t123⟩, A30, H⟩ := H
  replace H : ((prefix_Of.f t104 t105 t106 8).bind fun bt125 => ((prefix_Sibling.f bt125.1 bt125.2.1 bt125.2.2.1 bt125.2.2.2).bind fun bt129 => (if bt129.2.2.2.2 = true then ((prefix_Of.f t104 t105 t106 8).bind fun bt135 => ((prefix_Of.f t112 t113 t114 16).bind fun bt139 => ((prefix_Covers.f k bt135.1 bt135.2.1 bt135.2.2.1 bt135.2.2.2 bt139.1 bt139.2.1 bt139.2.2.1 bt139.2.2.2).bind fun t143 => (if t143 = true then ((prefix_Of.f t120 t121 t122 8).bind fun bt144 => (if ((bt129.1 == bt144.1 && (bt129.2.1 == bt144.2.1 && (bt129.2.2.1 == bt144.2.2.1))) && (bt129.2.2.2.1 == bt144.2.2.2)) = true then ((prefix_Sane.f bt129.1 bt129.2.1 bt129.2.2.1 bt129.2.2.2.1).bind fun t148 => (if t148 = true then (kedgelaw02_awake.j0 k (bt129.2.2.2.1 == 8)) else (kedgelaw02_awake.j0 k false))) else (kedgelaw02_awake.j0 k false))) else (kedgelaw02_awake.j0 k false))))) else (kedgelaw02_awake.j0 k false)))) = some r := H
  have A3 := Aside0.mk A30
  clear A30
  replace H := Option.bind_eq_some_iff.mp H
  obtain ⟨⟨t125, t126, t127, t128⟩, A40, H⟩ := H
  replace H : ((prefix_Sibling.f t125 t126 t127 t128).bind fun bt129 => (if bt129.2.2.2.2 = true then ((prefix_Of.f t104 t105 t106 8).bind fun bt135 => ((prefix_Of.f t112 t113 t114 16).bind fun bt139 => ((prefix_Covers.f k bt135.1 bt135.2.1 bt135.2.2.1 bt135.2.2.2 bt139.1 bt139.2.1 bt139.2.2.1 bt139.2.2.2).bind fun t143 => (if t143 = true then ((prefix_Of.f t120 t121 t122 8).bind fun bt144 => (if ((bt129.1 == bt144.1 && (bt129.2.1 == bt144.2.1 && (bt129.2.2.1 == bt144.2.2.1))) && (bt129.2.2.2.1 == bt144.2.2.2)) = true then ((prefix_Sane.f bt129.1 bt129.2.1 bt129.2.2.1 bt129.2.2.2.1).bind fun t148 => (if t148 = true then (kedgelaw02_awake.j0 k (bt129.2.2.2.1 == 8)) else (kedgelaw02_awake.j0 k false))) else (kedgelaw02_awake.j0 k false))) else (kedgelaw02_awake.j0 k false))))) else (kedgelaw02_awake.j0 k false))) = some r := H
  have A4 := Aside0.mk A40
  clear A40
  replace H := Option.bind_eq_some_iff.mp H
  obtain ⟨⟨t129, t130, t131, t132, t133⟩, A50, H⟩ := H
  replace H : (if t133 = true then ((prefix_Of.f t104 t105 t106 8).bind fun bt135 => ((prefix_Of.f t112 t113 t114 16).bind fun bt139 => ((prefix_Covers.f k bt135.1 bt135.2.1 bt135.2.2.1 bt135.2.2.2 bt139.1 bt139.2.1 bt139.2.2.1 bt139.2.2.2).bind fun t143 => (if t143 = true then ((prefix_Of.f t120 t121 t122 8).bind fun bt144 => (if ((t129 == bt144.1 && (t130 == bt144.2.1 && (t131 == bt144.2.2.1))) && (t132 == bt144.2.2.2)) = true then ((prefix_Sane.f t129 t130 t131 t132).bind fun t148 => (if t148 = true then (kedgelaw02_awake.j0 k (t132 == 8)) else (kedgelaw02_awake.j0 k false))) else (kedgelaw02_awake.j0 k false))) else (kedgelaw02_awake.j0 k false))))) else (kedgelaw02_awake.j0 k false)) = some r := H
  have A5 := Aside0.mk A50
  clear A50
  have HC6 := Aside0.mk H
  clear H
  go_enter Try.func22, Try.ntmps22
  go_upto_region 5 with (first | ((with_reducible refine gate_dst (N := 10) rfl ?_); refine Kd.R_lit (Kd.int .u8) _ 5 ?hg (N := 10) ?hd (xs := ([10, 0, 0, 0] : List Int)) (inner := [.int .u8 10, .int .u8 0, .int .u8 0, .int .u8 0]) (ok := fun _ => True) (okp := fun _ => True) ?hr ?hp (fun _ hk => hk) trivial (Below.refl _ _) (Nat.le_refl _) (by simp) ?_; (case hd => rfl); (case hg => rfl); (case hr => first | (go_simp; done) | (go_simp; rfl)); (case hp => exact (Reps.one (show Kd.M (Kd.int .u8) _ _ _ 10 [.int .u8 10] from rfl) (Reps.one (show Kd.M (Kd.int .u8) _ _ _ 0 [.int .u8 0] from rfl) (Reps.one (show Kd.M (Kd.int .u8) _ _ _ 0 [.int .u8 0] from rfl) (Reps.one (show Kd.M (Kd.int .u8) _ _ _ 0 [.int .u8 0] from rfl) (Reps.none _ _)))))); intro v102 w7 ho8 hb hg_ hnew_; clear hg_ hnew_; (first | rw [← Ny101.out] at ho8 | (simp only [Int.reduceToNat] at ho8; rw [← Ny101.out] at ho8)); have n0_ := Aside0.mk (Kd.R_lower ho8 (below_size (by repeat (first | (with_reducible first | exact HB.out | apply below_alloc | apply pw_below_drewN | apply below_drew1) | exact HB.out)))); have n1_ := Aside0.mk (below_step (by repeat (first | (with_reducible first | exact HB.out | apply below_alloc | apply pw_below_drewN | apply below_drew1) | exact HB.out)) hb); clear HB; have HO103 := n0_; have HB := n1_; clear n0_ n1_; clear hb ho8; obtain ⟨Ao9, co9, eo9⟩ := Kd.R_slice HO103.out; subst eo9) | ((with_reducible refine gate_callee (f := 27) rfl ?_); refine goesL_ (some 11) rfl rfl Try.func27 (by kernel_rfl) rfl #[.slice Ao9 y101.length co9] rfl (by (try simp only [List.map_toArray, List.map_cons, List.map_nil]); first | done | rfl | (simp only [List.length_drop, List.length_take]; rfl)) ?_; (with_reducible refine (addr_From.calls _ _ y101 t104 t105 t106 t107 _ ?side1 ?side2 A1.out).mono ?_); (case side1 => repeat (first | exact (Kd.R_reads' HO103.out).2.2 | (with_reducible refine Kd.C_alloc ?_ _) | (with_reducible refine Kd.C_drewN ?_ _) | (with_reducible refine Kd.C_drew ?_))); (case side2 => exact (Kd.R_reads' HO103.out).2.1); rintro e w10 ⟨rfl, hb⟩; refine ⟨_, rfl, ?_⟩; have n0_ := Aside0.mk (Kd.R_below (by (with_reducible repeat (first | apply Kd.R_alloc | apply Kd.R_drewN | apply Kd.R_drew)); exact HO103.out) hb); have n1_ := Aside0.mk (below_step (by repeat (first | (with_reducible first | exact HB.out | apply below_alloc | apply pw_below_drewN | apply below_drew1) | exact HB.out)) hb); clear HO103; clear HB; have HO103 := n0_; have HB := n1_; clear n0_ n1_; (try clear hb); (try clear hb2); (try clear hk); (try clear hi)) | ((with_reducible refine gate_dst (N := 1) rfl ?_); refine box_event ?hg (N := 1) ?hd (cs := #[.int .u64 0, .int .u64 0, .bool false]) (t := 24) ?hr ?_; (case hd => rfl); (case hg => rfl); (case hr => first | (go_simp; done) | (go_simp; rfl)); intro gb108 hg w11 hbox hb; have n0_ := Aside0.mk (Kd.R_below (by (with_reducible repeat (first | apply Kd.R_alloc | apply Kd.R_drewN | apply Kd.R_drew)); exact HO103.out) hb); have n1_ := Aside0.mk (below_step (by repeat (first | (with_reducible first | exact HB.out | apply below_alloc | apply pw_below_drewN | apply below_drew1) | exact HB.out)) hb); have n2_ := Aside0.mk (hbox); have n3_ := Aside0.mk ((by rw [hg]; exact (below_size (by repeat (first | (with_reducible first | exact HB.out | apply below_alloc | apply pw_below_drewN | apply below_drew1) | exact HB.out))) : w.heap.size ≤ gb108)); have n4_ := Aside0.mk ((by rw [hg]; exact (below_size (by repeat (first | (with_reducible first | exact HB.out | apply below_alloc | apply pw_below_drewN | apply below_drew1) | exact HB.out))) : w.heap.size ≤ gb108)); clear HO103; clear HB; have HO103 := n0_; have HB := n1_; have BK108 := n2_; have GW108 := n3_; have GE108 := n4_; clear n0_ n1_ n2_ n3_ n4_; clear hb hbox hg; have hcz12_0 : w11.cell? ⟨gb108, 0, none⟩ = some (.int .u64 0) := (blk_cell BK108.out 0).trans rfl; have hcz12_1 : w11.cell? ⟨gb108, 1, none⟩ = some (.int .u64 0) := (blk_cell BK108.out 1).trans rfl; have hcz12_2 : w11.cell? ⟨gb108, 2, none⟩ = some (.bool false) := (blk_cell BK108.out 2).trans rfl; have hfz12_0 := blk_frozen BK108.out 0; have hfz12_1 := blk_frozen BK108.out 1; have hfz12_2 := blk_frozen BK108.out 2) | ((with_reducible refine gate_dst (N := 15) rfl ?_); refine Kd.R_lit (Kd.int .u8) _ 5 ?hg (N := 15) ?hd (xs := ([10, 1, 0, 0] : List Int)) (inner := [.int .u8 10, .int .u8 1, .int .u8 0, .int .u8 0]) (ok := fun _ => True) (okp := fun _ => True) ?hr ?hp (fun _ hk => hk) trivial (Below.refl _ _) (Nat.le_refl _) (by simp) ?_; (case hd => rfl); (case hg => rfl); (case hr => first | (go_simp; done) | (go_simp; rfl)); (case hp => exact (Reps.one (show Kd.M (Kd.int .u8) _ _ _ 10 [.int .u8 10] from rfl) (Reps.one (show Kd.M (Kd.int .u8) _ _ _ 1 [.int .u8 1] from rfl) (Reps.one (show Kd.M (Kd.int .u8) _ _ _ 0 [.int .u8 0] from rfl) (Reps.one (show Kd.M (Kd.int .u8) _ _ _ 0 [.int .u8 0] from rfl) (Reps.none _ _)))))); intro v110 w13 ho14 hb hg_ hnew_; clear hg_ hnew_; (first | rw [← Ny109.out] at ho14 | (simp only [Int.reduceToNat] at ho14; rw [← Ny109.out] at ho14)); have n0_ := Aside0.mk (Kd.R_elder' (by (with_reducible repeat (first | apply Kd.R_alloc | apply Kd.R_drewN | apply Kd.R_drew)); exact (Kd.R_mono (Kd.R_far (p := ⟨gb108, 2, none⟩) (Kd.R_far (p := ⟨gb108, 1, none⟩) (Kd.R_far (p := ⟨gb108, 0, none⟩) (Kd.R_types HO103.out BK108.out (by decide)) (fun _ hk => hk.2) (.int .u64 t104)) (fun _ hk => hk.2) (.int .u64 t105)) (fun _ hk => hk.2) (.bool t106)) (fun _ h_ => h_.1))) (Kd.R_base ho14) hb); have n1_ := Aside0.mk (Kd.R_lower (Kd.R_new' ho14 (Kd.R_lt (by (with_reducible repeat (first | apply Kd.R_alloc | apply Kd.R_drewN | apply Kd.R_drew)); exact (Kd.R_mono (Kd.R_far (p := ⟨gb108, 2, none⟩) (Kd.R_far (p := ⟨gb108, 1, none⟩) (Kd.R_far (p := ⟨gb108, 0, none⟩) (Kd.R_types HO103.out BK108.out (by decide)) (fun _ hk => hk.2) (.int .u64 t104)) (fun _ hk => hk.2) (.int .u64 t105)) (fun _ hk => hk.2) (.bool t106)) (fun _ h_ => h_.1))))) (below_size (by repeat (first | (with_reducible first | exact HB.out | apply below_alloc | apply pw_below_drewN | apply below_drew1 | refine below_set ?_ GE108.out) | exact HB.out)))); have n2_ := Aside0.mk (blk_below (g := gb108) (o := .cells #[.int .u64 t104, .int .u64 t105, .bool t106] 24 (0, 0)) (by (with_reducible repeat (first | refine blk_drewN ?_ _ | refine blk_drew ?_ | refine blk_alloc ?_ _)); refine blk_put (cs := #[.int .u64 t104, .int .u64 t105, .bool false]) ?_ 2 _ rfl; (with_reducible repeat (first | refine blk_drewN ?_ _ | refine blk_drew ?_ | refine blk_alloc ?_ _)); refine blk_put (cs := #[.int .u64 t104, .int .u64 0, .bool false]) ?_ 1 _ rfl; (with_reducible repeat (first | refine blk_drewN ?_ _ | refine blk_drew ?_ | refine blk_alloc ?_ _)); refine blk_put (cs := #[.int .u64 0, .int .u64 0, .bool false]) ?_ 0 _ rfl; (with_reducible repeat (first | refine blk_drewN ?_ _ | refine blk_drew ?_ | refine blk_alloc ?_ _)); exact BK108.out) hb); have n3_ := Aside0.mk (below_step (by repeat (first | (with_reducible first | exact HB.out | apply below_alloc | apply pw_below_drewN | apply below_drew1 | refine below_set ?_ GE108.out) | exact HB.out)) hb); clear HO103; clear BK108; clear HB; have HO103 := n0_; have HO111 := n1_; have BK108 := n2_; have HB := n3_; clear n0_ n1_ n2_ n3_; clear hb ho14; obtain ⟨Ao15, co15, eo15⟩ := Kd.R_slice HO111.out; subst eo15) | ((with_reducible refine gate_callee (f := 27) rfl ?_); refine goesL_ (some 16) rfl rfl Try.func27 (by kernel_rfl) rfl #[.slice Ao15 y109.length co15] rfl (by (try simp only [List.map_toArray, List.map_cons, List.map_nil]); first | done | rfl | (simp only [List.length_drop, List.length_take]; rfl)) ?_; (with_reducible refine (addr_From.calls _ _ y109 t112 t113 t114 t115 _ ?side1 ?side2 A2.out).mono ?_); (case side1 => repeat (first | exact (Kd.R_reads' HO111.out).2.2 | (with_reducible refine Kd.C_alloc ?_ _) | (with_reducible refine Kd.C_drewN ?_ _) | (with_reducible refine Kd.C_drew ?_))); (case side2 => exact (Kd.R_reads' HO111.out).2.1); rintro e w16 ⟨rfl, hb⟩; refine ⟨_, rfl, ?_⟩; have n0_ := Aside0.mk (Kd.R_below (by (with_reducible repeat (first | apply Kd.R_alloc | apply Kd.R_drewN | apply Kd.R_drew)); exact HO103.out) hb); have n1_ := Aside0.mk (Kd.R_below (by (with_reducible repeat (first | apply Kd.R_alloc | apply Kd.R_drewN | apply Kd.R_drew)); exact HO111.out) hb); have n2_ := Aside0.mk (blk_below (g := gb108) (o := .cells #[.int .u64 t104, .int .u64 t105, .bool t106] 24 (0, 0)) (by (with_reducible repeat (first | refine blk_drewN ?_ _ | refine blk_drew ?_ | refine blk_alloc ?_ _)); exact BK108.out) hb); have n3_ := Aside0.mk (below_step (by repeat (first | (with_reducible first | exact HB.out | apply below_alloc | apply pw_below_drewN | apply below_drew1 | refine below_set ?_ GE108.out) | exact HB.out)) hb); clear HO103; clear HO111; clear BK108; clear HB; have HO103 := n0_; have HO111 := n1_; have BK108 := n2_; have HB := n3_; clear n0_ n1_ n2_ n3_; (try clear hb); (try clear hb2); (try clear hk); (try clear hi)) | ((with_reducible refine gate_dst (N := 3) rfl ?_); refine box_event ?hg (N := 3) ?hd (cs := #[.int .u64 0, .int .u64 0, .bool false]) (t := 24) ?hr ?_; (case hd => rfl); (case hg => rfl); (case hr => first | (go_simp; done) | (go_simp; rfl)); intro gb116 hg w17 hbox hb; have n0_ := Aside0.mk (Kd.R_below (by (with_reducible repeat (first | apply Kd.R_alloc | apply Kd.R_drewN | apply Kd.R_drew)); exact HO103.out) hb); have n1_ := Aside0.mk (Kd.R_below (by (with_reducible repeat (first | apply Kd.R_alloc | apply Kd.R_drewN | apply Kd.R_drew)); exact HO111.out) hb); have n2_ := Aside0.mk (blk_below (g := gb108) (o := .cells #[.int .u64 t104, .int .u64 t105, .bool t106] 24 (0, 0)) (by (with_reducible repeat (first | refine blk_drewN ?_ _ | refine blk_drew ?_ | refine blk_alloc ?_ _)); exact BK108.out) hb); have n3_ := Aside0.mk (below_step (by repeat (first | (with_reducible first | exact HB.out | apply below_alloc | apply pw_below_drewN | apply below_drew1 | refine below_set ?_ GE108.out) | exact HB.out)) hb); have n4_ := Aside0.mk (hbox); have n5_ := Aside0.mk ((by rw [hg]; exact (below_size (by repeat (first | (with_reducible first | exact HB.out | apply below_alloc | apply pw_below_drewN | apply below_drew1 | refine below_set ?_ GE108.out) | exact HB.out))) : w.heap.size ≤ gb116)); have n6_ := Aside0.mk ((by rw [hg]; exact (below_size (by repeat (first | (with_reducible first | exact HB.out | apply below_alloc | apply pw_below_drewN | apply below_drew1 | refine below_set ?_ GE108.out) | exact HB.out))) : w.heap.size ≤ gb116)); have n7_ := Aside0.mk ((by rw [hg]; exact Nat.ne_of_lt (blk_lt (g := gb108) (o := .cells #[.int .u64 t104, .int .u64 t105, .bool t106] 24 (0, 0)) (by (with_reducible repeat (first | refine blk_drewN ?_ _ | refine blk_drew ?_ | refine blk_alloc ?_ _)); exact BK108.out)) : gb108 ≠ gb116)); have n8_ := Aside0.mk ((by rw [hg]; exact Nat.ne_of_gt (blk_lt (g := gb108) (o := .cells #[.int .u64 t104, .int .u64 t105, .bool t106] 24 (0, 0)) (by (with_reducible repeat (first | refine blk_drewN ?_ _ | refine blk_drew ?_ | refine blk_alloc ?_ _)); exact BK108.out)) : gb116 ≠ gb108)); clear HO103; clear HO111; clear BK108; clear HB; have HO103 := n0_; have HO111 := n1_; have BK108 := n2_; have HB := n3_; have BK116 := n4_; have GW116 := n5_; have GE116 := n6_; have NB108_116 := n7_; have NB116_108 := n8_; clear n0_ n1_ n2_ n3_ n4_ n5_ n6_ n7_ n8_; clear hb hbox hg; have hnb18 := NB116_108.out; have hnc18 := NB108_116.out; have hcz19_0 : w17.cell? ⟨gb116, 0, none⟩ = some (.int .u64 0) := (blk_cell BK116.out 0).trans rfl; have hcz19_1 : w17.cell? ⟨gb116, 1, none⟩ = some (.int .u64 0) := (blk_cell BK116.out 1).trans rfl; have hcz19_2 : w17.cell? ⟨gb116, 2, none⟩ = some (.bool false) := (blk_cell BK116.out 2).trans rfl; have hfz19_0 := blk_frozen BK116.out 0; have hfz19_1 := blk_frozen BK116.out 1; have hfz19_2 := blk_frozen BK116.out 2) | ((with_reducible refine gate_dst (N := 20) rfl ?_); refine Kd.R_lit (Kd.int .u8) _ 5 ?hg (N := 20) ?hd (xs := ([11, 0, 0, 0] : List Int)) (inner := [.int .u8 11, .int .u8 0, .int .u8 0, .int .u8 0]) (ok := fun _ => True) (okp := fun _ => True) ?hr ?hp (fun _ hk => hk) trivial (Below.refl _ _) (Nat.le_refl _) (by simp) ?_; (case hd => rfl); (case hg => rfl); (case hr => first | (go_simp; done) | (go_simp; rfl)); (case hp => exact (Reps.one (show Kd.M (Kd.int .u8) _ _ _ 11 [.int .u8 11] from rfl) (Reps.one (show Kd.M (Kd.int .u8) _ _ _ 0 [.int .u8 0] from rfl) (Reps.one (show Kd.M (Kd.int .u8) _ _ _ 0 [.int .u8 0] from rfl) (Reps.one (show Kd.M (Kd.int .u8) _ _ _ 0 [.int .u8 0] from rfl) (Reps.none _ _)))))); intro v118 w20 ho21 hb hg_ hnew_; clear hg_ hnew_; (first | rw [← Ny117.out] at ho21 | (simp only [Int.reduceToNat] at ho21; rw [← Ny117.out] at ho21)); have n0_ := Aside0.mk (Kd.R_elder' (by (with_reducible repeat (first | apply Kd.R_alloc | apply Kd.R_drewN | apply Kd.R_drew)); exact (Kd.R_mono (Kd.R_far (p := ⟨gb116, 2, none⟩) (Kd.R_far (p := ⟨gb116, 1, none⟩) (Kd.R_far (p := ⟨gb116, 0, none⟩) (Kd.R_types HO103.out BK116.out (by decide)) (fun _ hk => hk.2) (.int .u64 t112)) (fun _ hk => hk.2) (.int .u64 t113)) (fun _ hk => hk.2) (.bool t114)) (fun _ h_ => h_.1))) (Kd.R_base ho21) hb); have n1_ := Aside0.mk (Kd.R_elder' (by (with_reducible repeat (first | apply Kd.R_alloc | apply Kd.R_drewN | apply Kd.R_drew)); exact (Kd.R_mono (Kd.R_far (p := ⟨gb116, 2, none⟩) (Kd.R_far (p := ⟨gb116, 1, none⟩) (Kd.R_far (p := ⟨gb116, 0, none⟩) (Kd.R_types HO111.out BK116.out (by decide)) (fun _ hk => hk.2) (.int .u64 t112)) (fun _ hk => hk.2) (.int .u64 t113)) (fun _ hk => hk.2) (.bool t114)) (fun _ h_ => h_.1))) (Kd.R_base ho21) hb); have n2_ := Aside0.mk (Kd.R_lower (Kd.R_new' (Kd.R_new' ho21 (Kd.R_lt (by (with_reducible repeat (first | apply Kd.R_alloc | apply Kd.R_drewN | apply Kd.R_drew)); exact (Kd.R_mono (Kd.R_far (p := ⟨gb116, 2, none⟩) (Kd.R_far (p := ⟨gb116, 1, none⟩) (Kd.R_far (p := ⟨gb116, 0, none⟩) (Kd.R_types HO103.out BK116.out (by decide)) (fun _ hk => hk.2) (.int .u64 t112)) (fun _ hk => hk.2) (.int .u64 t113)) (fun _ hk => hk.2) (.bool t114)) (fun _ h_ => h_.1))))) (Kd.R_lt (by (with_reducible repeat (first | apply Kd.R_alloc | apply Kd.R_drewN | apply Kd.R_drew)); exact (Kd.R_mono (Kd.R_far (p := ⟨gb116, 2, none⟩) (Kd.R_far (p := ⟨gb116, 1, none⟩) (Kd.R_far (p := ⟨gb116, 0, none⟩) (Kd.R_types HO111.out BK116.out (by decide)) (fun _ hk => hk.2) (.int .u64 t112)) (fun _ hk => hk.2) (.int .u64 t113)) (fun _ hk => hk.2) (.bool t114)) (fun _ h_ => h_.1))))) (below_size (by repeat (first | (with_reducible first | exact HB.out | apply below_alloc | apply pw_below_drewN | apply below_drew1 | refine below_set ?_ GE108.out | refine below_set ?_ GE116.out) | exact HB.out)))); have n3_ := Aside0.mk (blk_below (g := gb108) (o := .cells #[.int .u64 t104, .int .u64 t105, .bool t106] 24 (0, 0)) (by (with_reducible repeat (first | refine blk_drewN ?_ _ | refine blk_drew ?_ | refine blk_alloc ?_ _)); refine blk_far ?_ NB108_116.out _; (with_reducible repeat (first | refine blk_drewN ?_ _ | refine blk_drew ?_ | refine blk_alloc ?_ _)); refine blk_far ?_ NB108_116.out _; (with_reducible repeat (first | refine blk_drewN ?_ _ | refine blk_drew ?_ | refine blk_alloc ?_ _)); refine blk_far ?_ NB108_116.out _; (with_reducible repeat (first | refine blk_drewN ?_ _ | refine blk_drew ?_ | refine blk_alloc ?_ _)); exact BK108.out) hb); have n4_ := Aside0.mk (blk_below (g := gb116) (o := .cells #[.int .u64 t112, .int .u64 t113, .bool t114] 24 (0, 0)) (by (with_reducible repeat (first | refine blk_drewN ?_ _ | refine blk_drew ?_ | refine blk_alloc ?_ _)); refine blk_put (cs := #[.int .u64 t112, .int .u64 t113, .bool false]) ?_ 2 _ rfl; (with_reducible repeat (first | refine blk_drewN ?_ _ | refine blk_drew ?_ | refine blk_alloc ?_ _)); refine blk_put (cs := #[.int .u64 t112, .int .u64 0, .bool false]) ?_ 1 _ rfl; (with_reducible repeat (first | refine blk_drewN ?_ _ | refine blk_drew ?_ | refine blk_alloc ?_ _)); refine blk_put (cs := #[.int .u64 0, .int .u64 0, .bool false]) ?_ 0 _ rfl; (with_reducible repeat (first | refine blk_drewN ?_ _ | refine blk_drew ?_ | refine blk_alloc ?_ _)); exact BK116.out) hb); have n5_ := Aside0.mk (below_step (by repeat (first | (with_reducible first | exact HB.out | apply below_alloc | apply pw_below_drewN | apply below_drew1 | refine below_set ?_ GE108.out | refine below_set ?_ GE116.out) | exact HB.out)) hb); clear HO103; clear HO111; clear BK108; clear BK116; clear HB; have HO103 := n0_; have HO111 := n1_; have HO119 := n2_; have BK108 := n3_; have BK116 := n4_; have HB := n5_; clear n0_ n1_ n2_ n3_ n4_ n5_; clear hb ho21; obtain ⟨Ao22, co22, eo22⟩ := Kd.R_slice HO119.out; subst eo22) | ((with_reducible refine gate_callee (f := 27) rfl ?_); refine goesL_ (some 21) rfl rfl Try.func27 (by kernel_rfl) rfl #[.slice Ao22 y117.length co22] rfl (by (try simp only [List.map_toArray, List.map_cons, List.map_nil]); first | done | rfl | (simp only [List.length_drop, List.length_take]; rfl)) ?_; (with_reducible refine (addr_From.calls _ _ y117 t120 t121 t122 t123 _ ?side1 ?side2 A3.out).mono ?_); (case side1 => repeat (first | exact (Kd.R_reads' HO119.out).2.2 | (with_reducible refine Kd.C_alloc ?_ _) | (with_reducible refine Kd.C_drewN ?_ _) | (with_reducible refine Kd.C_drew ?_))); (case side2 => exact (Kd.R_reads' HO119.out).2.1); rintro e w23 ⟨rfl, hb⟩; refine ⟨_, rfl, ?_⟩; have n0_ := Aside0.mk (Kd.R_below (by (with_reducible repeat (first | apply Kd.R_alloc | apply Kd.R_drewN | apply Kd.R_drew)); exact HO103.out) hb); have n1_ := Aside0.mk (Kd.R_below (by (with_reducible repeat (first | apply Kd.R_alloc | apply Kd.R_drewN | apply Kd.R_drew)); exact HO111.out) hb); have n2_ := Aside0.mk (Kd.R_below (by (with_reducible repeat (first | apply Kd.R_alloc | apply Kd.R_drewN | apply Kd.R_drew)); exact HO119.out) hb); have n3_ := Aside0.mk (blk_below (g := gb108) (o := .cells #[.int .u64 t104, .int .u64 t105, .bool t106] 24 (0, 0)) (by (with_reducible repeat (first | refine blk_drewN ?_ _ | refine blk_drew ?_ | refine blk_alloc ?_ _)); exact BK108.out) hb); have n4_ := Aside0.mk (blk_below (g := gb116) (o := .cells #[.int .u64 t112, .int .u64 t113, .bool t114] 24 (0, 0)) (by (with_reducible repeat (first | refine blk_drewN ?_ _ | refine blk_drew ?_ | refine blk_alloc ?_ _)); exact BK116.out) hb); have n5_ := Aside0.mk (below_step (by repeat (first | (with_reducible first | exact HB.out | apply below_alloc | apply pw_below_drewN | apply below_drew1 | refine below_set ?_ GE108.out | refine below_set ?_ GE116.out) | exact HB.out)) hb); clear HO103; clear HO111; clear HO119; clear BK108; clear BK116; clear HB; have HO103 := n0_; have HO111 := n1_; have HO119 := n2_; have BK108 := n3_; have BK116 := n4_; have HB := n5_; clear n0_ n1_ n2_ n3_ n4_ n5_; (try clear hb); (try clear hb2); (try clear hk); (try clear hi)) | ((with_reducible refine gate_dst (N := 5) rfl ?_); refine box_event ?hg (N := 5) ?hd (cs := #[.int .u64 0, .int .u64 0, .bool false]) (t := 24) ?hr ?_; (case hd => rfl); (case hg => rfl); (case hr => first | (go_simp; done) | (go_simp; rfl)); intro gb124 hg w24 hbox hb; have n0_ := Aside0.mk (Kd.R_below (by (with_reducible repeat (first | apply Kd.R_alloc | apply Kd.R_drewN | apply Kd.R_drew)); exact HO103.out) hb); have n1_ := Aside0.mk (Kd.R_below (by (with_reducible repeat (first | apply Kd.R_alloc | apply Kd.R_drewN | apply Kd.R_drew)); exact HO111.out) hb); have n2_ := Aside0.mk (Kd.R_below (by (with_reducible repeat (first | apply Kd.R_alloc | apply Kd.R_drewN | apply Kd.R_drew)); exact HO119.out) hb); have n3_ := Aside0.mk (blk_below (g := gb108) (o := .cells #[.int .u64 t104, .int .u64 t105, .bool t106] 24 (0, 0)) (by (with_reducible repeat (first | refine blk_drewN ?_ _ | refine blk_drew ?_ | refine blk_alloc ?_ _)); exact BK108.out) hb); have n4_ := Aside0.mk (blk_below (g := gb116) (o := .cells #[.int .u64 t112, .int .u64 t113, .bool t114] 24 (0, 0)) (by (with_reducible repeat (first | refine blk_drewN ?_ _ | refine blk_drew ?_ | refine blk_alloc ?_ _)); exact BK116.out) hb); have n5_ := Aside0.mk (below_step (by repeat (first | (with_reducible first | exact HB.out | apply below_alloc | apply pw_below_drewN | apply below_drew1 | refine below_set ?_ GE108.out | refine below_set ?_ GE116.out) | exact HB.out)) hb); have n6_ := Aside0.mk (hbox); have n7_ := Aside0.mk ((by rw [hg]; exact (below_size (by repeat (first | (with_reducible first | exact HB.out | apply below_alloc | apply pw_below_drewN | apply below_drew1 | refine below_set ?_ GE108.out | refine below_set ?_ GE116.out) | exact HB.out))) : w.heap.size ≤ gb124)); have n8_ := Aside0.mk ((by rw [hg]; exact (below_size (by repeat (first | (with_reducible first | exact HB.out | apply below_alloc | apply pw_below_drewN | apply below_drew1 | refine below_set ?_ GE108.out | refine below_set ?_ GE116.out) | exact HB.out))) : w.heap.size ≤ gb124)); have n9_ := Aside0.mk ((by rw [hg]; exact Nat.ne_of_lt (blk_lt (g := gb108) (o := .cells #[.int .u64 t104, .int .u64 t105, .bool t106] 24 (0, 0)) (by (with_reducible repeat (first | refine blk_drewN ?_ _ | refine blk_drew ?_ | refine blk_alloc ?_ _)); exact BK108.out)) : gb108 ≠ gb124)); have n10_ := Aside0.mk ((by rw [hg]; exact Nat.ne_of_gt (blk_lt (g := gb108) (o := .cells #[.int .u64 t104, .int .u64 t105, .bool t106] 24 (0, 0)) (by (with_reducible repeat (first | refine blk_drewN ?_ _ | refine blk_drew ?_ | refine blk_alloc ?_ _)); exact BK108.out)) : gb124 ≠ gb108)); have n11_ := Aside0.mk ((by rw [hg]; exact Nat.ne_of_lt (blk_lt (g := gb116) (o := .cells #[.int .u64 t112, .int .u64 t113, .bool t114] 24 (0, 0)) (by (with_reducible repeat (first | refine blk_drewN ?_ _ | refine blk_drew ?_ | refine blk_alloc ?_ _)); exact BK116.out)) : gb116 ≠ gb124)); have n12_ := Aside0.mk ((by rw [hg]; exact Nat.ne_of_gt (blk_lt (g := gb116) (o := .cells #[.int .u64 t112, .int .u64 t113, .bool t114] 24 (0, 0)) (by (with_reducible repeat (first | refine blk_drewN ?_ _ | refine blk_drew ?_ | refine blk_alloc ?_ _)); exact BK116.out)) : gb124 ≠ gb116)); clear HO103; clear HO111; clear HO119; clear BK108; clear BK116; clear HB; have HO103 := n0_; have HO111 := n1_; have HO119 := n2_; have BK108 := n3_; have BK116 := n4_; have HB := n5_; have BK124 := n6_; have GW124 := n7_; have GE124 := n8_; have NB108_124 := n9_; have NB124_108 := n10_; have NB116_124 := n11_; have NB124_116 := n12_; clear n0_ n1_ n2_ n3_ n4_ n5_ n6_ n7_ n8_ n9_ n10_ n11_ n12_; clear hb hbox hg; have hnb25 := NB124_108.out; have hnc25 := NB108_124.out; have hnb26 := NB124_116.out; have hnc26 := NB116_124.out; have hcz27_0 : w24.cell? ⟨gb124, 0, none⟩ = some (.int .u64 0) := (blk_cell BK124.out 0).trans rfl; have hcz27_1 : w24.cell? ⟨gb124, 1, none⟩ = some (.int .u64 0) := (blk_cell BK124.out 1).trans rfl; have hcz27_2 : w24.cell? ⟨gb124, 2, none⟩ = some (.bool false) := (blk_cell BK124.out 2).trans rfl; have hfz27_0 := blk_frozen BK124.out 0; have hfz27_1 := blk_frozen BK124.out 1; have hfz27_2 := blk_frozen BK124.out 2; have hcz28_0 : w24.cell? ⟨gb108, 0, none⟩ = some (.int .u64 t104) := (blk_cell BK108.out 0).trans rfl; have hcz28_1 : w24.cell? ⟨gb108, 1, none⟩ = some (.int .u64 t105) := (blk_cell BK108.out 1).trans rfl; have hcz28_2 : w24.cell? ⟨gb108, 2, none⟩ = some (.bool t106) := (blk_cell BK108.out 2).trans rfl; have hfz28_0 := blk_frozen BK108.out 0; have hfz28_1 := blk_frozen BK108.out 1; have hfz28_2 := blk_frozen BK108.out 2) | ((with_reducible refine gate_callee (f := 23) rfl ?_); refine goesL_ (some 26) rfl rfl Try.func23 (by kernel_rfl) rfl #[.agg #[.int .u64 t104, .int .u64 t105, .bool t106], .int .i64 8] rfl (by (try simp only [List.map_toArray, List.map_cons, List.map_nil]); first | done | rfl | (simp only [List.length_drop, List.length_take]; rfl)) ?_; (with_reducible refine (prefix_Of.calls t104 t105 t106 8 t125 t126 t127 t128 _ A4.out).mono ?_); rintro e w29 ⟨rfl, hb⟩; refine ⟨_, rfl, ?_⟩; have n0_ := Aside0.mk (Kd.R_below (by (with_reducible repeat (first | apply Kd.R_alloc | apply Kd.R_drewN | apply Kd.R_drew)); exact (Kd.R_mono (Kd.R_far (p := ⟨gb124, 2, none⟩) (Kd.R_far (p := ⟨gb124, 1, none⟩) (Kd.R_far (p := ⟨gb124, 0, none⟩) (Kd.R_types HO103.out BK124.out (by decide)) (fun _ hk => hk.2) (.int .u64 t120)) (fun _ hk => hk.2) (.int .u64 t121)) (fun _ hk => hk.2) (.bool t122)) (fun _ h_ => h_.1))) hb); have n1_ := Aside0.mk (Kd.R_below (by (with_reducible repeat (first | apply Kd.R_alloc | apply Kd.R_drewN | apply Kd.R_drew)); exact (Kd.R_mono (Kd.R_far (p := ⟨gb124, 2, none⟩) (Kd.R_far (p := ⟨gb124, 1, none⟩) (Kd.R_far (p := ⟨gb124, 0, none⟩) (Kd.R_types HO111.out BK124.out (by decide)) (fun _ hk => hk.2) (.int .u64 t120)) (fun _ hk => hk.2) (.int .u64 t121)) (fun _ hk => hk.2) (.bool t122)) (fun _ h_ => h_.1))) hb); have n2_ := Aside0.mk (Kd.R_below (by (with_reducible repeat (first | apply Kd.R_alloc | apply Kd.R_drewN | apply Kd.R_drew)); exact (Kd.R_mono (Kd.R_far (p := ⟨gb124, 2, none⟩) (Kd.R_far (p := ⟨gb124, 1, none⟩) (Kd.R_far (p := ⟨gb124, 0, none⟩) (Kd.R_types HO119.out BK124.out (by decide)) (fun _ hk => hk.2) (.int .u64 t120)) (fun _ hk => hk.2) (.int .u64 t121)) (fun _ hk => hk.2) (.bool t122)) (fun _ h_ => h_.1))) hb); have n3_ := Aside0.mk (blk_below (g := gb108) (o := .cells #[.int .u64 t104, .int .u64 t105, .bool t106] 24 (0, 0)) (by (with_reducible repeat (first | refine blk_drewN ?_ _ | refine blk_drew ?_ | refine blk_alloc ?_ _)); refine blk_far ?_ NB108_124.out _; (with_reducible repeat (first | refine blk_drewN ?_ _ | refine blk_drew ?_ | refine blk_alloc ?_ _)); refine blk_far ?_ NB108_124.out _; (with_reducible repeat (first | refine blk_drewN ?_ _ | refine blk_drew ?_ | refine blk_alloc ?_ _)); refine blk_far ?_ NB108_124.out _; (with_reducible repeat (first | refine blk_drewN ?_ _ | refine blk_drew ?_ | refine blk_alloc ?_ _)); exact BK108.out) hb); have n4_ := Aside0.mk (blk_below (g := gb116) (o := .cells #[.int .u64 t112, .int .u64 t113, .bool t114] 24 (0, 0)) (by (with_reducible repeat (first | refine blk_drewN ?_ _ | refine blk_drew ?_ | refine blk_alloc ?_ _)); refine blk_far ?_ NB116_124.out _; (with_reducible repeat (first | refine blk_drewN ?_ _ | refine blk_drew ?_ | refine blk_alloc ?_ _)); refine blk_far ?_ NB116_124.out _; (with_reducible repeat (first | refine blk_drewN ?_ _ | refine blk_drew ?_ | refine blk_alloc ?_ _)); refine blk_far ?_ NB116_124.out _; (with_reducible repeat (first | refine blk_drewN ?_ _ | refine blk_drew ?_ | refine blk_alloc ?_ _)); exact BK116.out) hb); have n5_ := Aside0.mk (blk_below (g := gb124) (o := .cells #[.int .u64 t120, .int .u64 t121, .bool t122] 24 (0, 0)) (by (with_reducible repeat (first | refine blk_drewN ?_ _ | refine blk_drew ?_ | refine blk_alloc ?_ _)); refine blk_put (cs := #[.int .u64 t120, .int .u64 t121, .bool false]) ?_ 2 _ rfl; (with_reducible repeat (first | refine blk_drewN ?_ _ | refine blk_drew ?_ | refine blk_alloc ?_ _)); refine blk_put (cs := #[.int .u64 t120, .int .u64 0, .bool false]) ?_ 1 _ rfl; (with_reducible repeat (first | refine blk_drewN ?_ _ | refine blk_drew ?_ | refine blk_alloc ?_ _)); refine blk_put (cs := #[.int .u64 0, .int .u64 0, .bool false]) ?_ 0 _ rfl; (with_reducible repeat (first | refine blk_drewN ?_ _ | refine blk_drew ?_ | refine blk_alloc ?_ _)); exact BK124.out) hb); have n6_ := Aside0.mk (below_step (by repeat (first | (with_reducible first | exact HB.out | apply below_alloc | apply pw_below_drewN | apply below_drew1 | refine below_set ?_ GE108.out | refine below_set ?_ GE116.out | refine below_set ?_ GE124.out) | exact HB.out)) hb); clear HO103; clear HO111; clear HO119; clear BK108; clear BK116; clear BK124; clear HB; have HO103 := n0_; have HO111 := n1_; have HO119 := n2_; have BK108 := n3_; have BK116 := n4_; have BK124 := n5_; have HB := n6_; clear n0_ n1_ n2_ n3_ n4_ n5_ n6_; (try clear hb); (try clear hb2); (try clear hk); (try clear hi)) | ((with_reducible refine gate_callee (f := 45) rfl ?_); refine goesL_ (some 27) rfl rfl Try.func45 (by kernel_rfl) rfl #[.agg #[.int .u64 t125, .int .u64 t126, .bool t127, .int .i64 t128]] rfl (by (try simp only [List.map_toArray, List.map_cons, List.map_nil]); first | done | rfl | (simp only [List.length_drop, List.length_take]; rfl)) ?_; (with_reducible refine (prefix_Sibling.calls t125 t126 t127 t128 t129 t130 t131 t132 t133 _ A5.out).mono ?_); rintro e w30 ⟨rfl, hb⟩; refine ⟨_, rfl, ?_⟩; have n0_ := Aside0.mk (Kd.R_below (by (with_reducible repeat (first | apply Kd.R_alloc | apply Kd.R_drewN | apply Kd.R_drew)); exact HO103.out) hb); have n1_ := Aside0.mk (Kd.R_below (by (with_reducible repeat (first | apply Kd.R_alloc | apply Kd.R_drewN | apply Kd.R_drew)); exact HO111.out) hb); have n2_ := Aside0.mk (Kd.R_below (by (with_reducible repeat (first | apply Kd.R_alloc | apply Kd.R_drewN | apply Kd.R_drew)); exact HO119.out) hb); have n3_ := Aside0.mk (blk_below (g := gb108) (o := .cells #[.int .u64 t104, .int .u64 t105, .bool t106] 24 (0, 0)) (by (with_reducible repeat (first | refine blk_drewN ?_ _ | refine blk_drew ?_ | refine blk_alloc ?_ _)); exact BK108.out) hb); have n4_ := Aside0.mk (blk_below (g := gb116) (o := .cells #[.int .u64 t112, .int .u64 t113, .bool t114] 24 (0, 0)) (by (with_reducible repeat (first | refine blk_drewN ?_ _ | refine blk_drew ?_ | refine blk_alloc ?_ _)); exact BK116.out) hb); have n5_ := Aside0.mk (blk_below (g := gb124) (o := .cells #[.int .u64 t120, .int .u64 t121, .bool t122] 24 (0, 0)) (by (with_reducible repeat (first | refine blk_drewN ?_ _ | refine blk_drew ?_ | refine blk_alloc ?_ _)); exact BK124.out) hb); have n6_ := Aside0.mk (below_step (by repeat (first | (with_reducible first | exact HB.out | apply below_alloc | apply pw_below_drewN | apply below_drew1 | refine below_set ?_ GE108.out | refine below_set ?_ GE116.out | refine below_set ?_ GE124.out) | exact HB.out)) hb); clear HO103; clear HO111; clear HO119; clear BK108; clear BK116; clear BK124; clear HB; have HO103 := n0_; have HO111 := n1_; have HO119 := n2_; have BK108 := n3_; have BK116 := n4_; have BK124 := n5_; have HB := n6_; clear n0_ n1_ n2_ n3_ n4_ n5_ n6_; (try clear hb); (try clear hb2); (try clear hk); (try clear hi)) | ((with_reducible refine gate_dst (N := 7) rfl ?_); refine box_event ?hg (N := 7) ?hd (cs := #[.int .u64 0, .int .u64 0, .bool false, .int .i64 0]) (t := 34) ?hr ?_; (case hd => rfl); (case hg => rfl); (case hr => first | (go_simp; done) | (go_simp; rfl)); intro gb134 hg w31 hbox hb; have n0_ := Aside0.mk (Kd.R_below (by (with_reducible repeat (first | apply Kd.R_alloc | apply Kd.R_drewN | apply Kd.R_drew)); exact HO103.out) hb); have n1_ := Aside0.mk (Kd.R_below (by (with_reducible repeat (first | apply Kd.R_alloc | apply Kd.R_drewN | apply Kd.R_drew)); exact HO111.out) hb); have n2_ := Aside0.mk (Kd.R_below (by (with_reducible repeat (first | apply Kd.R_alloc | apply Kd.R_drewN | apply Kd.R_drew)); exact HO119.out) hb); have n3_ := Aside0.mk (blk_below (g := gb108) (o := .cells #[.int .u64 t104, .int .u64 t105, .bool t106] 24 (0, 0)) (by (with_reducible repeat (first | refine blk_drewN ?_ _ | refine blk_drew ?_ | refine blk_alloc ?_ _)); exact BK108.out) hb); have n4_ := Aside0.mk (blk_below (g := gb116) (o := .cells #[.int .u64 t112, .int .u64 t113, .bool t114] 24 (0, 0)) (by (with_reducible repeat (first | refine blk_drewN ?_ _ | refine blk_drew ?_ | refine blk_alloc ?_ _)); exact BK116.out) hb); have n5_ := Aside0.mk (blk_below (g := gb124) (o := .cells #[.int .u64 t120, .int .u64 t121, .bool t122] 24 (0, 0)) (by (with_reducible repeat (first | refine blk_drewN ?_ _ | refine blk_drew ?_ | refine blk_alloc ?_ _)); exact BK124.out) hb); have n6_ := Aside0.mk (below_step (by repeat (first | (with_reducible first | exact HB.out | apply below_alloc | apply pw_below_drewN | apply below_drew1 | refine below_set ?_ GE108.out | refine below_set ?_ GE116.out | refine below_set ?_ GE124.out) | exact HB.out)) hb); have n7_ := Aside0.mk (hbox); have n8_ := Aside0.mk ((by rw [hg]; exact (below_size (by repeat (first | (with_reducible first | exact HB.out | apply below_alloc | apply pw_below_drewN | apply below_drew1 | refine below_set ?_ GE108.out | refine below_set ?_ GE116.out | refine below_set ?_ GE124.out) | exact HB.out))) : w.heap.size ≤ gb134)); have n9_ := Aside0.mk ((by rw [hg]; exact (below_size (by repeat (first | (with_reducible first | exact HB.out | apply below_alloc | apply pw_below_drewN | apply below_drew1 | refine below_set ?_ GE108.out | refine below_set ?_ GE116.out | refine below_set ?_ GE124.out) | exact HB.out))) : w.heap.size ≤ gb134)); have n10_ := Aside0.mk ((by rw [hg]; exact Nat.ne_of_lt (blk_lt (g := gb108) (o := .cells #[.int .u64 t104, .int .u64 t105, .bool t106] 24 (0, 0)) (by (with_reducible repeat (first | refine blk_drewN ?_ _ | refine blk_drew ?_ | refine blk_alloc ?_ _)); exact BK108.out)) : gb108 ≠ gb134)); have n11_ := Aside0.mk ((by rw [hg]; exact Nat.ne_of_gt (blk_lt (g := gb108) (o := .cells #[.int .u64 t104, .int .u64 t105, .bool t106] 24 (0, 0)) (by (with_reducible repeat (first | refine blk_drewN ?_ _ | refine blk_drew ?_ | refine blk_alloc ?_ _)); exact BK108.out)) : gb134 ≠ gb108)); have n12_ := Aside0.mk ((by rw [hg]; exact Nat.ne_of_lt (blk_lt (g := gb116) (o := .cells #[.int .u64 t112, .int .u64 t113, .bool t114] 24 (0, 0)) (by (with_reducible repeat (first | refine blk_drewN ?_ _ | refine blk_drew ?_ | refine blk_alloc ?_ _)); exact BK116.out)) : gb116 ≠ gb134)); have n13_ := Aside0.mk ((by rw [hg]; exact Nat.ne_of_gt (blk_lt (g := gb116) (o := .cells #[.int .u64 t112, .int .u64 t113, .bool t114] 24 (0, 0)) (by (with_reducible repeat (first | refine blk_drewN ?_ _ | refine blk_drew ?_ | refine blk_alloc ?_ _)); exact BK116.out)) : gb134 ≠ gb116)); have n14_ := Aside0.mk ((by rw [hg]; exact Nat.ne_of_lt (blk_lt (g := gb124) (o := .cells #[.int .u64 t120, .int .u64 t121, .bool t122] 24 (0, 0)) (by (with_reducible repeat (first | refine blk_drewN ?_ _ | refine blk_drew ?_ | refine blk_alloc ?_ _)); exact BK124.out)) : gb124 ≠ gb134)); have n15_ := Aside0.mk ((by rw [hg]; exact Nat.ne_of_gt (blk_lt (g := gb124) (o := .cells #[.int .u64 t120, .int .u64 t121, .bool t122] 24 (0, 0)) (by (with_reducible repeat (first | refine blk_drewN ?_ _ | refine blk_drew ?_ | refine blk_alloc ?_ _)); exact BK124.out)) : gb134 ≠ gb124)); clear HO103; clear HO111; clear HO119; clear BK108; clear BK116; clear BK124; clear HB; have HO103 := n0_; have HO111 := n1_; have HO119 := n2_; have BK108 := n3_; have BK116 := n4_; have BK124 := n5_; have HB := n6_; have BK134 := n7_; have GW134 := n8_; have GE134 := n9_; have NB108_134 := n10_; have NB134_108 := n11_; have NB116_134 := n12_; have NB134_116 := n13_; have NB124_134 := n14_; have NB134_124 := n15_; clear n0_ n1_ n2_ n3_ n4_ n5_ n6_ n7_ n8_ n9_ n10_ n11_ n12_ n13_ n14_ n15_; clear hb hbox hg; have hnb32 := NB134_108.out; have hnc32 := NB108_134.out; have hnb33 := NB134_116.out; have hnc33 := NB116_134.out; have hnb34 := NB134_124.out; have hnc34 := NB124_134.out; have hcz35_0 : w31.cell? ⟨gb134, 0, none⟩ = some (.int .u64 0) := (blk_cell BK134.out 0).trans rfl; have hcz35_1 : w31.cell? ⟨gb134, 1, none⟩ = some (.int .u64 0) := (blk_cell BK134.out 1).trans rfl; have hcz35_2 : w31.cell? ⟨gb134, 2, none⟩ = some (.bool false) := (blk_cell BK134.out 2).trans rfl; have hcz35_3 : w31.cell? ⟨gb134, 3, none⟩ = some (.int .i64 0) := (blk_cell BK134.out 3).trans rfl; have hfz35_0 := blk_frozen BK134.out 0; have hfz35_1 := blk_frozen BK134.out 1; have hfz35_2 := blk_frozen BK134.out 2; have hfz35_3 := blk_frozen BK134.out 3))
  (try simp only [Act.put, List.setIfInBounds_toArray, List.set_cons_zero, List.set_cons_succ])
  go_cut [0] (fun v0 wc => ∃ (kq : Nat) (x0_5 : Bool), v0 = .bool x0_5 ∧ Aside0 (kedgelaw02_awake.j0 kq x0_5 = some r) ∧ Aside0 (kq ≤ k) ∧ Aside0 (wc.heap[gb108]? = some (.cells #[.int .u64 t104, .int .u64 t105, .bool t106] 24 (0, 0))) ∧ Aside0 (wc.heap[gb116]? = some (.cells #[.int .u64 t112, .int .u64 t113, .bool t114] 24 (0, 0))) ∧ Aside0 (wc.heap[gb124]? = some (.cells #[.int .u64 t120, .int .u64 t121, .bool t122] 24 (0, 0))) ∧ Aside0 (wc.heap[gb134]? = some (.cells #[.int .u64 t129, .int .u64 t130, .bool t131, .int .i64 t132] 34 (0, 0))) ∧ Aside0 (Below w.heap.size w wc))
  case first =>
    have H := HC6.out
    clear HC6
    by_cases c36 : t133 = true
    · subst c36
      have H1 : ((prefix_Of.f t104 t105 t106 8).bind fun bt135 => ((prefix_Of.f t112 t113 t114 16).bind fun bt139 => ((prefix_Covers.f k bt135.1 bt135.2.1 bt135.2.2.1 bt135.2.2.2 bt139.1 bt139.2.1 bt139.2.2.1 bt139.2.2.2).bind fun t143 => (if t143 = true then ((prefix_Of.f t120 t121 t122 8).bind fun bt144 => (if ((t129 == bt144.1 && (t130 == bt144.2.1 && (t131 == bt144.2.2.1))) && (t132 == bt144.2.2.2)) = true then ((prefix_Sane.f t129 t130 t131 t132).bind fun t148 => (if t148 = true then (kedgelaw02_awake.j0 k (t132 == 8)) else (kedgelaw02_awake.j0 k false))) else (kedgelaw02_awake.j0 k false))) else (kedgelaw02_awake.j0 k false))))) = some r := by rw [if_pos rfl] at H; exact H
      clear H
      have H := H1
      clear H1
      replace H := Option.bind_eq_some_iff.mp H
      obtain ⟨⟨t135, t136, t137, t138⟩, A370, H⟩ := H
      replace H : ((prefix_Of.f t112 t113 t114 16).bind fun bt139 => ((prefix_Covers.f k t135 t136 t137 t138 bt139.1 bt139.2.1 bt139.2.2.1 bt139.2.2.2).bind fun t143 => (if t143 = true then ((prefix_Of.f t120 t121 t122 8).bind fun bt144 => (if ((t129 == bt144.1 && (t130 == bt144.2.1 && (t131 == bt144.2.2.1))) && (t132 == bt144.2.2.2)) = true then ((prefix_Sane.f t129 t130 t131 t132).bind fun t148 => (if t148 = true then (kedgelaw02_awake.j0 k (t132 == 8)) else (kedgelaw02_awake.j0 k false))) else (kedgelaw02_awake.j0 k false))) else (kedgelaw02_awake.j0 k false)))) = some r := H
      have A37 := Aside0.mk A370
      clear A370
      replace H := Option.bind_eq_some_iff.mp H
      obtain ⟨⟨t139, t140, t141, t142⟩, A380, H⟩ := H
      replace H : ((prefix_Covers.f k t135 t136 t137 t138 t139 t140 t141 t142).bind fun t143 => (if t143 = true then ((prefix_Of.f t120 t121 t122 8).bind fun bt144 => (if ((t129 == bt144.1 && (t130 == bt144.2.1 && (t131 == bt144.2.2.1))) && (t132 == bt144.2.2.2)) = true then ((prefix_Sane.f t129 t130 t131 t132).bind fun t148 => (if t148 = true then (kedgelaw02_awake.j0 k (t132 == 8)) else (kedgelaw02_awake.j0 k false))) else (kedgelaw02_awake.j0 k false))) else (kedgelaw02_awake.j0 k false))) = some r := H
      have A38 := Aside0.mk A380
      clear A380
      replace H := Option.bind_eq_some_iff.mp H
      obtain ⟨t143, A390, H⟩ := H
      replace H : (if t143 = true then ((prefix_Of.f t120 t121 t122 8).bind fun bt144 => (if ((t129 == bt144.1 && (t130 == bt144.2.1 && (t131 == bt144.2.2.1))) && (t132 == bt144.2.2.2)) = true then ((prefix_Sane.f t129 t130 t131 t132).bind fun t148 => (if t148 = true then (kedgelaw02_awake.j0 k (t132 == 8)) else (kedgelaw02_awake.j0 k false))) else (kedgelaw02_awake.j0 k false))) else (kedgelaw02_awake.j0 k false)) = some r := H
      have A39 := Aside0.mk A390
      clear A390
      by_cases c40 : t143 = true
      · subst c40
        have H1 : ((prefix_Of.f t120 t121 t122 8).bind fun bt144 => (if ((t129 == bt144.1 && (t130 == bt144.2.1 && (t131 == bt144.2.2.1))) && (t132 == bt144.2.2.2)) = true then ((prefix_Sane.f t129 t130 t131 t132).bind fun t148 => (if t148 = true then (kedgelaw02_awake.j0 k (t132 == 8)) else (kedgelaw02_awake.j0 k false))) else (kedgelaw02_awake.j0 k false))) = some r := by rw [if_pos rfl] at H; exact H
        clear H
        have H := H1
        clear H1
        replace H := Option.bind_eq_some_iff.mp H
        obtain ⟨⟨t144, t145, t146, t147⟩, A410, H⟩ := H
        replace H : (if ((t129 == t144 && (t130 == t145 && (t131 == t146))) && (t132 == t147)) = true then ((prefix_Sane.f t129 t130 t131 t132).bind fun t148 => (if t148 = true then (kedgelaw02_awake.j0 k (t132 == 8)) else (kedgelaw02_awake.j0 k false))) else (kedgelaw02_awake.j0 k false)) = some r := H
        have A41 := Aside0.mk A410
        clear A410
        by_cases c42 : ((t129 == t144 && (t130 == t145 && (t131 == t146))) && (t132 == t147)) = true
        · rw [if_pos c42] at H
          have c42b0 : ((t129 == t144 && (t130 == t145 && (t131 == t146))) && (t132 == t147)) = true := c42
          clear c42
          (first | rw [c42b0] | (simp only [i64_w, i32_w]; rw [c42b0]) | skip)
          replace H := Option.bind_eq_some_iff.mp H
          obtain ⟨t148, A430, H⟩ := H
          replace H : (if t148 = true then (kedgelaw02_awake.j0 k (t132 == 8)) else (kedgelaw02_awake.j0 k false)) = some r := H
          have A43 := Aside0.mk A430
          clear A430
          by_cases c44 : t148 = true
          · subst c44
            have H1 : (kedgelaw02_awake.j0 k (t132 == 8)) = some r := by rw [if_pos rfl] at H; exact H
            clear H
            have H := H1
            clear H1
            have H' := Aside0.mk H
            clear H
            try go_wp2
            have n0_ : Aside0 (Kd.R (Kd.int .u8) 5 ((((w31.setCell ⟨gb134, 0, none⟩ (.int .u64 t129)).setCell ⟨gb134, 1, none⟩ (.int .u64 t130)).setCell ⟨gb134, 2, none⟩ (.bool t131)).setCell ⟨gb134, 3, none⟩ (.int .i64 t132)) w.heap.size (fun k_ => some k_ ≠ (.slice Ao15 y109.length co15 : Value).ownBlock ∧ some k_ ≠ (.slice Ao22 y117.length co22 : Value).ownBlock) (.slice Ao9 y101.length co9) y101) := ⟨by (with_reducible repeat (first | apply Kd.R_alloc | apply Kd.R_drewN | apply Kd.R_drew)); exact Kd.R_mono (Kd.R_far (p := ⟨gb134, 3, none⟩) (Kd.R_far (p := ⟨gb134, 2, none⟩) (Kd.R_far (p := ⟨gb134, 1, none⟩) (Kd.R_far (p := ⟨gb134, 0, none⟩) (Kd.R_types HO103.out BK134.out (by decide)) (fun _ hk => hk.2) (.int .u64 t129)) (fun _ hk => hk.2) (.int .u64 t130)) (fun _ hk => hk.2) (.bool t131)) (fun _ hk => hk.2) (.int .i64 t132)) (fun _ hk => ⟨hk.1.1.2, hk.1.2⟩)⟩
            have n1_ : Aside0 (Kd.R (Kd.int .u8) 5 ((((w31.setCell ⟨gb134, 0, none⟩ (.int .u64 t129)).setCell ⟨gb134, 1, none⟩ (.int .u64 t130)).setCell ⟨gb134, 2, none⟩ (.bool t131)).setCell ⟨gb134, 3, none⟩ (.int .i64 t132)) w.heap.size (fun k_ => some k_ ≠ (.slice Ao9 y101.length co9 : Value).ownBlock ∧ some k_ ≠ (.slice Ao22 y117.length co22 : Value).ownBlock) (.slice Ao15 y109.length co15) y109) := ⟨by (with_reducible repeat (first | apply Kd.R_alloc | apply Kd.R_drewN | apply Kd.R_drew)); exact Kd.R_mono (Kd.R_far (p := ⟨gb134, 3, none⟩) (Kd.R_far (p := ⟨gb134, 2, none⟩) (Kd.R_far (p := ⟨gb134, 1, none⟩) (Kd.R_far (p := ⟨gb134, 0, none⟩) (Kd.R_types HO111.out BK134.out (by decide)) (fun _ hk => hk.2) (.int .u64 t129)) (fun _ hk => hk.2) (.int .u64 t130)) (fun _ hk => hk.2) (.bool t131)) (fun _ hk => hk.2) (.int .i64 t132)) (fun _ hk => ⟨hk.1.1.2, hk.1.2⟩)⟩
            have n2_ : Aside0 (Kd.R (Kd.int .u8) 5 ((((w31.setCell ⟨gb134, 0, none⟩ (.int .u64 t129)).setCell ⟨gb134, 1, none⟩ (.int .u64 t130)).setCell ⟨gb134, 2, none⟩ (.bool t131)).setCell ⟨gb134, 3, none⟩ (.int .i64 t132)) w.heap.size (fun k_ => some k_ ≠ (.slice Ao9 y101.length co9 : Value).ownBlock ∧ some k_ ≠ (.slice Ao15 y109.length co15 : Value).ownBlock) (.slice Ao22 y117.length co22) y117) := ⟨by (with_reducible repeat (first | apply Kd.R_alloc | apply Kd.R_drewN | apply Kd.R_drew)); exact Kd.R_mono (Kd.R_far (p := ⟨gb134, 3, none⟩) (Kd.R_far (p := ⟨gb134, 2, none⟩) (Kd.R_far (p := ⟨gb134, 1, none⟩) (Kd.R_far (p := ⟨gb134, 0, none⟩) (Kd.R_types HO119.out BK134.out (by decide)) (fun _ hk => hk.2) (.int .u64 t129)) (fun _ hk => hk.2) (.int .u64 t130)) (fun _ hk => hk.2) (.bool t131)) (fun _ hk => hk.2) (.int .i64 t132)) (fun _ hk => ⟨hk.1.1.2, hk.1.2⟩)⟩
            have n3_ : Aside0 (((((w31.setCell ⟨gb134, 0, none⟩ (.int .u64 t129)).setCell ⟨gb134, 1, none⟩ (.int .u64 t130)).setCell ⟨gb134, 2, none⟩ (.bool t131)).setCell ⟨gb134, 3, none⟩ (.int .i64 t132)).heap[gb108]? = some (.cells #[.int .u64 t104, .int .u64 t105, .bool t106] 24 (0, 0))) := ⟨by (with_reducible repeat (first | refine blk_drewN ?_ _ | refine blk_drew ?_ | refine blk_alloc ?_ _)); refine blk_far ?_ NB108_134.out _; (with_reducible repeat (first | refine blk_drewN ?_ _ | refine blk_drew ?_ | refine blk_alloc ?_ _)); refine blk_far ?_ NB108_134.out _; (with_reducible repeat (first | refine blk_drewN ?_ _ | refine blk_drew ?_ | refine blk_alloc ?_ _)); refine blk_far ?_ NB108_134.out _; (with_reducible repeat (first | refine blk_drewN ?_ _ | refine blk_drew ?_ | refine blk_alloc ?_ _)); refine blk_far ?_ NB108_134.out _; (with_reducible repeat (first | refine blk_drewN ?_ _ | refine blk_drew ?_ | refine blk_alloc ?_ _)); exact BK108.out⟩
            have n4_ : Aside0 (((((w31.setCell ⟨gb134, 0, none⟩ (.int .u64 t129)).setCell ⟨gb134, 1, none⟩ (.int .u64 t130)).setCell ⟨gb134, 2, none⟩ (.bool t131)).setCell ⟨gb134, 3, none⟩ (.int .i64 t132)).heap[gb116]? = some (.cells #[.int .u64 t112, .int .u64 t113, .bool t114] 24 (0, 0))) := ⟨by (with_reducible repeat (first | refine blk_drewN ?_ _ | refine blk_drew ?_ | refine blk_alloc ?_ _)); refine blk_far ?_ NB116_134.out _; (with_reducible repeat (first | refine blk_drewN ?_ _ | refine blk_drew ?_ | refine blk_alloc ?_ _)); refine blk_far ?_ NB116_134.out _; (with_reducible repeat (first | refine blk_drewN ?_ _ | refine blk_drew ?_ | refine blk_alloc ?_ _)); refine blk_far ?_ NB116_134.out _; (with_reducible repeat (first | refine blk_drewN ?_ _ | refine blk_drew ?_ | refine blk_alloc ?_ _)); refine blk_far ?_ NB116_134.out _; (with_reducible repeat (first | refine blk_drewN ?_ _ | refine blk_drew ?_ | refine blk_alloc ?_ _)); exact BK116.out⟩
            have n5_ : Aside0 (((((w31.setCell ⟨gb134, 0, none⟩ (.int .u64 t129)).setCell ⟨gb134, 1, none⟩ (.int .u64 t130)).setCell ⟨gb134, 2, none⟩ (.bool t131)).setCell ⟨gb134, 3, none⟩ (.int .i64 t132)).heap[gb124]? = some (.cells #[.int .u64 t120, .int .u64 t121, .bool t122] 24 (0, 0))) := ⟨by (with_reducible repeat (first | refine blk_drewN ?_ _ | refine blk_drew ?_ | refine blk_alloc ?_ _)); refine blk_far ?_ NB124_134.out _; (with_reducible repeat (first | refine blk_drewN ?_ _ | refine blk_drew ?_ | refine blk_alloc ?_ _)); refine blk_far ?_ NB124_134.out _; (with_reducible repeat (first | refine blk_drewN ?_ _ | refine blk_drew ?_ | refine blk_alloc ?_ _)); refine blk_far ?_ NB124_134.out _; (with_reducible repeat (first | refine blk_drewN ?_ _ | refine blk_drew ?_ | refine blk_alloc ?_ _)); refine blk_far ?_ NB124_134.out _; (with_reducible repeat (first | refine blk_drewN ?_ _ | refine blk_drew ?_ | refine blk_alloc ?_ _)); exact BK124.out⟩
            have n6_ : Aside0 (((((w31.setCell ⟨gb134, 0, none⟩ (.int .u64 t129)).setCell ⟨gb134, 1, none⟩ (.int .u64 t130)).setCell ⟨gb134, 2, none⟩ (.bool t131)).setCell ⟨gb134, 3, none⟩ (.int .i64 t132)).heap[gb134]? = some (.cells #[.int .u64 t129, .int .u64 t130, .bool t131, .int .i64 t132] 34 (0, 0))) := ⟨by (with_reducible repeat (first | refine blk_drewN ?_ _ | refine blk_drew ?_ | refine blk_alloc ?_ _)); refine blk_put (cs := #[.int .u64 t129, .int .u64 t130, .bool t131, .int .i64 0]) ?_ 3 _ rfl; (with_reducible repeat (first | refine blk_drewN ?_ _ | refine blk_drew ?_ | refine blk_alloc ?_ _)); refine blk_put (cs := #[.int .u64 t129, .int .u64 t130, .bool false, .int .i64 0]) ?_ 2 _ rfl; (with_reducible repeat (first | refine blk_drewN ?_ _ | refine blk_drew ?_ | refine blk_alloc ?_ _)); refine blk_put (cs := #[.int .u64 t129, .int .u64 0, .bool false, .int .i64 0]) ?_ 1 _ rfl; (with_reducible repeat (first | refine blk_drewN ?_ _ | refine blk_drew ?_ | refine blk_alloc ?_ _)); refine blk_put (cs := #[.int .u64 0, .int .u64 0, .bool false, .int .i64 0]) ?_ 0 _ rfl; (with_reducible repeat (first | refine blk_drewN ?_ _ | refine blk_drew ?_ | refine blk_alloc ?_ _)); exact BK134.out⟩
            have n7_ : Aside0 (Below w.heap.size w ((((w31.setCell ⟨gb134, 0, none⟩ (.int .u64 t129)).setCell ⟨gb134, 1, none⟩ (.int .u64 t130)).setCell ⟨gb134, 2, none⟩ (.bool t131)).setCell ⟨gb134, 3, none⟩ (.int .i64 t132))) := ⟨by repeat (first | (with_reducible first | exact HB.out | apply below_alloc | apply pw_below_drewN | apply below_drew1 | refine below_set ?_ GE108.out | refine below_set ?_ GE116.out | refine below_set ?_ GE124.out | refine below_set ?_ GE134.out) | exact HB.out)⟩
            (try clear HO103)
            (try clear HO111)
            (try clear HO119)
            (try clear BK108)
            (try clear BK116)
            (try clear BK124)
            (try clear BK134)
            (try clear HB)
            generalize ((((w31.setCell ⟨gb134, 0, none⟩ (.int .u64 t129)).setCell ⟨gb134, 1, none⟩ (.int .u64 t130)).setCell ⟨gb134, 2, none⟩ (.bool t131)).setCell ⟨gb134, 3, none⟩ (.int .i64 t132)) = w45 at n0_ n1_ n2_ n3_ n4_ n5_ n6_ n7_ ⊢
            have HO103 := n0_
            have HO111 := n1_
            have HO119 := n2_
            have BK108 := n3_
            have BK116 := n4_
            have BK124 := n5_
            have BK134 := n6_
            have HB := n7_
            clear n0_ n1_ n2_ n3_ n4_ n5_ n6_ n7_
            have n0_ := Aside0.mk (Kd.R_drew HO103.out)
            have n1_ := Aside0.mk (Kd.R_drew HO111.out)
            have n2_ := Aside0.mk (Kd.R_drew HO119.out)
            have n3_ := Aside0.mk (blk_drew BK108.out)
            have n4_ := Aside0.mk (blk_drew BK116.out)
            have n5_ := Aside0.mk (blk_drew BK124.out)
            have n6_ := Aside0.mk (blk_drew BK134.out)
            have n7_ := Aside0.mk (below_drew1 HB.out)
            clear HO103
            clear HO111
            clear HO119
            clear BK108
            clear BK116
            clear BK124
            clear BK134
            clear HB
            have HO103 := n0_
            have HO111 := n1_
            have HO119 := n2_
            have BK108 := n3_
            have BK116 := n4_
            have BK124 := n5_
            have BK134 := n6_
            have HB := n7_
            clear n0_ n1_ n2_ n3_ n4_ n5_ n6_ n7_
            refine start_ (n := 24) (S := fun w' => w'.cell? ⟨gb108, 0, none⟩ = some (.int .u64 t104) ∧ w'.cell? ⟨gb108, 1, none⟩ = some (.int .u64 t105) ∧ w'.cell? ⟨gb108, 2, none⟩ = some (.bool t106) ∧ w'.cell? ⟨gb116, 0, none⟩ = some (.int .u64 t112) ∧ w'.cell? ⟨gb116, 1, none⟩ = some (.int .u64 t113) ∧ w'.cell? ⟨gb116, 2, none⟩ = some (.bool t114) ∧ w'.cell? ⟨gb134, 0, none⟩ = some (.int .u64 t129) ∧ w'.cell? ⟨gb134, 1, none⟩ = some (.int .u64 t130) ∧ w'.cell? ⟨gb134, 2, none⟩ = some (.bool t131) ∧ w'.cell? ⟨gb134, 3, none⟩ = some (.int .i64 t132) ∧ w'.cell? ⟨gb124, 0, none⟩ = some (.int .u64 t120) ∧ w'.cell? ⟨gb124, 1, none⟩ = some (.int .u64 t121) ∧ w'.cell? ⟨gb124, 2, none⟩ = some (.bool t122)) (ds := []) #[false, false, false, false, false, false, false, false, false, false, false, false, false, false, false, false, false, false, false, false, false, false, false, false] (by kernel_rfl) rfl rfl ⟨(blk_cell BK108.out 0).trans rfl, (blk_cell BK108.out 1).trans rfl, (blk_cell BK108.out 2).trans rfl, (blk_cell BK116.out 0).trans rfl, (blk_cell BK116.out 1).trans rfl, (blk_cell BK116.out 2).trans rfl, (blk_cell BK134.out 0).trans rfl, (blk_cell BK134.out 1).trans rfl, (blk_cell BK134.out 2).trans rfl, (blk_cell BK134.out 3).trans rfl, (blk_cell BK124.out 0).trans rfl, (blk_cell BK124.out 1).trans rfl, (blk_cell BK124.out 2).trans rfl⟩ (fun hHeld => ?_); refine with_tabW kedgelaw02_awake.tab5 kedgelaw02_awake.bits5 (fun HT_ HW_ => ?_)
            generalize w45.drew = w46 at HO103 HO111 HO119 BK108 BK116 BK124 BK134 HB hHeld ⊢
            refine pure_ (i := 0) (N := some 30) (v := ?_) (a' := ?_) (lb 24 1) rfl rfl (any_of HT_.out (by kernel_rfl)) (fun _ _ _ h => h) (Or.inl ⟨by rfl, ?_⟩) ?_ ?_
            rotate_left
            · intro w'
              go_simp
              with_reducible rfl
            rotate_left
            · simp only [Act.put, List.setIfInBounds_toArray, List.set_cons_zero, List.set_cons_succ, i64_w, i32_w]
              rfl
            refine pure_ (i := 1) (N := some 31) (v := ?_) (a' := ?_) (lb 24 3) rfl rfl (any_of HT_.out (by kernel_rfl)) (fun _ _ _ h => h) (Or.inl ⟨by rfl, ?_⟩) ?_ ?_
            rotate_left
            · intro w'
              go_simp
              with_reducible rfl
            rotate_left
            · simp only [Act.put, List.setIfInBounds_toArray, List.set_cons_zero, List.set_cons_succ, i64_w, i32_w]
              rfl
            refine take_ (i := 2) (N := some 32) (v := ?_) (a' := ?_) (lb 24 7) rfl rfl (take_ofW HT_.out HW_.out (by kernel_rfl)) (fun _ _ _ h => h) (Or.inl ⟨by rfl, ?_⟩) hHeld ?_ ?_
            rotate_left
            · rintro w' ⟨s0, s1, s2, s3, s4, s5, s6, s7, s8, s9, s10, s11, s12⟩
              go_simp
              with_reducible rfl
            rotate_left
            · simp only [Act.put, List.setIfInBounds_toArray, List.set_cons_zero, List.set_cons_succ, i64_w, i32_w]
              rfl
            refine take_ (i := 4) (N := some 34) (v := ?_) (a' := ?_) (lb 24 23) rfl rfl (take_ofW HT_.out HW_.out (by kernel_rfl)) (fun _ _ _ h => h) (Or.inl ⟨by rfl, ?_⟩) hHeld ?_ ?_
            rotate_left
            · rintro w' ⟨s0, s1, s2, s3, s4, s5, s6, s7, s8, s9, s10, s11, s12⟩
              go_simp
              with_reducible rfl
            rotate_left
            · simp only [Act.put, List.setIfInBounds_toArray, List.set_cons_zero, List.set_cons_succ, i64_w, i32_w]
              rfl
            refine one_ (i := 3) (N := some 33) (lb 24 31) rfl rfl (one_of HT_.out (by kernel_rfl)) (by decide) (fun K hK => ?_)
            refine goes_ Try.func23 (by kernel_rfl) rfl #[.agg #[.int .u64 t104, .int .u64 t105, .bool t106], .int .i64 8] (by rfl) rfl rfl (by (try simp only [List.map_toArray, List.map_cons, List.map_nil]); first | done | rfl | (simp only [List.length_drop, List.length_take]; rfl)) ?_
            with_reducible refine (prefix_Of.calls t104 t105 t106 8 t135 t136 t137 t138 _ A37.out).mono ?_
            rintro e w47 ⟨rfl, hb⟩
            refine ⟨_, rfl, ?_⟩
            have n0_ := Aside0.mk (Kd.R_below (by (with_reducible repeat (first | apply Kd.R_alloc | apply Kd.R_drewN | apply Kd.R_drew)); exact HO103.out) hb)
            have n1_ := Aside0.mk (Kd.R_below (by (with_reducible repeat (first | apply Kd.R_alloc | apply Kd.R_drewN | apply Kd.R_drew)); exact HO111.out) hb)
            have n2_ := Aside0.mk (Kd.R_below (by (with_reducible repeat (first | apply Kd.R_alloc | apply Kd.R_drewN | apply Kd.R_drew)); exact HO119.out) hb)
            have n3_ := Aside0.mk (blk_below (g := gb108) (o := .cells #[.int .u64 t104, .int .u64 t105, .bool t106] 24 (0, 0)) (by (with_reducible repeat (first | refine blk_drewN ?_ _ | refine blk_drew ?_ | refine blk_alloc ?_ _)); exact BK108.out) hb)
            have n4_ := Aside0.mk (blk_below (g := gb116) (o := .cells #[.int .u64 t112, .int .u64 t113, .bool t114] 24 (0, 0)) (by (with_reducible repeat (first | refine blk_drewN ?_ _ | refine blk_drew ?_ | refine blk_alloc ?_ _)); exact BK116.out) hb)
            have n5_ := Aside0.mk (blk_below (g := gb124) (o := .cells #[.int .u64 t120, .int .u64 t121, .bool t122] 24 (0, 0)) (by (with_reducible repeat (first | refine blk_drewN ?_ _ | refine blk_drew ?_ | refine blk_alloc ?_ _)); exact BK124.out) hb)
            have n6_ := Aside0.mk (blk_below (g := gb134) (o := .cells #[.int .u64 t129, .int .u64 t130, .bool t131, .int .i64 t132] 34 (0, 0)) (by (with_reducible repeat (first | refine blk_drewN ?_ _ | refine blk_drew ?_ | refine blk_alloc ?_ _)); exact BK134.out) hb)
            have n7_ := Aside0.mk (below_step (by repeat (first | (with_reducible first | exact HB.out | apply below_alloc | apply pw_below_drewN | apply below_drew1 | refine below_set ?_ GE108.out | refine below_set ?_ GE116.out | refine below_set ?_ GE124.out | refine below_set ?_ GE134.out) | exact HB.out)) hb)
            clear HO103
            clear HO111
            clear HO119
            clear BK108
            clear BK116
            clear BK124
            clear BK134
            clear HB
            have HO103 := n0_
            have HO111 := n1_
            have HO119 := n2_
            have BK108 := n3_
            have BK116 := n4_
            have BK124 := n5_
            have BK134 := n6_
            have HB := n7_
            clear n0_ n1_ n2_ n3_ n4_ n5_ n6_ n7_
            (try clear hb)
            (try clear hb2)
            (try clear hk)
            (try clear hi)
            refine hK.out _ _ ⟨(blk_cell BK108.out 0).trans rfl, (blk_cell BK108.out 1).trans rfl, (blk_cell BK108.out 2).trans rfl, (blk_cell BK116.out 0).trans rfl, (blk_cell BK116.out 1).trans rfl, (blk_cell BK116.out 2).trans rfl, (blk_cell BK134.out 0).trans rfl, (blk_cell BK134.out 1).trans rfl, (blk_cell BK134.out 2).trans rfl, (blk_cell BK134.out 3).trans rfl, (blk_cell BK124.out 0).trans rfl, (blk_cell BK124.out 1).trans rfl, (blk_cell BK124.out 2).trans rfl⟩ (fun hHeld => ?_)
            clear hK K
            refine norm_ (a' := ?_) ?_ ?_
            rotate_left
            · show Act.put _ (some 33) _ = _
              simp only [Act.put, List.setIfInBounds_toArray, List.set_cons_zero, List.set_cons_succ, i64_w, i32_w]
              rfl
            refine one_ (i := 5) (N := some 35) (lb 24 63) rfl rfl (one_of HT_.out (by kernel_rfl)) (by decide) (fun K hK => ?_)
            refine goes_ Try.func23 (by kernel_rfl) rfl #[.agg #[.int .u64 t112, .int .u64 t113, .bool t114], .int .i64 16] (by rfl) rfl rfl (by (try simp only [List.map_toArray, List.map_cons, List.map_nil]); first | done | rfl | (simp only [List.length_drop, List.length_take]; rfl)) ?_
            with_reducible refine (prefix_Of.calls t112 t113 t114 16 t139 t140 t141 t142 _ A38.out).mono ?_
            rintro e w48 ⟨rfl, hb⟩
            refine ⟨_, rfl, ?_⟩
            have n0_ := Aside0.mk (Kd.R_below (by (with_reducible repeat (first | apply Kd.R_alloc | apply Kd.R_drewN | apply Kd.R_drew)); exact HO103.out) hb)
            have n1_ := Aside0.mk (Kd.R_below (by (with_reducible repeat (first | apply Kd.R_alloc | apply Kd.R_drewN | apply Kd.R_drew)); exact HO111.out) hb)
            have n2_ := Aside0.mk (Kd.R_below (by (with_reducible repeat (first | apply Kd.R_alloc | apply Kd.R_drewN | apply Kd.R_drew)); exact HO119.out) hb)
            have n3_ := Aside0.mk (blk_below (g := gb108) (o := .cells #[.int .u64 t104, .int .u64 t105, .bool t106] 24 (0, 0)) (by (with_reducible repeat (first | refine blk_drewN ?_ _ | refine blk_drew ?_ | refine blk_alloc ?_ _)); exact BK108.out) hb)
            have n4_ := Aside0.mk (blk_below (g := gb116) (o := .cells #[.int .u64 t112, .int .u64 t113, .bool t114] 24 (0, 0)) (by (with_reducible repeat (first | refine blk_drewN ?_ _ | refine blk_drew ?_ | refine blk_alloc ?_ _)); exact BK116.out) hb)
            have n5_ := Aside0.mk (blk_below (g := gb124) (o := .cells #[.int .u64 t120, .int .u64 t121, .bool t122] 24 (0, 0)) (by (with_reducible repeat (first | refine blk_drewN ?_ _ | refine blk_drew ?_ | refine blk_alloc ?_ _)); exact BK124.out) hb)
            have n6_ := Aside0.mk (blk_below (g := gb134) (o := .cells #[.int .u64 t129, .int .u64 t130, .bool t131, .int .i64 t132] 34 (0, 0)) (by (with_reducible repeat (first | refine blk_drewN ?_ _ | refine blk_drew ?_ | refine blk_alloc ?_ _)); exact BK134.out) hb)
            have n7_ := Aside0.mk (below_step (by repeat (first | (with_reducible first | exact HB.out | apply below_alloc | apply pw_below_drewN | apply below_drew1 | refine below_set ?_ GE108.out | refine below_set ?_ GE116.out | refine below_set ?_ GE124.out | refine below_set ?_ GE134.out) | exact HB.out)) hb)
            clear HO103
            clear HO111
            clear HO119
            clear BK108
            clear BK116
            clear BK124
            clear BK134
            clear HB
            have HO103 := n0_
            have HO111 := n1_
            have HO119 := n2_
            have BK108 := n3_
            have BK116 := n4_
            have BK124 := n5_
            have BK134 := n6_
            have HB := n7_
            clear n0_ n1_ n2_ n3_ n4_ n5_ n6_ n7_
            (try clear hb)
            (try clear hb2)
            (try clear hk)
            (try clear hi)
            refine hK.out _ _ ⟨(blk_cell BK108.out 0).trans rfl, (blk_cell BK108.out 1).trans rfl, (blk_cell BK108.out 2).trans rfl, (blk_cell BK116.out 0).trans rfl, (blk_cell BK116.out 1).trans rfl, (blk_cell BK116.out 2).trans rfl, (blk_cell BK134.out 0).trans rfl, (blk_cell BK134.out 1).trans rfl, (blk_cell BK134.out 2).trans rfl, (blk_cell BK134.out 3).trans rfl, (blk_cell BK124.out 0).trans rfl, (blk_cell BK124.out 1).trans rfl, (blk_cell BK124.out 2).trans rfl⟩ (fun hHeld => ?_)
            clear hK K
            refine norm_ (a' := ?_) ?_ ?_
            rotate_left
            · show Act.put _ (some 35) _ = _
              simp only [Act.put, List.setIfInBounds_toArray, List.set_cons_zero, List.set_cons_succ, i64_w, i32_w]
              rfl
            refine one_ (i := 6) (N := some 36) (lb 24 127) rfl rfl (one_of HT_.out (by kernel_rfl)) (by decide) (fun K hK => ?_)
            refine goes_ Try.func33 (by kernel_rfl) rfl #[.agg #[.int .u64 t135, .int .u64 t136, .bool t137, .int .i64 t138], .agg #[.int .u64 t139, .int .u64 t140, .bool t141, .int .i64 t142]] (by rfl) rfl rfl (by (try simp only [List.map_toArray, List.map_cons, List.map_nil]); first | done | rfl | (simp only [List.length_drop, List.length_take]; rfl)) ?_
            with_reducible refine (prefix_Covers.calls k t135 t136 t137 t138 t139 t140 t141 t142 true _ A39.out).mono ?_
            rintro e w49 ⟨rfl, hb⟩
            refine ⟨_, rfl, ?_⟩
            have n0_ := Aside0.mk (Kd.R_below (by (with_reducible repeat (first | apply Kd.R_alloc | apply Kd.R_drewN | apply Kd.R_drew)); exact HO103.out) hb)
            have n1_ := Aside0.mk (Kd.R_below (by (with_reducible repeat (first | apply Kd.R_alloc | apply Kd.R_drewN | apply Kd.R_drew)); exact HO111.out) hb)
            have n2_ := Aside0.mk (Kd.R_below (by (with_reducible repeat (first | apply Kd.R_alloc | apply Kd.R_drewN | apply Kd.R_drew)); exact HO119.out) hb)
            have n3_ := Aside0.mk (blk_below (g := gb108) (o := .cells #[.int .u64 t104, .int .u64 t105, .bool t106] 24 (0, 0)) (by (with_reducible repeat (first | refine blk_drewN ?_ _ | refine blk_drew ?_ | refine blk_alloc ?_ _)); exact BK108.out) hb)
            have n4_ := Aside0.mk (blk_below (g := gb116) (o := .cells #[.int .u64 t112, .int .u64 t113, .bool t114] 24 (0, 0)) (by (with_reducible repeat (first | refine blk_drewN ?_ _ | refine blk_drew ?_ | refine blk_alloc ?_ _)); exact BK116.out) hb)
            have n5_ := Aside0.mk (blk_below (g := gb124) (o := .cells #[.int .u64 t120, .int .u64 t121, .bool t122] 24 (0, 0)) (by (with_reducible repeat (first | refine blk_drewN ?_ _ | refine blk_drew ?_ | refine blk_alloc ?_ _)); exact BK124.out) hb)
            have n6_ := Aside0.mk (blk_below (g := gb134) (o := .cells #[.int .u64 t129, .int .u64 t130, .bool t131, .int .i64 t132] 34 (0, 0)) (by (with_reducible repeat (first | refine blk_drewN ?_ _ | refine blk_drew ?_ | refine blk_alloc ?_ _)); exact BK134.out) hb)
            have n7_ := Aside0.mk (below_step (by repeat (first | (with_reducible first | exact HB.out | apply below_alloc | apply pw_below_drewN | apply below_drew1 | refine below_set ?_ GE108.out | refine below_set ?_ GE116.out | refine below_set ?_ GE124.out | refine below_set ?_ GE134.out) | exact HB.out)) hb)
            clear HO103
            clear HO111
            clear HO119
            clear BK108
            clear BK116
            clear BK124
            clear BK134
            clear HB
            have HO103 := n0_
            have HO111 := n1_
            have HO119 := n2_
            have BK108 := n3_
            have BK116 := n4_
            have BK124 := n5_
            have BK134 := n6_
            have HB := n7_
            clear n0_ n1_ n2_ n3_ n4_ n5_ n6_ n7_
            (try clear hb)
            (try clear hb2)
            (try clear hk)
            (try clear hi)
            refine hK.out _ _ ⟨(blk_cell BK108.out 0).trans rfl, (blk_cell BK108.out 1).trans rfl, (blk_cell BK108.out 2).trans rfl, (blk_cell BK116.out 0).trans rfl, (blk_cell BK116.out 1).trans rfl, (blk_cell BK116.out 2).trans rfl, (blk_cell BK134.out 0).trans rfl, (blk_cell BK134.out 1).trans rfl, (blk_cell BK134.out 2).trans rfl, (blk_cell BK134.out 3).trans rfl, (blk_cell BK124.out 0).trans rfl, (blk_cell BK124.out 1).trans rfl, (blk_cell BK124.out 2).trans rfl⟩ (fun hHeld => ?_)
            clear hK K
            refine norm_ (a' := ?_) ?_ ?_
            rotate_left
            · show Act.put _ (some 36) _ = _
              simp only [Act.put, List.setIfInBounds_toArray, List.set_cons_zero, List.set_cons_succ, i64_w, i32_w]
              rfl
            refine pure_ (i := 7) (N := some 37) (v := ?_) (a' := ?_) (lb 24 255) rfl rfl (any_of HT_.out (by kernel_rfl)) (fun _ _ _ h => h) (Or.inl ⟨by rfl, ?_⟩) ?_ ?_
            rotate_left
            · intro w'
              go_simp
              with_reducible rfl
            rotate_left
            · simp only [Act.put, List.setIfInBounds_toArray, List.set_cons_zero, List.set_cons_succ, i64_w, i32_w]
              rfl
            refine pure_ (i := 8) (N := some 38) (v := ?_) (a' := ?_) (lb 24 511) rfl rfl (any_of HT_.out (by kernel_rfl)) (fun _ _ _ h => h) (Or.inl ⟨by rfl, ?_⟩) ?_ ?_
            rotate_left
            · intro w'
              go_simp
              with_reducible rfl
            rotate_left
            · simp only [Act.put, List.setIfInBounds_toArray, List.set_cons_zero, List.set_cons_succ, i64_w, i32_w]
              rfl
            refine take_ (i := 9) (N := some 39) (v := ?_) (a' := ?_) (lb 24 1023) rfl rfl (take_ofW HT_.out HW_.out (by kernel_rfl)) (fun _ _ _ h => h) (Or.inl ⟨by rfl, ?_⟩) hHeld ?_ ?_
            rotate_left
            · rintro w' ⟨s0, s1, s2, s3, s4, s5, s6, s7, s8, s9, s10, s11, s12⟩
              go_simp
              with_reducible rfl
            rotate_left
            · simp only [Act.put, List.setIfInBounds_toArray, List.set_cons_zero, List.set_cons_succ, i64_w, i32_w]
              rfl
            refine take_ (i := 10) (N := some 40) (v := ?_) (a' := ?_) (lb 24 2047) rfl rfl (take_ofW HT_.out HW_.out (by kernel_rfl)) (fun _ _ _ h => h) (Or.inl ⟨by rfl, ?_⟩) hHeld ?_ ?_
            rotate_left
            · rintro w' ⟨s0, s1, s2, s3, s4, s5, s6, s7, s8, s9, s10, s11, s12⟩
              go_simp
              with_reducible rfl
            rotate_left
            · simp only [Act.put, List.setIfInBounds_toArray, List.set_cons_zero, List.set_cons_succ, i64_w, i32_w]
              rfl
            refine one_ (i := 11) (N := some 41) (lb 24 4095) rfl rfl (one_of HT_.out (by kernel_rfl)) (by decide) (fun K hK => ?_)
            refine goes_ Try.func23 (by kernel_rfl) rfl #[.agg #[.int .u64 t120, .int .u64 t121, .bool t122], .int .i64 8] (by rfl) rfl rfl (by (try simp only [List.map_toArray, List.map_cons, List.map_nil]); first | done | rfl | (simp only [List.length_drop, List.length_take]; rfl)) ?_
            with_reducible refine (prefix_Of.calls t120 t121 t122 8 t144 t145 t146 t147 _ A41.out).mono ?_
            rintro e w50 ⟨rfl, hb⟩
            refine ⟨_, rfl, ?_⟩
            have n0_ := Aside0.mk (Kd.R_below (by (with_reducible repeat (first | apply Kd.R_alloc | apply Kd.R_drewN | apply Kd.R_drew)); exact HO103.out) hb)
            have n1_ := Aside0.mk (Kd.R_below (by (with_reducible repeat (first | apply Kd.R_alloc | apply Kd.R_drewN | apply Kd.R_drew)); exact HO111.out) hb)
            have n2_ := Aside0.mk (Kd.R_below (by (with_reducible repeat (first | apply Kd.R_alloc | apply Kd.R_drewN | apply Kd.R_drew)); exact HO119.out) hb)
            have n3_ := Aside0.mk (blk_below (g := gb108) (o := .cells #[.int .u64 t104, .int .u64 t105, .bool t106] 24 (0, 0)) (by (with_reducible repeat (first | refine blk_drewN ?_ _ | refine blk_drew ?_ | refine blk_alloc ?_ _)); exact BK108.out) hb)
            have n4_ := Aside0.mk (blk_below (g := gb116) (o := .cells #[.int .u64 t112, .int .u64 t113, .bool t114] 24 (0, 0)) (by (with_reducible repeat (first | refine blk_drewN ?_ _ | refine blk_drew ?_ | refine blk_alloc ?_ _)); exact BK116.out) hb)
            have n5_ := Aside0.mk (blk_below (g := gb124) (o := .cells #[.int .u64 t120, .int .u64 t121, .bool t122] 24 (0, 0)) (by (with_reducible repeat (first | refine blk_drewN ?_ _ | refine blk_drew ?_ | refine blk_alloc ?_ _)); exact BK124.out) hb)
            have n6_ := Aside0.mk (blk_below (g := gb134) (o := .cells #[.int .u64 t129, .int .u64 t130, .bool t131, .int .i64 t132] 34 (0, 0)) (by (with_reducible repeat (first | refine blk_drewN ?_ _ | refine blk_drew ?_ | refine blk_alloc ?_ _)); exact BK134.out) hb)
            have n7_ := Aside0.mk (below_step (by repeat (first | (with_reducible first | exact HB.out | apply below_alloc | apply pw_below_drewN | apply below_drew1 | refine below_set ?_ GE108.out | refine below_set ?_ GE116.out | refine below_set ?_ GE124.out | refine below_set ?_ GE134.out) | exact HB.out)) hb)
            clear HO103
            clear HO111
            clear HO119
            clear BK108
            clear BK116
            clear BK124
            clear BK134
            clear HB
            have HO103 := n0_
            have HO111 := n1_
            have HO119 := n2_
            have BK108 := n3_
            have BK116 := n4_
            have BK124 := n5_
            have BK134 := n6_
            have HB := n7_
            clear n0_ n1_ n2_ n3_ n4_ n5_ n6_ n7_
            (try clear hb)
            (try clear hb2)
            (try clear hk)
            (try clear hi)
            refine hK.out _ _ ⟨(blk_cell BK108.out 0).trans rfl, (blk_cell BK108.out 1).trans rfl, (blk_cell BK108.out 2).trans rfl, (blk_cell BK116.out 0).trans rfl, (blk_cell BK116.out 1).trans rfl, (blk_cell BK116.out 2).trans rfl, (blk_cell BK134.out 0).trans rfl, (blk_cell BK134.out 1).trans rfl, (blk_cell BK134.out 2).trans rfl, (blk_cell BK134.out 3).trans rfl, (blk_cell BK124.out 0).trans rfl, (blk_cell BK124.out 1).trans rfl, (blk_cell BK124.out 2).trans rfl⟩ (fun hHeld => ?_)
            clear hK K
            refine norm_ (a' := ?_) ?_ ?_
            rotate_left
            · show Act.put _ (some 41) _ = _
              simp only [Act.put, List.setIfInBounds_toArray, List.set_cons_zero, List.set_cons_succ, i64_w, i32_w]
              rfl
            refine pure_ (i := 12) (N := some 42) (v := ?_) (a' := ?_) (lb 24 8191) rfl rfl (any_of HT_.out (by kernel_rfl)) (fun _ _ _ h => h) (Or.inl ⟨by rfl, ?_⟩) ?_ ?_
            rotate_left
            · intro w'
              go_simp
              with_reducible rfl
            rotate_left
            · simp only [Act.put, List.setIfInBounds_toArray, List.set_cons_zero, List.set_cons_succ, i64_w, i32_w]
              rfl
            refine pure_ (i := 13) (N := some 43) (v := ?_) (a' := ?_) (lb 24 16383) rfl rfl (any_of HT_.out (by kernel_rfl)) (fun _ _ _ h => h) (Or.inl ⟨by rfl, ?_⟩) ?_ ?_
            rotate_left
            · intro w'
              go_simp
              with_reducible rfl
            rotate_left
            · simp only [Act.put, List.setIfInBounds_toArray, List.set_cons_zero, List.set_cons_succ, i64_w, i32_w]
              rfl
            refine pure_ (i := 14) (N := some 44) (v := ?_) (a' := ?_) (lb 24 32767) rfl rfl (any_of HT_.out (by kernel_rfl)) (fun _ _ _ h => h) (Or.inl ⟨by rfl, ?_⟩) ?_ ?_
            rotate_left
            · intro w'
              go_simp
              with_reducible rfl
            rotate_left
            · simp only [Act.put, List.setIfInBounds_toArray, List.set_cons_zero, List.set_cons_succ, i64_w, i32_w]
              rfl
            refine take_ (i := 15) (N := some 45) (v := ?_) (a' := ?_) (lb 24 65535) rfl rfl (take_ofW HT_.out HW_.out (by kernel_rfl)) (fun _ _ _ h => h) (Or.inl ⟨by rfl, ?_⟩) hHeld ?_ ?_
            rotate_left
            · rintro w' ⟨s0, s1, s2, s3, s4, s5, s6, s7, s8, s9, s10, s11, s12⟩
              go_simp
              with_reducible rfl
            rotate_left
            · simp only [Act.put, List.setIfInBounds_toArray, List.set_cons_zero, List.set_cons_succ, i64_w, i32_w]
              rfl
            refine one_ (i := 16) (N := some 46) (lb 24 131071) rfl rfl (one_of HT_.out (by kernel_rfl)) (by decide) (fun K hK => ?_)
            refine goes_ Try.func32 (by kernel_rfl) rfl #[.agg #[.int .u64 t129, .int .u64 t130, .bool t131, .int .i64 t132]] (by rfl) rfl rfl (by (try simp only [List.map_toArray, List.map_cons, List.map_nil]); first | done | rfl | (simp only [List.length_drop, List.length_take]; rfl)) ?_
            with_reducible refine (prefix_Sane.calls t129 t130 t131 t132 true _ A43.out).mono ?_
            rintro e w51 ⟨rfl, hb⟩
            refine ⟨_, rfl, ?_⟩
            have n0_ := Aside0.mk (Kd.R_below (by (with_reducible repeat (first | apply Kd.R_alloc | apply Kd.R_drewN | apply Kd.R_drew)); exact HO103.out) hb)
            have n1_ := Aside0.mk (Kd.R_below (by (with_reducible repeat (first | apply Kd.R_alloc | apply Kd.R_drewN | apply Kd.R_drew)); exact HO111.out) hb)
            have n2_ := Aside0.mk (Kd.R_below (by (with_reducible repeat (first | apply Kd.R_alloc | apply Kd.R_drewN | apply Kd.R_drew)); exact HO119.out) hb)
            have n3_ := Aside0.mk (blk_below (g := gb108) (o := .cells #[.int .u64 t104, .int .u64 t105, .bool t106] 24 (0, 0)) (by (with_reducible repeat (first | refine blk_drewN ?_ _ | refine blk_drew ?_ | refine blk_alloc ?_ _)); exact BK108.out) hb)
            have n4_ := Aside0.mk (blk_below (g := gb116) (o := .cells #[.int .u64 t112, .int .u64 t113, .bool t114] 24 (0, 0)) (by (with_reducible repeat (first | refine blk_drewN ?_ _ | refine blk_drew ?_ | refine blk_alloc ?_ _)); exact BK116.out) hb)
            have n5_ := Aside0.mk (blk_below (g := gb124) (o := .cells #[.int .u64 t120, .int .u64 t121, .bool t122] 24 (0, 0)) (by (with_reducible repeat (first | refine blk_drewN ?_ _ | refine blk_drew ?_ | refine blk_alloc ?_ _)); exact BK124.out) hb)
            have n6_ := Aside0.mk (blk_below (g := gb134) (o := .cells #[.int .u64 t129, .int .u64 t130, .bool t131, .int .i64 t132] 34 (0, 0)) (by (with_reducible repeat (first | refine blk_drewN ?_ _ | refine blk_drew ?_ | refine blk_alloc ?_ _)); exact BK134.out) hb)
            have n7_ := Aside0.mk (below_step (by repeat (first | (with_reducible first | exact HB.out | apply below_alloc | apply pw_below_drewN | apply below_drew1 | refine below_set ?_ GE108.out | refine below_set ?_ GE116.out | refine below_set ?_ GE124.out | refine below_set ?_ GE134.out) | exact HB.out)) hb)
            clear HO103
            clear HO111
            clear HO119
            clear BK108
            clear BK116
            clear BK124
            clear BK134
            clear HB
            have HO103 := n0_
            have HO111 := n1_
            have HO119 := n2_
            have BK108 := n3_
            have BK116 := n4_
            have BK124 := n5_
            have BK134 := n6_
            have HB := n7_
            clear n0_ n1_ n2_ n3_ n4_ n5_ n6_ n7_
            (try clear hb)
            (try clear hb2)
            (try clear hk)
            (try clear hi)
            refine hK.out _ _ ⟨(blk_cell BK108.out 0).trans rfl, (blk_cell BK108.out 1).trans rfl, (blk_cell BK108.out 2).trans rfl, (blk_cell BK116.out 0).trans rfl, (blk_cell BK116.out 1).trans rfl, (blk_cell BK116.out 2).trans rfl, (blk_cell BK134.out 0).trans rfl, (blk_cell BK134.out 1).trans rfl, (blk_cell BK134.out 2).trans rfl, (blk_cell BK134.out 3).trans rfl, (blk_cell BK124.out 0).trans rfl, (blk_cell BK124.out 1).trans rfl, (blk_cell BK124.out 2).trans rfl⟩ (fun hHeld => ?_)
            clear hK K
            refine norm_ (a' := ?_) ?_ ?_
            rotate_left
            · show Act.put _ (some 46) _ = _
              simp only [Act.put, List.setIfInBounds_toArray, List.set_cons_zero, List.set_cons_succ, i64_w, i32_w]
              rfl
            refine pure_ (i := 17) (N := some 47) (v := ?_) (a' := ?_) (lb 24 262143) rfl rfl (any_of HT_.out (by kernel_rfl)) (fun _ _ _ h => h) (Or.inl ⟨by rfl, ?_⟩) ?_ ?_
            rotate_left
            · intro w'
              go_simp
              with_reducible rfl
            rotate_left
            · simp only [Act.put, List.setIfInBounds_toArray, List.set_cons_zero, List.set_cons_succ, i64_w, i32_w]
              rfl
            refine pure_ (i := 18) (N := some 48) (v := ?_) (a' := ?_) (lb 24 524287) rfl rfl (any_of HT_.out (by kernel_rfl)) (fun _ _ _ h => h) (Or.inl ⟨by rfl, ?_⟩) ?_ ?_
            rotate_left
            · intro w'
              go_simp
              with_reducible rfl
            rotate_left
            · simp only [Act.put, List.setIfInBounds_toArray, List.set_cons_zero, List.set_cons_succ, i64_w, i32_w]
              rfl
            refine pure_ (i := 19) (N := some 49) (v := ?_) (a' := ?_) (lb 24 1048575) rfl rfl (any_of HT_.out (by kernel_rfl)) (fun _ _ _ h => h) (Or.inl ⟨by rfl, ?_⟩) ?_ ?_
            rotate_left
            · intro w'
              go_simp
              with_reducible rfl
            rotate_left
            · simp only [Act.put, List.setIfInBounds_toArray, List.set_cons_zero, List.set_cons_succ, i64_w, i32_w]
              rfl
            refine take_ (i := 20) (N := some 50) (v := ?_) (a' := ?_) (lb 24 2097151) rfl rfl (take_ofW HT_.out HW_.out (by kernel_rfl)) (fun _ _ _ h => h) (Or.inl ⟨by rfl, ?_⟩) hHeld ?_ ?_
            rotate_left
            · rintro w' ⟨s0, s1, s2, s3, s4, s5, s6, s7, s8, s9, s10, s11, s12⟩
              go_simp
              with_reducible rfl
            rotate_left
            · simp only [Act.put, List.setIfInBounds_toArray, List.set_cons_zero, List.set_cons_succ, i64_w, i32_w]
              rfl
            refine pure_ (i := 21) (N := some 51) (v := ?_) (a' := ?_) (lb 24 4194303) rfl rfl (any_of HT_.out (by kernel_rfl)) (fun _ _ _ h => h) (Or.inl ⟨by rfl, ?_⟩) ?_ ?_
            rotate_left
            · intro w'
              go_simp
              with_reducible rfl
            rotate_left
            · simp only [Act.put, List.setIfInBounds_toArray, List.set_cons_zero, List.set_cons_succ, i64_w, i32_w]
              rfl
            refine pure_ (i := 22) (N := some 52) (v := ?_) (a' := ?_) (lb 24 8388607) rfl rfl (any_of HT_.out (by kernel_rfl)) (fun _ _ _ h => h) (Or.inl ⟨by rfl, ?_⟩) ?_ ?_
            rotate_left
            · intro w'
              go_simp
              with_reducible rfl
            rotate_left
            · simp only [Act.put, List.setIfInBounds_toArray, List.set_cons_zero, List.set_cons_succ, i64_w, i32_w]
              rfl
            refine pure_ (i := 23) (N := some 0) (v := ?_) (a' := ?_) (lb 24 16777215) rfl rfl (any_of HT_.out (by kernel_rfl)) (fun _ _ _ h => h) (Or.inl ⟨by rfl, ?_⟩) ?_ ?_
            rotate_left
            · intro w'
              go_simp
              with_reducible rfl
            rotate_left
            · simp only [Act.put, List.setIfInBounds_toArray, List.set_cons_zero, List.set_cons_succ, i64_w, i32_w]
              rfl
            refine done_ (done_of HT_.out (by kernel_rfl)) ?_
            try go_wp2
            go_meet
            case rel => exact ⟨_, ((t132 == 8)), (by first | rfl | (simp; done) | (simp [*]; done)), H', ⟨by first | omega | exact Nat.le_refl _⟩, ⟨by (with_reducible repeat (first | refine blk_drewN ?_ _ | refine blk_drew ?_ | refine blk_alloc ?_ _)); exact BK108.out⟩, ⟨by (with_reducible repeat (first | refine blk_drewN ?_ _ | refine blk_drew ?_ | refine blk_alloc ?_ _)); exact BK116.out⟩, ⟨by (with_reducible repeat (first | refine blk_drewN ?_ _ | refine blk_drew ?_ | refine blk_alloc ?_ _)); exact BK124.out⟩, ⟨by (with_reducible repeat (first | refine blk_drewN ?_ _ | refine blk_drew ?_ | refine blk_alloc ?_ _)); exact BK134.out⟩, ⟨by repeat (first | (with_reducible first | exact HB.out | apply below_alloc | apply pw_below_drewN | apply below_drew1 | refine below_set ?_ GE108.out | refine below_set ?_ GE116.out | refine below_set ?_ GE124.out | refine below_set ?_ GE134.out) | exact HB.out)⟩⟩
          · replace c44 := Bool.eq_false_iff.mpr c44
            subst c44
            have H1 : (kedgelaw02_awake.j0 k false) = some r := by rw [if_neg (show ¬ (false = true) by decide)] at H; exact H
            clear H
            have H := H1
            clear H1
            have H' := Aside0.mk H
            (exfalso; have HF := H'.out; rw [hrt] at HF; clear H'; simp [kedgelaw02_awake.j0_iff] at HF; done)
        · rw [if_neg c42] at H
          have c42b0 : ((t129 == t144 && (t130 == t145 && (t131 == t146))) && (t132 == t147)) = false := by simpa using c42
          clear c42
          (first | rw [c42b0] | (simp only [i64_w, i32_w]; rw [c42b0]) | skip)
          have H' := Aside0.mk H
          (exfalso; have HF := H'.out; rw [hrt] at HF; clear H'; simp [kedgelaw02_awake.j0_iff] at HF; done)
      · replace c40 := Bool.eq_false_iff.mpr c40
        subst c40
        have H1 : (kedgelaw02_awake.j0 k false) = some r := by rw [if_neg (show ¬ (false = true) by decide)] at H; exact H
        clear H
        have H := H1
        clear H1
        have H' := Aside0.mk H
        (exfalso; have HF := H'.out; rw [hrt] at HF; clear H'; simp [kedgelaw02_awake.j0_iff] at HF; done)
    · replace c36 := Bool.eq_false_iff.mpr c36
      subst c36
      have H1 : (kedgelaw02_awake.j0 k false) = some r := by rw [if_neg (show ¬ (false = true) by decide)] at H; exact H
      clear H
      have H := H1
      clear H1
      have H' := Aside0.mk H
      (exfalso; have HF := H'.out; rw [hrt] at HF; clear H'; simp [kedgelaw02_awake.j0_iff] at HF; done)
  case rest =>
    clear HC6
    try clear c2
    try clear p2
    try clear c3
    try clear c4
    try clear c23
    try clear c33
    try clear c36
    try clear c40
    obtain ⟨kq, x0_5, rfl, HA, HJ5, BK108, BK116, BK124, BK134, HB⟩ := hcut
    cases kq with
    | zero => exact absurd HA.out (by simp [kedgelaw02_awake.j0])
    | succ kj5 =>
      have H := HA.out
      clear HA
      simp only [kedgelaw02_awake.j0] at H
      obtain rfl := Option.some.inj H
      go_wp2
      go_ret
      exact ⟨by first | rfl | (simp [errW_none, errW_some] <;> rfl) | (simp [*, errW_none, errW_some] <;> rfl), by repeat (first | (with_reducible first | exact HB.out | apply below_alloc | apply pw_below_drewN | apply below_drew1 | refine below_set ?_ GE108.out | refine below_set ?_ GE116.out | refine below_set ?_ GE124.out | refine below_set ?_ GE134.out) | exact HB.out)⟩

/-- THE ONE PURE STATEMENT of kedgelaw02_awake: yours. -/
def kedgelaw02_awake.Pure : Prop := ∃ k, kedgelaw02_awake.f k  = some true
theorem kedgelaw02_awake.walk (P : kedgelaw02_awake.Pure)  (w : World)  :
    Calls Try.prog 22 #[] w fun e w' => e = .returned (.bool true) ∧ Below w.heap.size w w' := by
  obtain ⟨k, h⟩ := P  
  refine (kedgelaw02_awake.calls k  true rfl w h).mono ?_
  rintro e w' ⟨rfl, hd⟩
  exact ⟨rfl, hd⟩

end
end Go.Proofs.Ytbaeaiiohkfieaa.PW2
