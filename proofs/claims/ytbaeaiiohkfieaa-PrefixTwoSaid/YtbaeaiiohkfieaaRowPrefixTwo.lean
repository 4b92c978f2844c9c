/-
  The row of the law PrefixTwo: for every input it answers true, and its arguments read as they did; out of the walk Hand.prefixTwo_walk.
-/
import Derived.Test.YtbaeaiiohkfieaaRows
import Derived.Test.YtbaeaiiohkfieaaAllB
import Derived.Test.YtbaeaiiohkfieaaOpn
import Derived.WalkKit
import Derived.ProofKit
import Derived.OpenShut
import Derived.ShutString
import Derived.ChangeOld
import Derived.Below
import Derived.SizedLaws
namespace Go.Proofs.Ytbaeaiiohkfieaa.prefixTwo
open Go.ChangeShapes Go.WideShapes Go.ChangeAt Go.RowKit Go.Joins Go.Proofs.Ytbaeaiiohkfieaa.Opn Go.Proofs.YtbaeaiiohkfieaaW.PrintWords
open Go.ChangeMaps (open_string shut_string)
set_option linter.unusedVariables false
theorem own : ownKnob Try.prog.godebug = none := by kernel_rfl
theorem laidOut : laidOutB Try.prog = true := by kernel_rfl
theorem opn24 : Opn Try.prog 24 (Kd.pair (Kd.int .u64) (Kd.pair (Kd.int .u64) Kd.bool)) (fun x : Int × Int × Bool => (fun n : Int => (Lit.int .u64 n).wf = true) x.1 ∧ (fun n : Int => (Lit.int .u64 n).wf = true) x.2.1 ∧ (fun _ : Bool => True) x.2.2) := opn_struct3 Try.underlying24 (by kernel_rfl) (by kernel_rfl) (by kernel_rfl) (by kernel_rfl) (by kernel_rfl) (by kernel_rfl) (by kernel_rfl) (opn_int Try.underlying22) (opn_int Try.underlying22) (opn_bool Try.underlying4)
theorem opn34 : Opn Try.prog 34 (Kd.pair (Kd.pair (Kd.int .u64) (Kd.pair (Kd.int .u64) Kd.bool)) (Kd.int .i64)) (fun x : (Int × Int × Bool) × Int => (fun x : Int × Int × Bool => (fun n : Int => (Lit.int .u64 n).wf = true) x.1 ∧ (fun n : Int => (Lit.int .u64 n).wf = true) x.2.1 ∧ (fun _ : Bool => True) x.2.2) x.1 ∧ (fun n : Int => (Lit.int .i64 n).wf = true) x.2) := opn_struct2 Try.underlying34 (by kernel_rfl) (by kernel_rfl) (by kernel_rfl) (by kernel_rfl) (by kernel_rfl) opn24 (opn_int Try.underlying3)
set_option maxHeartbeats 1000000 in
set_option maxRecDepth 100000 in
theorem lifted (os : Os) (started : os.Started) (H : Type) (enc : TypeId × Value → H) :
    ReturnsInHanded {} Try.checked os 12 .any (Rows.prefixTwoSpec.pre6 enc Try.prog Try.f12 Rows.prefixTwoRow.domain false) (Rows.prefixTwoSpec.post enc Try.prog Try.f12 false true false false) := by
  refine returnsInHanded_of_change_sized (C := Try.checked) own started (by kernel_rfl) Try.func12
    (ChangeSpec.witness6 (enc := enc) (C := Try.checked) false ⟨#[], #[.agg #[.int .u64 0, .int .u64 0, .bool false, .int .i64 0], .agg #[.int .u64 0, .int .u64 0, .bool false, .int .i64 0]], []⟩ 8 (by kernel_rfl) (by kernel_rfl) (by kernel_rfl) (by kernel_rfl)) ?_
  intro W base args ds gs before hval0 hW hcnd hsz0 _
  have hsz : (DataW.weightsEach Try.prog (Try.f12.params.toList ++ Rows.prefixTwoSpec.plain.varTypes Try.prog) (ds ++ gs)).all (· ≤ reachBytes) = true := hsz0
  have hval : ∀ (j : Nat) t v, Try.f12.params[j]? = some t → args[j]? = some v → Value.okWide Try.prog W .any base t v := hval0
  have hW' := hW
  obtain ⟨p, q, hA0, hV, rfl, hfz, hnd⟩ := hW
  have hA : DataW.TrodAll enc Try.prog W 0 (fun _ => true) true Try.f12.params.toList args.toList ds p := hA0
  rw [Try.params12] at hA hval hsz
  obtain ⟨v0, vs0, d0, ds0, p0, q0, hargs, rfl, rfl, h0, r0⟩ := trodAll_cons hA
  obtain ⟨v1, vs1, d1, ds1, p1, q1, rfl, rfl, rfl, h1, r1⟩ := trodAll_cons r0
  obtain ⟨rfl, rfl, rfl⟩ := trodAll_nil r1
  obtain rfl : args = #[v0, v1] := by cases args; simp_all
  obtain ⟨rfl, rfl⟩ := trodVars_none hV
  have k0 := h0
  have lt0 : ∀ x ∈ p0, x.block < W.heap.size := by obtain ⟨m, hm⟩ := k0; exact DataW.trod_lt m _ _ _ hm
  obtain ⟨x0, ok0, K0⟩ := opn_top opn34 h0
  obtain ⟨cs0, rfl, _⟩ := okWide_struct Try.underlying34 (hval 0 34 v0 rfl rfl)
  obtain ⟨_, _, e0, ⟨_, _, rfl, rfl, ⟨_, _, rfl, rfl, rfl⟩⟩, rfl⟩ := K0
  obtain rfl : cs0 = #[.int .u64 x0.1.1, .int .u64 x0.1.2.1, .bool x0.1.2.2, .int .i64 x0.2] := by apply Array.toList_inj.1; exact e0
  have k1 := h1
  have lt1 : ∀ x ∈ p1, x.block < W.heap.size := by obtain ⟨m, hm⟩ := k1; exact DataW.trod_lt m _ _ _ hm
  obtain ⟨x1, ok1, K1⟩ := opn_top opn34 h1
  obtain ⟨cs1, rfl, _⟩ := okWide_struct Try.underlying34 (hval 1 34 v1 rfl rfl)
  obtain ⟨_, _, e1, ⟨_, _, rfl, rfl, ⟨_, _, rfl, rfl, rfl⟩⟩, rfl⟩ := K1
  obtain rfl : cs1 = #[.int .u64 x1.1.1, .int .u64 x1.1.2.1, .bool x1.1.2.2, .int .i64 x1.2] := by apply Array.toList_inj.1; exact e1
  clear hA0 hval0 hsz0 hsz
  refine (Hand.prefixTwo_walk (x0.1.1) (x0.1.2.1) (x0.1.2.2) (x0.2) (x1.1.1) (x1.1.2.1) (x1.1.2.2) (x1.2) ok0.1.1 ok0.1.2.1 ok0.2 ok1.1.1 ok1.1.2.1 ok1.2 W).mono fun e W' ⟨he, bel⟩ => ?_
  subst he
  exact ⟨_, rfl, _, _, _, [], _, [], hW', trodAll_mk1 (shut_bool Try.underlying4 _), (trodAll_cons_mk (Below.trod laidOut (by kernel_rfl) (of_decide_eq_true (by kernel_rfl)) k0 bel lt0) (trodAll_cons_mk (Below.trod laidOut (by kernel_rfl) (of_decide_eq_true (by kernel_rfl)) k1 bel lt1) trodAll_mk0)), rfl, bel.frame _, fun h => by cases h⟩
theorem over : Rows.prefixTwoRow.holds Try.pinned (OpenSpec.ofChange Rows.prefixTwoSpec) :=
  OpenClaim.holds_of_wide 12 Try.f12 rfl rfl rfl rfl rfl rfl rfl ⟨rfl, rfl, rfl, rfl, rfl⟩ rfl rfl rfl rfl rfl (by kernel_rfl) Try.func12 (by kernel_rfl)
    (of_decide_eq_true (by kernel_rfl)) (by unfold Func.isWrapper; first | (rw [if_pos (by decide +kernel)]; kernel_rfl) | (rw [if_neg (by decide +kernel)]; exact ⟨rfl, rfl⟩))
    (fun os started H enc _ => lifted os started H enc)
theorem proved : Rows.PrefixTwoSaid := over
#print axioms proved
end Go.Proofs.Ytbaeaiiohkfieaa.prefixTwo
namespace Go.Proofs.Ytbaeaiiohkfieaa
/-- The row, under a short name, for the claim. -/
theorem prefixTwo_holds : Rows.PrefixTwoSaid := prefixTwo.proved
end Go.Proofs.Ytbaeaiiohkfieaa
