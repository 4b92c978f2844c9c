/-
  The row of the law PrefixOrder: for every input it answers true, and its arguments read as they did; out of the walk Hand.prefixOrder_walk.
-/
import Derived.Test.YtbaeaiiohkfieaaRows
import Derived.Test.YtbaeaiiohkfieaaWalkPOrd
import Derived.Test.YtbaeaiiohkfieaaOpn
import Derived.WalkKit
import Derived.ProofKit
import Derived.OpenShut
import Derived.ShutString
import Derived.ChangeOld
import Derived.Below
import Derived.SizedLaws
namespace Go.Proofs.Ytbaeaiiohkfieaa.prefixOrder
open Go.ChangeShapes Go.WideShapes Go.ChangeAt Go.RowKit Go.Joins Go.Proofs.Ytbaeaiiohkfieaa.Opn Go.Proofs.YtbaeaiiohkfieaaW.PrintWords
open Go.ChangeMaps (open_string shut_string)
set_option linter.unusedVariables false
theorem own : ownKnob Try.prog.godebug = none := by kernel_rfl
theorem laidOut : laidOutB Try.prog = true := by kernel_rfl
theorem opn24 : Opn Try.prog 24 (Kd.pair (Kd.int .u64) (Kd.pair (Kd.int .u64) Kd.bool)) (fun x : Int × Int × Bool => (fun n : Int => (Lit.int .u64 n).wf = true) x.1 ∧ (fun n : Int => (Lit.int .u64 n).wf = true) x.2.1 ∧ (fun _ : Bool => True) x.2.2) := opn_struct3 Try.underlying24 (by kernel_rfl) (by kernel_rfl) (by kernel_rfl) (by kernel_rfl) (by kernel_rfl) (by kernel_rfl) (by kernel_rfl) (opn_int Try.underlying22) (opn_int Try.underlying22) (opn_bool Try.underlying4)
theorem opn34 : Opn Try.prog 34 (Kd.pair (Kd.pair (Kd.int .u64) (Kd.pair (Kd.int .u64) Kd.bool)) (Kd.int .i64)) (fun x : (Int × Int × Bool) × Int => (fun x : Int × Int × Bool => (fun n : Int => (Lit.int .u64 n).wf = true) x.1 ∧ (fun n : Int => (Lit.int .u64 n).wf = true) x.2.1 ∧ (fun _ : Bool => True) x.2.2) x.1 ∧ (fun n : Int => (Lit.int .i64 n).wf = true) x.2) := opn_struct2 Try.underlying34 (by kernel_rfl) (by kernel_rfl) (by kernel_rfl) (by kernel_rfl) (by kernel_rfl) opn24 (opn_int Try.underlying3)
set_option maxHeartbeats 1000000 in
set_option maxRecDepth 100000 in
theorem lifted (os : Os) (started : os.Started) (H : Type) (enc : TypeId × Value → H) :
    ReturnsInHanded {} Try.checked os 11 .any (Rows.prefixOrderSpec.pre6 enc Try.prog Try.f11 Rows.prefixOrderRow.domain false) (Rows.prefixOrderSpec.post enc Try.prog Try.f11 false true false false) := by
  refine returnsInHanded_of_change_sized (C := Try.checked) own started (by kernel_rfl) Try.func11
    (ChangeSpec.witness6 (enc := enc) (C := Try.checked) false ⟨#[], #[.agg #[.int .u64 0, .int .u64 0, .bool false, .int .i64 0], .agg #[.int .u64 0, .int .u64 0, .bool false, .int .i64 0], .agg #[.int .u64 0, .int .u64 0, .bool false, .int .i64 0]], []⟩ 8 (by kernel_rfl) (by kernel_rfl) (by kernel_rfl) (by kernel_rfl)) ?_
  intro W base args ds gs before hval0 hW hcnd hsz0 _
  have hsz : (DataW.weightsEach Try.prog (Try.f11.params.toList ++ Rows.prefixOrderSpec.plain.varTypes Try.prog) (ds ++ gs)).all (· ≤ reachBytes) = true := hsz0
  have hval : ∀ (j : Nat) t v, Try.f11.params[j]? = some t → args[j]? = some v → Value.okWide Try.prog W .any base t v := hval0
  have hW' := hW
  obtain ⟨p, q, hA0, hV, rfl, hfz, hnd⟩ := hW
  have hA : DataW.TrodAll enc Try.prog W 0 (fun _ => true) true Try.f11.params.toList args.toList ds p := hA0
  rw [Try.params11] at hA hval hsz
  obtain ⟨v0, vs0, d0, ds0, p0, q0, hargs, rfl, rfl, h0, r0⟩ := trodAll_cons hA
  obtain ⟨v1, vs1, d1, ds1, p1, q1, rfl, rfl, rfl, h1, r1⟩ := trodAll_cons r0
  obtain ⟨v2, vs2, d2, ds2, p2, q2, rfl, rfl, rfl, h2, r2⟩ := trodAll_cons r1
  obtain ⟨rfl, rfl, rfl⟩ := trodAll_nil r2
  obtain rfl : args = #[v0, v1, v2] := by cases args; simp_all
  obtain ⟨rfl, rfl⟩ := trodVars_none hV
  have k0 := h0
  have lt0 : ∀ x ∈ p0, x.block < W.heap.size := by obtain ⟨m, hm⟩ := k0; exact DataW.trod_lt m _ _ _ hm
  obtain ⟨x0, ok0, K0⟩ := opn_top opn34 h0
  obtain ⟨cs0, rfl, _⟩ := okWide_struct Try.underlying34 (hval 0 34 v0 rfl rfl)
  obtain ⟨_, _, e0, ⟨_, _, rfl, rfl, ⟨_, _, rfl, rfl, rfl⟩⟩, rfl⟩ := K0
  obtain rfl : cs0 = #[.int .u64 x0.1.1, .int .u64 x0.1.2.1, .bool x0.1.2.2, .int .i64 x0.2] := by apply Array.toList_inj.1; exact e0
  have k1 := h1
  have lt1 : ∀ x ∈ p1, x.block < W.heap.size := by obtain ⟨m, hm⟩ := k1; exact DataW.trod_lt m _ _ _ hm
  obtain ⟨x1, ok1, K1⟩ := opn_top opn34 h1
  obtain ⟨cs1, rfl, _⟩ := okWide_struct Try.underlying34 (hval 1 34 v1 rfl rfl)
  obtain ⟨_, _, e1, ⟨_, _, rfl, rfl, ⟨_, _, rfl, rfl, rfl⟩⟩, rfl⟩ := K1
  obtain rfl : cs1 = #[.int .u64 x1.1.1, .int .u64 x1.1.2.1, .bool x1.1.2.2, .int .i64 x1.2] := by apply Array.toList_inj.1; exact e1
  have k2 := h2
  have lt2 : ∀ x ∈ p2, x.block < W.heap.size := by obtain ⟨m, hm⟩ := k2; exact DataW.trod_lt m _ _ _ hm
  obtain ⟨x2, ok2, K2⟩ := opn_top opn34 h2
  obtain ⟨cs2, rfl, _⟩ := okWide_struct Try.underlying34 (hval 2 34 v2 rfl rfl)
  obtain ⟨_, _, e2, ⟨_, _, rfl, rfl, ⟨_, _, rfl, rfl, rfl⟩⟩, rfl⟩ := K2
  obtain rfl : cs2 = #[.int .u64 x2.1.1, .int .u64 x2.1.2.1, .bool x2.1.2.2, .int .i64 x2.2] := by apply Array.toList_inj.1; exact e2
  clear hA0 hval0 hsz0 hsz
  refine (Hand.prefixOrder_walk (x0.1.1) (x0.1.2.1) (x0.1.2.2) (x0.2) (x1.1.1) (x1.1.2.1) (x1.1.2.2) (x1.2) (x2.1.1) (x2.1.2.1) (x2.1.2.2) (x2.2) ok0.1.1 ok0.1.2.1 ok0.2 ok1.1.1 ok1.1.2.1 ok1.2 ok2.1.1 ok2.1.2.1 ok2.2 W).mono fun e W' ⟨he, bel⟩ => ?_
  subst he
  exact ⟨_, rfl, _, _, _, [], _, [], hW', trodAll_mk1 (shut_bool Try.underlying4 _), (trodAll_cons_mk (Below.trod laidOut (by kernel_rfl) (of_decide_eq_true (by kernel_rfl)) k0 bel lt0) (trodAll_cons_mk (Below.trod laidOut (by kernel_rfl) (of_decide_eq_true (by kernel_rfl)) k1 bel lt1) (trodAll_cons_mk (Below.trod laidOut (by kernel_rfl) (of_decide_eq_true (by kernel_rfl)) k2 bel lt2) trodAll_mk0))), rfl, bel.frame _, fun h => by cases h⟩
theorem over : Rows.prefixOrderRow.holds Try.pinned (OpenSpec.ofChange Rows.prefixOrderSpec) :=
  OpenClaim.holds_of_wide 11 Try.f11 rfl rfl rfl rfl rfl rfl rfl ⟨rfl, rfl, rfl, rfl, rfl⟩ rfl rfl rfl rfl rfl (by kernel_rfl) Try.func11 (by kernel_rfl)
    (of_decide_eq_true (by kernel_rfl)) (by unfold Func.isWrapper; first | (rw [if_pos (by decide +kernel)]; kernel_rfl) | (rw [if_neg (by decide +kernel)]; exact ⟨rfl, rfl⟩))
    (fun os started H enc _ => lifted os started H enc)
theorem proved : Rows.PrefixOrderSaid := over
#print axioms proved
end Go.Proofs.Ytbaeaiiohkfieaa.prefixOrder
namespace Go.Proofs.Ytbaeaiiohkfieaa
/-- The row, under a short name, for the claim. -/
theorem prefixOrder_holds : Rows.PrefixOrderSaid := prefixOrder.proved
end Go.Proofs.Ytbaeaiiohkfieaa
