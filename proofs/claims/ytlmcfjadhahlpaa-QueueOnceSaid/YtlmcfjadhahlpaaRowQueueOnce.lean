/-
  The row of the law QueueOnce: for every input it answers true, and its arguments read as they did.
-/
import Derived.Test.YtlmcfjadhahlpaaRows
import Derived.Test.YtlmcfjadhahlpaaQo
import Derived.Test.YtlmcfjadhahlpaaRp
import Derived.WalkKit
import Derived.ProofKit
import Derived.OpenShut
import Derived.ShutString
import Derived.ChangeOld
import Derived.Below
import Derived.SizedLaws
namespace Go.Proofs.Ytlmcfjadhahlpaa.queueOnce
open Go.ChangeShapes Go.WideShapes Go.ChangeAt Go.RowKit Go.Joins Go.Proofs.Ytlmcfjadhahlpaa.Hand Go.Proofs.Ytlmcfjadhahlpaa.Sq Go.Proofs.Ytlmcfjadhahlpaa.Op
set_option linter.unusedVariables false
theorem own : ownKnob Try.prog.godebug = none := by kernel_rfl
theorem laidOut : laidOutB Try.prog = true := by kernel_rfl
set_option maxHeartbeats 1000000 in
set_option maxRecDepth 100000 in
theorem lifted (os : Os) (started : os.Started) (H : Type) (enc : TypeId × Value → H) :
    ReturnsInHanded {} Try.checked os 6 .any (Rows.queueOnceSpec.pre6 enc Try.prog Try.f6 Rows.queueOnceRow.domain false) (Rows.queueOnceSpec.post enc Try.prog Try.f6 false true false false) := by
  refine returnsInHanded_of_change_sized (C := Try.checked) own started (by kernel_rfl) Try.func6
    (ChangeSpec.witness6 (enc := enc) (C := Try.checked) false ⟨#[], #[.agg #[.slice none 0 0, .int .i64 0], .agg #[.int .u64 0, .int .u64 0, .bool false], .agg #[.int .u64 0, .int .u64 0, .bool false, .int .i64 0, .int .i64 0], .agg #[.int .u64 0, .int .u64 0, .bool false]], []⟩ 8 (by kernel_rfl) (by kernel_rfl) (by kernel_rfl) (by kernel_rfl)) ?_
  intro W base args ds gs before hval0 hW hcnd hsz0 _
  have hval : ∀ (j : Nat) t v, Try.f6.params[j]? = some t → args[j]? = some v → Value.okWide Try.prog W .any base t v := hval0
  have hW' := hW
  obtain ⟨p, q, hA0, hV, rfl, hfz, hnd⟩ := hW
  have hA : DataW.TrodAll enc Try.prog W 0 (fun _ => true) true Try.f6.params.toList args.toList ds p := hA0
  rw [Try.params6] at hA hval
  obtain ⟨v0, vs0, d0, ds0, p0, q0, hargs, rfl, rfl, h0, r0⟩ := trodAll_cons hA
  obtain ⟨v1, vs1, d1, ds1, p1, q1, rfl, rfl, rfl, h1, r1⟩ := trodAll_cons r0
  obtain ⟨v2, vs2, d2, ds2, p2, q2, rfl, rfl, rfl, h2, r2⟩ := trodAll_cons r1
  obtain ⟨v3, vs3, d3, ds3, p3, q3, rfl, rfl, rfl, h3, r3⟩ := trodAll_cons r2
  obtain ⟨rfl, rfl, rfl⟩ := trodAll_nil r3
  obtain rfl : args = #[v0, v1, v2, v3] := by cases args; simp_all
  obtain ⟨rfl, rfl⟩ := trodVars_none hV
  have k0 := h0
  have lt0 : ∀ x ∈ p0, x.block < W.heap.size := by obtain ⟨m, hm⟩ := k0; exact DataW.trod_lt m _ _ _ hm
  obtain ⟨A0, c0, l0, b0, e0, R0, w0, z0, o0⟩ := op_top opQu h0
  obtain ⟨cs0, rfl, _⟩ := okWide_struct Try.underlying30 (hval 0 30 v0 rfl rfl)
  obtain rfl : cs0 = #[.slice A0 l0.length c0, .int .i64 b0] := by apply Array.toList_inj.1; exact e0
  have k1 := h1
  have lt1 : ∀ x ∈ p1, x.block < W.heap.size := by obtain ⟨m, hm⟩ := k1; exact DataW.trod_lt m _ _ _ hm
  obtain ⟨x1, o1, e1⟩ := op_top opAd h1
  obtain ⟨cs1, rfl, _⟩ := okWide_struct Try.underlying34 (hval 1 34 v1 rfl rfl)
  obtain rfl : cs1 = (x1.cells).toArray := by apply Array.toList_inj.1; exact e1
  have k2 := h2
  have lt2 : ∀ x ∈ p2, x.block < W.heap.size := by obtain ⟨m, hm⟩ := k2; exact DataW.trod_lt m _ _ _ hm
  obtain ⟨x2, o2, e2⟩ := op_top opRt h2
  obtain ⟨cs2, rfl, _⟩ := okWide_struct Try.underlying38 (hval 2 38 v2 rfl rfl)
  obtain rfl : cs2 = (x2.cells).toArray := by apply Array.toList_inj.1; exact e2
  have k3 := h3
  have lt3 : ∀ x ∈ p3, x.block < W.heap.size := by obtain ⟨m, hm⟩ := k3; exact DataW.trod_lt m _ _ _ hm
  obtain ⟨x3, o3, e3⟩ := op_top opAd h3
  obtain ⟨cs3, rfl, _⟩ := okWide_struct Try.underlying34 (hval 3 34 v3 rfl rfl)
  obtain rfl : cs3 = (x3.cells).toArray := by apply Array.toList_inj.1; exact e3
  clear hA0 hval0 hsz0
  refine ((RCal.out (Hand.queueOnce_s l0 w0 b0 (a := x1) o1 (x := x2) o2.1.1 (d := x3) o3 A0 c0)) W (oks_cons R0 oks_nil)).mono fun e W' ⟨he, bel⟩ => ?_
  subst he
  exact ⟨_, rfl, _, _, _, [], _, [], hW', trodAll_mk1 (shut_bool Try.underlying4 _), (trodAll_cons_mk (Below.trod laidOut (by kernel_rfl) (of_decide_eq_true (by kernel_rfl)) k0 bel lt0) (trodAll_cons_mk (Below.trod laidOut (by kernel_rfl) (of_decide_eq_true (by kernel_rfl)) k1 bel lt1) (trodAll_cons_mk (Below.trod laidOut (by kernel_rfl) (of_decide_eq_true (by kernel_rfl)) k2 bel lt2) (trodAll_cons_mk (Below.trod laidOut (by kernel_rfl) (of_decide_eq_true (by kernel_rfl)) k3 bel lt3) trodAll_mk0)))), rfl, bel.frame _, fun h => by cases h⟩
theorem over : Rows.queueOnceRow.holds Try.pinned (OpenSpec.ofChange Rows.queueOnceSpec) :=
  OpenClaim.holds_of_wide 6 Try.f6 rfl rfl rfl rfl rfl rfl rfl ⟨rfl, rfl, rfl, rfl, rfl⟩ rfl rfl rfl rfl rfl (by kernel_rfl) Try.func6 (by kernel_rfl)
    (of_decide_eq_true (by kernel_rfl)) (by unfold Func.isWrapper; first | (rw [if_pos (by decide +kernel)]; kernel_rfl) | (rw [if_neg (by decide +kernel)]; exact ⟨rfl, rfl⟩))
    (fun os started H enc _ => lifted os started H enc)
theorem proved : Rows.QueueOnceSaid := over
#print axioms proved
end Go.Proofs.Ytlmcfjadhahlpaa.queueOnce
namespace Go.Proofs.Ytlmcfjadhahlpaa
/-- The row, under a short name, for the claim. -/
theorem queueOnce_holds : Rows.QueueOnceSaid := queueOnce.proved
end Go.Proofs.Ytlmcfjadhahlpaa
