/-
  Addresses and prefixes by their bytes.
-/
import Derived.Test.YtfcffemglcgbnaaPb
namespace Go.Proofs.Ytfcffemglcgbnaa.Hand
open Go.RowKit Go.Proofs.Ytfcffemglcgbnaa.Bits Go.Proofs.Ytfcffemglcgbnaa.Dig Go.Proofs.Ytfcffemglcgbnaa.Sq
set_option linter.unusedVariables false
set_option linter.unusedSimpArgs false
set_option maxRecDepth 100000
set_option maxHeartbeats 1000000
noncomputable def adL (l : List Int) : Ad := ⟨hiA false (byD l), loA false (byD l), false⟩
noncomputable def pxL (l : List Int) (c : Nat) : Px := ⟨⟨hiA false (cutd (byD l) c), loA false (cutd (byD l) c), false⟩, (c : Int)⟩
theorem adL_wf (l : List Int) : (adL l).wf := u_mk false (byD l)
theorem pxL_wf (l : List Int) (c : Nat) : (pxL l c).a.wf := u_mk false _
theorem pxL_sane (l : List Int) {c : Nat} (hc : c ≤ 32) : sanB (pxL l c) = true := saneB_pk false (byD l) c hc
theorem pxL_con (l m : List Int) {c : Nat} (hc : c ≤ 32) : conB (pxL l c) (adL m) = conD false (byD l) c false (byD m) := by
  unfold conB pxL adL
  dsimp only
  rw [contB_pk false (byD l) c hc]
  exact conD_congr fun _ i hi => by rw [D_mk, decide_eq_true (show i < W false from Nat.lt_of_lt_of_le hi hc), Bool.true_and]
theorem pxL_cov (l m : List Int) {c k : Nat} (hc : c ≤ 32) (hk : k ≤ 32) : cvB (pxL l c) (pxL m k) = (decide (c ≤ k) && conD false (byD l) c false (byD m)) := covB_pk false (byD l) c hc false (byD m) k hk
theorem of_L (l : List Int) {c : Nat} (hc : c ≤ 32) : Cal Try.prog 19 [(adL l).val, .int .i64 ((c : Nat) : Int)] (pxL l c).val := by
  have h := of_s (u_mk false (byD l)) false (c : Int)
  have e : ∀ i, i < W false → cutd (D (hiA false (byD l)) (loA false (byD l))) c i = cutd (byD l) c i := fun i hi => by unfold cutd; rw [D_mk, decide_eq_true hi, Bool.true_and]
  have hcl : clampW false (c : Int) = c := by unfold clampW mxi mni; have : W false = 32 := rfl; split <;> (try split) <;> omega
  rw [hcl, hi_congr e, lo_congr e] at h
  exact h
abbrev lA : List Int := [10, 0, 0, 1]
abbrev lC : List Int := [10, 1, 0, 0]
theorem con_same {l m : List Int} {c : Nat} (h : ∀ i, i < c → byD l i = byD m i) : conD false (byD l) c false (byD m) = true := conD_true.2 ⟨rfl, h⟩
theorem con_not {l m : List Int} {c i : Nat} (hi : i < c) (h : byD l i ≠ byD m i) : conD false (byD l) c false (byD m) = false := by
  cases q : conD false (byD l) c false (byD m) with
  | false => rfl
  | true => exact absurd ((conD_true.1 q).2 i hi) h
end Go.Proofs.Ytfcffemglcgbnaa.Hand
