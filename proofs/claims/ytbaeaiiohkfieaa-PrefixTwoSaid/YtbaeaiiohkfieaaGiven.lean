/-
  The contracts of package addr's functions that are walked by hand, in the form that the driver's printed texts call: '.f' (none: the numbers are no words of 64 digits), '.calls'.
-/
import Derived.Test.YtbaeaiiohkfieaaAddrD
namespace Go.Proofs.Ytbaeaiiohkfieaa.Hand
open Go.RowKit Go.Proofs.YtbaeaiiohkfieaaW.PrintWords Go.Proofs.YtbaeaiiohkfieaaW.PrintLast Go.Proofs.Ytbaeaiiohkfieaa.Bits Go.Proofs.Ytbaeaiiohkfieaa.Dig
set_option linter.unusedVariables false

/-- x, if p: nothing reckons out whether. -/
noncomputable def gd {α : Type} (p : Prop) (x : α) : Option α := @ite _ p (Classical.propDecidable p) (some x) none
theorem gd_some {α : Type} {p : Prop} {x r : α} (h : gd p x = some r) : p ∧ r = x := by
  unfold gd at h
  split at h
  · exact ⟨by assumption, (Option.some.inj h).symm⟩
  · cases h
theorem gd_pos {α : Type} {p : Prop} {x : α} (h : p) : gd p x = some x := by unfold gd; rw [if_pos h]

def addr_Width.f (a0 : Bool) : Option Int := some (W a0 : Nat)
theorem addr_Width.calls (a0 : Bool) (r : Int) (w : World) (h : addr_Width.f a0 = some r) : Calls Try.prog 21 #[.bool a0] w fun e w' => e = .returned (.int .i64 r) ∧ Drawn0 w w' := by
  obtain rfl := Option.some.inj h
  exact (width_c a0 w).mono fun _ _ ⟨he, hw⟩ => ⟨he, hw ▸ Drawn0.refl _⟩

noncomputable def addr_read.f (a0 a1 : Int) (a2 : Bool) : Option (Int × Int) := gd (u64 a0 ∧ u64 a1) (hiA a2 (D a0 a1), loA a2 (D a0 a1))
theorem addr_read.calls (a0 a1 : Int) (a2 : Bool) (r1 r2 : Int) (w : World) (h : addr_read.f a0 a1 a2 = some (r1, r2)) :
    Calls Try.prog 46 #[.agg #[.int .u64 a0, .int .u64 a1, .bool a2]] w fun e w' => e = .returned (.agg #[.int .u64 r1, .int .u64 r2]) ∧ Below w.heap.size w w' := by
  obtain ⟨⟨h0, h1⟩, h2⟩ := gd_some h
  injection h2 with e1 e2
  subst e1 e2
  exact read_c a0 a1 a2 h0 h1 w

def addr_words_of.f (a0 a1 : Int) (a2 : Bool) : Option (Int × Int × Bool) := some (a0, a1, a2)
theorem addr_words_of.calls (a0 a1 : Int) (a2 : Bool) (r1 r2 : Int) (r3 : Bool) (w : World) (h : addr_words_of.f a0 a1 a2 = some (r1, r2, r3)) :
    Calls Try.prog 48 #[.agg #[.int .u64 a0, .int .u64 a1], .bool a2] w fun e w' => e = .returned (.agg #[.int .u64 r1, .int .u64 r2, .bool r3]) ∧ Below w.heap.size w w' := by
  have h := Option.some.inj h
  simp only [Prod.mk.injEq] at h
  obtain ⟨rfl, rfl, rfl⟩ := h
  exact of_c a0 a1 a2 w

noncomputable def addr_Bit.f (a0 a1 : Int) (a2 : Bool) (i : Int) : Option Int := gd (u64 a0 ∧ u64 a1) (bitI (bitA a0 a1 a2 i))
theorem addr_Bit.calls (a0 a1 : Int) (a2 : Bool) (i : Int) (r : Int) (w : World) (h : addr_Bit.f a0 a1 a2 i = some r) :
    Calls Try.prog 17 #[.agg #[.int .u64 a0, .int .u64 a1, .bool a2], .int .i64 i] w fun e w' => e = .returned (.int .i64 r) ∧ Below w.heap.size w w' := by
  obtain ⟨⟨h0, h1⟩, rfl⟩ := gd_some h
  exact bit_c a0 a1 a2 i h0 h1 w

noncomputable def addr_Set.f (a0 a1 : Int) (a2 : Bool) (i v : Int) : Option (Int × Int × Bool) := gd (u64 a0 ∧ u64 a1) (mkA a2 (setA a0 a1 a2 i v))
theorem addr_Set.calls (a0 a1 : Int) (a2 : Bool) (i v : Int) (r1 r2 : Int) (r3 : Bool) (w : World) (h : addr_Set.f a0 a1 a2 i v = some (r1, r2, r3)) :
    Calls Try.prog 16 #[.agg #[.int .u64 a0, .int .u64 a1, .bool a2], .int .i64 i, .int .i64 v] w fun e w' => e = .returned (.agg #[.int .u64 r1, .int .u64 r2, .bool r3]) ∧ Below w.heap.size w w' := by
  obtain ⟨⟨h0, h1⟩, h2⟩ := gd_some h
  simp only [mkA, Prod.mk.injEq] at h2
  obtain ⟨rfl, rfl, rfl⟩ := h2
  exact set_c a0 a1 _ i v h0 h1 w

noncomputable def addr_Sane.f (a0 a1 : Int) (a2 : Bool) : Option Bool := gd (u64 a0 ∧ u64 a1) (decide (sane a0 a1 a2))
theorem addr_Sane.calls (a0 a1 : Int) (a2 : Bool) (r : Bool) (w : World) (h : addr_Sane.f a0 a1 a2 = some r) :
    Calls Try.prog 19 #[.agg #[.int .u64 a0, .int .u64 a1, .bool a2]] w fun e w' => e = .returned (.bool r) ∧ Below w.heap.size w w' := by
  obtain ⟨⟨h0, h1⟩, rfl⟩ := gd_some h
  exact sane_c a0 a1 a2 h0 h1 w

noncomputable def addr_Mask.f (a0 a1 : Int) (a2 : Bool) (n : Int) : Option (Int × Int × Bool) := gd (u64 a0 ∧ u64 a1) (mkA a2 (maskA a0 a1 n))
theorem addr_Mask.calls (a0 a1 : Int) (a2 : Bool) (n : Int) (r1 r2 : Int) (r3 : Bool) (w : World) (h : addr_Mask.f a0 a1 a2 n = some (r1, r2, r3)) :
    Calls Try.prog 18 #[.agg #[.int .u64 a0, .int .u64 a1, .bool a2], .int .i64 n] w fun e w' => e = .returned (.agg #[.int .u64 r1, .int .u64 r2, .bool r3]) ∧ Below w.heap.size w w' := by
  obtain ⟨⟨h0, h1⟩, h2⟩ := gd_some h
  simp only [mkA, Prod.mk.injEq] at h2
  obtain ⟨rfl, rfl, rfl⟩ := h2
  exact mask_c a0 a1 _ n h0 h1 w

noncomputable def addr_Fill.f (a0 a1 : Int) (a2 : Bool) (n : Int) : Option (Int × Int × Bool) := gd (u64 a0 ∧ u64 a1) (mkA a2 (fillA a0 a1 n))
theorem addr_Fill.calls (a0 a1 : Int) (a2 : Bool) (n : Int) (r1 r2 : Int) (r3 : Bool) (w : World) (h : addr_Fill.f a0 a1 a2 n = some (r1, r2, r3)) :
    Calls Try.prog 15 #[.agg #[.int .u64 a0, .int .u64 a1, .bool a2], .int .i64 n] w fun e w' => e = .returned (.agg #[.int .u64 r1, .int .u64 r2, .bool r3]) ∧ Below w.heap.size w w' := by
  obtain ⟨⟨h0, h1⟩, h2⟩ := gd_some h
  simp only [mkA, Prod.mk.injEq] at h2
  obtain ⟨rfl, rfl, rfl⟩ := h2
  exact fill_c a0 a1 _ n h0 h1 w
end Go.Proofs.Ytbaeaiiohkfieaa.Hand
