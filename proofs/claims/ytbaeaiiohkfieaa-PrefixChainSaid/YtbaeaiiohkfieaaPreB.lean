/-
  Package prefix's Parent, Child, Sibling, told by digits (out of the driver's printed walks, set P).
-/
import Derived.Test.YtbaeaiiohkfieaaPreA
import Derived.Test.YtbaeaiiohkfieaaPPx3
import Derived.Test.YtbaeaiiohkfieaaPPx4
namespace Go.Proofs.Ytbaeaiiohkfieaa.Hand
open Go.RowKit Go.Proofs.YtbaeaiiohkfieaaW.PrintWords Go.Proofs.YtbaeaiiohkfieaaW.PrintLast Go.Proofs.Ytbaeaiiohkfieaa.Bits Go.Proofs.Ytbaeaiiohkfieaa.Dig
set_option linter.unusedVariables false
set_option linter.unusedSimpArgs false

theorem Parent_0 (a0 a1 : Int) (v : Bool) {n : Int} (h : n ≤ 0) : PP.prefix_Parent.f a0 a1 v n = some (0, 0, false, 0, false) := by
  unfold PP.prefix_Parent.f; rw [if_pos h]
theorem Parent_no {a0 a1 : Int} (h : u64 a0 ∧ u64 a1) {v : Bool} {n : Int} (hn : ¬ saneP a0 a1 v n) : PP.prefix_Parent.f a0 a1 v n = some (0, 0, false, 0, false) := by
  unfold PP.prefix_Parent.f
  rw [Sane_no h hn]
  split <;> rfl
theorem Parent_pk (v : Bool) (d : Nat → Bool) (c : Nat) (hc : c + 1 ≤ W v) : PP.prefix_Parent.f (hiA v (cutd d (c + 1))) (loA v (cutd d (c + 1))) v ((c + 1 : Nat) : Int) = some (hiA v (cutd d c), loA v (cutd d c), v, ((c : Nat) : Int), true) := by
  have hW := W_le v
  unfold PP.prefix_Parent.f
  rw [if_neg (by omega), Sane_pk v d _ hc]
  simp only [Option.bind_some, if_true]
  rw [show wrap64 (((c + 1 : Nat) : Int) - 1) = ((c : Nat) : Int) by rw [wr64 _ (by omega)]; omega, Of_f (u_mk _ _), clampW_in (by omega)]
  have e := cut_cut v d (c + 1) c (by omega)
  simp only [Option.bind_some]
  rw [e.1, e.2]
/-- With another digit at c. -/
def putd (d : Nat → Bool) (c : Nat) (b : Bool) (j : Nat) : Bool := if j = c then b else d j
theorem cut_put (d : Nat → Bool) (c : Nat) (b : Bool) : (fun j : Nat => if (j : Int) = ((c : Nat) : Int) then b else cutd d c j) = cutd (putd d c b) (c + 1) := funext fun j => by
  unfold cutd putd
  by_cases h : j = c
  · subst h; simp
  · rw [if_neg (by omega), if_neg h, show decide (j < c + 1) = decide (j < c) by rw [decide_eq_decide]; omega]
theorem Child_no {a0 a1 : Int} (h : u64 a0 ∧ u64 a1) {v : Bool} {n : Int} (hn : ¬ saneP a0 a1 v n) (b : Int) : PP.prefix_Child.f a0 a1 v n b = some (0, 0, false, 0, false) := by
  unfold PP.prefix_Child.f
  rw [Sane_no h hn]
  rfl
theorem Child_full (v : Bool) (d : Nat → Bool) (b : Int) : PP.prefix_Child.f (hiA v (cutd d (W v))) (loA v (cutd d (W v))) v ((W v : Nat) : Int) b = some (0, 0, false, 0, false) := by
  unfold PP.prefix_Child.f
  rw [Sane_pk v d _ (Nat.le_refl _), show addr_Width.f v = some ((W v : Nat) : Int) from rfl]
  simp
theorem Child_pk (v : Bool) (d : Nat → Bool) (c : Nat) (hc : c < W v) (b : Int) : PP.prefix_Child.f (hiA v (cutd d c)) (loA v (cutd d c)) v ((c : Nat) : Int) b = some (hiA v (cutd (putd d c (setv b)) (c + 1)), loA v (cutd (putd d c (setv b)) (c + 1)), v, ((c + 1 : Nat) : Int), true) := by
  have hW := W_le v
  unfold PP.prefix_Child.f
  rw [Sane_pk v d _ (by omega), show addr_Width.f v = some ((W v : Nat) : Int) from rfl]
  simp only [Option.bind_some, if_true]
  rw [if_neg (by omega), Set_mk]
  simp only [Option.bind_some, mkA]
  rw [cut_put, show wrap64 (((c : Nat) : Int) + 1) = ((c + 1 : Nat) : Int) by rw [wr64 _ (by omega)]; rfl]
theorem setv_next (b : Bool) : setv (wrap64 (bitI b + 1)) = !b := by
  have h0 := bitI_lo b
  have h1 := bitI_hi b
  rw [wr64 _ (by omega)]
  cases b <;> decide
theorem cut_same (d : Nat → Bool) (c : Nat) (b : Bool) : cutd (putd d c b) c = cutd d c := funext fun j => by
  unfold cutd putd
  by_cases h : j < c
  · rw [if_neg (by omega)]
  · rw [decide_eq_false h, Bool.false_and, Bool.false_and]
theorem Sibling_pk (v : Bool) (d : Nat → Bool) (c : Nat) (hc : c + 1 ≤ W v) : PP.prefix_Sibling.f (hiA v (cutd d (c + 1))) (loA v (cutd d (c + 1))) v ((c + 1 : Nat) : Int) = some (hiA v (cutd (putd d c (!d c)) (c + 1)), loA v (cutd (putd d c (!d c)) (c + 1)), v, ((c + 1 : Nat) : Int), true) := by
  unfold PP.prefix_Sibling.f
  rw [Parent_pk v d c hc]
  simp only [Option.bind_some, if_true]
  rw [Bit_f (u_mk _ _), bitA_mk, decide_eq_true (show c < W v by omega), Bool.true_and, cutd_lt (by omega)]
  simp only [Option.bind_some]
  rw [Child_pk v d c (by omega), setv_next]
  rfl
end Go.Proofs.Ytbaeaiiohkfieaa.Hand
