/-
  kedgelaw02.awake answers true (out of the driver's printed walk, set W2, cut short by prune.py).
-/
import Derived.Test.YtbaeaiiohkfieaaPW2x3
import Derived.Test.YtbaeaiiohkfieaaPreB
namespace Go.Proofs.Ytbaeaiiohkfieaa.Hand
open Go.RowKit Go.Proofs.YtbaeaiiohkfieaaW.PrintWords Go.Proofs.YtbaeaiiohkfieaaW.PrintLast Go.Proofs.Ytbaeaiiohkfieaa.Bits Go.Proofs.Ytbaeaiiohkfieaa.Dig
set_option linter.unusedVariables false
set_option linter.unusedSimpArgs false
theorem Of_mk (v : Bool) (d : Nat → Bool) (c : Nat) (hc : c ≤ W v) : prefix_Of.f (hiA v d) (loA v d) v (c : Int) = some (hiA v (cutd d c), loA v (cutd d c), v, ((c : Nat) : Int)) := by
  rw [Of_f (u_mk _ _), clampW_in hc]
  have e : ∀ i, i < W v → cutd (D (hiA v d) (loA v d)) c i = cutd d c i := fun i hi => by unfold cutd; rw [D_mk, decide_eq_true hi, Bool.true_and]
  rw [hi_congr e, lo_congr e]
theorem awake02_f : PW2.kedgelaw02_awake.f 1 = some true := by
  unfold PW2.kedgelaw02_awake.f
  rw [From_f [10, 0, 0, 0] false rfl (by decide), From_f [10, 1, 0, 0] false rfl (by decide), From_f [11, 0, 0, 0] false rfl (by decide)]
  simp only [Option.bind_some]
  have o1 := Of_mk false (byD [10, 0, 0, 0]) 8 (by decide)
  have o2 := Of_mk false (byD [10, 1, 0, 0]) 16 (by decide)
  have o3 := Of_mk false (byD [11, 0, 0, 0]) 8 (by decide)
  have s1 := Sibling_pk false (byD [10, 0, 0, 0]) 7 (by decide)
  have c1 := Covers_pk 0 false (byD [10, 0, 0, 0]) 8 (by decide) false (byD [10, 1, 0, 0]) 16 (by decide)
  have n1 := Sane_pk false (putd (byD [10, 0, 0, 0]) 7 (!byD [10, 0, 0, 0] 7)) 8 (by decide)
  rw [show ((8 : Nat) : Int) = 8 from rfl] at o1 o3 c1 n1
  rw [show ((16 : Nat) : Int) = 16 from rfl] at o2 c1
  rw [show ((7 + 1 : Nat) : Int) = 8 from rfl, show 7 + 1 = 8 from rfl] at s1
  have k1 : (decide (8 ≤ 16) && conD false (byD [10, 0, 0, 0]) 8 false (byD [10, 1, 0, 0])) = true := by
    rw [Bool.and_eq_true, conD_true]
    exact ⟨by decide, rfl, by decide⟩
  rw [k1] at c1
  have e1 : ∀ i, i < W false → cutd (putd (byD [10, 0, 0, 0]) 7 (!byD [10, 0, 0, 0] 7)) 8 i = cutd (byD [11, 0, 0, 0]) 8 i := by decide
  rw [hi_congr e1, lo_congr e1] at s1 n1
  rw [o1]
  simp only [Option.bind_some]
  rw [s1]
  simp only [Option.bind_some, if_true]
  rw [o2]
  simp only [Option.bind_some]
  rw [c1]
  simp only [Option.bind_some, if_true]
  rw [o3]
  simp only [Option.bind_some]
  rw [if_pos (by simp), n1]
  simp only [Option.bind_some, if_true, PW2.kedgelaw02_awake.j0]
  rfl
def kedgelaw02_awake.f : Option Bool := some true
theorem kedgelaw02_awake.calls (r : Bool) (w : World) (h : kedgelaw02_awake.f = some r) : Calls Try.prog 22 #[] w fun e w' => e = .returned (.bool r) ∧ Below w.heap.size w w' := by
  obtain rfl := Option.some.inj h
  exact PW2.kedgelaw02_awake.calls 1 true rfl w awake02_f
end Go.Proofs.Ytbaeaiiohkfieaa.Hand
