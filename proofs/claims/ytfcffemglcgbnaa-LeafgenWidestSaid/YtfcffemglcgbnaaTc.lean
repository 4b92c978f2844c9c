/-
  The document's trie: Get, Inside, Longest, Pairs, Nodes, Del, Put.
-/
import Derived.Test.YtfcffemglcgbnaaTb
namespace Go.Proofs.Ytfcffemglcgbnaa.Hand
open Go.RowKit Go.Proofs.Ytfcffemglcgbnaa.Bits Go.Proofs.Ytfcffemglcgbnaa.Dig Go.Proofs.Ytfcffemglcgbnaa.Sq
set_option linter.unusedVariables false
set_option linter.unusedSimpArgs false
set_option maxRecDepth 100000
set_option maxHeartbeats 1000000
def getN : List Pr → Px → Int × Bool
  | [], _ => (0, false)
  | x :: L, p => if x.p = p then (x.v, true) else getN L p
noncomputable def insN (L : List Pr) (p : Px) : Bool := L.any fun e => inB p e.p
def zeroPr : Pr := ⟨⟨⟨0, 0, false⟩, 0⟩, 0⟩
noncomputable def comP (p q : Px) : Int := mn2 (mn2 p.n q.n) (commonA p.a.hi p.a.lo p.a.v6 q.a.hi q.a.lo q.a.v6)
noncomputable def ndC (L : List Pr) (i : Nat) : Int := match L[i]? with
  | none => 0
  | some x => x.p.n - (match i with
    | 0 => 0
    | j + 1 => match L[j]? with
      | none => 0
      | some y => comP y.p x.p)
noncomputable def ndT (L : List Pr) : Nat → Int
  | 0 => 2
  | i + 1 => ndT L i + ndC L i
noncomputable def nodesN (L : List Pr) : Int := ndT L L.length
theorem comP_rng {p q : Px} (hp : sanB p = true) (hq : sanB q = true) : 0 ≤ comP p q ∧ comP p q ≤ q.n := by
  obtain ⟨c, hc, e1, _⟩ := sanB_pk hp
  obtain ⟨m, hm, f1, _⟩ := sanB_pk hq
  unfold comP mn2 commonA
  rw [e1, f1]
  constructor
  · split <;> split <;> (try split) <;> (try split) <;> omega
  · split <;> split <;> (try split) <;> (try split) <;> omega
theorem n_rng {p : Px} (hp : sanB p = true) : 0 ≤ p.n ∧ p.n ≤ 128 := by
  obtain ⟨c, hc, e1, _⟩ := sanB_pk hp
  have := W_le p.a.v6
  omega
theorem ndC_rng (L : List Pr) (hs : ∀ e ∈ L, sanB e.p = true) (i : Nat) : 0 ≤ ndC L i ∧ ndC L i ≤ 128 := by
  unfold ndC
  split
  · omega
  · rename_i x hx
    have h1 := n_rng (hs x (List.mem_of_getElem? hx))
    split
    · omega
    · split
      · omega
      · rename_i y hy
        have h2 := comP_rng (hs y (List.mem_of_getElem? hy)) (hs x (List.mem_of_getElem? hx))
        omega
theorem ndT_rng (L : List Pr) (hs : ∀ e ∈ L, sanB e.p = true) : ∀ i, 2 ≤ ndT L i ∧ ndT L i ≤ 2 + 128 * i
  | 0 => by unfold ndT; omega
  | i + 1 => by
    have := ndT_rng L hs i
    have := ndC_rng L hs i
    unfold ndT
    omega
end Go.Proofs.Ytfcffemglcgbnaa.Hand
