/-
  The document's trie: what its functions answer, over pairs.
-/
import Derived.Test.YtfcffemglcgbnaaTa
import Derived.Test.YtfcffemglcgbnaaSt
namespace Go.Proofs.Ytfcffemglcgbnaa.Hand
open Go.RowKit Go.Proofs.Ytfcffemglcgbnaa.Bits Go.Proofs.Ytfcffemglcgbnaa.Dig Go.Proofs.Ytfcffemglcgbnaa.Sq
set_option linter.unusedVariables false
set_option linter.unusedSimpArgs false
set_option maxRecDepth 100000
set_option maxHeartbeats 1000000
structure Pr where
  p : Px
  v : Int
  deriving DecidableEq
def Pr.cells (e : Pr) : List Value := [.int .u64 e.p.a.hi, .int .u64 e.p.a.lo, .bool e.p.a.v6, .int .i64 e.p.n, .int .i64 e.v]
theorem FCal.ofS {P : Program} {f : FuncId} {vs : List Value} {U : Mem} {g : Option Addr → Nat → Value × Mem} (hv : U.all (fun u => match u with | .vw .. => true | _ => false) = true) (hn : ∀ A c, noVw (g A c).2) (h : Tri P f vs U (RetS g)) : FCal P f vs U (RetX fun b : Option Addr × Nat => g b.1 b.2) :=
  FCal.of_tri hv (fun v m' ⟨b, _, e⟩ => by subst e; exact hn _ _) ⟨_, _, (none, 0), rfl, rfl⟩ (h.mono fun v m' ⟨A, c, e1, e2⟩ => ⟨(A, c), e1, e2⟩)
theorem noVw_own {A : Option Addr} {c k : Nat} {rows : List (List Value)} {t : TypeId} : noVw [.own A c k rows t] := fun r hr A' c' k' rows' e => by subst e; simp at hr
noncomputable def inB (p q : Px) : Bool := insB p.a.hi p.a.lo p.a.v6 p.n q.a.hi q.a.lo q.a.v6 q.n
def eqPx (p q : Px) : Bool := (p.a.hi == q.a.hi && (p.a.lo == q.a.lo && p.a.v6 == q.a.v6)) && p.n == q.n
theorem eqPx_iff {p q : Px} : eqPx p q = true ↔ p = q := by
  obtain ⟨⟨a, b, c⟩, d⟩ := p
  obtain ⟨⟨a', b', c'⟩, d'⟩ := q
  simp [eqPx]
theorem eqPx_self (p : Px) : eqPx p p = true := eqPx_iff.2 rfl
theorem eqPx_ne {p q : Px} (h : p ≠ q) : eqPx p q = false := by
  cases e : eqPx p q with
  | false => rfl
  | true => exact absurd (eqPx_iff.1 e) h
noncomputable def aboveN (L : List Pr) (p : Px) : List Pr := L.filter fun e => cvB e.p p
end Go.Proofs.Ytfcffemglcgbnaa.Hand
