/-
  The records of the program as plain data, and their cells.
-/
import Derived.Test.YtfcffemglcgbnaaEqs
import Derived.Test.YtfcffemglcgbnaaRng
namespace Go.Proofs.Ytfcffemglcgbnaa.Hand
open Go.RowKit Go.Proofs.Ytfcffemglcgbnaa.Sq

structure Ad where
  hi : Int
  lo : Int
  v6 : Bool
  deriving DecidableEq
structure Px where
  a : Ad
  n : Int
  deriving DecidableEq
def Ad.cells (a : Ad) : List Value := [.int .u64 a.hi, .int .u64 a.lo, .bool a.v6]
def Px.cells (p : Px) : List Value := [.int .u64 p.a.hi, .int .u64 p.a.lo, .bool p.a.v6, .int .i64 p.n]
abbrev Ad.val (a : Ad) : Value := .agg #[.int .u64 a.hi, .int .u64 a.lo, .bool a.v6]
abbrev Px.val (p : Px) : Value := .agg #[.int .u64 p.a.hi, .int .u64 p.a.lo, .bool p.a.v6, .int .i64 p.n]
def Ad.wf (a : Ad) : Prop := (0 ≤ a.hi ∧ a.hi < 18446744073709551616) ∧ (0 ≤ a.lo ∧ a.lo < 18446744073709551616)
theorem map_get {α : Type} {f : α → List Value} {l : List α} {i : Nat} (h : i < l.length) : (l.map f)[i]? = some (f l[i]) := by simp [h]
theorem bOrF {x y : Bool} (hx : x = false) (hy : y = false) : (x || y) = false := by rw [hx, hy]; rfl
theorem bAndT {x y : Bool} (hx : x = true) (hy : y = true) : (x && y) = true := by rw [hx, hy]; rfl
theorem bNotF {x : Bool} (h : x = true) : (!x) = false := by rw [h]; rfl
theorem bNotT {x : Bool} (h : x = false) : (!x) = true := by rw [h]; rfl
theorem bAndF2 {x y : Bool} (hy : y = false) : (x && y) = false := by rw [hy, Bool.and_false]
theorem bEqT {x y : Int} (h : x = y) : (x == y) = true := beq_iff_eq.2 h
theorem bNeT {x y : Int} (h : x ≠ y) : (x != y) = true := by simpa using h
theorem st_offF {P : Program} {ops : Array Oper} {n : Fm} {C : World → Prop} {L : Slots} {dst : Option Tmp} {op : Op} {ty : TypeId} {pos : String} {af : _} {j : Nat} {g : Bool} (hg : gval ops L j = some (.bool g)) (hq : g = false) : Stp P ops n C L ⟨dst, op, ty, pos, af, some (j, true)⟩ undef := st_offe hg hq rfl
theorem st_offT {P : Program} {ops : Array Oper} {n : Fm} {C : World → Prop} {L : Slots} {dst : Option Tmp} {op : Op} {ty : TypeId} {pos : String} {af : _} {j : Nat} {g : Bool} (hg : gval ops L j = some (.bool g)) (hq : g = true) : Stp P ops n C L ⟨dst, op, ty, pos, af, some (j, false)⟩ undef := st_offe hg hq rfl
end Go.Proofs.Ytfcffemglcgbnaa.Hand
