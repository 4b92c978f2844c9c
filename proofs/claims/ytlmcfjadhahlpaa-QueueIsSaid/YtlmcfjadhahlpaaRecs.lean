/-
  The records of the program as plain data, and their cells.
-/
import Derived.Test.YtlmcfjadhahlpaaEqs
import Derived.Test.YtlmcfjadhahlpaaRng
namespace Go.Proofs.Ytlmcfjadhahlpaa.Hand
open Go.RowKit Go.Proofs.Ytlmcfjadhahlpaa.Sq

structure Ad where
  hi : Int
  lo : Int
  v6 : Bool
  deriving DecidableEq
structure Px where
  a : Ad
  n : Int
  deriving DecidableEq
structure Rt where
  p : Px
  hop : Int
  deriving DecidableEq
def Ad.cells (a : Ad) : List Value := [.int .u64 a.hi, .int .u64 a.lo, .bool a.v6]
def Px.cells (p : Px) : List Value := [.int .u64 p.a.hi, .int .u64 p.a.lo, .bool p.a.v6, .int .i64 p.n]
def Rt.cells (x : Rt) : List Value := [.int .u64 x.p.a.hi, .int .u64 x.p.a.lo, .bool x.p.a.v6, .int .i64 x.p.n, .int .i64 x.hop]
abbrev Ad.val (a : Ad) : Value := .agg #[.int .u64 a.hi, .int .u64 a.lo, .bool a.v6]
abbrev Px.val (p : Px) : Value := .agg #[.int .u64 p.a.hi, .int .u64 p.a.lo, .bool p.a.v6, .int .i64 p.n]
abbrev Rt.val (x : Rt) : Value := .agg #[.int .u64 x.p.a.hi, .int .u64 x.p.a.lo, .bool x.p.a.v6, .int .i64 x.p.n, .int .i64 x.hop]
def Ad.wf (a : Ad) : Prop := (0 ≤ a.hi ∧ a.hi < 18446744073709551616) ∧ (0 ≤ a.lo ∧ a.lo < 18446744073709551616)
/-- An entry that waits. -/
structure En where
  a : Ad
  x : Rt
  stale : Bool
  deriving DecidableEq
def En.cells (e : En) : List Value := [.int .u64 e.a.hi, .int .u64 e.a.lo, .bool e.a.v6, .int .u64 e.x.p.a.hi, .int .u64 e.x.p.a.lo, .bool e.x.p.a.v6, .int .i64 e.x.p.n, .int .i64 e.x.hop, .bool e.stale]
def En.wf (e : En) : Prop := e.a.wf ∧ e.x.p.a.wf
theorem map_get {α : Type} {f : α → List Value} {l : List α} {i : Nat} (h : i < l.length) : (l.map f)[i]? = some (f l[i]) := by simp [h]
end Go.Proofs.Ytlmcfjadhahlpaa.Hand
