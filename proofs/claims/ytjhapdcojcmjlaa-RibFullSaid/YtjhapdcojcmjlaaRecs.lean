/-
  The records of the program as plain data, and their cells.
-/
import Derived.Test.YtjhapdcojcmjlaaEqs
import Derived.Test.YtjhapdcojcmjlaaRng
namespace Go.Proofs.Ytjhapdcojcmjlaa.Hand
open Go.RowKit Go.Proofs.Ytjhapdcojcmjlaa.Sq

structure Ad where
  hi : Int
  lo : Int
  v6 : Bool
  deriving DecidableEq
structure Px where
  a : Ad
  n : Int
  deriving DecidableEq
structure Rt where
  p : Px
  hop : Int
  deriving DecidableEq
def Ad.cells (a : Ad) : List Value := [.int .u64 a.hi, .int .u64 a.lo, .bool a.v6]
def Px.cells (p : Px) : List Value := [.int .u64 p.a.hi, .int .u64 p.a.lo, .bool p.a.v6, .int .i64 p.n]
def Rt.cells (x : Rt) : List Value := [.int .u64 x.p.a.hi, .int .u64 x.p.a.lo, .bool x.p.a.v6, .int .i64 x.p.n, .int .i64 x.hop]
abbrev Ad.val (a : Ad) : Value := .agg #[.int .u64 a.hi, .int .u64 a.lo, .bool a.v6]
abbrev Px.val (p : Px) : Value := .agg #[.int .u64 p.a.hi, .int .u64 p.a.lo, .bool p.a.v6, .int .i64 p.n]
abbrev Rt.val (x : Rt) : Value := .agg #[.int .u64 x.p.a.hi, .int .u64 x.p.a.lo, .bool x.p.a.v6, .int .i64 x.p.n, .int .i64 x.hop]
def Ad.wf (a : Ad) : Prop := (0 ≤ a.hi ∧ a.hi < 18446744073709551616) ∧ (0 ≤ a.lo ∧ a.lo < 18446744073709551616)
/-- An entry that waits. -/
structure En where
  a : Ad
  x : Rt
  stale : Bool
  deriving DecidableEq
def En.cells (e : En) : List Value := [.int .u64 e.a.hi, .int .u64 e.a.lo, .bool e.a.v6, .int .u64 e.x.p.a.hi, .int .u64 e.x.p.a.lo, .bool e.x.p.a.v6, .int .i64 e.x.p.n, .int .i64 e.x.hop, .bool e.stale]
def En.wf (e : En) : Prop := e.a.wf ∧ e.x.p.a.wf
/-- One thing that is done. -/
structure Ac where
  what : Int
  a : Ad
  x : Rt
  n : Int
def Ac.cells (t : Ac) : List Value := [.int .i64 t.what, .int .u64 t.a.hi, .int .u64 t.a.lo, .bool t.a.v6, .int .u64 t.x.p.a.hi, .int .u64 t.x.p.a.lo, .bool t.x.p.a.v6, .int .i64 t.x.p.n, .int .i64 t.x.hop, .int .i64 t.n]
def Ac.wf (t : Ac) : Prop := t.a.wf ∧ t.x.p.a.wf
theorem map_get {α : Type} {f : α → List Value} {l : List α} {i : Nat} (h : i < l.length) : (l.map f)[i]? = some (f l[i]) := by simp [h]
theorem bOrF {x y : Bool} (hx : x = false) (hy : y = false) : (x || y) = false := by rw [hx, hy]; rfl
theorem bAndT {x y : Bool} (hx : x = true) (hy : y = true) : (x && y) = true := by rw [hx, hy]; rfl
theorem bNotF {x : Bool} (h : x = true) : (!x) = false := by rw [h]; rfl
theorem bNotT {x : Bool} (h : x = false) : (!x) = true := by rw [h]; rfl
theorem bOrT1 {x y : Bool} (hx : x = true) : (x || y) = true := by rw [hx]; rfl
theorem bOrT2 {x y : Bool} (hy : y = true) : (x || y) = true := by rw [hy, Bool.or_true]
theorem bAndF1 {x y : Bool} (hx : x = false) : (x && y) = false := by rw [hx]; rfl
theorem bAndF2 {x y : Bool} (hy : y = false) : (x && y) = false := by rw [hy, Bool.and_false]
theorem bEqT {x y : Int} (h : x = y) : (x == y) = true := beq_iff_eq.2 h
theorem bEqF {x y : Int} (h : x ≠ y) : (x == y) = false := by simpa using h
theorem bNeT {x y : Int} (h : x ≠ y) : (x != y) = true := by simpa using h
theorem bNeF {x y : Int} (h : x = y) : (x != y) = false := by simpa using h
theorem st_offF {P : Program} {ops : Array Oper} {n : Fm} {C : World → Prop} {L : Slots} {dst : Option Tmp} {op : Op} {ty : TypeId} {pos : String} {af : _} {j : Nat} {g : Bool} (hg : gval ops L j = some (.bool g)) (hq : g = false) : Stp P ops n C L ⟨dst, op, ty, pos, af, some (j, true)⟩ undef := st_offe hg hq rfl
theorem st_offT {P : Program} {ops : Array Oper} {n : Fm} {C : World → Prop} {L : Slots} {dst : Option Tmp} {op : Op} {ty : TypeId} {pos : String} {af : _} {j : Nat} {g : Bool} (hg : gval ops L j = some (.bool g)) (hq : g = true) : Stp P ops n C L ⟨dst, op, ty, pos, af, some (j, false)⟩ undef := st_offe hg hq rfl
theorem st_offu {P : Program} {ops : Array Oper} {n : Fm} {C : World → Prop} {L : Slots} {dst : Option Tmp} {op : Op} {ty : TypeId} {pos : String} {af : _} {j : Nat} {want : Bool} (hg : gval ops L j = some undef) : Stp P ops n C L ⟨dst, op, ty, pos, af, some (j, want)⟩ undef := by
  unfold Stp
  intro a ha
  have e : Region.wanted ⟨dst, op, ty, pos, af, some (j, want)⟩ (yielded ops a.tmps) = (false && (true == want)) := yielded_gv (B := false) (g := true) ha hg
  exact .inr ⟨e, rfl⟩
/-- As f_backs and f_backs2; the memory compared from its end. -/
theorem f_backsr {n : Fm} {W : World} {F : Nat → Prop} {L : Slots} {m : Mem} {l : Option Addr → Nat → Slots} {m' : Option Addr → Nat → Mem} {R : Act → World → Prop} {Q : Exit → Act → World → Prop} {A : Option Addr} {c : Nat} (hB : ∀ A c, Nxt n W F (l A c) (m' A c) R) (hc : Cov [] L (l A c)) (hs : (m' A c).reverse.Sublist m.reverse) : Fin n W F (Exit.then R Q) .normal L m := f_backs hB hc (List.reverse_sublist.1 hs)
theorem f_backsr2 {n : Fm} {W : World} {F : Nat → Prop} {L : Slots} {m : Mem} {l : Option Addr → Nat → Option Addr → Nat → Slots} {m' : Option Addr → Nat → Option Addr → Nat → Mem} {R : Act → World → Prop} {Q : Exit → Act → World → Prop} {A A2 : Option Addr} {c c2 : Nat} (hB : ∀ A c A2 c2, Nxt n W F (l A c A2 c2) (m' A c A2 c2) R) (hc : Cov [] L (l A c A2 c2)) (hs : (m' A c A2 c2).reverse.Sublist m.reverse) : Fin n W F (Exit.then R Q) .normal L m := f_backs2 hB hc (List.reverse_sublist.1 hs)
end Go.Proofs.Ytjhapdcojcmjlaa.Hand
