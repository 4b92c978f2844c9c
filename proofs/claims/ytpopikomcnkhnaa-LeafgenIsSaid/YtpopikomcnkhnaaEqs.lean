/-
  What the program's own types are like (written by this session's wip/tools/geneqs.py).
-/
import Derived.Test.YtpopikomcnkhnaaSq
namespace Go.Proofs.Ytpopikomcnkhnaa.Sq
set_option linter.unusedVariables false
instance : ZeroT Try.prog 3 [.int .i64 0] := ⟨by kernel_rfl⟩
instance : ZeroT Try.prog 4 [.bool false] := ⟨by kernel_rfl⟩
instance : AggT Try.prog 24 3 := ⟨by kernel_rfl⟩
instance : FldT Try.prog 24 0 0 22 := ⟨by kernel_rfl⟩
instance : FldT Try.prog 24 1 1 22 := ⟨by kernel_rfl⟩
instance : FldT Try.prog 24 2 2 4 := ⟨by kernel_rfl⟩
theorem eq_t24 (d : Nat) (x0 x1 : Int) (x2 : Bool) (y0 y1 : Int) (y2 : Bool) (w : World) : (Op.equalIn (d + 2) 24 (.agg #[.int .u64 x0, .int .u64 x1, .bool x2]) (.agg #[.int .u64 y0, .int .u64 y1, .bool y2])).run Try.prog w = .ok ((x0 == y0) && ((x1 == y1) && (x2 == y2))) w := eq_struct Try.underlying24 (by kernel_rfl) (eqf_cons (by decide) (a := .int .u64 x0) (b := .int .u64 y0) (by kernel_rfl) (by kernel_rfl) (eq_int (by kernel_rfl) (d + 0) x0 y0 w) (eqf_cons (by decide) (a := .int .u64 x1) (b := .int .u64 y1) (by kernel_rfl) (by kernel_rfl) (eq_int (by kernel_rfl) (d + 0) x1 y1 w) (eqf_last (by decide) (a := .bool x2) (b := .bool y2) (by kernel_rfl) (by kernel_rfl) (eq_bool (by kernel_rfl) (d + 0) x2 y2 w))))
instance : ZeroT Try.prog 24 [.int .u64 0, .int .u64 0, .bool false] := ⟨by kernel_rfl⟩
instance : AggT Try.prog 26 4 := ⟨by kernel_rfl⟩
instance : FldT Try.prog 26 0 0 24 := ⟨by kernel_rfl⟩
instance : FldT Try.prog 26 1 3 3 := ⟨by kernel_rfl⟩
theorem eq_t26 (d : Nat) (x0 x1 x3 : Int) (x2 : Bool) (y0 y1 y3 : Int) (y2 : Bool) (w : World) : (Op.equalIn (d + 3) 26 (.agg #[.int .u64 x0, .int .u64 x1, .bool x2, .int .i64 x3]) (.agg #[.int .u64 y0, .int .u64 y1, .bool y2, .int .i64 y3])).run Try.prog w = .ok (((x0 == y0) && ((x1 == y1) && (x2 == y2))) && (x3 == y3)) w := eq_struct Try.underlying26 (by kernel_rfl) (eqf_cons (by decide) (a := .agg #[.int .u64 x0, .int .u64 x1, .bool x2]) (b := .agg #[.int .u64 y0, .int .u64 y1, .bool y2]) (by kernel_rfl) (by kernel_rfl) (eq_t24 (d + 0) x0 x1 x2 y0 y1 y2 w) (eqf_last (by decide) (a := .int .i64 x3) (b := .int .i64 y3) (by kernel_rfl) (by kernel_rfl) (eq_int (by kernel_rfl) (d + 1) x3 y3 w)))
instance (x0 x1 x3 : Int) (x2 : Bool) (y0 y1 y3 : Int) (y2 : Bool) : EqT Try.prog 26 #[.int .u64 x0, .int .u64 x1, .bool x2, .int .i64 x3] #[.int .u64 y0, .int .u64 y1, .bool y2, .int .i64 y3] (((x0 == y0) && ((x1 == y1) && (x2 == y2))) && (x3 == y3)) := ⟨fun d w => eq_t26 (d + 6) x0 x1 x3 x2 y0 y1 y3 y2 w⟩
instance : ZeroT Try.prog 26 [.int .u64 0, .int .u64 0, .bool false, .int .i64 0] := ⟨by kernel_rfl⟩
instance : FldT Try.prog 32 0 0 29 := ⟨by kernel_rfl⟩
instance : FldT Try.prog 32 1 1 30 := ⟨by kernel_rfl⟩
instance : FldT Try.prog 32 2 2 3 := ⟨by kernel_rfl⟩
instance : FldT Try.prog 32 3 3 3 := ⟨by kernel_rfl⟩
instance : ZeroT Try.prog 32 [.pointer none, .map none, .int .i64 0, .int .i64 0] := ⟨by kernel_rfl⟩
instance : AggT Try.prog 37 5 := ⟨by kernel_rfl⟩
instance : FldT Try.prog 37 0 0 26 := ⟨by kernel_rfl⟩
instance : FldT Try.prog 37 1 4 3 := ⟨by kernel_rfl⟩
theorem eq_t37 (d : Nat) (x0 x1 x3 x4 : Int) (x2 : Bool) (y0 y1 y3 y4 : Int) (y2 : Bool) (w : World) : (Op.equalIn (d + 4) 37 (.agg #[.int .u64 x0, .int .u64 x1, .bool x2, .int .i64 x3, .int .i64 x4]) (.agg #[.int .u64 y0, .int .u64 y1, .bool y2, .int .i64 y3, .int .i64 y4])).run Try.prog w = .ok ((((x0 == y0) && ((x1 == y1) && (x2 == y2))) && (x3 == y3)) && (x4 == y4)) w := eq_struct Try.underlying37 (by kernel_rfl) (eqf_cons (by decide) (a := .agg #[.int .u64 x0, .int .u64 x1, .bool x2, .int .i64 x3]) (b := .agg #[.int .u64 y0, .int .u64 y1, .bool y2, .int .i64 y3]) (by kernel_rfl) (by kernel_rfl) (eq_t26 (d + 0) x0 x1 x3 x2 y0 y1 y3 y2 w) (eqf_last (by decide) (a := .int .i64 x4) (b := .int .i64 y4) (by kernel_rfl) (by kernel_rfl) (eq_int (by kernel_rfl) (d + 2) x4 y4 w)))
instance (x0 x1 x3 x4 : Int) (x2 : Bool) (y0 y1 y3 y4 : Int) (y2 : Bool) : EqT Try.prog 37 #[.int .u64 x0, .int .u64 x1, .bool x2, .int .i64 x3, .int .i64 x4] #[.int .u64 y0, .int .u64 y1, .bool y2, .int .i64 y3, .int .i64 y4] ((((x0 == y0) && ((x1 == y1) && (x2 == y2))) && (x3 == y3)) && (x4 == y4)) := ⟨fun d w => eq_t37 (d + 5) x0 x1 x3 x4 x2 y0 y1 y3 y4 y2 w⟩
instance : ZeroT Try.prog 37 [.int .u64 0, .int .u64 0, .bool false, .int .i64 0, .int .i64 0] := ⟨by kernel_rfl⟩
instance : AggT Try.prog 61 2 := ⟨by kernel_rfl⟩
instance : FldT Try.prog 61 0 0 59 := ⟨by kernel_rfl⟩
instance : FldT Try.prog 61 1 1 3 := ⟨by kernel_rfl⟩
instance : ZeroT Try.prog 61 [.slice none 0 0, .int .i64 0] := ⟨by kernel_rfl⟩
instance : AggT Try.prog 63 4 := ⟨by kernel_rfl⟩
instance : FldT Try.prog 63 0 0 61 := ⟨by kernel_rfl⟩
instance : FldT Try.prog 63 1 2 3 := ⟨by kernel_rfl⟩
instance : FldT Try.prog 63 2 3 3 := ⟨by kernel_rfl⟩
instance : ZeroT Try.prog 63 [.slice none 0 0, .int .i64 0, .int .i64 0, .int .i64 0] := ⟨by kernel_rfl⟩
instance : ZeroT Try.prog 101 [.slice none 0 0] := ⟨by kernel_rfl⟩
instance : AggT Try.prog 103 5 := ⟨by kernel_rfl⟩
instance : FldT Try.prog 103 0 0 26 := ⟨by kernel_rfl⟩
instance : FldT Try.prog 103 1 4 3 := ⟨by kernel_rfl⟩
instance : ZeroT Try.prog 103 [.int .u64 0, .int .u64 0, .bool false, .int .i64 0, .int .i64 0] := ⟨by kernel_rfl⟩
instance : AggT Try.prog 129 2 := ⟨by kernel_rfl⟩
instance : ArT Try.prog 129 2 22 1 := ⟨by kernel_rfl, by kernel_rfl⟩
instance : ZeroT Try.prog 129 [.int .u64 0, .int .u64 0] := ⟨by kernel_rfl⟩
instance : AggT Try.prog 134 2 := ⟨by kernel_rfl⟩
instance : ArT Try.prog 134 2 3 1 := ⟨by kernel_rfl, by kernel_rfl⟩
instance : ZeroT Try.prog 134 [.int .i64 0, .int .i64 0] := ⟨by kernel_rfl⟩
instance : AggT Try.prog 136 5 := ⟨by kernel_rfl⟩
instance : FldT Try.prog 136 0 0 134 := ⟨by kernel_rfl⟩
instance : FldT Try.prog 136 1 2 3 := ⟨by kernel_rfl⟩
instance : FldT Try.prog 136 2 3 4 := ⟨by kernel_rfl⟩
instance : FldT Try.prog 136 3 4 3 := ⟨by kernel_rfl⟩
instance : ZeroT Try.prog 136 [.int .i64 0, .int .i64 0, .int .i64 0, .bool false, .int .i64 0] := ⟨by kernel_rfl⟩
instance : FldT Try.prog 139 0 0 137 := ⟨by kernel_rfl⟩
instance : FldT Try.prog 139 1 1 47 := ⟨by kernel_rfl⟩
instance : FldT Try.prog 139 2 2 3 := ⟨by kernel_rfl⟩
instance : ZeroT Try.prog 139 [.slice none 0 0, .slice none 0 0, .int .i64 0] := ⟨by kernel_rfl⟩
instance : AggT Try.prog 165 5 := ⟨by kernel_rfl⟩
instance : FldT Try.prog 165 0 0 26 := ⟨by kernel_rfl⟩
instance : FldT Try.prog 165 1 4 3 := ⟨by kernel_rfl⟩
instance : ZeroT Try.prog 165 [.int .u64 0, .int .u64 0, .bool false, .int .i64 0, .int .i64 0] := ⟨by kernel_rfl⟩
instance : SlT Try.prog 45 37 5 40 := ⟨by kernel_rfl, by kernel_rfl⟩
instance : SlT Try.prog 47 3 1 8 := ⟨by kernel_rfl, by kernel_rfl⟩
instance : SlT Try.prog 59 165 5 40 := ⟨by kernel_rfl, by kernel_rfl⟩
instance : SlT Try.prog 94 5 1 1 := ⟨by kernel_rfl, by kernel_rfl⟩
instance : SlT Try.prog 101 103 5 40 := ⟨by kernel_rfl, by kernel_rfl⟩
instance : SlT Try.prog 137 136 5 40 := ⟨by kernel_rfl, by kernel_rfl⟩
end Go.Proofs.Ytpopikomcnkhnaa.Sq
