/-
  What the program's own types are like (written by this session's wip/tools/geneqs.py).
-/
import Derived.Test.YtfcffemglcgbnaaSq
namespace Go.Proofs.Ytfcffemglcgbnaa.Sq
set_option linter.unusedVariables false
instance : ZeroT Try.prog 3 [.int .i64 0] := ⟨by kernel_rfl⟩
instance : ZeroT Try.prog 4 [.bool false] := ⟨by kernel_rfl⟩
instance : AggT Try.prog 25 3 := ⟨by kernel_rfl⟩
instance : FldT Try.prog 25 0 0 23 := ⟨by kernel_rfl⟩
instance : FldT Try.prog 25 1 1 23 := ⟨by kernel_rfl⟩
instance : FldT Try.prog 25 2 2 4 := ⟨by kernel_rfl⟩
theorem eq_t25 (d : Nat) (x0 x1 : Int) (x2 : Bool) (y0 y1 : Int) (y2 : Bool) (w : World) : (Op.equalIn (d + 2) 25 (.agg #[.int .u64 x0, .int .u64 x1, .bool x2]) (.agg #[.int .u64 y0, .int .u64 y1, .bool y2])).run Try.prog w = .ok ((x0 == y0) && ((x1 == y1) && (x2 == y2))) w := eq_struct Try.underlying25 (by kernel_rfl) (eqf_cons (by decide) (a := .int .u64 x0) (b := .int .u64 y0) (by kernel_rfl) (by kernel_rfl) (eq_int (by kernel_rfl) (d + 0) x0 y0 w) (eqf_cons (by decide) (a := .int .u64 x1) (b := .int .u64 y1) (by kernel_rfl) (by kernel_rfl) (eq_int (by kernel_rfl) (d + 0) x1 y1 w) (eqf_last (by decide) (a := .bool x2) (b := .bool y2) (by kernel_rfl) (by kernel_rfl) (eq_bool (by kernel_rfl) (d + 0) x2 y2 w))))
instance : ZeroT Try.prog 25 [.int .u64 0, .int .u64 0, .bool false] := ⟨by kernel_rfl⟩
instance : AggT Try.prog 30 4 := ⟨by kernel_rfl⟩
instance : FldT Try.prog 30 0 0 25 := ⟨by kernel_rfl⟩
instance : FldT Try.prog 30 1 3 3 := ⟨by kernel_rfl⟩
theorem eq_t30 (d : Nat) (x0 x1 x3 : Int) (x2 : Bool) (y0 y1 y3 : Int) (y2 : Bool) (w : World) : (Op.equalIn (d + 3) 30 (.agg #[.int .u64 x0, .int .u64 x1, .bool x2, .int .i64 x3]) (.agg #[.int .u64 y0, .int .u64 y1, .bool y2, .int .i64 y3])).run Try.prog w = .ok (((x0 == y0) && ((x1 == y1) && (x2 == y2))) && (x3 == y3)) w := eq_struct Try.underlying30 (by kernel_rfl) (eqf_cons (by decide) (a := .agg #[.int .u64 x0, .int .u64 x1, .bool x2]) (b := .agg #[.int .u64 y0, .int .u64 y1, .bool y2]) (by kernel_rfl) (by kernel_rfl) (eq_t25 (d + 0) x0 x1 x2 y0 y1 y2 w) (eqf_last (by decide) (a := .int .i64 x3) (b := .int .i64 y3) (by kernel_rfl) (by kernel_rfl) (eq_int (by kernel_rfl) (d + 1) x3 y3 w)))
instance (x0 x1 x3 : Int) (x2 : Bool) (y0 y1 y3 : Int) (y2 : Bool) : EqT Try.prog 30 #[.int .u64 x0, .int .u64 x1, .bool x2, .int .i64 x3] #[.int .u64 y0, .int .u64 y1, .bool y2, .int .i64 y3] (((x0 == y0) && ((x1 == y1) && (x2 == y2))) && (x3 == y3)) := ⟨fun d w => eq_t30 (d + 6) x0 x1 x3 x2 y0 y1 y3 y2 w⟩
instance : ZeroT Try.prog 30 [.int .u64 0, .int .u64 0, .bool false, .int .i64 0] := ⟨by kernel_rfl⟩
instance : ZeroT Try.prog 42 [.slice none 0 0] := ⟨by kernel_rfl⟩
instance : AggT Try.prog 56 6 := ⟨by kernel_rfl⟩
instance : FldT Try.prog 56 0 0 30 := ⟨by kernel_rfl⟩
instance : FldT Try.prog 56 1 4 3 := ⟨by kernel_rfl⟩
instance : FldT Try.prog 56 2 5 4 := ⟨by kernel_rfl⟩
instance : ZeroT Try.prog 56 [.int .u64 0, .int .u64 0, .bool false, .int .i64 0, .int .i64 0, .bool false] := ⟨by kernel_rfl⟩
instance : AggT Try.prog 58 5 := ⟨by kernel_rfl⟩
instance : FldT Try.prog 58 0 0 30 := ⟨by kernel_rfl⟩
instance : FldT Try.prog 58 1 4 3 := ⟨by kernel_rfl⟩
instance : ZeroT Try.prog 58 [.int .u64 0, .int .u64 0, .bool false, .int .i64 0, .int .i64 0] := ⟨by kernel_rfl⟩
instance : AggT Try.prog 87 6 := ⟨by kernel_rfl⟩
instance : FldT Try.prog 87 0 0 30 := ⟨by kernel_rfl⟩
instance : FldT Try.prog 87 1 4 3 := ⟨by kernel_rfl⟩
instance : FldT Try.prog 87 2 5 4 := ⟨by kernel_rfl⟩
theorem eq_t87 (d : Nat) (x0 x1 x3 x4 : Int) (x2 x5 : Bool) (y0 y1 y3 y4 : Int) (y2 y5 : Bool) (w : World) : (Op.equalIn (d + 4) 87 (.agg #[.int .u64 x0, .int .u64 x1, .bool x2, .int .i64 x3, .int .i64 x4, .bool x5]) (.agg #[.int .u64 y0, .int .u64 y1, .bool y2, .int .i64 y3, .int .i64 y4, .bool y5])).run Try.prog w = .ok ((((x0 == y0) && ((x1 == y1) && (x2 == y2))) && (x3 == y3)) && ((x4 == y4) && (x5 == y5))) w := eq_struct Try.underlying87 (by kernel_rfl) (eqf_cons (by decide) (a := .agg #[.int .u64 x0, .int .u64 x1, .bool x2, .int .i64 x3]) (b := .agg #[.int .u64 y0, .int .u64 y1, .bool y2, .int .i64 y3]) (by kernel_rfl) (by kernel_rfl) (eq_t30 (d + 0) x0 x1 x3 x2 y0 y1 y3 y2 w) (eqf_cons (by decide) (a := .int .i64 x4) (b := .int .i64 y4) (by kernel_rfl) (by kernel_rfl) (eq_int (by kernel_rfl) (d + 2) x4 y4 w) (eqf_last (by decide) (a := .bool x5) (b := .bool y5) (by kernel_rfl) (by kernel_rfl) (eq_bool (by kernel_rfl) (d + 2) x5 y5 w))))
instance (x0 x1 x3 x4 : Int) (x2 x5 : Bool) (y0 y1 y3 y4 : Int) (y2 y5 : Bool) : EqT Try.prog 87 #[.int .u64 x0, .int .u64 x1, .bool x2, .int .i64 x3, .int .i64 x4, .bool x5] #[.int .u64 y0, .int .u64 y1, .bool y2, .int .i64 y3, .int .i64 y4, .bool y5] ((((x0 == y0) && ((x1 == y1) && (x2 == y2))) && (x3 == y3)) && ((x4 == y4) && (x5 == y5))) := ⟨fun d w => eq_t87 (d + 5) x0 x1 x3 x4 x2 x5 y0 y1 y3 y4 y2 y5 w⟩
instance : ZeroT Try.prog 87 [.int .u64 0, .int .u64 0, .bool false, .int .i64 0, .int .i64 0, .bool false] := ⟨by kernel_rfl⟩
instance : ZeroT Try.prog 132 [.slice none 0 0] := ⟨by kernel_rfl⟩
instance : AggT Try.prog 134 5 := ⟨by kernel_rfl⟩
instance : FldT Try.prog 134 0 0 30 := ⟨by kernel_rfl⟩
instance : FldT Try.prog 134 1 4 3 := ⟨by kernel_rfl⟩
instance : ZeroT Try.prog 134 [.int .u64 0, .int .u64 0, .bool false, .int .i64 0, .int .i64 0] := ⟨by kernel_rfl⟩
instance : AggT Try.prog 138 2 := ⟨by kernel_rfl⟩
instance : ArT Try.prog 138 2 23 1 := ⟨by kernel_rfl, by kernel_rfl⟩
instance : ZeroT Try.prog 138 [.int .u64 0, .int .u64 0] := ⟨by kernel_rfl⟩
instance : FldT Try.prog 163 0 0 120 := ⟨by kernel_rfl⟩
instance : FldT Try.prog 163 1 1 161 := ⟨by kernel_rfl⟩
instance : FldT Try.prog 163 2 2 3 := ⟨by kernel_rfl⟩
instance : FldT Try.prog 163 3 3 3 := ⟨by kernel_rfl⟩
instance : ZeroT Try.prog 163 [.pointer none, .map none, .int .i64 0, .int .i64 0] := ⟨by kernel_rfl⟩
instance : AggT Try.prog 168 2 := ⟨by kernel_rfl⟩
instance : ArT Try.prog 168 2 3 1 := ⟨by kernel_rfl, by kernel_rfl⟩
instance : ZeroT Try.prog 168 [.int .i64 0, .int .i64 0] := ⟨by kernel_rfl⟩
instance : AggT Try.prog 170 5 := ⟨by kernel_rfl⟩
instance : FldT Try.prog 170 0 0 168 := ⟨by kernel_rfl⟩
instance : FldT Try.prog 170 1 2 3 := ⟨by kernel_rfl⟩
instance : FldT Try.prog 170 2 3 4 := ⟨by kernel_rfl⟩
instance : FldT Try.prog 170 3 4 3 := ⟨by kernel_rfl⟩
instance : ZeroT Try.prog 170 [.int .i64 0, .int .i64 0, .int .i64 0, .bool false, .int .i64 0] := ⟨by kernel_rfl⟩
instance : FldT Try.prog 174 0 0 171 := ⟨by kernel_rfl⟩
instance : FldT Try.prog 174 1 1 172 := ⟨by kernel_rfl⟩
instance : FldT Try.prog 174 2 2 3 := ⟨by kernel_rfl⟩
instance : ZeroT Try.prog 174 [.slice none 0 0, .slice none 0 0, .int .i64 0] := ⟨by kernel_rfl⟩
instance : SlT Try.prog 22 58 5 40 := ⟨by kernel_rfl, by kernel_rfl⟩
instance : SlT Try.prog 42 56 6 48 := ⟨by kernel_rfl, by kernel_rfl⟩
instance : SlT Try.prog 45 87 6 48 := ⟨by kernel_rfl, by kernel_rfl⟩
instance : SlT Try.prog 118 5 1 1 := ⟨by kernel_rfl, by kernel_rfl⟩
instance : SlT Try.prog 132 134 5 40 := ⟨by kernel_rfl, by kernel_rfl⟩
instance : SlT Try.prog 171 170 5 40 := ⟨by kernel_rfl, by kernel_rfl⟩
instance : SlT Try.prog 172 3 1 8 := ⟨by kernel_rfl, by kernel_rfl⟩
instance : SlT Try.prog 180 30 4 32 := ⟨by kernel_rfl, by kernel_rfl⟩
end Go.Proofs.Ytfcffemglcgbnaa.Sq
