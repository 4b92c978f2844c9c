/-
  What the program's own types are like (written by this session's wip/tools/geneqs.py).
-/
import Derived.Test.YtbaeaiiohkfieaaSq
namespace Go.Proofs.Ytbaeaiiohkfieaa.Sq
set_option linter.unusedVariables false
instance : ZeroT Try.prog 2 [.int .i64 0] := ⟨by kernel_rfl⟩
instance : ZeroT Try.prog 3 [.int .i64 0] := ⟨by kernel_rfl⟩
instance : ZeroT Try.prog 4 [.bool false] := ⟨by kernel_rfl⟩
instance : ZeroT Try.prog 5 [.int .u8 0] := ⟨by kernel_rfl⟩
instance : ZeroT Try.prog 9 [.string ⟨#[]⟩] := ⟨by kernel_rfl⟩
instance : ZeroT Try.prog 12 [.int .u64 0] := ⟨by kernel_rfl⟩
instance : ZeroT Try.prog 21 [.int .i32 0] := ⟨by kernel_rfl⟩
instance : ZeroT Try.prog 22 [.int .u64 0] := ⟨by kernel_rfl⟩
instance : AggT Try.prog 23 3 := ⟨by kernel_rfl⟩
instance : FldT Try.prog 23 0 0 22 := ⟨by kernel_rfl⟩
instance : FldT Try.prog 23 1 1 22 := ⟨by kernel_rfl⟩
instance : FldT Try.prog 23 2 2 4 := ⟨by kernel_rfl⟩
theorem eq_t23 (d : Nat) (x0 x1 : Int) (x2 : Bool) (y0 y1 : Int) (y2 : Bool) (w : World) : (Op.equalIn (d + 2) 23 (.agg #[.int .u64 x0, .int .u64 x1, .bool x2]) (.agg #[.int .u64 y0, .int .u64 y1, .bool y2])).run Try.prog w = .ok ((x0 == y0) && ((x1 == y1) && (x2 == y2))) w := eq_struct Try.underlying23 (by kernel_rfl) (eqf_cons (by decide) (a := .int .u64 x0) (b := .int .u64 y0) (by kernel_rfl) (by kernel_rfl) (eq_int (by kernel_rfl) (d + 0) x0 y0 w) (eqf_cons (by decide) (a := .int .u64 x1) (b := .int .u64 y1) (by kernel_rfl) (by kernel_rfl) (eq_int (by kernel_rfl) (d + 0) x1 y1 w) (eqf_last (by decide) (a := .bool x2) (b := .bool y2) (by kernel_rfl) (by kernel_rfl) (eq_bool (by kernel_rfl) (d + 0) x2 y2 w))))
instance (x0 x1 : Int) (x2 : Bool) (y0 y1 : Int) (y2 : Bool) : EqT Try.prog 23 #[.int .u64 x0, .int .u64 x1, .bool x2] #[.int .u64 y0, .int .u64 y1, .bool y2] ((x0 == y0) && ((x1 == y1) && (x2 == y2))) := ⟨fun d w => eq_t23 (d + 7) x0 x1 x2 y0 y1 y2 w⟩
instance : ZeroT Try.prog 23 [.int .u64 0, .int .u64 0, .bool false] := ⟨by kernel_rfl⟩
instance : AggT Try.prog 24 3 := ⟨by kernel_rfl⟩
instance : FldT Try.prog 24 0 0 22 := ⟨by kernel_rfl⟩
instance : FldT Try.prog 24 1 1 22 := ⟨by kernel_rfl⟩
instance : FldT Try.prog 24 2 2 4 := ⟨by kernel_rfl⟩
theorem eq_t24 (d : Nat) (x0 x1 : Int) (x2 : Bool) (y0 y1 : Int) (y2 : Bool) (w : World) : (Op.equalIn (d + 2) 24 (.agg #[.int .u64 x0, .int .u64 x1, .bool x2]) (.agg #[.int .u64 y0, .int .u64 y1, .bool y2])).run Try.prog w = .ok ((x0 == y0) && ((x1 == y1) && (x2 == y2))) w := eq_struct Try.underlying24 (by kernel_rfl) (eqf_cons (by decide) (a := .int .u64 x0) (b := .int .u64 y0) (by kernel_rfl) (by kernel_rfl) (eq_int (by kernel_rfl) (d + 0) x0 y0 w) (eqf_cons (by decide) (a := .int .u64 x1) (b := .int .u64 y1) (by kernel_rfl) (by kernel_rfl) (eq_int (by kernel_rfl) (d + 0) x1 y1 w) (eqf_last (by decide) (a := .bool x2) (b := .bool y2) (by kernel_rfl) (by kernel_rfl) (eq_bool (by kernel_rfl) (d + 0) x2 y2 w))))
instance (x0 x1 : Int) (x2 : Bool) (y0 y1 : Int) (y2 : Bool) : EqT Try.prog 24 #[.int .u64 x0, .int .u64 x1, .bool x2] #[.int .u64 y0, .int .u64 y1, .bool y2] ((x0 == y0) && ((x1 == y1) && (x2 == y2))) := ⟨fun d w => eq_t24 (d + 7) x0 x1 x2 y0 y1 y2 w⟩
instance : ZeroT Try.prog 24 [.int .u64 0, .int .u64 0, .bool false] := ⟨by kernel_rfl⟩
instance : AggT Try.prog 33 4 := ⟨by kernel_rfl⟩
instance : FldT Try.prog 33 0 0 24 := ⟨by kernel_rfl⟩
instance : FldT Try.prog 33 1 3 3 := ⟨by kernel_rfl⟩
theorem eq_t33 (d : Nat) (x0 x1 x3 : Int) (x2 : Bool) (y0 y1 y3 : Int) (y2 : Bool) (w : World) : (Op.equalIn (d + 3) 33 (.agg #[.int .u64 x0, .int .u64 x1, .bool x2, .int .i64 x3]) (.agg #[.int .u64 y0, .int .u64 y1, .bool y2, .int .i64 y3])).run Try.prog w = .ok (((x0 == y0) && ((x1 == y1) && (x2 == y2))) && (x3 == y3)) w := eq_struct Try.underlying33 (by kernel_rfl) (eqf_cons (by decide) (a := .agg #[.int .u64 x0, .int .u64 x1, .bool x2]) (b := .agg #[.int .u64 y0, .int .u64 y1, .bool y2]) (by kernel_rfl) (by kernel_rfl) (eq_t24 (d + 0) x0 x1 x2 y0 y1 y2 w) (eqf_last (by decide) (a := .int .i64 x3) (b := .int .i64 y3) (by kernel_rfl) (by kernel_rfl) (eq_int (by kernel_rfl) (d + 1) x3 y3 w)))
instance (x0 x1 x3 : Int) (x2 : Bool) (y0 y1 y3 : Int) (y2 : Bool) : EqT Try.prog 33 #[.int .u64 x0, .int .u64 x1, .bool x2, .int .i64 x3] #[.int .u64 y0, .int .u64 y1, .bool y2, .int .i64 y3] (((x0 == y0) && ((x1 == y1) && (x2 == y2))) && (x3 == y3)) := ⟨fun d w => eq_t33 (d + 6) x0 x1 x3 x2 y0 y1 y3 y2 w⟩
instance : ZeroT Try.prog 33 [.int .u64 0, .int .u64 0, .bool false, .int .i64 0] := ⟨by kernel_rfl⟩
instance : AggT Try.prog 34 4 := ⟨by kernel_rfl⟩
instance : FldT Try.prog 34 0 0 24 := ⟨by kernel_rfl⟩
instance : FldT Try.prog 34 1 3 3 := ⟨by kernel_rfl⟩
theorem eq_t34 (d : Nat) (x0 x1 x3 : Int) (x2 : Bool) (y0 y1 y3 : Int) (y2 : Bool) (w : World) : (Op.equalIn (d + 3) 34 (.agg #[.int .u64 x0, .int .u64 x1, .bool x2, .int .i64 x3]) (.agg #[.int .u64 y0, .int .u64 y1, .bool y2, .int .i64 y3])).run Try.prog w = .ok (((x0 == y0) && ((x1 == y1) && (x2 == y2))) && (x3 == y3)) w := eq_struct Try.underlying34 (by kernel_rfl) (eqf_cons (by decide) (a := .agg #[.int .u64 x0, .int .u64 x1, .bool x2]) (b := .agg #[.int .u64 y0, .int .u64 y1, .bool y2]) (by kernel_rfl) (by kernel_rfl) (eq_t24 (d + 0) x0 x1 x2 y0 y1 y2 w) (eqf_last (by decide) (a := .int .i64 x3) (b := .int .i64 y3) (by kernel_rfl) (by kernel_rfl) (eq_int (by kernel_rfl) (d + 1) x3 y3 w)))
instance (x0 x1 x3 : Int) (x2 : Bool) (y0 y1 y3 : Int) (y2 : Bool) : EqT Try.prog 34 #[.int .u64 x0, .int .u64 x1, .bool x2, .int .i64 x3] #[.int .u64 y0, .int .u64 y1, .bool y2, .int .i64 y3] (((x0 == y0) && ((x1 == y1) && (x2 == y2))) && (x3 == y3)) := ⟨fun d w => eq_t34 (d + 6) x0 x1 x3 x2 y0 y1 y3 y2 w⟩
instance : ZeroT Try.prog 34 [.int .u64 0, .int .u64 0, .bool false, .int .i64 0] := ⟨by kernel_rfl⟩
instance : ZeroT Try.prog 41 [.int .i64 0] := ⟨by kernel_rfl⟩
instance : AggT Try.prog 57 2 := ⟨by kernel_rfl⟩
instance : ZeroT Try.prog 57 [.int .u64 0, .int .u64 0] := ⟨by kernel_rfl⟩
instance : AggT Try.prog 58 2 := ⟨by kernel_rfl⟩
instance : ZeroT Try.prog 58 [.int .u64 0, .int .u64 0] := ⟨by kernel_rfl⟩
instance : ZeroT Try.prog 63 [.int .u64 0] := ⟨by kernel_rfl⟩
instance : ZeroT Try.prog 84 [.int .u32 0] := ⟨by kernel_rfl⟩
end Go.Proofs.Ytbaeaiiohkfieaa.Sq
