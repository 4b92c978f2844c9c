/-
  What the program's own types are like (written by this session's wip/tools/geneqs.py).
-/
import Derived.Test.YtlmcfjadhahlpaaSq
namespace Go.Proofs.Ytlmcfjadhahlpaa.Sq
set_option linter.unusedVariables false
instance : ZeroT Try.prog 2 [.int .i64 0] := ⟨by kernel_rfl⟩
instance : ZeroT Try.prog 3 [.int .i64 0] := ⟨by kernel_rfl⟩
instance : ZeroT Try.prog 4 [.bool false] := ⟨by kernel_rfl⟩
instance : ZeroT Try.prog 5 [.int .u8 0] := ⟨by kernel_rfl⟩
instance : ZeroT Try.prog 9 [.string ⟨#[]⟩] := ⟨by kernel_rfl⟩
instance : ZeroT Try.prog 12 [.int .u64 0] := ⟨by kernel_rfl⟩
instance : ZeroT Try.prog 15 [.pointer none] := ⟨by kernel_rfl⟩
instance : ZeroT Try.prog 16 [.pointer none] := ⟨by kernel_rfl⟩
instance : ZeroT Try.prog 17 [.pointer none] := ⟨by kernel_rfl⟩
instance : ZeroT Try.prog 21 [.int .i32 0] := ⟨by kernel_rfl⟩
instance : ZeroT Try.prog 22 [.slice none 0 0] := ⟨by kernel_rfl⟩
instance : ZeroT Try.prog 24 [.slice none 0 0] := ⟨by kernel_rfl⟩
instance : AggT Try.prog 25 2 := ⟨by kernel_rfl⟩
instance : FldT Try.prog 25 0 0 24 := ⟨by kernel_rfl⟩
instance : FldT Try.prog 25 1 1 3 := ⟨by kernel_rfl⟩
instance : ZeroT Try.prog 25 [.slice none 0 0, .int .i64 0] := ⟨by kernel_rfl⟩
instance : AggT Try.prog 26 2 := ⟨by kernel_rfl⟩
instance : FldT Try.prog 26 0 0 24 := ⟨by kernel_rfl⟩
instance : FldT Try.prog 26 1 1 3 := ⟨by kernel_rfl⟩
instance : ZeroT Try.prog 26 [.slice none 0 0, .int .i64 0] := ⟨by kernel_rfl⟩
instance : ZeroT Try.prog 28 [.slice none 0 0] := ⟨by kernel_rfl⟩
instance : AggT Try.prog 29 2 := ⟨by kernel_rfl⟩
instance : FldT Try.prog 29 0 0 28 := ⟨by kernel_rfl⟩
instance : FldT Try.prog 29 1 1 3 := ⟨by kernel_rfl⟩
instance : ZeroT Try.prog 29 [.slice none 0 0, .int .i64 0] := ⟨by kernel_rfl⟩
instance : AggT Try.prog 30 2 := ⟨by kernel_rfl⟩
instance : FldT Try.prog 30 0 0 28 := ⟨by kernel_rfl⟩
instance : FldT Try.prog 30 1 1 3 := ⟨by kernel_rfl⟩
instance : ZeroT Try.prog 30 [.slice none 0 0, .int .i64 0] := ⟨by kernel_rfl⟩
instance : ZeroT Try.prog 32 [.int .u64 0] := ⟨by kernel_rfl⟩
instance : AggT Try.prog 33 3 := ⟨by kernel_rfl⟩
instance : FldT Try.prog 33 0 0 32 := ⟨by kernel_rfl⟩
instance : FldT Try.prog 33 1 1 32 := ⟨by kernel_rfl⟩
instance : FldT Try.prog 33 2 2 4 := ⟨by kernel_rfl⟩
theorem eq_t33 (d : Nat) (x0 x1 : Int) (x2 : Bool) (y0 y1 : Int) (y2 : Bool) (w : World) : (Op.equalIn (d + 2) 33 (.agg #[.int .u64 x0, .int .u64 x1, .bool x2]) (.agg #[.int .u64 y0, .int .u64 y1, .bool y2])).run Try.prog w = .ok ((x0 == y0) && ((x1 == y1) && (x2 == y2))) w := eq_struct Try.underlying33 (by kernel_rfl) (eqf_cons (by decide) (a := .int .u64 x0) (b := .int .u64 y0) (by kernel_rfl) (by kernel_rfl) (eq_int (by kernel_rfl) (d + 0) x0 y0 w) (eqf_cons (by decide) (a := .int .u64 x1) (b := .int .u64 y1) (by kernel_rfl) (by kernel_rfl) (eq_int (by kernel_rfl) (d + 0) x1 y1 w) (eqf_last (by decide) (a := .bool x2) (b := .bool y2) (by kernel_rfl) (by kernel_rfl) (eq_bool (by kernel_rfl) (d + 0) x2 y2 w))))
instance (x0 x1 : Int) (x2 : Bool) (y0 y1 : Int) (y2 : Bool) : EqT Try.prog 33 #[.int .u64 x0, .int .u64 x1, .bool x2] #[.int .u64 y0, .int .u64 y1, .bool y2] ((x0 == y0) && ((x1 == y1) && (x2 == y2))) := ⟨fun d w => eq_t33 (d + 7) x0 x1 x2 y0 y1 y2 w⟩
instance : ZeroT Try.prog 33 [.int .u64 0, .int .u64 0, .bool false] := ⟨by kernel_rfl⟩
instance : AggT Try.prog 34 3 := ⟨by kernel_rfl⟩
instance : FldT Try.prog 34 0 0 32 := ⟨by kernel_rfl⟩
instance : FldT Try.prog 34 1 1 32 := ⟨by kernel_rfl⟩
instance : FldT Try.prog 34 2 2 4 := ⟨by kernel_rfl⟩
theorem eq_t34 (d : Nat) (x0 x1 : Int) (x2 : Bool) (y0 y1 : Int) (y2 : Bool) (w : World) : (Op.equalIn (d + 2) 34 (.agg #[.int .u64 x0, .int .u64 x1, .bool x2]) (.agg #[.int .u64 y0, .int .u64 y1, .bool y2])).run Try.prog w = .ok ((x0 == y0) && ((x1 == y1) && (x2 == y2))) w := eq_struct Try.underlying34 (by kernel_rfl) (eqf_cons (by decide) (a := .int .u64 x0) (b := .int .u64 y0) (by kernel_rfl) (by kernel_rfl) (eq_int (by kernel_rfl) (d + 0) x0 y0 w) (eqf_cons (by decide) (a := .int .u64 x1) (b := .int .u64 y1) (by kernel_rfl) (by kernel_rfl) (eq_int (by kernel_rfl) (d + 0) x1 y1 w) (eqf_last (by decide) (a := .bool x2) (b := .bool y2) (by kernel_rfl) (by kernel_rfl) (eq_bool (by kernel_rfl) (d + 0) x2 y2 w))))
instance (x0 x1 : Int) (x2 : Bool) (y0 y1 : Int) (y2 : Bool) : EqT Try.prog 34 #[.int .u64 x0, .int .u64 x1, .bool x2] #[.int .u64 y0, .int .u64 y1, .bool y2] ((x0 == y0) && ((x1 == y1) && (x2 == y2))) := ⟨fun d w => eq_t34 (d + 7) x0 x1 x2 y0 y1 y2 w⟩
instance : ZeroT Try.prog 34 [.int .u64 0, .int .u64 0, .bool false] := ⟨by kernel_rfl⟩
instance : AggT Try.prog 35 4 := ⟨by kernel_rfl⟩
instance : FldT Try.prog 35 0 0 34 := ⟨by kernel_rfl⟩
instance : FldT Try.prog 35 1 3 3 := ⟨by kernel_rfl⟩
theorem eq_t35 (d : Nat) (x0 x1 x3 : Int) (x2 : Bool) (y0 y1 y3 : Int) (y2 : Bool) (w : World) : (Op.equalIn (d + 3) 35 (.agg #[.int .u64 x0, .int .u64 x1, .bool x2, .int .i64 x3]) (.agg #[.int .u64 y0, .int .u64 y1, .bool y2, .int .i64 y3])).run Try.prog w = .ok (((x0 == y0) && ((x1 == y1) && (x2 == y2))) && (x3 == y3)) w := eq_struct Try.underlying35 (by kernel_rfl) (eqf_cons (by decide) (a := .agg #[.int .u64 x0, .int .u64 x1, .bool x2]) (b := .agg #[.int .u64 y0, .int .u64 y1, .bool y2]) (by kernel_rfl) (by kernel_rfl) (eq_t34 (d + 0) x0 x1 x2 y0 y1 y2 w) (eqf_last (by decide) (a := .int .i64 x3) (b := .int .i64 y3) (by kernel_rfl) (by kernel_rfl) (eq_int (by kernel_rfl) (d + 1) x3 y3 w)))
instance (x0 x1 x3 : Int) (x2 : Bool) (y0 y1 y3 : Int) (y2 : Bool) : EqT Try.prog 35 #[.int .u64 x0, .int .u64 x1, .bool x2, .int .i64 x3] #[.int .u64 y0, .int .u64 y1, .bool y2, .int .i64 y3] (((x0 == y0) && ((x1 == y1) && (x2 == y2))) && (x3 == y3)) := ⟨fun d w => eq_t35 (d + 6) x0 x1 x3 x2 y0 y1 y3 y2 w⟩
instance : ZeroT Try.prog 35 [.int .u64 0, .int .u64 0, .bool false, .int .i64 0] := ⟨by kernel_rfl⟩
instance : AggT Try.prog 36 4 := ⟨by kernel_rfl⟩
instance : FldT Try.prog 36 0 0 34 := ⟨by kernel_rfl⟩
instance : FldT Try.prog 36 1 3 3 := ⟨by kernel_rfl⟩
theorem eq_t36 (d : Nat) (x0 x1 x3 : Int) (x2 : Bool) (y0 y1 y3 : Int) (y2 : Bool) (w : World) : (Op.equalIn (d + 3) 36 (.agg #[.int .u64 x0, .int .u64 x1, .bool x2, .int .i64 x3]) (.agg #[.int .u64 y0, .int .u64 y1, .bool y2, .int .i64 y3])).run Try.prog w = .ok (((x0 == y0) && ((x1 == y1) && (x2 == y2))) && (x3 == y3)) w := eq_struct Try.underlying36 (by kernel_rfl) (eqf_cons (by decide) (a := .agg #[.int .u64 x0, .int .u64 x1, .bool x2]) (b := .agg #[.int .u64 y0, .int .u64 y1, .bool y2]) (by kernel_rfl) (by kernel_rfl) (eq_t34 (d + 0) x0 x1 x2 y0 y1 y2 w) (eqf_last (by decide) (a := .int .i64 x3) (b := .int .i64 y3) (by kernel_rfl) (by kernel_rfl) (eq_int (by kernel_rfl) (d + 1) x3 y3 w)))
instance (x0 x1 x3 : Int) (x2 : Bool) (y0 y1 y3 : Int) (y2 : Bool) : EqT Try.prog 36 #[.int .u64 x0, .int .u64 x1, .bool x2, .int .i64 x3] #[.int .u64 y0, .int .u64 y1, .bool y2, .int .i64 y3] (((x0 == y0) && ((x1 == y1) && (x2 == y2))) && (x3 == y3)) := ⟨fun d w => eq_t36 (d + 6) x0 x1 x3 x2 y0 y1 y3 y2 w⟩
instance : ZeroT Try.prog 36 [.int .u64 0, .int .u64 0, .bool false, .int .i64 0] := ⟨by kernel_rfl⟩
instance : AggT Try.prog 37 5 := ⟨by kernel_rfl⟩
instance : FldT Try.prog 37 0 0 36 := ⟨by kernel_rfl⟩
instance : FldT Try.prog 37 1 4 3 := ⟨by kernel_rfl⟩
theorem eq_t37 (d : Nat) (x0 x1 x3 x4 : Int) (x2 : Bool) (y0 y1 y3 y4 : Int) (y2 : Bool) (w : World) : (Op.equalIn (d + 4) 37 (.agg #[.int .u64 x0, .int .u64 x1, .bool x2, .int .i64 x3, .int .i64 x4]) (.agg #[.int .u64 y0, .int .u64 y1, .bool y2, .int .i64 y3, .int .i64 y4])).run Try.prog w = .ok ((((x0 == y0) && ((x1 == y1) && (x2 == y2))) && (x3 == y3)) && (x4 == y4)) w := eq_struct Try.underlying37 (by kernel_rfl) (eqf_cons (by decide) (a := .agg #[.int .u64 x0, .int .u64 x1, .bool x2, .int .i64 x3]) (b := .agg #[.int .u64 y0, .int .u64 y1, .bool y2, .int .i64 y3]) (by kernel_rfl) (by kernel_rfl) (eq_t36 (d + 0) x0 x1 x3 x2 y0 y1 y3 y2 w) (eqf_last (by decide) (a := .int .i64 x4) (b := .int .i64 y4) (by kernel_rfl) (by kernel_rfl) (eq_int (by kernel_rfl) (d + 2) x4 y4 w)))
instance (x0 x1 x3 x4 : Int) (x2 : Bool) (y0 y1 y3 y4 : Int) (y2 : Bool) : EqT Try.prog 37 #[.int .u64 x0, .int .u64 x1, .bool x2, .int .i64 x3, .int .i64 x4] #[.int .u64 y0, .int .u64 y1, .bool y2, .int .i64 y3, .int .i64 y4] ((((x0 == y0) && ((x1 == y1) && (x2 == y2))) && (x3 == y3)) && (x4 == y4)) := ⟨fun d w => eq_t37 (d + 5) x0 x1 x3 x4 x2 y0 y1 y3 y4 y2 w⟩
instance : ZeroT Try.prog 37 [.int .u64 0, .int .u64 0, .bool false, .int .i64 0, .int .i64 0] := ⟨by kernel_rfl⟩
instance : AggT Try.prog 38 5 := ⟨by kernel_rfl⟩
instance : FldT Try.prog 38 0 0 36 := ⟨by kernel_rfl⟩
instance : FldT Try.prog 38 1 4 3 := ⟨by kernel_rfl⟩
theorem eq_t38 (d : Nat) (x0 x1 x3 x4 : Int) (x2 : Bool) (y0 y1 y3 y4 : Int) (y2 : Bool) (w : World) : (Op.equalIn (d + 4) 38 (.agg #[.int .u64 x0, .int .u64 x1, .bool x2, .int .i64 x3, .int .i64 x4]) (.agg #[.int .u64 y0, .int .u64 y1, .bool y2, .int .i64 y3, .int .i64 y4])).run Try.prog w = .ok ((((x0 == y0) && ((x1 == y1) && (x2 == y2))) && (x3 == y3)) && (x4 == y4)) w := eq_struct Try.underlying38 (by kernel_rfl) (eqf_cons (by decide) (a := .agg #[.int .u64 x0, .int .u64 x1, .bool x2, .int .i64 x3]) (b := .agg #[.int .u64 y0, .int .u64 y1, .bool y2, .int .i64 y3]) (by kernel_rfl) (by kernel_rfl) (eq_t36 (d + 0) x0 x1 x3 x2 y0 y1 y3 y2 w) (eqf_last (by decide) (a := .int .i64 x4) (b := .int .i64 y4) (by kernel_rfl) (by kernel_rfl) (eq_int (by kernel_rfl) (d + 2) x4 y4 w)))
instance (x0 x1 x3 x4 : Int) (x2 : Bool) (y0 y1 y3 y4 : Int) (y2 : Bool) : EqT Try.prog 38 #[.int .u64 x0, .int .u64 x1, .bool x2, .int .i64 x3, .int .i64 x4] #[.int .u64 y0, .int .u64 y1, .bool y2, .int .i64 y3, .int .i64 y4] ((((x0 == y0) && ((x1 == y1) && (x2 == y2))) && (x3 == y3)) && (x4 == y4)) := ⟨fun d w => eq_t38 (d + 5) x0 x1 x3 x4 x2 y0 y1 y3 y4 y2 w⟩
instance : ZeroT Try.prog 38 [.int .u64 0, .int .u64 0, .bool false, .int .i64 0, .int .i64 0] := ⟨by kernel_rfl⟩
instance : AggT Try.prog 39 10 := ⟨by kernel_rfl⟩
instance : FldT Try.prog 39 0 0 3 := ⟨by kernel_rfl⟩
instance : FldT Try.prog 39 1 1 34 := ⟨by kernel_rfl⟩
instance : FldT Try.prog 39 2 4 38 := ⟨by kernel_rfl⟩
instance : FldT Try.prog 39 3 9 3 := ⟨by kernel_rfl⟩
instance : ZeroT Try.prog 39 [.int .i64 0, .int .u64 0, .int .u64 0, .bool false, .int .u64 0, .int .u64 0, .bool false, .int .i64 0, .int .i64 0, .int .i64 0] := ⟨by kernel_rfl⟩
instance : AggT Try.prog 40 10 := ⟨by kernel_rfl⟩
instance : FldT Try.prog 40 0 0 3 := ⟨by kernel_rfl⟩
instance : FldT Try.prog 40 1 1 34 := ⟨by kernel_rfl⟩
instance : FldT Try.prog 40 2 4 38 := ⟨by kernel_rfl⟩
instance : FldT Try.prog 40 3 9 3 := ⟨by kernel_rfl⟩
instance : ZeroT Try.prog 40 [.int .i64 0, .int .u64 0, .int .u64 0, .bool false, .int .u64 0, .int .u64 0, .bool false, .int .i64 0, .int .i64 0, .int .i64 0] := ⟨by kernel_rfl⟩
instance : AggT Try.prog 47 9 := ⟨by kernel_rfl⟩
instance : FldT Try.prog 47 0 0 34 := ⟨by kernel_rfl⟩
instance : FldT Try.prog 47 1 3 38 := ⟨by kernel_rfl⟩
instance : FldT Try.prog 47 2 8 4 := ⟨by kernel_rfl⟩
theorem eq_t47 (d : Nat) (x0 x1 x3 x4 x6 x7 : Int) (x2 x5 x8 : Bool) (y0 y1 y3 y4 y6 y7 : Int) (y2 y5 y8 : Bool) (w : World) : (Op.equalIn (d + 5) 47 (.agg #[.int .u64 x0, .int .u64 x1, .bool x2, .int .u64 x3, .int .u64 x4, .bool x5, .int .i64 x6, .int .i64 x7, .bool x8]) (.agg #[.int .u64 y0, .int .u64 y1, .bool y2, .int .u64 y3, .int .u64 y4, .bool y5, .int .i64 y6, .int .i64 y7, .bool y8])).run Try.prog w = .ok (((x0 == y0) && ((x1 == y1) && (x2 == y2))) && (((((x3 == y3) && ((x4 == y4) && (x5 == y5))) && (x6 == y6)) && (x7 == y7)) && (x8 == y8))) w := eq_struct Try.underlying47 (by kernel_rfl) (eqf_cons (by decide) (a := .agg #[.int .u64 x0, .int .u64 x1, .bool x2]) (b := .agg #[.int .u64 y0, .int .u64 y1, .bool y2]) (by kernel_rfl) (by kernel_rfl) (eq_t34 (d + 2) x0 x1 x2 y0 y1 y2 w) (eqf_cons (by decide) (a := .agg #[.int .u64 x3, .int .u64 x4, .bool x5, .int .i64 x6, .int .i64 x7]) (b := .agg #[.int .u64 y3, .int .u64 y4, .bool y5, .int .i64 y6, .int .i64 y7]) (by kernel_rfl) (by kernel_rfl) (eq_t38 (d + 0) x3 x4 x6 x7 x5 y3 y4 y6 y7 y5 w) (eqf_last (by decide) (a := .bool x8) (b := .bool y8) (by kernel_rfl) (by kernel_rfl) (eq_bool (by kernel_rfl) (d + 3) x8 y8 w))))
instance (x0 x1 x3 x4 x6 x7 : Int) (x2 x5 x8 : Bool) (y0 y1 y3 y4 y6 y7 : Int) (y2 y5 y8 : Bool) : EqT Try.prog 47 #[.int .u64 x0, .int .u64 x1, .bool x2, .int .u64 x3, .int .u64 x4, .bool x5, .int .i64 x6, .int .i64 x7, .bool x8] #[.int .u64 y0, .int .u64 y1, .bool y2, .int .u64 y3, .int .u64 y4, .bool y5, .int .i64 y6, .int .i64 y7, .bool y8] (((x0 == y0) && ((x1 == y1) && (x2 == y2))) && (((((x3 == y3) && ((x4 == y4) && (x5 == y5))) && (x6 == y6)) && (x7 == y7)) && (x8 == y8))) := ⟨fun d w => eq_t47 (d + 4) x0 x1 x3 x4 x6 x7 x2 x5 x8 y0 y1 y3 y4 y6 y7 y2 y5 y8 w⟩
instance : ZeroT Try.prog 47 [.int .u64 0, .int .u64 0, .bool false, .int .u64 0, .int .u64 0, .bool false, .int .i64 0, .int .i64 0, .bool false] := ⟨by kernel_rfl⟩
instance : AggT Try.prog 48 9 := ⟨by kernel_rfl⟩
instance : FldT Try.prog 48 0 0 34 := ⟨by kernel_rfl⟩
instance : FldT Try.prog 48 1 3 38 := ⟨by kernel_rfl⟩
instance : FldT Try.prog 48 2 8 4 := ⟨by kernel_rfl⟩
theorem eq_t48 (d : Nat) (x0 x1 x3 x4 x6 x7 : Int) (x2 x5 x8 : Bool) (y0 y1 y3 y4 y6 y7 : Int) (y2 y5 y8 : Bool) (w : World) : (Op.equalIn (d + 5) 48 (.agg #[.int .u64 x0, .int .u64 x1, .bool x2, .int .u64 x3, .int .u64 x4, .bool x5, .int .i64 x6, .int .i64 x7, .bool x8]) (.agg #[.int .u64 y0, .int .u64 y1, .bool y2, .int .u64 y3, .int .u64 y4, .bool y5, .int .i64 y6, .int .i64 y7, .bool y8])).run Try.prog w = .ok (((x0 == y0) && ((x1 == y1) && (x2 == y2))) && (((((x3 == y3) && ((x4 == y4) && (x5 == y5))) && (x6 == y6)) && (x7 == y7)) && (x8 == y8))) w := eq_struct Try.underlying48 (by kernel_rfl) (eqf_cons (by decide) (a := .agg #[.int .u64 x0, .int .u64 x1, .bool x2]) (b := .agg #[.int .u64 y0, .int .u64 y1, .bool y2]) (by kernel_rfl) (by kernel_rfl) (eq_t34 (d + 2) x0 x1 x2 y0 y1 y2 w) (eqf_cons (by decide) (a := .agg #[.int .u64 x3, .int .u64 x4, .bool x5, .int .i64 x6, .int .i64 x7]) (b := .agg #[.int .u64 y3, .int .u64 y4, .bool y5, .int .i64 y6, .int .i64 y7]) (by kernel_rfl) (by kernel_rfl) (eq_t38 (d + 0) x3 x4 x6 x7 x5 y3 y4 y6 y7 y5 w) (eqf_last (by decide) (a := .bool x8) (b := .bool y8) (by kernel_rfl) (by kernel_rfl) (eq_bool (by kernel_rfl) (d + 3) x8 y8 w))))
instance (x0 x1 x3 x4 x6 x7 : Int) (x2 x5 x8 : Bool) (y0 y1 y3 y4 y6 y7 : Int) (y2 y5 y8 : Bool) : EqT Try.prog 48 #[.int .u64 x0, .int .u64 x1, .bool x2, .int .u64 x3, .int .u64 x4, .bool x5, .int .i64 x6, .int .i64 x7, .bool x8] #[.int .u64 y0, .int .u64 y1, .bool y2, .int .u64 y3, .int .u64 y4, .bool y5, .int .i64 y6, .int .i64 y7, .bool y8] (((x0 == y0) && ((x1 == y1) && (x2 == y2))) && (((((x3 == y3) && ((x4 == y4) && (x5 == y5))) && (x6 == y6)) && (x7 == y7)) && (x8 == y8))) := ⟨fun d w => eq_t48 (d + 4) x0 x1 x3 x4 x6 x7 x2 x5 x8 y0 y1 y3 y4 y6 y7 y2 y5 y8 w⟩
instance : ZeroT Try.prog 48 [.int .u64 0, .int .u64 0, .bool false, .int .u64 0, .int .u64 0, .bool false, .int .i64 0, .int .i64 0, .bool false] := ⟨by kernel_rfl⟩
instance : AggT Try.prog 51 9 := ⟨by kernel_rfl⟩
instance : FldT Try.prog 51 0 0 34 := ⟨by kernel_rfl⟩
instance : FldT Try.prog 51 1 3 38 := ⟨by kernel_rfl⟩
instance : FldT Try.prog 51 2 8 4 := ⟨by kernel_rfl⟩
theorem eq_t51 (d : Nat) (x0 x1 x3 x4 x6 x7 : Int) (x2 x5 x8 : Bool) (y0 y1 y3 y4 y6 y7 : Int) (y2 y5 y8 : Bool) (w : World) : (Op.equalIn (d + 5) 51 (.agg #[.int .u64 x0, .int .u64 x1, .bool x2, .int .u64 x3, .int .u64 x4, .bool x5, .int .i64 x6, .int .i64 x7, .bool x8]) (.agg #[.int .u64 y0, .int .u64 y1, .bool y2, .int .u64 y3, .int .u64 y4, .bool y5, .int .i64 y6, .int .i64 y7, .bool y8])).run Try.prog w = .ok (((x0 == y0) && ((x1 == y1) && (x2 == y2))) && (((((x3 == y3) && ((x4 == y4) && (x5 == y5))) && (x6 == y6)) && (x7 == y7)) && (x8 == y8))) w := eq_struct Try.underlying51 (by kernel_rfl) (eqf_cons (by decide) (a := .agg #[.int .u64 x0, .int .u64 x1, .bool x2]) (b := .agg #[.int .u64 y0, .int .u64 y1, .bool y2]) (by kernel_rfl) (by kernel_rfl) (eq_t34 (d + 2) x0 x1 x2 y0 y1 y2 w) (eqf_cons (by decide) (a := .agg #[.int .u64 x3, .int .u64 x4, .bool x5, .int .i64 x6, .int .i64 x7]) (b := .agg #[.int .u64 y3, .int .u64 y4, .bool y5, .int .i64 y6, .int .i64 y7]) (by kernel_rfl) (by kernel_rfl) (eq_t38 (d + 0) x3 x4 x6 x7 x5 y3 y4 y6 y7 y5 w) (eqf_last (by decide) (a := .bool x8) (b := .bool y8) (by kernel_rfl) (by kernel_rfl) (eq_bool (by kernel_rfl) (d + 3) x8 y8 w))))
instance (x0 x1 x3 x4 x6 x7 : Int) (x2 x5 x8 : Bool) (y0 y1 y3 y4 y6 y7 : Int) (y2 y5 y8 : Bool) : EqT Try.prog 51 #[.int .u64 x0, .int .u64 x1, .bool x2, .int .u64 x3, .int .u64 x4, .bool x5, .int .i64 x6, .int .i64 x7, .bool x8] #[.int .u64 y0, .int .u64 y1, .bool y2, .int .u64 y3, .int .u64 y4, .bool y5, .int .i64 y6, .int .i64 y7, .bool y8] (((x0 == y0) && ((x1 == y1) && (x2 == y2))) && (((((x3 == y3) && ((x4 == y4) && (x5 == y5))) && (x6 == y6)) && (x7 == y7)) && (x8 == y8))) := ⟨fun d w => eq_t51 (d + 4) x0 x1 x3 x4 x6 x7 x2 x5 x8 y0 y1 y3 y4 y6 y7 y2 y5 y8 w⟩
instance : ZeroT Try.prog 51 [.int .u64 0, .int .u64 0, .bool false, .int .u64 0, .int .u64 0, .bool false, .int .i64 0, .int .i64 0, .bool false] := ⟨by kernel_rfl⟩
instance : ZeroT Try.prog 69 [.slice none 0 0] := ⟨by kernel_rfl⟩
instance : ZeroT Try.prog 70 [.pointer none] := ⟨by kernel_rfl⟩
instance : ZeroT Try.prog 72 [.int .i64 0] := ⟨by kernel_rfl⟩
instance : AggT Try.prog 74 6 := ⟨by kernel_rfl⟩
instance : FldT Try.prog 74 0 0 4 := ⟨by kernel_rfl⟩
instance : FldT Try.prog 74 1 1 36 := ⟨by kernel_rfl⟩
instance : FldT Try.prog 74 2 5 3 := ⟨by kernel_rfl⟩
theorem eq_t74 (d : Nat) (x1 x2 x4 x5 : Int) (x0 x3 : Bool) (y1 y2 y4 y5 : Int) (y0 y3 : Bool) (w : World) : (Op.equalIn (d + 4) 74 (.agg #[.bool x0, .int .u64 x1, .int .u64 x2, .bool x3, .int .i64 x4, .int .i64 x5]) (.agg #[.bool y0, .int .u64 y1, .int .u64 y2, .bool y3, .int .i64 y4, .int .i64 y5])).run Try.prog w = .ok ((x0 == y0) && ((((x1 == y1) && ((x2 == y2) && (x3 == y3))) && (x4 == y4)) && (x5 == y5))) w := eq_struct Try.underlying74 (by kernel_rfl) (eqf_cons (by decide) (a := .bool x0) (b := .bool y0) (by kernel_rfl) (by kernel_rfl) (eq_bool (by kernel_rfl) (d + 2) x0 y0 w) (eqf_cons (by decide) (a := .agg #[.int .u64 x1, .int .u64 x2, .bool x3, .int .i64 x4]) (b := .agg #[.int .u64 y1, .int .u64 y2, .bool y3, .int .i64 y4]) (by kernel_rfl) (by kernel_rfl) (eq_t36 (d + 0) x1 x2 x4 x3 y1 y2 y4 y3 w) (eqf_last (by decide) (a := .int .i64 x5) (b := .int .i64 y5) (by kernel_rfl) (by kernel_rfl) (eq_int (by kernel_rfl) (d + 2) x5 y5 w))))
instance (x1 x2 x4 x5 : Int) (x0 x3 : Bool) (y1 y2 y4 y5 : Int) (y0 y3 : Bool) : EqT Try.prog 74 #[.bool x0, .int .u64 x1, .int .u64 x2, .bool x3, .int .i64 x4, .int .i64 x5] #[.bool y0, .int .u64 y1, .int .u64 y2, .bool y3, .int .i64 y4, .int .i64 y5] ((x0 == y0) && ((((x1 == y1) && ((x2 == y2) && (x3 == y3))) && (x4 == y4)) && (x5 == y5))) := ⟨fun d w => eq_t74 (d + 5) x1 x2 x4 x5 x0 x3 y1 y2 y4 y5 y0 y3 w⟩
instance : ZeroT Try.prog 74 [.bool false, .int .u64 0, .int .u64 0, .bool false, .int .i64 0, .int .i64 0] := ⟨by kernel_rfl⟩
instance : AggT Try.prog 75 6 := ⟨by kernel_rfl⟩
instance : FldT Try.prog 75 0 0 4 := ⟨by kernel_rfl⟩
instance : FldT Try.prog 75 1 1 36 := ⟨by kernel_rfl⟩
instance : FldT Try.prog 75 2 5 3 := ⟨by kernel_rfl⟩
theorem eq_t75 (d : Nat) (x1 x2 x4 x5 : Int) (x0 x3 : Bool) (y1 y2 y4 y5 : Int) (y0 y3 : Bool) (w : World) : (Op.equalIn (d + 4) 75 (.agg #[.bool x0, .int .u64 x1, .int .u64 x2, .bool x3, .int .i64 x4, .int .i64 x5]) (.agg #[.bool y0, .int .u64 y1, .int .u64 y2, .bool y3, .int .i64 y4, .int .i64 y5])).run Try.prog w = .ok ((x0 == y0) && ((((x1 == y1) && ((x2 == y2) && (x3 == y3))) && (x4 == y4)) && (x5 == y5))) w := eq_struct Try.underlying75 (by kernel_rfl) (eqf_cons (by decide) (a := .bool x0) (b := .bool y0) (by kernel_rfl) (by kernel_rfl) (eq_bool (by kernel_rfl) (d + 2) x0 y0 w) (eqf_cons (by decide) (a := .agg #[.int .u64 x1, .int .u64 x2, .bool x3, .int .i64 x4]) (b := .agg #[.int .u64 y1, .int .u64 y2, .bool y3, .int .i64 y4]) (by kernel_rfl) (by kernel_rfl) (eq_t36 (d + 0) x1 x2 x4 x3 y1 y2 y4 y3 w) (eqf_last (by decide) (a := .int .i64 x5) (b := .int .i64 y5) (by kernel_rfl) (by kernel_rfl) (eq_int (by kernel_rfl) (d + 2) x5 y5 w))))
instance (x1 x2 x4 x5 : Int) (x0 x3 : Bool) (y1 y2 y4 y5 : Int) (y0 y3 : Bool) : EqT Try.prog 75 #[.bool x0, .int .u64 x1, .int .u64 x2, .bool x3, .int .i64 x4, .int .i64 x5] #[.bool y0, .int .u64 y1, .int .u64 y2, .bool y3, .int .i64 y4, .int .i64 y5] ((x0 == y0) && ((((x1 == y1) && ((x2 == y2) && (x3 == y3))) && (x4 == y4)) && (x5 == y5))) := ⟨fun d w => eq_t75 (d + 5) x1 x2 x4 x5 x0 x3 y1 y2 y4 y5 y0 y3 w⟩
instance : ZeroT Try.prog 75 [.bool false, .int .u64 0, .int .u64 0, .bool false, .int .i64 0, .int .i64 0] := ⟨by kernel_rfl⟩
instance : ZeroT Try.prog 81 [.slice none 0 0] := ⟨by kernel_rfl⟩
instance : ZeroT Try.prog 83 [.slice none 0 0] := ⟨by kernel_rfl⟩
instance : AggT Try.prog 86 5 := ⟨by kernel_rfl⟩
instance : FldT Try.prog 86 0 0 36 := ⟨by kernel_rfl⟩
instance : FldT Try.prog 86 1 4 3 := ⟨by kernel_rfl⟩
theorem eq_t86 (d : Nat) (x0 x1 x3 x4 : Int) (x2 : Bool) (y0 y1 y3 y4 : Int) (y2 : Bool) (w : World) : (Op.equalIn (d + 4) 86 (.agg #[.int .u64 x0, .int .u64 x1, .bool x2, .int .i64 x3, .int .i64 x4]) (.agg #[.int .u64 y0, .int .u64 y1, .bool y2, .int .i64 y3, .int .i64 y4])).run Try.prog w = .ok ((((x0 == y0) && ((x1 == y1) && (x2 == y2))) && (x3 == y3)) && (x4 == y4)) w := eq_struct Try.underlying86 (by kernel_rfl) (eqf_cons (by decide) (a := .agg #[.int .u64 x0, .int .u64 x1, .bool x2, .int .i64 x3]) (b := .agg #[.int .u64 y0, .int .u64 y1, .bool y2, .int .i64 y3]) (by kernel_rfl) (by kernel_rfl) (eq_t36 (d + 0) x0 x1 x3 x2 y0 y1 y3 y2 w) (eqf_last (by decide) (a := .int .i64 x4) (b := .int .i64 y4) (by kernel_rfl) (by kernel_rfl) (eq_int (by kernel_rfl) (d + 2) x4 y4 w)))
instance (x0 x1 x3 x4 : Int) (x2 : Bool) (y0 y1 y3 y4 : Int) (y2 : Bool) : EqT Try.prog 86 #[.int .u64 x0, .int .u64 x1, .bool x2, .int .i64 x3, .int .i64 x4] #[.int .u64 y0, .int .u64 y1, .bool y2, .int .i64 y3, .int .i64 y4] ((((x0 == y0) && ((x1 == y1) && (x2 == y2))) && (x3 == y3)) && (x4 == y4)) := ⟨fun d w => eq_t86 (d + 5) x0 x1 x3 x4 x2 y0 y1 y3 y4 y2 w⟩
instance : ZeroT Try.prog 86 [.int .u64 0, .int .u64 0, .bool false, .int .i64 0, .int .i64 0] := ⟨by kernel_rfl⟩
instance : AggT Try.prog 87 5 := ⟨by kernel_rfl⟩
instance : FldT Try.prog 87 0 0 36 := ⟨by kernel_rfl⟩
instance : FldT Try.prog 87 1 4 3 := ⟨by kernel_rfl⟩
theorem eq_t87 (d : Nat) (x0 x1 x3 x4 : Int) (x2 : Bool) (y0 y1 y3 y4 : Int) (y2 : Bool) (w : World) : (Op.equalIn (d + 4) 87 (.agg #[.int .u64 x0, .int .u64 x1, .bool x2, .int .i64 x3, .int .i64 x4]) (.agg #[.int .u64 y0, .int .u64 y1, .bool y2, .int .i64 y3, .int .i64 y4])).run Try.prog w = .ok ((((x0 == y0) && ((x1 == y1) && (x2 == y2))) && (x3 == y3)) && (x4 == y4)) w := eq_struct Try.underlying87 (by kernel_rfl) (eqf_cons (by decide) (a := .agg #[.int .u64 x0, .int .u64 x1, .bool x2, .int .i64 x3]) (b := .agg #[.int .u64 y0, .int .u64 y1, .bool y2, .int .i64 y3]) (by kernel_rfl) (by kernel_rfl) (eq_t36 (d + 0) x0 x1 x3 x2 y0 y1 y3 y2 w) (eqf_last (by decide) (a := .int .i64 x4) (b := .int .i64 y4) (by kernel_rfl) (by kernel_rfl) (eq_int (by kernel_rfl) (d + 2) x4 y4 w)))
instance (x0 x1 x3 x4 : Int) (x2 : Bool) (y0 y1 y3 y4 : Int) (y2 : Bool) : EqT Try.prog 87 #[.int .u64 x0, .int .u64 x1, .bool x2, .int .i64 x3, .int .i64 x4] #[.int .u64 y0, .int .u64 y1, .bool y2, .int .i64 y3, .int .i64 y4] ((((x0 == y0) && ((x1 == y1) && (x2 == y2))) && (x3 == y3)) && (x4 == y4)) := ⟨fun d w => eq_t87 (d + 5) x0 x1 x3 x4 x2 y0 y1 y3 y4 y2 w⟩
instance : ZeroT Try.prog 87 [.int .u64 0, .int .u64 0, .bool false, .int .i64 0, .int .i64 0] := ⟨by kernel_rfl⟩
instance : ZeroT Try.prog 89 [.slice none 0 0] := ⟨by kernel_rfl⟩
instance : AggT Try.prog 92 5 := ⟨by kernel_rfl⟩
instance : FldT Try.prog 92 0 0 36 := ⟨by kernel_rfl⟩
instance : FldT Try.prog 92 1 4 3 := ⟨by kernel_rfl⟩
theorem eq_t92 (d : Nat) (x0 x1 x3 x4 : Int) (x2 : Bool) (y0 y1 y3 y4 : Int) (y2 : Bool) (w : World) : (Op.equalIn (d + 4) 92 (.agg #[.int .u64 x0, .int .u64 x1, .bool x2, .int .i64 x3, .int .i64 x4]) (.agg #[.int .u64 y0, .int .u64 y1, .bool y2, .int .i64 y3, .int .i64 y4])).run Try.prog w = .ok ((((x0 == y0) && ((x1 == y1) && (x2 == y2))) && (x3 == y3)) && (x4 == y4)) w := eq_struct Try.underlying92 (by kernel_rfl) (eqf_cons (by decide) (a := .agg #[.int .u64 x0, .int .u64 x1, .bool x2, .int .i64 x3]) (b := .agg #[.int .u64 y0, .int .u64 y1, .bool y2, .int .i64 y3]) (by kernel_rfl) (by kernel_rfl) (eq_t36 (d + 0) x0 x1 x3 x2 y0 y1 y3 y2 w) (eqf_last (by decide) (a := .int .i64 x4) (b := .int .i64 y4) (by kernel_rfl) (by kernel_rfl) (eq_int (by kernel_rfl) (d + 2) x4 y4 w)))
instance (x0 x1 x3 x4 : Int) (x2 : Bool) (y0 y1 y3 y4 : Int) (y2 : Bool) : EqT Try.prog 92 #[.int .u64 x0, .int .u64 x1, .bool x2, .int .i64 x3, .int .i64 x4] #[.int .u64 y0, .int .u64 y1, .bool y2, .int .i64 y3, .int .i64 y4] ((((x0 == y0) && ((x1 == y1) && (x2 == y2))) && (x3 == y3)) && (x4 == y4)) := ⟨fun d w => eq_t92 (d + 5) x0 x1 x3 x4 x2 y0 y1 y3 y4 y2 w⟩
instance : ZeroT Try.prog 92 [.int .u64 0, .int .u64 0, .bool false, .int .i64 0, .int .i64 0] := ⟨by kernel_rfl⟩
instance : AggT Try.prog 97 2 := ⟨by kernel_rfl⟩
instance : FldT Try.prog 97 0 0 89 := ⟨by kernel_rfl⟩
instance : FldT Try.prog 97 1 1 3 := ⟨by kernel_rfl⟩
instance : ZeroT Try.prog 97 [.slice none 0 0, .int .i64 0] := ⟨by kernel_rfl⟩
instance : AggT Try.prog 98 2 := ⟨by kernel_rfl⟩
instance : FldT Try.prog 98 0 0 89 := ⟨by kernel_rfl⟩
instance : FldT Try.prog 98 1 1 3 := ⟨by kernel_rfl⟩
instance : ZeroT Try.prog 98 [.slice none 0 0, .int .i64 0] := ⟨by kernel_rfl⟩
instance : ZeroT Try.prog 104 [.slice none 0 0] := ⟨by kernel_rfl⟩
instance : ZeroT Try.prog 105 [.slice none 0 0] := ⟨by kernel_rfl⟩
instance : AggT Try.prog 106 3 := ⟨by kernel_rfl⟩
instance : FldT Try.prog 106 0 0 104 := ⟨by kernel_rfl⟩
instance : FldT Try.prog 106 1 1 105 := ⟨by kernel_rfl⟩
instance : FldT Try.prog 106 2 2 3 := ⟨by kernel_rfl⟩
instance : ZeroT Try.prog 106 [.slice none 0 0, .slice none 0 0, .int .i64 0] := ⟨by kernel_rfl⟩
instance : AggT Try.prog 107 3 := ⟨by kernel_rfl⟩
instance : FldT Try.prog 107 0 0 104 := ⟨by kernel_rfl⟩
instance : FldT Try.prog 107 1 1 105 := ⟨by kernel_rfl⟩
instance : FldT Try.prog 107 2 2 3 := ⟨by kernel_rfl⟩
instance : ZeroT Try.prog 107 [.slice none 0 0, .slice none 0 0, .int .i64 0] := ⟨by kernel_rfl⟩
instance : ZeroT Try.prog 108 [.slice none 0 0] := ⟨by kernel_rfl⟩
instance : ZeroT Try.prog 117 [.slice none 0 0] := ⟨by kernel_rfl⟩
instance : ZeroT Try.prog 122 [.pointer none] := ⟨by kernel_rfl⟩
instance : AggT Try.prog 129 2 := ⟨by kernel_rfl⟩
instance : ArT Try.prog 129 2 3 1 := ⟨by kernel_rfl, by kernel_rfl⟩
instance : ZeroT Try.prog 129 [.int .i64 0, .int .i64 0] := ⟨by kernel_rfl⟩
instance : AggT Try.prog 130 5 := ⟨by kernel_rfl⟩
instance : FldT Try.prog 130 0 0 129 := ⟨by kernel_rfl⟩
instance : FldT Try.prog 130 1 2 3 := ⟨by kernel_rfl⟩
instance : FldT Try.prog 130 2 3 4 := ⟨by kernel_rfl⟩
instance : FldT Try.prog 130 3 4 3 := ⟨by kernel_rfl⟩
instance : ZeroT Try.prog 130 [.int .i64 0, .int .i64 0, .int .i64 0, .bool false, .int .i64 0] := ⟨by kernel_rfl⟩
instance : AggT Try.prog 131 5 := ⟨by kernel_rfl⟩
instance : FldT Try.prog 131 0 0 129 := ⟨by kernel_rfl⟩
instance : FldT Try.prog 131 1 2 3 := ⟨by kernel_rfl⟩
instance : FldT Try.prog 131 2 3 4 := ⟨by kernel_rfl⟩
instance : FldT Try.prog 131 3 4 3 := ⟨by kernel_rfl⟩
instance : ZeroT Try.prog 131 [.int .i64 0, .int .i64 0, .int .i64 0, .bool false, .int .i64 0] := ⟨by kernel_rfl⟩
instance : ZeroT Try.prog 135 [.pointer none] := ⟨by kernel_rfl⟩
instance : AggT Try.prog 138 5 := ⟨by kernel_rfl⟩
instance : FldT Try.prog 138 0 0 3 := ⟨by kernel_rfl⟩
instance : FldT Try.prog 138 1 1 36 := ⟨by kernel_rfl⟩
theorem eq_t138 (d : Nat) (x0 x1 x2 x4 : Int) (x3 : Bool) (y0 y1 y2 y4 : Int) (y3 : Bool) (w : World) : (Op.equalIn (d + 4) 138 (.agg #[.int .i64 x0, .int .u64 x1, .int .u64 x2, .bool x3, .int .i64 x4]) (.agg #[.int .i64 y0, .int .u64 y1, .int .u64 y2, .bool y3, .int .i64 y4])).run Try.prog w = .ok ((x0 == y0) && (((x1 == y1) && ((x2 == y2) && (x3 == y3))) && (x4 == y4))) w := eq_struct Try.underlying138 (by kernel_rfl) (eqf_cons (by decide) (a := .int .i64 x0) (b := .int .i64 y0) (by kernel_rfl) (by kernel_rfl) (eq_int (by kernel_rfl) (d + 2) x0 y0 w) (eqf_last (by decide) (a := .agg #[.int .u64 x1, .int .u64 x2, .bool x3, .int .i64 x4]) (b := .agg #[.int .u64 y1, .int .u64 y2, .bool y3, .int .i64 y4]) (by kernel_rfl) (by kernel_rfl) (eq_t36 (d + 0) x1 x2 x4 x3 y1 y2 y4 y3 w)))
instance (x0 x1 x2 x4 : Int) (x3 : Bool) (y0 y1 y2 y4 : Int) (y3 : Bool) : EqT Try.prog 138 #[.int .i64 x0, .int .u64 x1, .int .u64 x2, .bool x3, .int .i64 x4] #[.int .i64 y0, .int .u64 y1, .int .u64 y2, .bool y3, .int .i64 y4] ((x0 == y0) && (((x1 == y1) && ((x2 == y2) && (x3 == y3))) && (x4 == y4))) := ⟨fun d w => eq_t138 (d + 5) x0 x1 x2 x4 x3 y0 y1 y2 y4 y3 w⟩
instance : ZeroT Try.prog 138 [.int .i64 0, .int .u64 0, .int .u64 0, .bool false, .int .i64 0] := ⟨by kernel_rfl⟩
instance : AggT Try.prog 139 5 := ⟨by kernel_rfl⟩
instance : FldT Try.prog 139 0 0 3 := ⟨by kernel_rfl⟩
instance : FldT Try.prog 139 1 1 36 := ⟨by kernel_rfl⟩
theorem eq_t139 (d : Nat) (x0 x1 x2 x4 : Int) (x3 : Bool) (y0 y1 y2 y4 : Int) (y3 : Bool) (w : World) : (Op.equalIn (d + 4) 139 (.agg #[.int .i64 x0, .int .u64 x1, .int .u64 x2, .bool x3, .int .i64 x4]) (.agg #[.int .i64 y0, .int .u64 y1, .int .u64 y2, .bool y3, .int .i64 y4])).run Try.prog w = .ok ((x0 == y0) && (((x1 == y1) && ((x2 == y2) && (x3 == y3))) && (x4 == y4))) w := eq_struct Try.underlying139 (by kernel_rfl) (eqf_cons (by decide) (a := .int .i64 x0) (b := .int .i64 y0) (by kernel_rfl) (by kernel_rfl) (eq_int (by kernel_rfl) (d + 2) x0 y0 w) (eqf_last (by decide) (a := .agg #[.int .u64 x1, .int .u64 x2, .bool x3, .int .i64 x4]) (b := .agg #[.int .u64 y1, .int .u64 y2, .bool y3, .int .i64 y4]) (by kernel_rfl) (by kernel_rfl) (eq_t36 (d + 0) x1 x2 x4 x3 y1 y2 y4 y3 w)))
instance (x0 x1 x2 x4 : Int) (x3 : Bool) (y0 y1 y2 y4 : Int) (y3 : Bool) : EqT Try.prog 139 #[.int .i64 x0, .int .u64 x1, .int .u64 x2, .bool x3, .int .i64 x4] #[.int .i64 y0, .int .u64 y1, .int .u64 y2, .bool y3, .int .i64 y4] ((x0 == y0) && (((x1 == y1) && ((x2 == y2) && (x3 == y3))) && (x4 == y4))) := ⟨fun d w => eq_t139 (d + 5) x0 x1 x2 x4 x3 y0 y1 y2 y4 y3 w⟩
instance : ZeroT Try.prog 139 [.int .i64 0, .int .u64 0, .int .u64 0, .bool false, .int .i64 0] := ⟨by kernel_rfl⟩
instance : ZeroT Try.prog 140 [.slice none 0 0] := ⟨by kernel_rfl⟩
instance : AggT Try.prog 155 2 := ⟨by kernel_rfl⟩
instance : ArT Try.prog 155 2 32 1 := ⟨by kernel_rfl, by kernel_rfl⟩
instance : ZeroT Try.prog 155 [.int .u64 0, .int .u64 0] := ⟨by kernel_rfl⟩
instance : AggT Try.prog 156 2 := ⟨by kernel_rfl⟩
instance : ArT Try.prog 156 2 32 1 := ⟨by kernel_rfl, by kernel_rfl⟩
instance : ZeroT Try.prog 156 [.int .u64 0, .int .u64 0] := ⟨by kernel_rfl⟩
instance : ZeroT Try.prog 157 [.int .u64 0] := ⟨by kernel_rfl⟩
instance : ZeroT Try.prog 180 [.int .u32 0] := ⟨by kernel_rfl⟩
instance : ZeroT Try.prog 184 [.pointer none] := ⟨by kernel_rfl⟩
instance : SlT Try.prog 22 40 10 80 := ⟨by kernel_rfl, by kernel_rfl⟩
instance : SlT Try.prog 24 48 9 72 := ⟨by kernel_rfl, by kernel_rfl⟩
instance : SlT Try.prog 28 51 9 72 := ⟨by kernel_rfl, by kernel_rfl⟩
instance : SlT Try.prog 69 75 6 48 := ⟨by kernel_rfl, by kernel_rfl⟩
instance : SlT Try.prog 81 36 4 32 := ⟨by kernel_rfl, by kernel_rfl⟩
instance : SlT Try.prog 83 87 5 40 := ⟨by kernel_rfl, by kernel_rfl⟩
instance : SlT Try.prog 89 92 5 40 := ⟨by kernel_rfl, by kernel_rfl⟩
instance : SlT Try.prog 104 131 5 40 := ⟨by kernel_rfl, by kernel_rfl⟩
instance : SlT Try.prog 105 3 1 8 := ⟨by kernel_rfl, by kernel_rfl⟩
instance : SlT Try.prog 108 70 1 8 := ⟨by kernel_rfl, by kernel_rfl⟩
instance : SlT Try.prog 117 5 1 1 := ⟨by kernel_rfl, by kernel_rfl⟩
instance : SlT Try.prog 140 139 5 40 := ⟨by kernel_rfl, by kernel_rfl⟩
end Go.Proofs.Ytlmcfjadhahlpaa.Sq
