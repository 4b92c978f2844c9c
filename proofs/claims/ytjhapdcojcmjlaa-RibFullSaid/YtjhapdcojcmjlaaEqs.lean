/-
  What the program's own types are like (written by this session's wip/tools/geneqs.py).
-/
import Derived.Test.YtjhapdcojcmjlaaSq
namespace Go.Proofs.Ytjhapdcojcmjlaa.Sq
set_option linter.unusedVariables false
instance : ZeroT Try.prog 2 [.int .i64 0] := ⟨by kernel_rfl⟩
instance : ZeroT Try.prog 3 [.int .i64 0] := ⟨by kernel_rfl⟩
instance : ZeroT Try.prog 4 [.bool false] := ⟨by kernel_rfl⟩
instance : ZeroT Try.prog 5 [.int .u8 0] := ⟨by kernel_rfl⟩
instance : ZeroT Try.prog 9 [.string ⟨#[]⟩] := ⟨by kernel_rfl⟩
instance : ZeroT Try.prog 12 [.int .u64 0] := ⟨by kernel_rfl⟩
instance : ZeroT Try.prog 15 [.pointer none] := ⟨by kernel_rfl⟩
instance : ZeroT Try.prog 16 [.pointer none] := ⟨by kernel_rfl⟩
instance : ZeroT Try.prog 17 [.pointer none] := ⟨by kernel_rfl⟩
instance : ZeroT Try.prog 21 [.int .i32 0] := ⟨by kernel_rfl⟩
instance : ZeroT Try.prog 22 [.int .u64 0] := ⟨by kernel_rfl⟩
instance : AggT Try.prog 23 3 := ⟨by kernel_rfl⟩
instance : FldT Try.prog 23 0 0 22 := ⟨by kernel_rfl⟩
instance : FldT Try.prog 23 1 1 22 := ⟨by kernel_rfl⟩
instance : FldT Try.prog 23 2 2 4 := ⟨by kernel_rfl⟩
theorem eq_t23 (d : Nat) (x0 x1 : Int) (x2 : Bool) (y0 y1 : Int) (y2 : Bool) (w : World) : (Op.equalIn (d + 2) 23 (.agg #[.int .u64 x0, .int .u64 x1, .bool x2]) (.agg #[.int .u64 y0, .int .u64 y1, .bool y2])).run Try.prog w = .ok ((x0 == y0) && ((x1 == y1) && (x2 == y2))) w := eq_struct Try.underlying23 (by kernel_rfl) (eqf_cons (by decide) (a := .int .u64 x0) (b := .int .u64 y0) (by kernel_rfl) (by kernel_rfl) (eq_int (by kernel_rfl) (d + 0) x0 y0 w) (eqf_cons (by decide) (a := .int .u64 x1) (b := .int .u64 y1) (by kernel_rfl) (by kernel_rfl) (eq_int (by kernel_rfl) (d + 0) x1 y1 w) (eqf_last (by decide) (a := .bool x2) (b := .bool y2) (by kernel_rfl) (by kernel_rfl) (eq_bool (by kernel_rfl) (d + 0) x2 y2 w))))
instance (x0 x1 : Int) (x2 : Bool) (y0 y1 : Int) (y2 : Bool) : EqT Try.prog 23 #[.int .u64 x0, .int .u64 x1, .bool x2] #[.int .u64 y0, .int .u64 y1, .bool y2] ((x0 == y0) && ((x1 == y1) && (x2 == y2))) := ⟨fun d w => eq_t23 (d + 7) x0 x1 x2 y0 y1 y2 w⟩
instance : ZeroT Try.prog 23 [.int .u64 0, .int .u64 0, .bool false] := ⟨by kernel_rfl⟩
instance : AggT Try.prog 24 3 := ⟨by kernel_rfl⟩
instance : FldT Try.prog 24 0 0 22 := ⟨by kernel_rfl⟩
instance : FldT Try.prog 24 1 1 22 := ⟨by kernel_rfl⟩
instance : FldT Try.prog 24 2 2 4 := ⟨by kernel_rfl⟩
theorem eq_t24 (d : Nat) (x0 x1 : Int) (x2 : Bool) (y0 y1 : Int) (y2 : Bool) (w : World) : (Op.equalIn (d + 2) 24 (.agg #[.int .u64 x0, .int .u64 x1, .bool x2]) (.agg #[.int .u64 y0, .int .u64 y1, .bool y2])).run Try.prog w = .ok ((x0 == y0) && ((x1 == y1) && (x2 == y2))) w := eq_struct Try.underlying24 (by kernel_rfl) (eqf_cons (by decide) (a := .int .u64 x0) (b := .int .u64 y0) (by kernel_rfl) (by kernel_rfl) (eq_int (by kernel_rfl) (d + 0) x0 y0 w) (eqf_cons (by decide) (a := .int .u64 x1) (b := .int .u64 y1) (by kernel_rfl) (by kernel_rfl) (eq_int (by kernel_rfl) (d + 0) x1 y1 w) (eqf_last (by decide) (a := .bool x2) (b := .bool y2) (by kernel_rfl) (by kernel_rfl) (eq_bool (by kernel_rfl) (d + 0) x2 y2 w))))
instance (x0 x1 : Int) (x2 : Bool) (y0 y1 : Int) (y2 : Bool) : EqT Try.prog 24 #[.int .u64 x0, .int .u64 x1, .bool x2] #[.int .u64 y0, .int .u64 y1, .bool y2] ((x0 == y0) && ((x1 == y1) && (x2 == y2))) := ⟨fun d w => eq_t24 (d + 7) x0 x1 x2 y0 y1 y2 w⟩
instance : ZeroT Try.prog 24 [.int .u64 0, .int .u64 0, .bool false] := ⟨by kernel_rfl⟩
instance : AggT Try.prog 25 4 := ⟨by kernel_rfl⟩
instance : FldT Try.prog 25 0 0 24 := ⟨by kernel_rfl⟩
instance : FldT Try.prog 25 1 3 3 := ⟨by kernel_rfl⟩
theorem eq_t25 (d : Nat) (x0 x1 x3 : Int) (x2 : Bool) (y0 y1 y3 : Int) (y2 : Bool) (w : World) : (Op.equalIn (d + 3) 25 (.agg #[.int .u64 x0, .int .u64 x1, .bool x2, .int .i64 x3]) (.agg #[.int .u64 y0, .int .u64 y1, .bool y2, .int .i64 y3])).run Try.prog w = .ok (((x0 == y0) && ((x1 == y1) && (x2 == y2))) && (x3 == y3)) w := eq_struct Try.underlying25 (by kernel_rfl) (eqf_cons (by decide) (a := .agg #[.int .u64 x0, .int .u64 x1, .bool x2]) (b := .agg #[.int .u64 y0, .int .u64 y1, .bool y2]) (by kernel_rfl) (by kernel_rfl) (eq_t24 (d + 0) x0 x1 x2 y0 y1 y2 w) (eqf_last (by decide) (a := .int .i64 x3) (b := .int .i64 y3) (by kernel_rfl) (by kernel_rfl) (eq_int (by kernel_rfl) (d + 1) x3 y3 w)))
instance (x0 x1 x3 : Int) (x2 : Bool) (y0 y1 y3 : Int) (y2 : Bool) : EqT Try.prog 25 #[.int .u64 x0, .int .u64 x1, .bool x2, .int .i64 x3] #[.int .u64 y0, .int .u64 y1, .bool y2, .int .i64 y3] (((x0 == y0) && ((x1 == y1) && (x2 == y2))) && (x3 == y3)) := ⟨fun d w => eq_t25 (d + 6) x0 x1 x3 x2 y0 y1 y3 y2 w⟩
instance : ZeroT Try.prog 25 [.int .u64 0, .int .u64 0, .bool false, .int .i64 0] := ⟨by kernel_rfl⟩
instance : AggT Try.prog 26 4 := ⟨by kernel_rfl⟩
instance : FldT Try.prog 26 0 0 24 := ⟨by kernel_rfl⟩
instance : FldT Try.prog 26 1 3 3 := ⟨by kernel_rfl⟩
theorem eq_t26 (d : Nat) (x0 x1 x3 : Int) (x2 : Bool) (y0 y1 y3 : Int) (y2 : Bool) (w : World) : (Op.equalIn (d + 3) 26 (.agg #[.int .u64 x0, .int .u64 x1, .bool x2, .int .i64 x3]) (.agg #[.int .u64 y0, .int .u64 y1, .bool y2, .int .i64 y3])).run Try.prog w = .ok (((x0 == y0) && ((x1 == y1) && (x2 == y2))) && (x3 == y3)) w := eq_struct Try.underlying26 (by kernel_rfl) (eqf_cons (by decide) (a := .agg #[.int .u64 x0, .int .u64 x1, .bool x2]) (b := .agg #[.int .u64 y0, .int .u64 y1, .bool y2]) (by kernel_rfl) (by kernel_rfl) (eq_t24 (d + 0) x0 x1 x2 y0 y1 y2 w) (eqf_last (by decide) (a := .int .i64 x3) (b := .int .i64 y3) (by kernel_rfl) (by kernel_rfl) (eq_int (by kernel_rfl) (d + 1) x3 y3 w)))
instance (x0 x1 x3 : Int) (x2 : Bool) (y0 y1 y3 : Int) (y2 : Bool) : EqT Try.prog 26 #[.int .u64 x0, .int .u64 x1, .bool x2, .int .i64 x3] #[.int .u64 y0, .int .u64 y1, .bool y2, .int .i64 y3] (((x0 == y0) && ((x1 == y1) && (x2 == y2))) && (x3 == y3)) := ⟨fun d w => eq_t26 (d + 6) x0 x1 x3 x2 y0 y1 y3 y2 w⟩
instance : ZeroT Try.prog 26 [.int .u64 0, .int .u64 0, .bool false, .int .i64 0] := ⟨by kernel_rfl⟩
instance : ZeroT Try.prog 28 [.pointer none] := ⟨by kernel_rfl⟩
instance : ZeroT Try.prog 29 [.pointer none] := ⟨by kernel_rfl⟩
instance : ZeroT Try.prog 30 [.map none] := ⟨by kernel_rfl⟩
instance : AggT Try.prog 31 4 := ⟨by kernel_rfl⟩
instance : FldT Try.prog 31 0 0 29 := ⟨by kernel_rfl⟩
instance : FldT Try.prog 31 1 1 30 := ⟨by kernel_rfl⟩
instance : FldT Try.prog 31 2 2 3 := ⟨by kernel_rfl⟩
instance : FldT Try.prog 31 3 3 3 := ⟨by kernel_rfl⟩
instance : ZeroT Try.prog 31 [.pointer none, .map none, .int .i64 0, .int .i64 0] := ⟨by kernel_rfl⟩
instance : AggT Try.prog 32 4 := ⟨by kernel_rfl⟩
instance : FldT Try.prog 32 0 0 29 := ⟨by kernel_rfl⟩
instance : FldT Try.prog 32 1 1 30 := ⟨by kernel_rfl⟩
instance : FldT Try.prog 32 2 2 3 := ⟨by kernel_rfl⟩
instance : FldT Try.prog 32 3 3 3 := ⟨by kernel_rfl⟩
instance : ZeroT Try.prog 32 [.pointer none, .map none, .int .i64 0, .int .i64 0] := ⟨by kernel_rfl⟩
instance : ZeroT Try.prog 33 [.int .i64 0] := ⟨by kernel_rfl⟩
instance : ZeroT Try.prog 35 [.slice none 0 0] := ⟨by kernel_rfl⟩
instance : AggT Try.prog 36 5 := ⟨by kernel_rfl⟩
instance : FldT Try.prog 36 0 0 26 := ⟨by kernel_rfl⟩
instance : FldT Try.prog 36 1 4 3 := ⟨by kernel_rfl⟩
theorem eq_t36 (d : Nat) (x0 x1 x3 x4 : Int) (x2 : Bool) (y0 y1 y3 y4 : Int) (y2 : Bool) (w : World) : (Op.equalIn (d + 4) 36 (.agg #[.int .u64 x0, .int .u64 x1, .bool x2, .int .i64 x3, .int .i64 x4]) (.agg #[.int .u64 y0, .int .u64 y1, .bool y2, .int .i64 y3, .int .i64 y4])).run Try.prog w = .ok ((((x0 == y0) && ((x1 == y1) && (x2 == y2))) && (x3 == y3)) && (x4 == y4)) w := eq_struct Try.underlying36 (by kernel_rfl) (eqf_cons (by decide) (a := .agg #[.int .u64 x0, .int .u64 x1, .bool x2, .int .i64 x3]) (b := .agg #[.int .u64 y0, .int .u64 y1, .bool y2, .int .i64 y3]) (by kernel_rfl) (by kernel_rfl) (eq_t26 (d + 0) x0 x1 x3 x2 y0 y1 y3 y2 w) (eqf_last (by decide) (a := .int .i64 x4) (b := .int .i64 y4) (by kernel_rfl) (by kernel_rfl) (eq_int (by kernel_rfl) (d + 2) x4 y4 w)))
instance (x0 x1 x3 x4 : Int) (x2 : Bool) (y0 y1 y3 y4 : Int) (y2 : Bool) : EqT Try.prog 36 #[.int .u64 x0, .int .u64 x1, .bool x2, .int .i64 x3, .int .i64 x4] #[.int .u64 y0, .int .u64 y1, .bool y2, .int .i64 y3, .int .i64 y4] ((((x0 == y0) && ((x1 == y1) && (x2 == y2))) && (x3 == y3)) && (x4 == y4)) := ⟨fun d w => eq_t36 (d + 5) x0 x1 x3 x4 x2 y0 y1 y3 y4 y2 w⟩
instance : ZeroT Try.prog 36 [.int .u64 0, .int .u64 0, .bool false, .int .i64 0, .int .i64 0] := ⟨by kernel_rfl⟩
instance : AggT Try.prog 37 5 := ⟨by kernel_rfl⟩
instance : FldT Try.prog 37 0 0 26 := ⟨by kernel_rfl⟩
instance : FldT Try.prog 37 1 4 3 := ⟨by kernel_rfl⟩
theorem eq_t37 (d : Nat) (x0 x1 x3 x4 : Int) (x2 : Bool) (y0 y1 y3 y4 : Int) (y2 : Bool) (w : World) : (Op.equalIn (d + 4) 37 (.agg #[.int .u64 x0, .int .u64 x1, .bool x2, .int .i64 x3, .int .i64 x4]) (.agg #[.int .u64 y0, .int .u64 y1, .bool y2, .int .i64 y3, .int .i64 y4])).run Try.prog w = .ok ((((x0 == y0) && ((x1 == y1) && (x2 == y2))) && (x3 == y3)) && (x4 == y4)) w := eq_struct Try.underlying37 (by kernel_rfl) (eqf_cons (by decide) (a := .agg #[.int .u64 x0, .int .u64 x1, .bool x2, .int .i64 x3]) (b := .agg #[.int .u64 y0, .int .u64 y1, .bool y2, .int .i64 y3]) (by kernel_rfl) (by kernel_rfl) (eq_t26 (d + 0) x0 x1 x3 x2 y0 y1 y3 y2 w) (eqf_last (by decide) (a := .int .i64 x4) (b := .int .i64 y4) (by kernel_rfl) (by kernel_rfl) (eq_int (by kernel_rfl) (d + 2) x4 y4 w)))
instance (x0 x1 x3 x4 : Int) (x2 : Bool) (y0 y1 y3 y4 : Int) (y2 : Bool) : EqT Try.prog 37 #[.int .u64 x0, .int .u64 x1, .bool x2, .int .i64 x3, .int .i64 x4] #[.int .u64 y0, .int .u64 y1, .bool y2, .int .i64 y3, .int .i64 y4] ((((x0 == y0) && ((x1 == y1) && (x2 == y2))) && (x3 == y3)) && (x4 == y4)) := ⟨fun d w => eq_t37 (d + 5) x0 x1 x3 x4 x2 y0 y1 y3 y4 y2 w⟩
instance : ZeroT Try.prog 37 [.int .u64 0, .int .u64 0, .bool false, .int .i64 0, .int .i64 0] := ⟨by kernel_rfl⟩
instance : ZeroT Try.prog 45 [.slice none 0 0] := ⟨by kernel_rfl⟩
instance : ZeroT Try.prog 47 [.slice none 0 0] := ⟨by kernel_rfl⟩
instance : ZeroT Try.prog 50 [.slice none 0 0] := ⟨by kernel_rfl⟩
instance : AggT Try.prog 53 6 := ⟨by kernel_rfl⟩
instance : FldT Try.prog 53 0 0 4 := ⟨by kernel_rfl⟩
instance : FldT Try.prog 53 1 1 26 := ⟨by kernel_rfl⟩
instance : FldT Try.prog 53 2 5 3 := ⟨by kernel_rfl⟩
theorem eq_t53 (d : Nat) (x1 x2 x4 x5 : Int) (x0 x3 : Bool) (y1 y2 y4 y5 : Int) (y0 y3 : Bool) (w : World) : (Op.equalIn (d + 4) 53 (.agg #[.bool x0, .int .u64 x1, .int .u64 x2, .bool x3, .int .i64 x4, .int .i64 x5]) (.agg #[.bool y0, .int .u64 y1, .int .u64 y2, .bool y3, .int .i64 y4, .int .i64 y5])).run Try.prog w = .ok ((x0 == y0) && ((((x1 == y1) && ((x2 == y2) && (x3 == y3))) && (x4 == y4)) && (x5 == y5))) w := eq_struct Try.underlying53 (by kernel_rfl) (eqf_cons (by decide) (a := .bool x0) (b := .bool y0) (by kernel_rfl) (by kernel_rfl) (eq_bool (by kernel_rfl) (d + 2) x0 y0 w) (eqf_cons (by decide) (a := .agg #[.int .u64 x1, .int .u64 x2, .bool x3, .int .i64 x4]) (b := .agg #[.int .u64 y1, .int .u64 y2, .bool y3, .int .i64 y4]) (by kernel_rfl) (by kernel_rfl) (eq_t26 (d + 0) x1 x2 x4 x3 y1 y2 y4 y3 w) (eqf_last (by decide) (a := .int .i64 x5) (b := .int .i64 y5) (by kernel_rfl) (by kernel_rfl) (eq_int (by kernel_rfl) (d + 2) x5 y5 w))))
instance (x1 x2 x4 x5 : Int) (x0 x3 : Bool) (y1 y2 y4 y5 : Int) (y0 y3 : Bool) : EqT Try.prog 53 #[.bool x0, .int .u64 x1, .int .u64 x2, .bool x3, .int .i64 x4, .int .i64 x5] #[.bool y0, .int .u64 y1, .int .u64 y2, .bool y3, .int .i64 y4, .int .i64 y5] ((x0 == y0) && ((((x1 == y1) && ((x2 == y2) && (x3 == y3))) && (x4 == y4)) && (x5 == y5))) := ⟨fun d w => eq_t53 (d + 5) x1 x2 x4 x5 x0 x3 y1 y2 y4 y5 y0 y3 w⟩
instance : ZeroT Try.prog 53 [.bool false, .int .u64 0, .int .u64 0, .bool false, .int .i64 0, .int .i64 0] := ⟨by kernel_rfl⟩
instance : AggT Try.prog 54 6 := ⟨by kernel_rfl⟩
instance : FldT Try.prog 54 0 0 4 := ⟨by kernel_rfl⟩
instance : FldT Try.prog 54 1 1 26 := ⟨by kernel_rfl⟩
instance : FldT Try.prog 54 2 5 3 := ⟨by kernel_rfl⟩
theorem eq_t54 (d : Nat) (x1 x2 x4 x5 : Int) (x0 x3 : Bool) (y1 y2 y4 y5 : Int) (y0 y3 : Bool) (w : World) : (Op.equalIn (d + 4) 54 (.agg #[.bool x0, .int .u64 x1, .int .u64 x2, .bool x3, .int .i64 x4, .int .i64 x5]) (.agg #[.bool y0, .int .u64 y1, .int .u64 y2, .bool y3, .int .i64 y4, .int .i64 y5])).run Try.prog w = .ok ((x0 == y0) && ((((x1 == y1) && ((x2 == y2) && (x3 == y3))) && (x4 == y4)) && (x5 == y5))) w := eq_struct Try.underlying54 (by kernel_rfl) (eqf_cons (by decide) (a := .bool x0) (b := .bool y0) (by kernel_rfl) (by kernel_rfl) (eq_bool (by kernel_rfl) (d + 2) x0 y0 w) (eqf_cons (by decide) (a := .agg #[.int .u64 x1, .int .u64 x2, .bool x3, .int .i64 x4]) (b := .agg #[.int .u64 y1, .int .u64 y2, .bool y3, .int .i64 y4]) (by kernel_rfl) (by kernel_rfl) (eq_t26 (d + 0) x1 x2 x4 x3 y1 y2 y4 y3 w) (eqf_last (by decide) (a := .int .i64 x5) (b := .int .i64 y5) (by kernel_rfl) (by kernel_rfl) (eq_int (by kernel_rfl) (d + 2) x5 y5 w))))
instance (x1 x2 x4 x5 : Int) (x0 x3 : Bool) (y1 y2 y4 y5 : Int) (y0 y3 : Bool) : EqT Try.prog 54 #[.bool x0, .int .u64 x1, .int .u64 x2, .bool x3, .int .i64 x4, .int .i64 x5] #[.bool y0, .int .u64 y1, .int .u64 y2, .bool y3, .int .i64 y4, .int .i64 y5] ((x0 == y0) && ((((x1 == y1) && ((x2 == y2) && (x3 == y3))) && (x4 == y4)) && (x5 == y5))) := ⟨fun d w => eq_t54 (d + 5) x1 x2 x4 x5 x0 x3 y1 y2 y4 y5 y0 y3 w⟩
instance : ZeroT Try.prog 54 [.bool false, .int .u64 0, .int .u64 0, .bool false, .int .i64 0, .int .i64 0] := ⟨by kernel_rfl⟩
instance : ZeroT Try.prog 67 [.slice none 0 0] := ⟨by kernel_rfl⟩
instance : AggT Try.prog 68 2 := ⟨by kernel_rfl⟩
instance : FldT Try.prog 68 0 0 67 := ⟨by kernel_rfl⟩
instance : FldT Try.prog 68 1 1 3 := ⟨by kernel_rfl⟩
instance : ZeroT Try.prog 68 [.slice none 0 0, .int .i64 0] := ⟨by kernel_rfl⟩
instance : AggT Try.prog 69 2 := ⟨by kernel_rfl⟩
instance : FldT Try.prog 69 0 0 67 := ⟨by kernel_rfl⟩
instance : FldT Try.prog 69 1 1 3 := ⟨by kernel_rfl⟩
instance : ZeroT Try.prog 69 [.slice none 0 0, .int .i64 0] := ⟨by kernel_rfl⟩
instance : AggT Try.prog 70 4 := ⟨by kernel_rfl⟩
instance : FldT Try.prog 70 0 0 69 := ⟨by kernel_rfl⟩
instance : FldT Try.prog 70 1 2 3 := ⟨by kernel_rfl⟩
instance : FldT Try.prog 70 2 3 3 := ⟨by kernel_rfl⟩
instance : ZeroT Try.prog 70 [.slice none 0 0, .int .i64 0, .int .i64 0, .int .i64 0] := ⟨by kernel_rfl⟩
instance : AggT Try.prog 71 4 := ⟨by kernel_rfl⟩
instance : FldT Try.prog 71 0 0 69 := ⟨by kernel_rfl⟩
instance : FldT Try.prog 71 1 2 3 := ⟨by kernel_rfl⟩
instance : FldT Try.prog 71 2 3 3 := ⟨by kernel_rfl⟩
instance : ZeroT Try.prog 71 [.slice none 0 0, .int .i64 0, .int .i64 0, .int .i64 0] := ⟨by kernel_rfl⟩
instance : ZeroT Try.prog 94 [.slice none 0 0] := ⟨by kernel_rfl⟩
instance : ZeroT Try.prog 98 [.nilFunc] := ⟨by kernel_rfl⟩
instance : ZeroT Try.prog 99 [.nilFunc] := ⟨by kernel_rfl⟩
instance : ZeroT Try.prog 101 [.slice none 0 0] := ⟨by kernel_rfl⟩
instance : AggT Try.prog 102 5 := ⟨by kernel_rfl⟩
instance : FldT Try.prog 102 0 0 26 := ⟨by kernel_rfl⟩
instance : FldT Try.prog 102 1 4 3 := ⟨by kernel_rfl⟩
theorem eq_t102 (d : Nat) (x0 x1 x3 x4 : Int) (x2 : Bool) (y0 y1 y3 y4 : Int) (y2 : Bool) (w : World) : (Op.equalIn (d + 4) 102 (.agg #[.int .u64 x0, .int .u64 x1, .bool x2, .int .i64 x3, .int .i64 x4]) (.agg #[.int .u64 y0, .int .u64 y1, .bool y2, .int .i64 y3, .int .i64 y4])).run Try.prog w = .ok ((((x0 == y0) && ((x1 == y1) && (x2 == y2))) && (x3 == y3)) && (x4 == y4)) w := eq_struct Try.underlying102 (by kernel_rfl) (eqf_cons (by decide) (a := .agg #[.int .u64 x0, .int .u64 x1, .bool x2, .int .i64 x3]) (b := .agg #[.int .u64 y0, .int .u64 y1, .bool y2, .int .i64 y3]) (by kernel_rfl) (by kernel_rfl) (eq_t26 (d + 0) x0 x1 x3 x2 y0 y1 y3 y2 w) (eqf_last (by decide) (a := .int .i64 x4) (b := .int .i64 y4) (by kernel_rfl) (by kernel_rfl) (eq_int (by kernel_rfl) (d + 2) x4 y4 w)))
instance (x0 x1 x3 x4 : Int) (x2 : Bool) (y0 y1 y3 y4 : Int) (y2 : Bool) : EqT Try.prog 102 #[.int .u64 x0, .int .u64 x1, .bool x2, .int .i64 x3, .int .i64 x4] #[.int .u64 y0, .int .u64 y1, .bool y2, .int .i64 y3, .int .i64 y4] ((((x0 == y0) && ((x1 == y1) && (x2 == y2))) && (x3 == y3)) && (x4 == y4)) := ⟨fun d w => eq_t102 (d + 5) x0 x1 x3 x4 x2 y0 y1 y3 y4 y2 w⟩
instance : ZeroT Try.prog 102 [.int .u64 0, .int .u64 0, .bool false, .int .i64 0, .int .i64 0] := ⟨by kernel_rfl⟩
instance : AggT Try.prog 103 5 := ⟨by kernel_rfl⟩
instance : FldT Try.prog 103 0 0 26 := ⟨by kernel_rfl⟩
instance : FldT Try.prog 103 1 4 3 := ⟨by kernel_rfl⟩
theorem eq_t103 (d : Nat) (x0 x1 x3 x4 : Int) (x2 : Bool) (y0 y1 y3 y4 : Int) (y2 : Bool) (w : World) : (Op.equalIn (d + 4) 103 (.agg #[.int .u64 x0, .int .u64 x1, .bool x2, .int .i64 x3, .int .i64 x4]) (.agg #[.int .u64 y0, .int .u64 y1, .bool y2, .int .i64 y3, .int .i64 y4])).run Try.prog w = .ok ((((x0 == y0) && ((x1 == y1) && (x2 == y2))) && (x3 == y3)) && (x4 == y4)) w := eq_struct Try.underlying103 (by kernel_rfl) (eqf_cons (by decide) (a := .agg #[.int .u64 x0, .int .u64 x1, .bool x2, .int .i64 x3]) (b := .agg #[.int .u64 y0, .int .u64 y1, .bool y2, .int .i64 y3]) (by kernel_rfl) (by kernel_rfl) (eq_t26 (d + 0) x0 x1 x3 x2 y0 y1 y3 y2 w) (eqf_last (by decide) (a := .int .i64 x4) (b := .int .i64 y4) (by kernel_rfl) (by kernel_rfl) (eq_int (by kernel_rfl) (d + 2) x4 y4 w)))
instance (x0 x1 x3 x4 : Int) (x2 : Bool) (y0 y1 y3 y4 : Int) (y2 : Bool) : EqT Try.prog 103 #[.int .u64 x0, .int .u64 x1, .bool x2, .int .i64 x3, .int .i64 x4] #[.int .u64 y0, .int .u64 y1, .bool y2, .int .i64 y3, .int .i64 y4] ((((x0 == y0) && ((x1 == y1) && (x2 == y2))) && (x3 == y3)) && (x4 == y4)) := ⟨fun d w => eq_t103 (d + 5) x0 x1 x3 x4 x2 y0 y1 y3 y4 y2 w⟩
instance : ZeroT Try.prog 103 [.int .u64 0, .int .u64 0, .bool false, .int .i64 0, .int .i64 0] := ⟨by kernel_rfl⟩
instance : ZeroT Try.prog 112 [.slice none 0 0] := ⟨by kernel_rfl⟩
instance : AggT Try.prog 128 2 := ⟨by kernel_rfl⟩
instance : ArT Try.prog 128 2 22 1 := ⟨by kernel_rfl, by kernel_rfl⟩
instance : ZeroT Try.prog 128 [.int .u64 0, .int .u64 0] := ⟨by kernel_rfl⟩
instance : AggT Try.prog 129 2 := ⟨by kernel_rfl⟩
instance : ArT Try.prog 129 2 22 1 := ⟨by kernel_rfl, by kernel_rfl⟩
instance : ZeroT Try.prog 129 [.int .u64 0, .int .u64 0] := ⟨by kernel_rfl⟩
instance : ZeroT Try.prog 130 [.int .u64 0] := ⟨by kernel_rfl⟩
instance : AggT Try.prog 134 2 := ⟨by kernel_rfl⟩
instance : ArT Try.prog 134 2 3 1 := ⟨by kernel_rfl, by kernel_rfl⟩
instance : ZeroT Try.prog 134 [.int .i64 0, .int .i64 0] := ⟨by kernel_rfl⟩
instance : AggT Try.prog 135 5 := ⟨by kernel_rfl⟩
instance : FldT Try.prog 135 0 0 134 := ⟨by kernel_rfl⟩
instance : FldT Try.prog 135 1 2 3 := ⟨by kernel_rfl⟩
instance : FldT Try.prog 135 2 3 4 := ⟨by kernel_rfl⟩
instance : FldT Try.prog 135 3 4 3 := ⟨by kernel_rfl⟩
instance : ZeroT Try.prog 135 [.int .i64 0, .int .i64 0, .int .i64 0, .bool false, .int .i64 0] := ⟨by kernel_rfl⟩
instance : AggT Try.prog 136 5 := ⟨by kernel_rfl⟩
instance : FldT Try.prog 136 0 0 134 := ⟨by kernel_rfl⟩
instance : FldT Try.prog 136 1 2 3 := ⟨by kernel_rfl⟩
instance : FldT Try.prog 136 2 3 4 := ⟨by kernel_rfl⟩
instance : FldT Try.prog 136 3 4 3 := ⟨by kernel_rfl⟩
instance : ZeroT Try.prog 136 [.int .i64 0, .int .i64 0, .int .i64 0, .bool false, .int .i64 0] := ⟨by kernel_rfl⟩
instance : ZeroT Try.prog 137 [.slice none 0 0] := ⟨by kernel_rfl⟩
instance : AggT Try.prog 138 3 := ⟨by kernel_rfl⟩
instance : FldT Try.prog 138 0 0 137 := ⟨by kernel_rfl⟩
instance : FldT Try.prog 138 1 1 47 := ⟨by kernel_rfl⟩
instance : FldT Try.prog 138 2 2 3 := ⟨by kernel_rfl⟩
instance : ZeroT Try.prog 138 [.slice none 0 0, .slice none 0 0, .int .i64 0] := ⟨by kernel_rfl⟩
instance : AggT Try.prog 139 3 := ⟨by kernel_rfl⟩
instance : FldT Try.prog 139 0 0 137 := ⟨by kernel_rfl⟩
instance : FldT Try.prog 139 1 1 47 := ⟨by kernel_rfl⟩
instance : FldT Try.prog 139 2 2 3 := ⟨by kernel_rfl⟩
instance : ZeroT Try.prog 139 [.slice none 0 0, .slice none 0 0, .int .i64 0] := ⟨by kernel_rfl⟩
instance : ZeroT Try.prog 143 [.pointer none] := ⟨by kernel_rfl⟩
instance : AggT Try.prog 144 5 := ⟨by kernel_rfl⟩
instance : FldT Try.prog 144 0 0 3 := ⟨by kernel_rfl⟩
instance : FldT Try.prog 144 1 1 26 := ⟨by kernel_rfl⟩
theorem eq_t144 (d : Nat) (x0 x1 x2 x4 : Int) (x3 : Bool) (y0 y1 y2 y4 : Int) (y3 : Bool) (w : World) : (Op.equalIn (d + 4) 144 (.agg #[.int .i64 x0, .int .u64 x1, .int .u64 x2, .bool x3, .int .i64 x4]) (.agg #[.int .i64 y0, .int .u64 y1, .int .u64 y2, .bool y3, .int .i64 y4])).run Try.prog w = .ok ((x0 == y0) && (((x1 == y1) && ((x2 == y2) && (x3 == y3))) && (x4 == y4))) w := eq_struct Try.underlying144 (by kernel_rfl) (eqf_cons (by decide) (a := .int .i64 x0) (b := .int .i64 y0) (by kernel_rfl) (by kernel_rfl) (eq_int (by kernel_rfl) (d + 2) x0 y0 w) (eqf_last (by decide) (a := .agg #[.int .u64 x1, .int .u64 x2, .bool x3, .int .i64 x4]) (b := .agg #[.int .u64 y1, .int .u64 y2, .bool y3, .int .i64 y4]) (by kernel_rfl) (by kernel_rfl) (eq_t26 (d + 0) x1 x2 x4 x3 y1 y2 y4 y3 w)))
instance (x0 x1 x2 x4 : Int) (x3 : Bool) (y0 y1 y2 y4 : Int) (y3 : Bool) : EqT Try.prog 144 #[.int .i64 x0, .int .u64 x1, .int .u64 x2, .bool x3, .int .i64 x4] #[.int .i64 y0, .int .u64 y1, .int .u64 y2, .bool y3, .int .i64 y4] ((x0 == y0) && (((x1 == y1) && ((x2 == y2) && (x3 == y3))) && (x4 == y4))) := ⟨fun d w => eq_t144 (d + 5) x0 x1 x2 x4 x3 y0 y1 y2 y4 y3 w⟩
instance : ZeroT Try.prog 144 [.int .i64 0, .int .u64 0, .int .u64 0, .bool false, .int .i64 0] := ⟨by kernel_rfl⟩
instance : AggT Try.prog 145 5 := ⟨by kernel_rfl⟩
instance : FldT Try.prog 145 0 0 3 := ⟨by kernel_rfl⟩
instance : FldT Try.prog 145 1 1 26 := ⟨by kernel_rfl⟩
theorem eq_t145 (d : Nat) (x0 x1 x2 x4 : Int) (x3 : Bool) (y0 y1 y2 y4 : Int) (y3 : Bool) (w : World) : (Op.equalIn (d + 4) 145 (.agg #[.int .i64 x0, .int .u64 x1, .int .u64 x2, .bool x3, .int .i64 x4]) (.agg #[.int .i64 y0, .int .u64 y1, .int .u64 y2, .bool y3, .int .i64 y4])).run Try.prog w = .ok ((x0 == y0) && (((x1 == y1) && ((x2 == y2) && (x3 == y3))) && (x4 == y4))) w := eq_struct Try.underlying145 (by kernel_rfl) (eqf_cons (by decide) (a := .int .i64 x0) (b := .int .i64 y0) (by kernel_rfl) (by kernel_rfl) (eq_int (by kernel_rfl) (d + 2) x0 y0 w) (eqf_last (by decide) (a := .agg #[.int .u64 x1, .int .u64 x2, .bool x3, .int .i64 x4]) (b := .agg #[.int .u64 y1, .int .u64 y2, .bool y3, .int .i64 y4]) (by kernel_rfl) (by kernel_rfl) (eq_t26 (d + 0) x1 x2 x4 x3 y1 y2 y4 y3 w)))
instance (x0 x1 x2 x4 : Int) (x3 : Bool) (y0 y1 y2 y4 : Int) (y3 : Bool) : EqT Try.prog 145 #[.int .i64 x0, .int .u64 x1, .int .u64 x2, .bool x3, .int .i64 x4] #[.int .i64 y0, .int .u64 y1, .int .u64 y2, .bool y3, .int .i64 y4] ((x0 == y0) && (((x1 == y1) && ((x2 == y2) && (x3 == y3))) && (x4 == y4))) := ⟨fun d w => eq_t145 (d + 5) x0 x1 x2 x4 x3 y0 y1 y2 y4 y3 w⟩
instance : ZeroT Try.prog 145 [.int .i64 0, .int .u64 0, .int .u64 0, .bool false, .int .i64 0] := ⟨by kernel_rfl⟩
instance : ZeroT Try.prog 146 [.slice none 0 0] := ⟨by kernel_rfl⟩
instance : AggT Try.prog 165 5 := ⟨by kernel_rfl⟩
instance : FldT Try.prog 165 0 0 26 := ⟨by kernel_rfl⟩
instance : FldT Try.prog 165 1 4 3 := ⟨by kernel_rfl⟩
theorem eq_t165 (d : Nat) (x0 x1 x3 x4 : Int) (x2 : Bool) (y0 y1 y3 y4 : Int) (y2 : Bool) (w : World) : (Op.equalIn (d + 4) 165 (.agg #[.int .u64 x0, .int .u64 x1, .bool x2, .int .i64 x3, .int .i64 x4]) (.agg #[.int .u64 y0, .int .u64 y1, .bool y2, .int .i64 y3, .int .i64 y4])).run Try.prog w = .ok ((((x0 == y0) && ((x1 == y1) && (x2 == y2))) && (x3 == y3)) && (x4 == y4)) w := eq_struct Try.underlying165 (by kernel_rfl) (eqf_cons (by decide) (a := .agg #[.int .u64 x0, .int .u64 x1, .bool x2, .int .i64 x3]) (b := .agg #[.int .u64 y0, .int .u64 y1, .bool y2, .int .i64 y3]) (by kernel_rfl) (by kernel_rfl) (eq_t26 (d + 0) x0 x1 x3 x2 y0 y1 y3 y2 w) (eqf_last (by decide) (a := .int .i64 x4) (b := .int .i64 y4) (by kernel_rfl) (by kernel_rfl) (eq_int (by kernel_rfl) (d + 2) x4 y4 w)))
instance (x0 x1 x3 x4 : Int) (x2 : Bool) (y0 y1 y3 y4 : Int) (y2 : Bool) : EqT Try.prog 165 #[.int .u64 x0, .int .u64 x1, .bool x2, .int .i64 x3, .int .i64 x4] #[.int .u64 y0, .int .u64 y1, .bool y2, .int .i64 y3, .int .i64 y4] ((((x0 == y0) && ((x1 == y1) && (x2 == y2))) && (x3 == y3)) && (x4 == y4)) := ⟨fun d w => eq_t165 (d + 5) x0 x1 x3 x4 x2 y0 y1 y3 y4 y2 w⟩
instance : ZeroT Try.prog 165 [.int .u64 0, .int .u64 0, .bool false, .int .i64 0, .int .i64 0] := ⟨by kernel_rfl⟩
instance : ZeroT Try.prog 177 [.int .u32 0] := ⟨by kernel_rfl⟩
instance : ZeroT Try.prog 185 [.pointer none] := ⟨by kernel_rfl⟩
instance : ZeroT Try.prog 187 [.pointer none] := ⟨by kernel_rfl⟩
instance : ZeroT Try.prog 199 [.pointer none] := ⟨by kernel_rfl⟩
instance : SlT Try.prog 35 28 1 8 := ⟨by kernel_rfl, by kernel_rfl⟩
instance : SlT Try.prog 45 37 5 40 := ⟨by kernel_rfl, by kernel_rfl⟩
instance : SlT Try.prog 47 3 1 8 := ⟨by kernel_rfl, by kernel_rfl⟩
instance : SlT Try.prog 50 54 6 48 := ⟨by kernel_rfl, by kernel_rfl⟩
instance : SlT Try.prog 67 165 5 40 := ⟨by kernel_rfl, by kernel_rfl⟩
instance : SlT Try.prog 94 5 1 1 := ⟨by kernel_rfl, by kernel_rfl⟩
instance : SlT Try.prog 101 103 5 40 := ⟨by kernel_rfl, by kernel_rfl⟩
instance : SlT Try.prog 112 4 1 1 := ⟨by kernel_rfl, by kernel_rfl⟩
instance : SlT Try.prog 137 136 5 40 := ⟨by kernel_rfl, by kernel_rfl⟩
instance : SlT Try.prog 146 145 5 40 := ⟨by kernel_rfl, by kernel_rfl⟩
end Go.Proofs.Ytjhapdcojcmjlaa.Sq
