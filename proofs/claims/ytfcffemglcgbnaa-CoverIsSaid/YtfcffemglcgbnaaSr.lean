/-
  What the program's own types are like (written by this session's wip/tools/geneqs.py).
-/
import Derived.Test.YtfcffemglcgbnaaSq
import Derived.Lib.SliceRun
namespace Go.Proofs.Ytfcffemglcgbnaa.Sq
set_option linter.unusedVariables false
instance : ZeroT Try.prog 3 [.int .i64 0] := ⟨by kernel_rfl⟩
instance : ZeroT Try.prog 4 [.bool false] := ⟨by kernel_rfl⟩
instance : AggT Try.prog 25 3 := ⟨by kernel_rfl⟩
instance : FldT Try.prog 25 0 0 23 := ⟨by kernel_rfl⟩
instance : FldT Try.prog 25 1 1 23 := ⟨by kernel_rfl⟩
instance : FldT Try.prog 25 2 2 4 := ⟨by kernel_rfl⟩
theorem eq_t25 (d : Nat) (x0 x1 : Int) (x2 : Bool) (y0 y1 : Int) (y2 : Bool) (w : World) : (Op.equalIn (d + 2) 25 (.agg #[.int .u64 x0, .int .u64 x1, .bool x2]) (.agg #[.int .u64 y0, .int .u64 y1, .bool y2])).run Try.prog w = .ok ((x0 == y0) && ((x1 == y1) && (x2 == y2))) w := eq_struct Try.underlying25 (by kernel_rfl) (eqf_cons (by decide) (a := .int .u64 x0) (b := .int .u64 y0) (by kernel_rfl) (by kernel_rfl) (eq_int (by kernel_rfl) (d + 0) x0 y0 w) (eqf_cons (by decide) (a := .int .u64 x1) (b := .int .u64 y1) (by kernel_rfl) (by kernel_rfl) (eq_int (by kernel_rfl) (d + 0) x1 y1 w) (eqf_last (by decide) (a := .bool x2) (b := .bool y2) (by kernel_rfl) (by kernel_rfl) (eq_bool (by kernel_rfl) (d + 0) x2 y2 w))))
instance (x0 x1 : Int) (x2 : Bool) (y0 y1 : Int) (y2 : Bool) : EqT Try.prog 25 #[.int .u64 x0, .int .u64 x1, .bool x2] #[.int .u64 y0, .int .u64 y1, .bool y2] ((x0 == y0) && ((x1 == y1) && (x2 == y2))) := ⟨fun d w => eq_t25 (d + 7) x0 x1 x2 y0 y1 y2 w⟩
instance : ZeroT Try.prog 25 [.int .u64 0, .int .u64 0, .bool false] := ⟨by kernel_rfl⟩
instance : AggT Try.prog 30 4 := ⟨by kernel_rfl⟩
instance : FldT Try.prog 30 0 0 25 := ⟨by kernel_rfl⟩
instance : FldT Try.prog 30 1 3 3 := ⟨by kernel_rfl⟩
theorem eq_t30 (d : Nat) (x0 x1 x3 : Int) (x2 : Bool) (y0 y1 y3 : Int) (y2 : Bool) (w : World) : (Op.equalIn (d + 3) 30 (.agg #[.int .u64 x0, .int .u64 x1, .bool x2, .int .i64 x3]) (.agg #[.int .u64 y0, .int .u64 y1, .bool y2, .int .i64 y3])).run Try.prog w = .ok (((x0 == y0) && ((x1 == y1) && (x2 == y2))) && (x3 == y3)) w := eq_struct Try.underlying30 (by kernel_rfl) (eqf_cons (by decide) (a := .agg #[.int .u64 x0, .int .u64 x1, .bool x2]) (b := .agg #[.int .u64 y0, .int .u64 y1, .bool y2]) (by kernel_rfl) (by kernel_rfl) (eq_t25 (d + 0) x0 x1 x2 y0 y1 y2 w) (eqf_last (by decide) (a := .int .i64 x3) (b := .int .i64 y3) (by kernel_rfl) (by kernel_rfl) (eq_int (by kernel_rfl) (d + 1) x3 y3 w)))
instance (x0 x1 x3 : Int) (x2 : Bool) (y0 y1 y3 : Int) (y2 : Bool) : EqT Try.prog 30 #[.int .u64 x0, .int .u64 x1, .bool x2, .int .i64 x3] #[.int .u64 y0, .int .u64 y1, .bool y2, .int .i64 y3] (((x0 == y0) && ((x1 == y1) && (x2 == y2))) && (x3 == y3)) := ⟨fun d w => eq_t30 (d + 6) x0 x1 x3 x2 y0 y1 y3 y2 w⟩
instance : ZeroT Try.prog 30 [.int .u64 0, .int .u64 0, .bool false, .int .i64 0] := ⟨by kernel_rfl⟩
instance : AggT Try.prog 38 2 := ⟨by kernel_rfl⟩
instance : FldT Try.prog 38 0 0 36 := ⟨by kernel_rfl⟩
instance : FldT Try.prog 38 1 1 3 := ⟨by kernel_rfl⟩
instance : ZeroT Try.prog 38 [.slice none 0 0, .int .i64 0] := ⟨by kernel_rfl⟩
instance : AggT Try.prog 40 4 := ⟨by kernel_rfl⟩
instance : FldT Try.prog 40 0 0 38 := ⟨by kernel_rfl⟩
instance : FldT Try.prog 40 1 2 3 := ⟨by kernel_rfl⟩
instance : FldT Try.prog 40 2 3 3 := ⟨by kernel_rfl⟩
instance : ZeroT Try.prog 40 [.slice none 0 0, .int .i64 0, .int .i64 0, .int .i64 0] := ⟨by kernel_rfl⟩
instance : ZeroT Try.prog 42 [.slice none 0 0] := ⟨by kernel_rfl⟩
instance : AggT Try.prog 56 6 := ⟨by kernel_rfl⟩
instance : FldT Try.prog 56 0 0 30 := ⟨by kernel_rfl⟩
instance : FldT Try.prog 56 1 4 3 := ⟨by kernel_rfl⟩
instance : FldT Try.prog 56 2 5 4 := ⟨by kernel_rfl⟩
instance : ZeroT Try.prog 56 [.int .u64 0, .int .u64 0, .bool false, .int .i64 0, .int .i64 0, .bool false] := ⟨by kernel_rfl⟩
instance : AggT Try.prog 58 5 := ⟨by kernel_rfl⟩
instance : FldT Try.prog 58 0 0 30 := ⟨by kernel_rfl⟩
instance : FldT Try.prog 58 1 4 3 := ⟨by kernel_rfl⟩
instance : ZeroT Try.prog 58 [.int .u64 0, .int .u64 0, .bool false, .int .i64 0, .int .i64 0] := ⟨by kernel_rfl⟩
instance : AggT Try.prog 87 6 := ⟨by kernel_rfl⟩
instance : FldT Try.prog 87 0 0 30 := ⟨by kernel_rfl⟩
instance : FldT Try.prog 87 1 4 3 := ⟨by kernel_rfl⟩
instance : FldT Try.prog 87 2 5 4 := ⟨by kernel_rfl⟩
theorem eq_t87 (d : Nat) (x0 x1 x3 x4 : Int) (x2 x5 : Bool) (y0 y1 y3 y4 : Int) (y2 y5 : Bool) (w : World) : (Op.equalIn (d + 4) 87 (.agg #[.int .u64 x0, .int .u64 x1, .bool x2, .int .i64 x3, .int .i64 x4, .bool x5]) (.agg #[.int .u64 y0, .int .u64 y1, .bool y2, .int .i64 y3, .int .i64 y4, .bool y5])).run Try.prog w = .ok ((((x0 == y0) && ((x1 == y1) && (x2 == y2))) && (x3 == y3)) && ((x4 == y4) && (x5 == y5))) w := eq_struct Try.underlying87 (by kernel_rfl) (eqf_cons (by decide) (a := .agg #[.int .u64 x0, .int .u64 x1, .bool x2, .int .i64 x3]) (b := .agg #[.int .u64 y0, .int .u64 y1, .bool y2, .int .i64 y3]) (by kernel_rfl) (by kernel_rfl) (eq_t30 (d + 0) x0 x1 x3 x2 y0 y1 y3 y2 w) (eqf_cons (by decide) (a := .int .i64 x4) (b := .int .i64 y4) (by kernel_rfl) (by kernel_rfl) (eq_int (by kernel_rfl) (d + 2) x4 y4 w) (eqf_last (by decide) (a := .bool x5) (b := .bool y5) (by kernel_rfl) (by kernel_rfl) (eq_bool (by kernel_rfl) (d + 2) x5 y5 w))))
instance (x0 x1 x3 x4 : Int) (x2 x5 : Bool) (y0 y1 y3 y4 : Int) (y2 y5 : Bool) : EqT Try.prog 87 #[.int .u64 x0, .int .u64 x1, .bool x2, .int .i64 x3, .int .i64 x4, .bool x5] #[.int .u64 y0, .int .u64 y1, .bool y2, .int .i64 y3, .int .i64 y4, .bool y5] ((((x0 == y0) && ((x1 == y1) && (x2 == y2))) && (x3 == y3)) && ((x4 == y4) && (x5 == y5))) := ⟨fun d w => eq_t87 (d + 5) x0 x1 x3 x4 x2 x5 y0 y1 y3 y4 y2 y5 w⟩
instance : ZeroT Try.prog 87 [.int .u64 0, .int .u64 0, .bool false, .int .i64 0, .int .i64 0, .bool false] := ⟨by kernel_rfl⟩
instance : ZeroT Try.prog 132 [.slice none 0 0] := ⟨by kernel_rfl⟩
instance : AggT Try.prog 134 5 := ⟨by kernel_rfl⟩
instance : FldT Try.prog 134 0 0 30 := ⟨by kernel_rfl⟩
instance : FldT Try.prog 134 1 4 3 := ⟨by kernel_rfl⟩
instance : ZeroT Try.prog 134 [.int .u64 0, .int .u64 0, .bool false, .int .i64 0, .int .i64 0] := ⟨by kernel_rfl⟩
instance : AggT Try.prog 138 2 := ⟨by kernel_rfl⟩
instance : ArT Try.prog 138 2 23 1 := ⟨by kernel_rfl, by kernel_rfl⟩
instance : ZeroT Try.prog 138 [.int .u64 0, .int .u64 0] := ⟨by kernel_rfl⟩
instance : FldT Try.prog 163 0 0 120 := ⟨by kernel_rfl⟩
instance : FldT Try.prog 163 1 1 161 := ⟨by kernel_rfl⟩
instance : FldT Try.prog 163 2 2 3 := ⟨by kernel_rfl⟩
instance : FldT Try.prog 163 3 3 3 := ⟨by kernel_rfl⟩
instance : ZeroT Try.prog 163 [.pointer none, .map none, .int .i64 0, .int .i64 0] := ⟨by kernel_rfl⟩
instance : AggT Try.prog 168 2 := ⟨by kernel_rfl⟩
instance : ArT Try.prog 168 2 3 1 := ⟨by kernel_rfl, by kernel_rfl⟩
instance : ZeroT Try.prog 168 [.int .i64 0, .int .i64 0] := ⟨by kernel_rfl⟩
instance : AggT Try.prog 170 5 := ⟨by kernel_rfl⟩
instance : FldT Try.prog 170 0 0 168 := ⟨by kernel_rfl⟩
instance : FldT Try.prog 170 1 2 3 := ⟨by kernel_rfl⟩
instance : FldT Try.prog 170 2 3 4 := ⟨by kernel_rfl⟩
instance : FldT Try.prog 170 3 4 3 := ⟨by kernel_rfl⟩
instance : ZeroT Try.prog 170 [.int .i64 0, .int .i64 0, .int .i64 0, .bool false, .int .i64 0] := ⟨by kernel_rfl⟩
instance : FldT Try.prog 174 0 0 171 := ⟨by kernel_rfl⟩
instance : FldT Try.prog 174 1 1 172 := ⟨by kernel_rfl⟩
instance : FldT Try.prog 174 2 2 3 := ⟨by kernel_rfl⟩
instance : ZeroT Try.prog 174 [.slice none 0 0, .slice none 0 0, .int .i64 0] := ⟨by kernel_rfl⟩
instance : AggT Try.prog 203 5 := ⟨by kernel_rfl⟩
instance : FldT Try.prog 203 0 0 30 := ⟨by kernel_rfl⟩
instance : FldT Try.prog 203 1 4 3 := ⟨by kernel_rfl⟩
instance : ZeroT Try.prog 203 [.int .u64 0, .int .u64 0, .bool false, .int .i64 0, .int .i64 0] := ⟨by kernel_rfl⟩
instance : SlT Try.prog 22 58 5 40 := ⟨by kernel_rfl, by kernel_rfl⟩
instance : SlT Try.prog 36 203 5 40 := ⟨by kernel_rfl, by kernel_rfl⟩
instance : SlT Try.prog 42 56 6 48 := ⟨by kernel_rfl, by kernel_rfl⟩
instance : SlT Try.prog 45 87 6 48 := ⟨by kernel_rfl, by kernel_rfl⟩
instance : SlT Try.prog 118 5 1 1 := ⟨by kernel_rfl, by kernel_rfl⟩
instance : SlT Try.prog 132 134 5 40 := ⟨by kernel_rfl, by kernel_rfl⟩
instance : SlT Try.prog 171 170 5 40 := ⟨by kernel_rfl, by kernel_rfl⟩
instance : SlT Try.prog 172 3 1 8 := ⟨by kernel_rfl, by kernel_rfl⟩
instance : SlT Try.prog 180 30 4 32 := ⟨by kernel_rfl, by kernel_rfl⟩
end Go.Proofs.Ytfcffemglcgbnaa.Sq
namespace Go.Proofs.Ytfcffemglcgbnaa.Sq
open Go.RowKit
set_option linter.unusedVariables false
set_option linter.unusedSimpArgs false
variable {P : Program} {ops : Array Oper} {n : Fm} {C : World → Prop} {L : Slots} {m : Mem} {W : World} {F : Nat → Prop} {Q : Exit → Act → World → Prop} {l : List Oper} {dst : Option Tmp} {ty : TypeId} {pos : String} {af : Array Edge} {gd : Option (Nat × Bool)} {x y : Operand}
theorem y_nilc {a : Addr} (hx : opv L x = some (.pointer (some a))) : Yld P n C L ⟨dst, .nilCheck x, ty, pos, af, gd⟩ (.pointer (some a)) := y_run fun ac ha w hw => by
  simp [execOp, ev ha hx]
theorem y_nilel {A : Option Addr} {k i o : Nat} (hx : opv L x = some (elP A k i o)) : Yld P n C L ⟨dst, .nilCheck x, ty, pos, af, gd⟩ (elP A k i o) := by unfold elP at hx ⊢; exact y_nilc hx
theorem advA_zero {A : Option Addr} {c k : Nat} : advA A c 0 k = A := by
  unfold advA
  split
  · rfl
  · cases A with
    | none => rfl
    | some a => simp [Addr.add]
theorem f_norm_ret {fn : Func} {R : Ending → World → Prop} (h : Fin n W F (bodyPost P fn R) .ret L m) : Fin n W F (bodyPost P fn R) .normal L m := by
  unfold Fin at h ⊢
  exact h
theorem f_end0 (hds : n.ds = []) {fn : Func} {R : Ending → World → Prop} (hr : fn.results = #[]) (h : ∀ w, Has W F m w → R (.returned (.tuple #[])) w) : Fin n W F (bodyPost P fn R) .ret L m := by
  unfold Fin
  intro a w ha hw
  refine ⟨ha.defers.trans hds, _, ?_, h w hw⟩
  rw [results_eq, hr]
  simp
theorem t_endS {fr : Mem} {g : Option Addr → Nat → Value × Mem} {A : Option Addr} {c : Nat} {v : Value} (hv : v = (g A c).1) (hs : ((g A c).2 ++ fr).Sublist m) : ∀ w, Has W F m w → TPost W F fr (RetS g) (.returned v) w :=
  t_end (R := RetS g) ⟨A, c, hv, rfl⟩ hs
theorem t_endS1 {fr : Mem} {g : Option Addr → Nat → Value × Mem} {A : Option Addr} {c : Nat} {v : Value} {w : World} (hw : Has W F m w) (hv : v = (g A c).1) (hs : ((g A c).2 ++ fr).Sublist m) : TPost W F fr (RetS g) (.returned v) w :=
  t_endS hv hs w hw
theorem st_one {op : Op} {j : Nat} {g want : Bool} {v : Value} (hg : gval ops L j = some (.bool g)) (hq : g = want) (hy : Yld P n C L ⟨dst, op, ty, pos, af, some (j, want)⟩ v) : Stp P ops n C L ⟨dst, op, ty, pos, af, some (j, want)⟩ v := st_on (by rw [hg, hq]) hy
theorem y_andp {g t : Bool} (hc : opv L x = some (.bool g)) (hy : opv L y = some (.bool t)) : Yld P n C L ⟨dst, .pick x y (.const (.bool false)), ty, pos, af, gd⟩ (.bool (g && t)) :=
  y_pick hc (fun e => by subst e; rw [Bool.true_and]; exact hy) (fun e => by subst e; rfl)
theorem y_orp {z : Operand} {g t : Bool} (hc : opv L x = some (.bool g)) (hz : opv L z = some (.bool t)) : Yld P n C L ⟨dst, .pick x (.const (.bool true)) z, ty, pos, af, gd⟩ (.bool (g || t)) :=
  y_pick hc (fun e => by subst e; rfl) (fun e => by subst e; rw [Bool.false_or]; exact hz)
theorem s_stepw {o : Oper} {R : Value → Mem → Prop} (hwt : ∀ a, Holds n L a → Region.wanted o (yielded ops a.tmps) = true) (h1 : Step1 P n W F o L m R) (hd : fits n o.dst = true) (h : ∀ v m', R v m' → SSeq P ops n W F Q l (putL o.dst v L) m') : SSeq P ops n W F Q (o :: l) L m := by
  unfold SSeq at h ⊢
  intro a w ha hw
  unfold wpList
  rw [if_pos (hwt a ha)]
  refine .inl ?_
  have := h1 a ha w hw
  unfold Oper.wp
  generalize (execOp a.eval o).run P w = r at *
  cases r with
  | ok nx w' =>
    cases nx <;> first | exact this.elim | skip
    · obtain ⟨m1, r1, r2⟩ := this
      exact h _ _ r1 _ _ (ha.put hd _) r2
    · obtain ⟨m1, r1, r2⟩ := this
      exact h _ _ r1 _ _ (ha.put hd _) r2
    · obtain ⟨e1, hc⟩ := this
      rw [e1, Oper.upon_enter]
      refine hc.mono ?_
      rintro e w'' ⟨v, m1, r1, rfl, r3⟩
      exact h _ _ r1 _ _ (ha.put hd _) r3
  | halt x w' => exact this.elim
theorem w_know {p : Prop} {c : Code} (hk : ∀ w, Has W F m w → p) (h : p → Wp P n W F c L m Q) : Wp P n W F c L m Q := by
  unfold Wp at h ⊢
  exact fun a w ha hw => h (hk w hw) a w ha hw
theorem has_cap {A : Option Addr} {c k : Nat} {rows : List (List Value)} {t : TypeId} {w : World} (hw : Has W F m w) (hm : Pc.own A c k rows t ∈ m) : rows.length ≤ c := by
  rcases (hw.ok _ hm : Owns w A c k rows t).2 with ⟨_, rfl⟩ | ⟨_, _, _, _, _, _, h⟩
  · exact Nat.zero_le _
  · exact h
theorem has_vcap {A : Option Addr} {c k : Nat} {rows : List (List Value)} {w : World} (hw : Has W F m w) (hm : Pc.vw A c k rows ∈ m) : rows.length ≤ c := (hw.ok _ hm : Reads w A c k rows).cap
end Go.Proofs.Ytfcffemglcgbnaa.Sq
