/-
  Symbolic walks, more rules: nil checks, slices held against nil, slices with three bounds, an append onto a part of the same slice, clear.
-/
import Derived.Test.YtfcffemglcgbnaaSq
import Derived.Lib.SliceRun
namespace Go.Proofs.Ytfcffemglcgbnaa.Sq
open Go.RowKit
set_option linter.unusedVariables false
set_option linter.unusedSimpArgs false
variable {P : Program} {ops : Array Oper} {n : Fm} {C : World → Prop} {L : Slots} {m : Mem} {W : World} {F : Nat → Prop} {Q : Exit → Act → World → Prop} {l : List Oper} {dst : Option Tmp} {ty : TypeId} {pos : String} {af : Array Edge} {gd : Option (Nat × Bool)} {x y : Operand}
theorem y_nilc {a : Addr} (hx : opv L x = some (.pointer (some a))) : Yld P n C L ⟨dst, .nilCheck x, ty, pos, af, gd⟩ (.pointer (some a)) := y_run fun ac ha w hw => by
  simp [execOp, ev ha hx]
theorem y_nilel {A : Option Addr} {k i o : Nat} (hx : opv L x = some (elP A k i o)) : Yld P n C L ⟨dst, .nilCheck x, ty, pos, af, gd⟩ (elP A k i o) := by unfold elP at hx ⊢; exact y_nilc hx
theorem advA_zero {A : Option Addr} {c k : Nat} : advA A c 0 k = A := by
  unfold advA
  split
  · rfl
  · cases A with
    | none => rfl
    | some a => simp [Addr.add]
theorem f_norm_ret {fn : Func} {R : Ending → World → Prop} (h : Fin n W F (bodyPost P fn R) .ret L m) : Fin n W F (bodyPost P fn R) .normal L m := by
  unfold Fin at h ⊢
  exact h
theorem f_end0 (hds : n.ds = []) {fn : Func} {R : Ending → World → Prop} (hr : fn.results = #[]) (h : ∀ w, Has W F m w → R (.returned (.tuple #[])) w) : Fin n W F (bodyPost P fn R) .ret L m := by
  unfold Fin
  intro a w ha hw
  refine ⟨ha.defers.trans hds, _, ?_, h w hw⟩
  rw [results_eq, hr]
  simp
theorem t_endS {fr : Mem} {g : Option Addr → Nat → Value × Mem} {A : Option Addr} {c : Nat} {v : Value} (hv : v = (g A c).1) (hs : ((g A c).2 ++ fr).Sublist m) : ∀ w, Has W F m w → TPost W F fr (RetS g) (.returned v) w :=
  t_end (R := RetS g) ⟨A, c, hv, rfl⟩ hs
theorem t_endS1 {fr : Mem} {g : Option Addr → Nat → Value × Mem} {A : Option Addr} {c : Nat} {v : Value} {w : World} (hw : Has W F m w) (hv : v = (g A c).1) (hs : ((g A c).2 ++ fr).Sublist m) : TPost W F fr (RetS g) (.returned v) w :=
  t_endS hv hs w hw
theorem st_one {op : Op} {j : Nat} {g want : Bool} {v : Value} (hg : gval ops L j = some (.bool g)) (hq : g = want) (hy : Yld P n C L ⟨dst, op, ty, pos, af, some (j, want)⟩ v) : Stp P ops n C L ⟨dst, op, ty, pos, af, some (j, want)⟩ v := st_on (by rw [hg, hq]) hy
theorem y_andp {g t : Bool} (hc : opv L x = some (.bool g)) (hy : opv L y = some (.bool t)) : Yld P n C L ⟨dst, .pick x y (.const (.bool false)), ty, pos, af, gd⟩ (.bool (g && t)) :=
  y_pick hc (fun e => by subst e; rw [Bool.true_and]; exact hy) (fun e => by subst e; rfl)
theorem y_orp {z : Operand} {g t : Bool} (hc : opv L x = some (.bool g)) (hz : opv L z = some (.bool t)) : Yld P n C L ⟨dst, .pick x (.const (.bool true)) z, ty, pos, af, gd⟩ (.bool (g || t)) :=
  y_pick hc (fun e => by subst e; rfl) (fun e => by subst e; rw [Bool.false_or]; exact hz)
theorem s_stepw {o : Oper} {R : Value → Mem → Prop} (hwt : ∀ a, Holds n L a → Region.wanted o (yielded ops a.tmps) = true) (h1 : Step1 P n W F o L m R) (hd : fits n o.dst = true) (h : ∀ v m', R v m' → SSeq P ops n W F Q l (putL o.dst v L) m') : SSeq P ops n W F Q (o :: l) L m := by
  unfold SSeq at h ⊢
  intro a w ha hw
  unfold wpList
  rw [if_pos (hwt a ha)]
  refine .inl ?_
  have := h1 a ha w hw
  unfold Oper.wp
  generalize (execOp a.eval o).run P w = r at *
  cases r with
  | ok nx w' =>
    cases nx <;> first | exact this.elim | skip
    · obtain ⟨m1, r1, r2⟩ := this
      exact h _ _ r1 _ _ (ha.put hd _) r2
    · obtain ⟨m1, r1, r2⟩ := this
      exact h _ _ r1 _ _ (ha.put hd _) r2
    · obtain ⟨e1, hc⟩ := this
      rw [e1, Oper.upon_enter]
      refine hc.mono ?_
      rintro e w'' ⟨v, m1, r1, rfl, r3⟩
      exact h _ _ r1 _ _ (ha.put hd _) r3
  | halt x w' => exact this.elim
theorem w_know {p : Prop} {c : Code} (hk : ∀ w, Has W F m w → p) (h : p → Wp P n W F c L m Q) : Wp P n W F c L m Q := by
  unfold Wp at h ⊢
  exact fun a w ha hw => h (hk w hw) a w ha hw
theorem has_cap {A : Option Addr} {c k : Nat} {rows : List (List Value)} {t : TypeId} {w : World} (hw : Has W F m w) (hm : Pc.own A c k rows t ∈ m) : rows.length ≤ c := by
  rcases (hw.ok _ hm : Owns w A c k rows t).2 with ⟨_, rfl⟩ | ⟨_, _, _, _, _, _, h⟩
  · exact Nat.zero_le _
  · exact h
end Go.Proofs.Ytfcffemglcgbnaa.Sq
