/-
  Symbolic walks, more rules: nil checks, slices held against nil, slices with three bounds, an append onto a part of the same slice, clear.
-/
import Derived.Test.YtfcffemglcgbnaaSq
import Derived.Lib.SliceRun
namespace Go.Proofs.Ytfcffemglcgbnaa.Sq
open Go.RowKit
set_option linter.unusedVariables false
set_option linter.unusedSimpArgs false
variable {P : Program} {ops : Array Oper} {n : Fm} {C : World → Prop} {L : Slots} {m : Mem} {W : World} {F : Nat → Prop} {Q : Exit → Act → World → Prop} {l : List Oper} {dst : Option Tmp} {ty : TypeId} {pos : String} {af : Array Edge} {gd : Option (Nat × Bool)} {x y : Operand}
theorem y_nilc {a : Addr} (hx : opv L x = some (.pointer (some a))) : Yld P n C L ⟨dst, .nilCheck x, ty, pos, af, gd⟩ (.pointer (some a)) := y_run fun ac ha w hw => by
  simp [execOp, ev ha hx]
theorem y_nilel {A : Option Addr} {k i o : Nat} (hx : opv L x = some (elP A k i o)) : Yld P n C L ⟨dst, .nilCheck x, ty, pos, af, gd⟩ (elP A k i o) := by unfold elP at hx ⊢; exact y_nilc hx
theorem y_slnil {t t' e k b : Nat} [hst : SlT P t e k b] {A : Option Addr} {n1 c n2 c2 : Nat} (hx : opv L x = some (.slice A n1 c)) (hy : opv L y = some (.slice none n2 c2)) : Yld P n C L ⟨dst, .binOp .eql t x y t', ty, pos, af, gd⟩ (.bool A.isNone) := y_run fun ac ha w hw => by
  have hg : (eqGuard .eql t x y (.slice A n1 c) (.slice none n2 c2)).run P w = .ok () w := by
    unfold eqGuard
    first | rfl | (simp [Op.eqGuard]; done) | (simp [go_sem, run_underlying hst.ok.1]; done)
  have := Go.Lib.run_eql_slice_nil (P := P) w t e A n1 c n2 c2 hst.ok.1
  simp only [execOp, ev ha hx, ev ha hy, Sem.run_bind, hg, this, Result.andThen_ok]
  rfl
theorem y_slice3 {t e k b : Nat} [hst : SlT P t e k b] {A : Option Addr} {n' c l h j : Nat} {k1 k2 k3 : IntKind} {i1 i2 i3 : Int} {lo hi mx : Operand} (hx : opv L x = some (.slice A n' c)) (hl : opv L lo = some (.int k1 i1)) (hh : opv L hi = some (.int k2 i2)) (hm : opv L mx = some (.int k3 i3))
    (e1 : i1 = ((l : Nat) : Int)) (e2 : i2 = ((h : Nat) : Int)) (e3 : i3 = ((j : Nat) : Int)) (h1 : l ≤ h) (h2 : h ≤ j) (h3 : j ≤ c) :
    Yld P n C L ⟨dst, .slice t x (some lo) (some hi) (some mx), ty, pos, af, gd⟩ (.slice (advA A j l k) (h - l) (j - l)) := y_run fun a ha w hw => by
  obtain ⟨hu, inf, z, hinf, _, hk, _, _⟩ := hst.spec
  subst e1 e2 e3
  have q1 : (l : Int) ≤ (h : Int) := by omega
  have q2 : (h : Int) ≤ (j : Int) := by omega
  have q3 : (j : Int) ≤ (c : Int) := by omega
  have hb1 : ∀ kd cd, (Instr.sliceBound (.int kd ((l : Nat) : Int)) h cd).run P w = .ok l w := fun kd cd => by simp [Instr.sliceBound, asIntOf, q1]
  have hb2 : ∀ kd cd, (Instr.sliceBound (.int kd ((h : Nat) : Int)) j cd).run P w = .ok h w := fun kd cd => by simp [Instr.sliceBound, asIntOf, q2]
  have hb3 : ∀ kd cd, (Instr.sliceBound (.int kd ((j : Nat) : Int)) c cd).run P w = .ok j w := fun kd cd => by simp [Instr.sliceBound, asIntOf, q3]
  have hb : ∀ bb, (Instr.sliceBounds bb n' c (some (.int k1 l)) (some (.int k2 h)) (some (.int k3 j))).run P w = .ok (l, h, j) w := fun bb => by simp [Instr.sliceBounds, hb1, hb2, hb3]
  simp [execOp, ev ha hx, ev ha hl, ev ha hh, ev ha hm, Instr.sliceAt, Instr.slice, run_underlying hu w, hb, sizeOf, typeInfo, hinf, hk, advA]
theorem run_del_res {t e k b : Nat} (hst : SlT P t e k b) (ty : TypeId) {A : Option Addr} {c i j : Nat} {rows : List (List Value)} {w : World} (ho : Owns w A c k rows e) (hij : i ≤ j) (hj : j ≤ rows.length) (hc : 0 < c) (cb' : Nat) :
    ∃ w', (Builtin.append_ #[t, t] ty #[.slice A i c, .slice (advA A c j k) (rows.length - j) cb']).run P w = .ok (.slice A (i + (rows.length - j)) c) w' ∧ Owns w' A c k (rows.take i ++ rows.drop j) e ∧ Chg (bksA A c) w w' := by
  obtain ⟨hu, inf, z, hinf, hz, hk, hby, hzc⟩ := hst.spec
  subst hk
  have hpart := Reads.part ho.reads j (rows.length - j) (max (c - j) (rows.length - j)) hj (by omega)
  rw [List.take_of_length_le (by rw [List.length_drop]; omega)] at hpart
  have hsrc := reads_src (P := P) hpart hu cb'
  rw [List.length_drop] at hsrc
  rcases ho.2 with ⟨h0, _⟩ | ⟨_, g, rest, rfl, hg, hl, hle⟩
  · omega
  · have hfl := flat_len (fun row hr => (ho.1 row hr).1)
    have hfd : (rows.drop j).flatten.length = (rows.length - j) * inf.size := by
      rw [flat_len (fun row hr => (ho.1 row (List.mem_of_mem_drop hr)).1), List.length_drop]
    have hft : (rows.take i).flatten.length = i * inf.size := by
      rw [flat_len (fun row hr => (ho.1 row (List.mem_of_mem_take hr)).1), List.length_take, Nat.min_eq_left (by omega)]
    have hroom : i + (rows.length - j) ≤ c := by omega
    have hmul : (i + (rows.length - j)) * inf.size ≤ c * inf.size := Nat.mul_le_mul_right _ hroom
    rw [Nat.add_mul] at hmul
    have hfit : ∀ q, q < (rows.drop j).flatten.length → 0 + i * inf.size + q < (rows.flatten ++ rest).length := fun q hq => by rw [hl]; omega
    have hr := run_append_room_src (P := P) w t t ty e inf hu hinf g 0 i c _ _ _ hsrc hroom
      (fun q hq => by rw [cell_of_row w _ _ _ _ _ hg]; simp only [List.getElem?_toArray]; rw [List.getElem?_eq_getElem (hfit q hq)]; rfl)
      (fun q hq => frozen_of_row w g _ _ _ hg)
    obtain ⟨q1, q2⟩ := setCells_chg (rows.drop j).flatten (0 + i * inf.size) hg
    have hsplit : rows.flatten ++ rest = (rows.take i).flatten ++ ((rows.drop i).flatten ++ rest) := by
      rw [← List.append_assoc, ← List.flatten_append, List.take_append_drop]
    have hdi : (rows.drop i).flatten.length = (rows.length - i) * inf.size := by
      rw [flat_len (fun row hr => (ho.1 row (List.mem_of_mem_drop hr)).1), List.length_drop]
    have hle2 : (rows.length - j) * inf.size ≤ (rows.length - i) * inf.size := Nat.mul_le_mul_right _ (by omega)
    refine ⟨_, hr, ⟨fun row hr => (List.mem_append.1 hr).elim (fun q => ho.1 row (List.mem_of_mem_take q)) (fun q => ho.1 row (List.mem_of_mem_drop q)), .inr ⟨hc, g, ((rows.drop i).flatten ++ rest).drop (rows.drop j).flatten.length, rfl, ?_, ?_, ?_⟩⟩, ?_⟩
    · rw [q2, Nat.zero_add, hsplit, ← hft, setAt_app _ _ _ (by rw [List.length_append]; omega)]
      simp
    · rw [hsplit, List.length_append] at hl
      rw [List.flatten_append, List.length_append, List.length_append, List.length_drop, ← hl]
      rw [List.length_append]
      omega
    · rw [List.length_append, List.length_take, List.length_drop]; omega
    · unfold bksA; rw [if_neg (by omega)]; exact q1
theorem st1_del {d : Nat} {t e k b : Nat} [hst : SlT P t e k b] {A B : Option Addr} {i j n2 c cb' : Nat} {rows : List (List Value)} {f : Pc → Mem} (hx : opv L x = some (.slice A i c)) (hy : opv L y = some (.slice B n2 cb')) (hB : B = advA A c j k) (hp : Plc m (.own A c k rows e) f) (e2 : n2 = rows.length - j) (hij : i ≤ j) (hj : j ≤ rows.length) (hc : 0 < c) :
    Step1 P n W F ⟨some d, .call { callee := .builtin .append, args := #[x, y], argTypes := #[t, t] }, ty, pos, af, none⟩ L m (fun v m' => v = .slice A (i + (rows.length - j)) c ∧ m' = f (.own A c k (rows.take i ++ rows.drop j) e)) := st1_of fun a ha w hw => by
  subst e2 hB
  obtain ⟨w', r1, r2, r3⟩ := run_del_res (P := P) hst ty (hw.ok _ hp.mem : Owns w A c k rows e) hij hj hc cb'
  refine ⟨_, w', _, ?_, hw.put hp r3 (show Pc.ok w' (.own A c k (rows.take i ++ rows.drop j) e) from r2) (fun x hx => .inl hx) own_nodup (fun _ _ _ _ e => by cases e), rfl, rfl⟩
  simp [execOp, resolve, invoke, builtin, ev ha hx, ev ha hy, r1]
theorem run_clr_res {t e k b : Nat} (hst : SlT P t e k b) (hz1 : ((P.info? e).bind (·.zero)).all (fun z => z.cells.toList.all (·.oneCell')) = true) (ty : TypeId) {A : Option Addr} {c r d : Nat} {rows : List (List Value)} {w : World} (ho : Owns w A c k rows e) (hr : rows.length ≤ r) (hd : r + d ≤ c) (hk0 : 0 < k) (c' : Nat) :
    ∃ w', (Builtin.clear_ #[t] ty #[.slice (advA A c r k) d c']).run P w = .ok (.tuple #[]) w' ∧ Owns w' A c k rows e ∧ Chg (bksA A c) w w' := by
  obtain ⟨hu, inf, z, hinf, hz, hk, hby, hzc⟩ := hst.spec
  subst hk
  by_cases hd0 : d = 0
  · subst hd0
    refine ⟨w, ?_, ho, ⟨rfl, rfl, rfl, Nat.le_refl _, fun _ _ _ => rfl⟩⟩
    cases advA A c r inf.size <;> simp [Builtin.clear_, run_underlying hu]
  · rcases ho.2 with ⟨h0, _⟩ | ⟨hcp, g, rest, rfl, hg, hl, hle⟩
    · omega
    · have hfl := flat_len (fun row hr => (ho.1 row hr).1)
      have hadv : advA (some ⟨g, 0, none⟩) c r inf.size = some ⟨g, r * inf.size, none⟩ := by
        unfold advA; rw [if_neg (by omega)]; simp [Addr.add_mid]
      have hzl : (Builtin.zeroCells z.cells d).toList.length = d * inf.size := by rw [Array.length_toList, size_zeroCells, hzc]
      have hmul : (r + d) * inf.size ≤ c * inf.size := Nat.mul_le_mul_right _ hd
      have hmr : rows.length * inf.size ≤ r * inf.size := Nat.mul_le_mul_right _ hr
      rw [Nat.add_mul] at hmul
      have hzone : ∀ v ∈ (Builtin.zeroCells z.cells d).toList, v.oneCell' = true := fun v hv => by
        have hz2 : ∀ v ∈ z.cells.toList, v.oneCell' = true := by
          rw [hinf] at hz1
          simp only [Option.bind_some, hz, Option.all_some, List.all_eq_true] at hz1
          exact hz1
        have hv2 : v ∈ (Array.range (d * z.cells.size)).map fun i => z.cells[i % z.cells.size]! := Array.mem_toList_iff.1 hv
        obtain ⟨q, _, rfl⟩ := Array.mem_map.1 hv2
        have hlt : q % z.cells.size < z.cells.size := Nat.mod_lt _ (by omega)
        rw [getElem!_pos z.cells _ hlt]
        exact hz2 _ (Array.getElem_mem_toList hlt)
      have hst2 := run_storeCells_cells (P := P) g (r * inf.size) (Builtin.zeroCells z.cells d).toList 0 w
        (fun q hq => by
          rw [cell_of_row w _ _ _ _ _ hg]; simp only [List.getElem?_toArray]
          rw [List.getElem?_eq_getElem (show r * inf.size + 0 + q < (rows.flatten ++ rest).length by rw [hl]; omega)]; rfl)
        (fun q hq => frozen_of_row w g _ _ _ hg) hzone
      obtain ⟨q1, q2⟩ := setCells_chg (Builtin.zeroCells z.cells d).toList (r * inf.size + 0) hg
      refine ⟨w.setCells g (r * inf.size + 0) (Builtin.zeroCells z.cells d).toList, ?_, ⟨ho.1, .inr ⟨hcp, g, setAt rest (r * inf.size - rows.length * inf.size) (Builtin.zeroCells z.cells d).toList, rfl, ?_, ?_, hle⟩⟩, ?_⟩
      · obtain ⟨d', rfl⟩ : ∃ d', d = d' + 1 := ⟨d - 1, by omega⟩
        rw [hadv]
        have hzv : (zeroValue e).run P w = .ok z w := by simp [zeroValue, typeInfo, hinf, hz]
        simp [Builtin.clear_, run_underlying hu, hzv, hst2]
      · rw [q2, ← setAt_pre, hfl, Nat.add_zero]
        have e9 : rows.length * inf.size + (r * inf.size - rows.length * inf.size) = r * inf.size := by omega
        rw [e9]
      · rw [List.length_append, setAt_length, ← List.length_append]; exact hl
      · unfold bksA; rw [if_neg (by omega)]; exact q1
theorem st1_clr {t e k b : Nat} [hst : SlT P t e k b] {A B : Option Addr} {r d c c' : Nat} {rows : List (List Value)} {f : Pc → Mem} (hx : opv L x = some (.slice B d c')) (hp : Plc m (.own A c k rows e) f) (hB : B = advA A c r k) (hz1 : ((P.info? e).bind (·.zero)).all (fun z => z.cells.toList.all (·.oneCell')) = true) (hr : rows.length ≤ r) (hd : r + d ≤ c) (hk0 : Nat.blt 0 k = true) :
    Step1 P n W F ⟨dst, .call { callee := .builtin .clear, args := #[x], argTypes := #[t] }, ty, pos, af, none⟩ L m (fun v m' => v = .tuple #[] ∧ m' = f (.own A c k rows e)) := st1_of fun a ha w hw => by
  subst hB
  obtain ⟨w', r1, r2, r3⟩ := run_clr_res (P := P) hst hz1 ty (hw.ok _ hp.mem : Owns w A c k rows e) hr hd (Nat.le_of_ble_eq_true hk0) c'
  refine ⟨_, w', _, ?_, hw.put hp r3 (show Pc.ok w' (.own A c k rows e) from r2) (fun x hx => .inl hx) own_nodup (fun _ _ _ _ e => by cases e), rfl, rfl⟩
  simp [execOp, resolve, invoke, builtin, ev ha hx, r1]
theorem advA_zero {A : Option Addr} {c k : Nat} : advA A c 0 k = A := by
  unfold advA
  split
  · rfl
  · cases A with
    | none => rfl
    | some a => simp [Addr.add]
theorem s_del {d : Nat} {t e k b : Nat} [hst : SlT P t e k b] {A A0 B : Option Addr} {i i0 j n2 c c0 cb' : Nat} {rows : List (List Value)} {f : Pc → Mem} (hx : opv L x = some (.slice A0 i0 c0)) (hy : opv L y = some (.slice B n2 cb')) (hp : Plc m (.own A c k rows e) f) (hA : A0 = A) (hi : i0 = i) (hc0 : c0 = c) (hB : B = advA A c j k) (e2 : n2 = rows.length - j) (hij : i ≤ j) (hj : j ≤ rows.length) (hc : 0 < c) (hd : fits n (some d) = true)
    (h : SSeq P ops n W F Q l ((d, .slice A (i + (rows.length - j)) c) :: L) (f (.own A c k (rows.take i ++ rows.drop j) e))) : SSeq P ops n W F Q (⟨some d, .call { callee := .builtin .append, args := #[x, y], argTypes := #[t, t] }, ty, pos, af, none⟩ :: l) L m :=
  s_step (st1_del (by rw [hx, hA, hi, hc0]) hy hB hp e2 hij hj hc) hd fun v m' ⟨q1, q2⟩ => by subst q1 q2; exact h
theorem s_clr {t e k b : Nat} [hst : SlT P t e k b] {A B : Option Addr} {r d c c' : Nat} {rows : List (List Value)} {f : Pc → Mem} (hx : opv L x = some (.slice B d c')) (hp : Plc m (.own A c k rows e) f) (hB : B = advA A c r k) (hz1 : ((P.info? e).bind (·.zero)).all (fun z => z.cells.toList.all (·.oneCell')) = true) (hr : rows.length ≤ r) (hd : r + d ≤ c) (hk0 : Nat.blt 0 k = true)
    (h : SSeq P ops n W F Q l L (f (.own A c k rows e))) : SSeq P ops n W F Q (⟨none, .call { callee := .builtin .clear, args := #[x], argTypes := #[t] }, ty, pos, af, none⟩ :: l) L m :=
  s_step (st1_clr hx hp hB hz1 hr hd hk0) rfl fun v m' ⟨q1, q2⟩ => by subst q1 q2; exact h
theorem f_norm_ret {fn : Func} {R : Ending → World → Prop} (h : Fin n W F (bodyPost P fn R) .ret L m) : Fin n W F (bodyPost P fn R) .normal L m := by
  unfold Fin at h ⊢
  exact h
theorem f_end0 (hds : n.ds = []) {fn : Func} {R : Ending → World → Prop} (hr : fn.results = #[]) (h : ∀ w, Has W F m w → R (.returned (.tuple #[])) w) : Fin n W F (bodyPost P fn R) .ret L m := by
  unfold Fin
  intro a w ha hw
  refine ⟨ha.defers.trans hds, _, ?_, h w hw⟩
  rw [results_eq, hr]
  simp
theorem t_endS {fr : Mem} {g : Option Addr → Nat → Value × Mem} {A : Option Addr} {c : Nat} {v : Value} (hv : v = (g A c).1) (hs : ((g A c).2 ++ fr).Sublist m) : ∀ w, Has W F m w → TPost W F fr (RetS g) (.returned v) w :=
  t_end (R := RetS g) ⟨A, c, hv, rfl⟩ hs
theorem t_endS1 {fr : Mem} {g : Option Addr → Nat → Value × Mem} {A : Option Addr} {c : Nat} {v : Value} {w : World} (hw : Has W F m w) (hv : v = (g A c).1) (hs : ((g A c).2 ++ fr).Sublist m) : TPost W F fr (RetS g) (.returned v) w :=
  t_endS hv hs w hw
theorem st_one {op : Op} {j : Nat} {g want : Bool} {v : Value} (hg : gval ops L j = some (.bool g)) (hq : g = want) (hy : Yld P n C L ⟨dst, op, ty, pos, af, some (j, want)⟩ v) : Stp P ops n C L ⟨dst, op, ty, pos, af, some (j, want)⟩ v := st_on (by rw [hg, hq]) hy
theorem y_andp {g t : Bool} (hc : opv L x = some (.bool g)) (hy : opv L y = some (.bool t)) : Yld P n C L ⟨dst, .pick x y (.const (.bool false)), ty, pos, af, gd⟩ (.bool (g && t)) :=
  y_pick hc (fun e => by subst e; rw [Bool.true_and]; exact hy) (fun e => by subst e; rfl)
theorem y_orp {z : Operand} {g t : Bool} (hc : opv L x = some (.bool g)) (hz : opv L z = some (.bool t)) : Yld P n C L ⟨dst, .pick x (.const (.bool true)) z, ty, pos, af, gd⟩ (.bool (g || t)) :=
  y_pick hc (fun e => by subst e; rfl) (fun e => by subst e; rw [Bool.false_or]; exact hz)
theorem s_stepw {o : Oper} {R : Value → Mem → Prop} (hwt : ∀ a, Holds n L a → Region.wanted o (yielded ops a.tmps) = true) (h1 : Step1 P n W F o L m R) (hd : fits n o.dst = true) (h : ∀ v m', R v m' → SSeq P ops n W F Q l (putL o.dst v L) m') : SSeq P ops n W F Q (o :: l) L m := by
  unfold SSeq at h ⊢
  intro a w ha hw
  unfold wpList
  rw [if_pos (hwt a ha)]
  refine .inl ?_
  have := h1 a ha w hw
  unfold Oper.wp
  generalize (execOp a.eval o).run P w = r at *
  cases r with
  | ok nx w' =>
    cases nx <;> first | exact this.elim | skip
    · obtain ⟨m1, r1, r2⟩ := this
      exact h _ _ r1 _ _ (ha.put hd _) r2
    · obtain ⟨m1, r1, r2⟩ := this
      exact h _ _ r1 _ _ (ha.put hd _) r2
    · obtain ⟨e1, hc⟩ := this
      rw [e1, Oper.upon_enter]
      refine hc.mono ?_
      rintro e w'' ⟨v, m1, r1, rfl, r3⟩
      exact h _ _ r1 _ _ (ha.put hd _) r3
  | halt x w' => exact this.elim
theorem w_know {p : Prop} {c : Code} (hk : ∀ w, Has W F m w → p) (h : p → Wp P n W F c L m Q) : Wp P n W F c L m Q := by
  unfold Wp at h ⊢
  exact fun a w ha hw => h (hk w hw) a w ha hw
theorem has_cap {A : Option Addr} {c k : Nat} {rows : List (List Value)} {t : TypeId} {w : World} (hw : Has W F m w) (hm : Pc.own A c k rows t ∈ m) : rows.length ≤ c := by
  rcases (hw.ok _ hm : Owns w A c k rows t).2 with ⟨_, rfl⟩ | ⟨_, _, _, _, _, _, h⟩
  · exact Nat.zero_le _
  · exact h
theorem has_nil {c k : Nat} {rows : List (List Value)} {w : World} (hw : Has W F m w) (hm : Pc.vw none c k rows ∈ m) : rows = [] := by
  by_cases h : rows = []
  · exact h
  · obtain ⟨_, h, _⟩ := (hw.ok _ hm : Reads w none c k rows).at_ h
    cases h
end Go.Proofs.Ytfcffemglcgbnaa.Sq
