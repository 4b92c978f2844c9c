/-
  Symbolic walks: a range over a function. An iterator's contract (Itr), the loop (w_range), a call of yield (f_yield), the rounds' frames.
-/
import Derived.Test.YtfcffemglcgbnaaSr
import Derived.RangeFuncIn
import Derived.RangeFuncRecord
import Derived.RangeFuncCalls
import Derived.RangeFuncLeaves
import Derived.RangeFuncSeq
import Derived.TacticsIn
import Derived.Test.YtfcffemglcgbnaaEqs
namespace Go.Proofs.Ytfcffemglcgbnaa.Sq
open Go.RowKit
set_option linter.unusedVariables false
set_option linter.unusedSimpArgs false
variable {P : Program} {ops : Array Oper} {n : Fm} {C : World → Prop} {L : Slots} {m : Mem} {W : World} {F : Nat → Prop} {Q : Exit → Act → World → Prop} {l : List Oper} {dst : Option Tmp} {ty : TypeId} {pos : String} {af : Array Edge} {gd : Option (Nat × Bool)} {x y : Operand}
theorem calls_fen {ro : Option Nat} {k : Nat} {f : FuncId} {args : Array Value} {w : World} {R : Ending → World → Prop} (h : Calls P f args w R) : CallsIn (fen ro) k P f args w R := by
  have h1 : CallsIn Fence.wide k P f args w R := callsIn_wide.2 h
  cases ro with
  | none => exact h1
  | some l0 => exact h1.inRound l0
theorem rows_fen {ro : Option Nat} {k : Nat} {row : String} {args : Array Value} {w : World} {R : Value → World → Prop} (h : Rows P row args w R) : RowsIn (fen ro) k P row args w R := fun c cs _ => by
  obtain ⟨v, w', r, s⟩ := h c cs
  refine ⟨v, w', r, ?_⟩
  have := (stepsIn_wide (P := P)).2 s
  cases ro <;> exact this
def notDefer (o : Oper) : Bool := match o.op with
  | .defer _ => false
  | _ => true
theorem oper_fen {ro : Option Nat} {o : Oper} {a : Act} {w : World} {next next' : Act → World → Prop} {Q Q' : Exit → Act → World → Prop} (hd : notDefer o = true) (hn : ∀ a w, next a w → next' a w) (hQ : ∀ c a w, Q (.panic c) a w → Q' (.panic c) a w) (hl : LetsOut Q → LetsOut Q') (h : o.wp P a w next Q) : o.wpIn (fen ro) 0 P a w next' Q' := by
  refine ⟨fun f _ => trivial, ?_⟩
  have e : (fen ro).round = ro := rfl
  rw [e, Oper.semAt_eq ro _ _ (fun c hc => by unfold notDefer at hd; rw [hc] at hd; cases hd)]
  unfold Oper.wp at h
  generalize (execOp a.eval o).run P w = r at *
  cases r with
  | ok nx w' =>
    cases nx with
    | value v => exact hn _ _ h
    | skip => exact hn _ _ h
    | defer d => exact hn _ _ h
    | enter f args =>
      rw [Oper.uponIn_enter]
      rw [Oper.upon_enter] at h
      refine ⟨fun h => (by cases ro <;> cases h), calls_fen (h.mono fun e w'' hh => ?_)⟩
      cases e with
      | returned v => exact hn _ _ hh
      | panicked c => exact hQ _ _ _ hh
      | outgrown => exact hl hh
    | row row args =>
      rw [Oper.uponIn_row]
      refine ⟨fun h => (by cases ro <;> cases h), rows_fen ?_⟩
      have h' : Rows P row args w' fun v w'' => next (a.put o.dst v) w'' := h
      exact h'.mono fun v w'' hh => hn _ _ hh
    | _ => exact h.elim
  | halt hx w' =>
    cases hx <;> first | exact h.elim | exact hQ _ _ _ h
theorem list_fen {ro : Option Nat} {K : Act → World → Prop} {l2 : List Oper} (hl : ¬ LetsOut Q) (hK : ∀ a w, K a w → wpListIn (fen ro) 0 P ops Q l2 a w) : ∀ (l1 : List Oper) (a : Act) (w : World), (l1.all notDefer) = true → wpList P ops (Exit.then K Q) l1 a w → wpListIn (fen ro) 0 P ops Q (l1 ++ l2) a w
  | [], a, w, _, h => hK a w h
  | o :: l1, a, w, hd, h => by
    rw [List.all_cons, Bool.and_eq_true] at hd
    unfold wpList at h
    rw [List.cons_append]
    unfold wpListIn
    split at h
    · rename_i hw
      rw [if_pos hw]
      rcases h with h | ⟨_, a', w', h⟩
      · exact oper_fen hd.1 (fun a w hh => list_fen hl hK l1 a w hd.2 hh) (fun c a w hh => hh) (fun ⟨a, w, hh⟩ => ⟨a, w, hh⟩) h
      · exact absurd ⟨a', w', h⟩ hl
    · rename_i hw
      rw [if_neg hw]
      exact ⟨fun f _ => trivial, list_fen hl hK l1 _ w hd.2 h⟩
theorem w_reg_in {id : Nat} {l : List Oper} (hl : ¬ LetsOut Q) (hd : l.all notDefer = true) (h : SSeq P l.toArray n W F (Exit.then (fun a w => Q .normal a w) Q) l L m) : Wp P n W F (.region id l.toArray false) L m Q := by
  unfold Wp
  intro a w ha hw
  refine wpIn_region_lit ?_
  have := list_fen (ro := n.ro) (ops := l.toArray) (K := fun a w => Q .normal a w) (l2 := []) hl (fun a w hh => hh) l a w hd (by unfold SSeq at h; exact h a w ha hw)
  rwa [List.append_nil] at this
theorem f_norm_then (h : Fin n W F Q .normal L m) : Fin n W F (Exit.then (fun a w => Q .normal a w) Q) .normal L m := by
  unfold Fin at h ⊢
  exact h
/-! ### yield -/
variable {α : Type}
def YC (P : Program) (l : Nat) (encs : α → List Value) (N : Nat) (J Jx : List α → Mem → Prop) : Prop :=
  ∀ (W : World) (F : Nat → Prop) (X : Mem) (pre : List α) (x : α) (m : Mem) (w : World), pre.length < N → J pre m → Has W F (m ++ X) w →
    YieldAt Fence.wide 0 P l (encs x).toArray w fun e w' =>
      (e = .returned (.bool true) ∧ ∃ m', J (pre ++ [x]) m' ∧ Has W F (m' ++ X) w') ∨ (e = .returned (.bool false) ∧ ∃ m', Jx (pre ++ [x]) m' ∧ Has W F (m' ++ X) w')
def ItrR (S Sp : List α → Prop) (J Jx : List α → Mem → Prop) : Value → Mem → Prop := fun v m' => (∃ xs, S xs ∧ J xs m') ∨ (∃ pre, Sp pre ∧ Jx pre m')
def Itr (P : Program) (gf : FuncId) (lb : List Value) (U : Mem) (encs : α → List Value) (S Sp : List α → Prop) (N : Nat) : Prop :=
  ∀ (l : Nat) (J Jx : List α → Mem → Prop), YC P l encs N J Jx → ∀ m0, J [] m0 →
    Tri P gf (.func (.yield l) #[] #[] :: lb) (U ++ m0) (ItrR S Sp J Jx)
theorem itr_all {J Jx : List α → Mem → Prop} {S Sp : List α → Prop} {xs : List α} {v : Value} {m' fr : Mem} (hJ : J xs m') (hS : S xs) (hs : (m' ++ fr).Sublist m) : ∀ w, Has W F m w → TPost W F fr (ItrR S Sp J Jx) (.returned v) w :=
  t_end (R := ItrR S Sp J Jx) (.inl ⟨xs, hS, hJ⟩) hs
theorem itr_stop {J Jx : List α → Mem → Prop} {S Sp : List α → Prop} {xs : List α} {v : Value} {m' fr : Mem} (hJ : Jx xs m') (hS : Sp xs) (hs : (m' ++ fr).Sublist m) : ∀ w, Has W F m w → TPost W F fr (ItrR S Sp J Jx) (.returned v) w :=
  t_end (R := ItrR S Sp J Jx) (.inr ⟨xs, hS, hJ⟩) hs
inductive Spl (r : Mem) : Mem → Mem → Prop
  | nil : Spl r r []
  | cons {p : Pc} {m X : Mem} (h : Spl r m X) : Spl r (p :: m) (p :: X)
theorem Spl.eq {r m X : Mem} (h : Spl r m X) : m = X ++ r := by
  induction h with
  | nil => rfl
  | cons _ ih => rw [ih]; rfl
theorem w_reg_y {id : Nat} {l : List Oper} (k : Nat) (hro : n.ro = none) (hl : ¬ LetsOut Q) (hd : (l.take k).all notDefer = true) (h : SSeq P l.toArray n W F (Exit.then (fun a w => wpListIn (fen none) 0 P l.toArray Q (l.drop k) a w) Q) (l.take k) L m) : Wp P n W F (.region id l.toArray false) L m Q := by
  unfold Wp
  intro a w ha hw
  refine wpIn_region_lit ?_
  rw [hro]
  have := list_fen (ro := none) (ops := l.toArray) (l2 := l.drop k) hl (fun a w hh => hh) (l.take k) a w hd (by unfold SSeq at h; exact h a w ha hw)
  rwa [List.take_append_drop] at this
theorem wanted_on {op : Op} (h : gd = none ∨ ∃ j g, gd = some (j, g) ∧ gval ops L j = some (.bool g)) {a : Act} (ha : Holds n L a) : Region.wanted ⟨dst, op, ty, pos, af, gd⟩ (yielded ops a.tmps) = true := by
  rcases h with rfl | ⟨j, g, rfl, hg⟩
  · rfl
  · rw [wanted_of ha hg]; simp
theorem f_yield {Q1 : Exit → Act → World → Prop} {lp : Nat} {encs : α → List Value} {N : Nat} {J Jx : List α → Mem → Prop} {d : Nat} {pre : List α} {z : α} {X mJ fr : Mem} {xs : Array Operand} {ts : Array TypeId} {l2 : List Oper} (hl : ¬ LetsOut Q) (hd2 : l2.all notDefer = true)
    (hg : gd = none ∨ ∃ j g, gd = some (j, g) ∧ gval ops L j = some (.bool g)) (hx : opv L x = some (.func (.yield lp) #[] #[])) (hv : opvs L xs.toList = some (encs z)) (hY : YC P lp encs N J Jx) (hN : pre.length < N) (hJ : J pre mJ) (hs : Spl (mJ ++ fr) m X) (hd : fits n (some d) = true)
    (h1 : ∀ m', J (pre ++ [z]) m' → SSeq P ops n W F (Exit.then (fun a w => Q .normal a w) Q) l2 ((d, .bool true) :: L) (X ++ (m' ++ fr)))
    (h2 : ∀ m', Jx (pre ++ [z]) m' → SSeq P ops n W F (Exit.then (fun a w => Q .normal a w) Q) l2 ((d, .bool false) :: L) (X ++ (m' ++ fr))) :
    Fin n W F (Exit.then (fun a w => wpListIn (fen none) 0 P ops Q (⟨some d, .call { callee := .value x, args := xs, argTypes := ts }, ty, pos, af, gd⟩ :: l2) a w) Q1) .normal L m := by
  unfold Fin
  intro a w ha hw
  show wpListIn _ _ _ _ _ _ _ _
  unfold wpListIn
  rw [if_pos (wanted_on hg ha)]
  refine ⟨fun f _ => trivial, ?_⟩
  have hargs : xs.map a.eval = (encs z).toArray := by
    apply Array.toList_inj.1
    simpa using evs ha hv
  have hrun : (execOp a.eval ⟨some d, .call { callee := .value x, args := xs, argTypes := ts }, ty, pos, af, gd⟩).run P w = (Instr.yield lp (encs z).toArray).run P w := by
    simp [execOp, resolve, Deferred.ofValue, invoke, ev ha hx, hargs]
  have hp : m.Perm (mJ ++ (X ++ fr)) := by
    rw [hs.eq, ← List.append_assoc, ← List.append_assoc]
    exact (List.perm_append_comm).append_right fr
  obtain ⟨fn, tmps, assign, body, hy, hR⟩ := hY W F (X ++ fr) pre z mJ w hN hJ (hw.perm hp)
  have e : Oper.semAt (fen none).round a.eval ⟨some d, .call { callee := .value x, args := xs, argTypes := ts }, ty, pos, af, gd⟩ = execOp a.eval ⟨some d, .call { callee := .value x, args := xs, argTypes := ts }, ty, pos, af, gd⟩ := rfl
  rw [e, hrun, hy]
  show Oper.uponIn _ _ _ _ _ _ _ (.ok (.round lp fn tmps assign body) w)
  rw [Oper.uponIn_round]
  have lift : ∀ m' v, SSeq P ops n W F (Exit.then (fun a w => Q .normal a w) Q) l2 ((d, v) :: L) (X ++ (m' ++ fr)) → ∀ w', Has W F (m' ++ (X ++ fr)) w' → wpListIn (fen none) 0 P ops Q l2 (a.put (some d) v) w' := fun m' v hs w' hw' => by
    have hp2 : (m' ++ (X ++ fr)).Perm (X ++ (m' ++ fr)) := by
      rw [← List.append_assoc, ← List.append_assoc]
      exact (List.perm_append_comm).append_right fr
    have := list_fen (ro := none) (ops := ops) (K := fun a w => Q .normal a w) (l2 := []) hl (fun a w hh => hh) l2 (a.put (some d) v) w' hd2 (by unfold SSeq at hs; exact hs _ w' (ha.put hd v) (hw'.perm hp2))
    rwa [List.append_nil] at this
  refine ⟨fun h => (by cases h), hR.mono ?_⟩
  rintro e w' (⟨rfl, m', hm, hh⟩ | ⟨rfl, m', hm, hh⟩)
  · exact lift m' _ (h1 m' hm) w' hh
  · exact lift m' _ (h2 m' hm) w' hh
/-! ### The loop -/
def asgZ : List (Tmp × Value) → Slots → Slots
  | [], L => L
  | z :: zs, L => asgZ zs ((z.1, z.2) :: L)
theorem holds_asg {k : Nat} {ro : Option Nat} : ∀ (zs : List (Tmp × Value)) (L : Slots) (t : Array Value), (zs.all fun z => Nat.blt z.1 k) = true → Holds ⟨k, [], ro⟩ L ⟨t, []⟩ → Holds ⟨k, [], ro⟩ (asgZ zs L) ⟨zs.foldl (fun t z => t.setIfInBounds z.1 z.2) t, []⟩
  | [], L, t, _, h => h
  | z :: zs, L, t, hz, h => by
    rw [List.all_cons, Bool.and_eq_true] at hz
    exact holds_asg zs _ _ hz.2 (h.put (d := some z.1) hz.1 z.2)
def RPost (M : List α → Mem → Prop) (Mx : Code → List α → Mem → Prop) (xs : List α) (W : World) (F : Nat → Prop) (X : Mem) : Exit → Act → World → Prop
  | .normal, _, w => ∃ mm, M xs mm ∧ Has W F (mm ++ X) w
  | .ret, _, w => ∃ mm, Mx .ret xs mm ∧ Has W F (mm ++ X) w
  | .exit id, _, w => ∃ mm, Mx (.exit id) xs mm ∧ Has W F (mm ++ X) w
  | _, _, _ => False
abbrev mk (D : Nat) : Deferred := { target := .collected D, args := #[] }
theorem putObj_chg {w : World} {b : Nat} {o o' : Obj} (h : w.heap[b]? = some o) : Chg [b] w (w.putObj b o') ∧ (w.putObj b o').heap[b]? = some o' :=
  ⟨⟨rfl, rfl, rfl, by simp, fun k _ hne => World.putObj_heap_other (fun e => hne (List.mem_singleton.2 e))⟩, World.putObj_heap_same (Array.getElem?_eq_some_iff.1 h).1⟩
theorem Has.putObj {w : World} {b : Nat} {o o' : Obj} {m : Mem} (h : Has W F (.one b o :: m) w) : Has W F (.one b o' :: m) (w.putObj b o') := by
  obtain ⟨q1, q2⟩ := putObj_chg (o' := o') (show w.heap[b]? = some o from h.ok _ (List.Mem.head _))
  exact h.head q1 q2 (fun g hg => .inl hg) (List.nodup_cons.2 ⟨(fun h => by cases h), List.nodup_nil⟩) (fun _ _ _ _ e => by cases e)
theorem Has.one_new {w : World} {o : Obj} {m : Mem} (h : Has W F m w) : Has W F (.one w.heap.size o :: m) (w.alloc o) :=
  h.add ((Below.refl _ _).alloc (Nat.le_refl _) _) (heap_alloc_new w _) (fun g hg => by obtain rfl := List.mem_singleton.1 hg; exact Nat.le_refl _) (List.nodup_cons.2 ⟨(fun h => by cases h), List.nodup_nil⟩) (fun _ _ _ _ e => by cases e)
theorem f_rret {M : List α → Mem → Prop} {Mx : Code → List α → Mem → Prop} {xs : List α} {mm X : Mem} (hM : Mx .ret xs mm) (hs : (mm ++ X).Sublist m) : Fin n W F (RPost M Mx xs W F X) .ret L m := by
  unfold Fin
  exact fun a w ha hw => ⟨mm, hM, hw.sub hs⟩
/-! ### Functions that hold such a loop -/
theorem enter_mw {k : Nat} {f : FuncId} {fn : Func} {c : Code} {vs : List Value} {R : Ending → World → Prop} {w : World} (hw : Has W F m w) (hf : P.funcs[f]? = some fn) (hb : fn.body = some c) (hn : fn.ntmps = k) (hl : Nat.ble vs.length k = true)
    (h : Wp P ⟨k, [], none⟩ W F c (argL 0 vs) m (bodyPostM Fence.wide 0 P fn R)) : Calls P f vs.toArray w R := by
  have hl' : vs.length ≤ k := Nat.le_of_ble_eq_true hl
  unfold Wp at h
  refine callsIn_wide.1 (callsIn_of_wp_marks hf hb trivial (h _ _ ⟨rfl, ?_, fun t v ht => ?_⟩ hw))
  · simp [hn]; omega
  · obtain ⟨-, h2⟩ := look_argL _ _ _ _ ht
    have hlt : t < vs.length := by
      rcases Nat.lt_or_ge t vs.length with q | q
      · exact q
      · rw [List.getElem?_eq_none (by omega)] at h2; cases h2
    simp only [Nat.sub_zero] at h2
    rw [Array.getElem?_append_left (by simpa using hlt)]
    simpa using h2
theorem enter_mr {k : Nat} {f : FuncId} {fn : Func} {c : Code} {vs : List Value} {U : Mem} {v : Value} (hv : U.all (fun u => match u with | .vw .. => true | _ => false) = true) (hf : P.funcs[f]? = some fn) (hb : fn.body = some c) (hn : fn.ntmps = k) (hl : Nat.ble vs.length k = true)
    (h : ∀ W, Wp P ⟨k, [], none⟩ W (fun _ => False) c (argL 0 vs) U (bodyPostM Fence.wide 0 P fn fun e w' => e = .returned v ∧ Below W.heap.size W w')) : RCal P f vs U v := by
  unfold RCal
  exact fun w hU => enter_mw (Has.views w hU hv) hf hb hn hl (h w)
def outV : List Value → Value
  | [v] => v
  | vs => .tuple vs.toArray
theorem res_run {fn : Func} {l : List ResultVar} {vs : List Value} (hr : fn.results = l.toArray) (hv : Res P L m l vs) {a : Act} {w : World} (ha : Holds n L a) (hw : Has W F m w) : (results fn a.tmps).run P w = .ok (outV vs) w := by
  rw [results_eq, hr, List.mapM_toArray]
  simp only [Sem.run_bind, Sem.run_map, run_res ha hw hv, Result.andThen_ok]
  cases vs with
  | nil => simp [outV]
  | cons v vs => cases vs <;> simp [outV]
theorem fm_end1 {fn : Func} {R : Ending → World → Prop} {D : Nat} {l : List ResultVar} {vs : List Value} {f : Pc → Mem} (hds : n.ds = [mk D]) (hp : Plc m (.one D (.deferred (some []))) f) (hr : fn.results = l.toArray) (hv : Res P L (f (.one D (.deferred none))) l vs) (h : ∀ w, Has W F (f (.one D (.deferred none))) w → R (.returned (outV vs)) w) : Fin n W F (bodyPostM Fence.wide 0 P fn R) .ret L m := by
  unfold Fin
  intro a w ha hw
  show LeavesInM _ _ _ _ _ _ a.defers _ _
  rw [ha.defers.trans hds]
  have hD : w.heap[D]? = some (.deferred (some [])) := hw.ok _ hp.mem
  obtain ⟨q1, q2⟩ := putObj_chg (o' := .deferred none) hD
  have hw' := hw.put (r' := .one D (.deferred none)) hp q1 q2 (fun g hg => .inl hg) (List.nodup_cons.2 ⟨(fun h => by cases h), List.nodup_nil⟩) (fun _ _ _ _ e => by cases e)
  exact ⟨(fun h => by cases h), .inl ⟨D, _, rfl, run_takeDeferred hD, ⟨_, res_run hr hv ha hw', h _ hw'⟩⟩⟩
theorem y_mkfunc {k : Nat} {xs : Array Operand} {vs : List Value} (hv : opvs L xs.toList = some vs) : Yld P n C L ⟨dst, .makeFunc (.func k) #[] xs, ty, pos, af, gd⟩ (.func (.func k) #[] vs.toArray) := y_run fun a ha w hw => by
  have hargs : xs.map a.eval = vs.toArray := by
    apply Array.toList_inj.1
    simpa using evs ha hv
  simp [execOp, Instr.makeFunc, hargs]
abbrev RetX {β : Type} (g : β → Value × Mem) : Value → Mem → Prop := fun v m' => ∃ b, v = (g b).1 ∧ m' = (g b).2
theorem s_trix {β : Type} {d : Nat} {f : FuncId} {fn : Func} {xs : Array Operand} {ts : Array TypeId} {vs : List Value} {mu fr : Mem} {g : β → Value × Mem} (hf : P.funcs[f]? = some fn) (hq : ((fn.name == "runtime.NumGoroutine") || !fn.body.isSome) = false) (hv : opvs L xs.toList = some vs)
    (ht : Tri P f vs mu (RetX g)) (hk : Tk m mu fr) (hd : fits n (some d) = true) (h : ∀ b, SSeq P ops n W F Q l ((d, (g b).1) :: L) ((g b).2 ++ fr)) :
    SSeq P ops n W F Q (⟨some d, .call { callee := .value (.func f), args := xs, argTypes := ts }, ty, pos, af, none⟩ :: l) L m :=
  s_tri hf hq hv ht hk hd fun v m' ⟨b, q1, q2⟩ => by subst q1 q2; exact h b
theorem t_endX2 {fr : Mem} {β γ : Type} {g : β × γ → Value × Mem} {a : β} {b : γ} {v : Value} (hv : v = (g (a, b)).1) (hs : ((g (a, b)).2 ++ fr).Sublist m) : ∀ w, Has W F m w → TPost W F fr (RetX g) (.returned v) w :=
  t_end (R := RetX g) ⟨(a, b), hv, rfl⟩ hs
theorem t_endX1 {fr : Mem} {β γ : Type} {g : β × γ → Value × Mem} {a : β} {b : γ} {v : Value} {w : World} (hw : Has W F m w) (hv : v = (g (a, b)).1) (hs : ((g (a, b)).2 ++ fr).Sublist m) : TPost W F fr (RetX g) (.returned v) w :=
  t_endX2 hv hs w hw
theorem itr_all1 {J Jx : List α → Mem → Prop} {S Sp : List α → Prop} {xs : List α} {v : Value} {m' fr : Mem} {w : World} (hw : Has W F m w) (hJ : J xs m') (hS : S xs) (hs : (m' ++ fr).Sublist m) : TPost W F fr (ItrR S Sp J Jx) (.returned v) w := itr_all hJ hS hs w hw
theorem itr_stop1 {J Jx : List α → Mem → Prop} {S Sp : List α → Prop} {xs : List α} {v : Value} {m' fr : Mem} {w : World} (hw : Has W F m w) (hJ : Jx xs m') (hS : Sp xs) (hs : (m' ++ fr).Sublist m) : TPost W F fr (ItrR S Sp J Jx) (.returned v) w := itr_stop hJ hS hs w hw
attribute [irreducible] YC Itr
end Go.Proofs.Ytfcffemglcgbnaa.Sq
namespace Go.Proofs.Ytfcffemglcgbnaa.Hand
open Go.RowKit Go.Proofs.Ytfcffemglcgbnaa.Sq

structure Ad where
  hi : Int
  lo : Int
  v6 : Bool
  deriving DecidableEq
structure Px where
  a : Ad
  n : Int
  deriving DecidableEq
def Ad.cells (a : Ad) : List Value := [.int .u64 a.hi, .int .u64 a.lo, .bool a.v6]
def Px.cells (p : Px) : List Value := [.int .u64 p.a.hi, .int .u64 p.a.lo, .bool p.a.v6, .int .i64 p.n]
abbrev Ad.val (a : Ad) : Value := .agg #[.int .u64 a.hi, .int .u64 a.lo, .bool a.v6]
abbrev Px.val (p : Px) : Value := .agg #[.int .u64 p.a.hi, .int .u64 p.a.lo, .bool p.a.v6, .int .i64 p.n]
def Ad.wf (a : Ad) : Prop := (0 ≤ a.hi ∧ a.hi < 18446744073709551616) ∧ (0 ≤ a.lo ∧ a.lo < 18446744073709551616)
theorem map_get {α : Type} {f : α → List Value} {l : List α} {i : Nat} (h : i < l.length) : (l.map f)[i]? = some (f l[i]) := by simp [h]
theorem bOrF {x y : Bool} (hx : x = false) (hy : y = false) : (x || y) = false := by rw [hx, hy]; rfl
theorem bAndT {x y : Bool} (hx : x = true) (hy : y = true) : (x && y) = true := by rw [hx, hy]; rfl
theorem bNotF {x : Bool} (h : x = true) : (!x) = false := by rw [h]; rfl
theorem bNotT {x : Bool} (h : x = false) : (!x) = true := by rw [h]; rfl
theorem bAndF2 {x y : Bool} (hy : y = false) : (x && y) = false := by rw [hy, Bool.and_false]
theorem bNeT {x y : Int} (h : x ≠ y) : (x != y) = true := by simpa using h
theorem st_offF {P : Program} {ops : Array Oper} {n : Fm} {C : World → Prop} {L : Slots} {dst : Option Tmp} {op : Op} {ty : TypeId} {pos : String} {af : _} {j : Nat} {g : Bool} (hg : gval ops L j = some (.bool g)) (hq : g = false) : Stp P ops n C L ⟨dst, op, ty, pos, af, some (j, true)⟩ undef := st_offe hg hq rfl
end Go.Proofs.Ytfcffemglcgbnaa.Hand
