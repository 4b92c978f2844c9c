/-
  Symbolic walks, more rules: pieces packed as one, calls that only read and lay what is new, calls of function values, fields of arrays in elements, arrays compared.
-/
import Derived.Test.YtfcffemglcgbnaaRecs
import Derived.ChangeKeysEq
namespace Go.Proofs.Ytfcffemglcgbnaa.Sq
open Go.RowKit
set_option linter.unusedVariables false
set_option linter.unusedSimpArgs false
section
variable {P : Program} {ops : Array Oper} {n : Fm} {C : World → Prop} {L : Slots} {m : Mem} {W : World} {F : Nat → Prop} {Q : Exit → Act → World → Prop} {l : List Oper} {dst : Option Tmp} {ty : TypeId} {pos : String} {af : Array Edge} {gd : Option (Nat × Bool)} {x y : Operand}
/-! ### Pieces packed as one -/
def noVw (m : Mem) : Prop := ∀ r ∈ m, ∀ A c k rows, r ≠ .vw A c k rows
theorem Pc.ok_blocks {w w' : World} {r : Pc} (h : r.ok w) (hn : ∀ A c k rows, r ≠ .vw A c k rows) (he : ∀ g ∈ r.wr, w'.heap[g]? = w.heap[g]?) : r.ok w' := by
  cases r with
  | blk g cs t => exact (he g (List.mem_singleton.2 rfl)).trans h
  | vw A c k rows => exact absurd rfl (hn A c k rows)
  | own A c k rows t => exact Owns.same h he
  | obj bs p =>
    refine ⟨fun b hb => ?_, ?_⟩
    · have h1 := h.1 b hb
      have h2 := he b hb
      rw [Array.getElem?_eq_getElem h1] at h2
      exact (Array.getElem?_eq_some_iff.1 h2).1
    · have e : (fun b => if b ∈ bs then w'.heap[b]? else none) = (fun b => if b ∈ bs then w.heap[b]? else none) := by
        funext b
        split
        · rename_i hb; exact he b hb
        · rfl
      rw [e]; exact h.2
  | one b o => exact (he b (List.mem_singleton.2 rfl)).trans h
def packed {τ α : Type} (I : τ → Prop) (ps : τ → α → Mem) (bs : List Nat) : Pc :=
  .obj bs (fun h => ∃ T a, I T ∧ bs = wrs (ps T a) ∧ ∀ w : World, (∀ g ∈ bs, w.heap[g]? = h g) → ∀ r ∈ ps T a, r.ok w)
section
variable {τ α : Type} {I : τ → Prop} {ps : τ → α → Mem} {bs : List Nat}
theorem packed_ok {w : World} (h : (packed I ps bs).ok w) : ∃ T a, I T ∧ bs = wrs (ps T a) ∧ ∀ r ∈ ps T a, r.ok w := by
  obtain ⟨_, T, a, h1, h2, h3⟩ := h
  exact ⟨T, a, h1, h2, h3 w fun g hg => by dsimp only; rw [if_pos hg]⟩
theorem has_open {w : World} (hw : Has W F (packed I ps bs :: m) w) (hn : ∀ T a, noVw (ps T a)) : ∃ T a, I T ∧ Has W F (ps T a ++ m) w := by
  obtain ⟨T, a, h1, h2, h3⟩ := packed_ok (hw.ok _ (List.mem_cons_self ..))
  have e : wrs (packed I ps bs :: m) = wrs (ps T a ++ m) := by rw [wrs_cons, wrs_append, ← h2]; rfl
  refine ⟨T, a, h1, hw.keep, fun r hr => ?_, fun g hg => hw.mine g (by rw [e]; exact hg), by rw [← e]; exact hw.nodup, fun A c k rows hm hne => ?_⟩
  · rcases List.mem_append.1 hr with hr | hr
    · exact h3 r hr
    · exact hw.ok r (List.mem_cons_of_mem _ hr)
  · rw [← e]
    rcases List.mem_append.1 hm with hm | hm
    · exact absurd rfl (hn T a _ hm A c k rows)
    · exact hw.apart A c k rows (List.mem_cons_of_mem _ hm) hne
theorem has_close {w : World} {T : τ} {a : α} (hI : I T) (hw : Has W F (ps T a ++ m) w) (hn : noVw (ps T a)) : Has W F (packed I ps (wrs (ps T a)) :: m) w := by
  have e : wrs (packed I ps (wrs (ps T a)) :: m) = wrs (ps T a ++ m) := by rw [wrs_cons, wrs_append]; rfl
  refine ⟨hw.keep, fun r hr => ?_, fun g hg => hw.mine g (by rw [← e]; exact hg), by rw [e]; exact hw.nodup, fun A c k rows hm hne => ?_⟩
  · rcases List.mem_cons.1 hr with rfl | hr
    · refine ⟨fun g hg => hw.wr_lt g (by rw [wrs_append]; exact List.mem_append_left _ hg), T, a, hI, rfl, fun w' he r hr => ?_⟩
      refine Pc.ok_blocks (hw.ok r (List.mem_append_left _ hr)) (hn r hr) fun g hg => ?_
      have hin : g ∈ wrs (ps T a) := mem_wrs hr hg
      rw [he g hin]
      dsimp only
      rw [if_pos hin]
    · exact hw.ok r (List.mem_append_right _ hr)
  · rw [e]
    rcases List.mem_cons.1 hm with q | hm
    · cases q
    · exact hw.apart A c k rows (List.mem_append_right _ hm) hne
theorem Tri.unpack {f : FuncId} {vs : List Value} {mu : Mem} {R : Value → Mem → Prop} (hn : ∀ T a, noVw (ps T a)) (h : ∀ T a, I T → Tri P f vs (ps T a ++ mu) R) : Tri P f vs (packed I ps bs :: mu) R := by
  unfold Tri at h ⊢
  intro W F fr w hw
  obtain ⟨T, a, hI, h1⟩ := has_open (m := mu ++ fr) hw hn
  rw [← List.append_assoc] at h1
  exact h T a hI W F fr w h1
theorem Tri.repack {X : Type} {τ' α' : Type} {I' : τ' → Prop} {ps' : τ' → α' → Mem} {f : FuncId} {vs : List Value} {mu : Mem} {val : X → Value} {mu' : X → Mem} (hn : ∀ T a, noVw (ps' T a)) (h : Tri P f vs mu fun v m' => ∃ T a x, I' T ∧ v = val x ∧ m' = ps' T a ++ mu' x) :
    Tri P f vs mu (RetX fun b : List Nat × X => (val b.2, packed I' ps' b.1 :: mu' b.2)) := by
  unfold Tri at h ⊢
  exact fun W F fr w hw => (h W F fr w hw).mono fun e w' ⟨v, m', ⟨T, a, x, hI, hv, hm⟩, he, hw'⟩ => by
    subst hm
    rw [List.append_assoc] at hw'
    exact ⟨v, packed I' ps' (wrs (ps' T a)) :: mu' x, ⟨(wrs (ps' T a), x), hv, rfl⟩, he, has_close hI hw' (hn T a)⟩
theorem Tri.repackG {X τ' α' : Type} {I' : X → τ' → Prop} {ps' : X → τ' → α' → Mem} {f : FuncId} {vs : List Value} {mu : Mem} {val : X → Value} {mu' : X → Mem} (hn : ∀ x T a, noVw (ps' x T a)) (h : Tri P f vs mu fun v m' => ∃ x T a, I' x T ∧ v = val x ∧ m' = ps' x T a ++ mu' x) :
    Tri P f vs mu (RetX fun b : List Nat × X => (val b.2, packed (I' b.2) (ps' b.2) b.1 :: mu' b.2)) := by
  unfold Tri at h ⊢
  exact fun W F fr w hw => (h W F fr w hw).mono fun e w' ⟨v, m', ⟨x, T, a, hI, hv, hm⟩, he, hw'⟩ => by
    subst hm
    rw [List.append_assoc] at hw'
    exact ⟨v, packed (I' x) (ps' x) (wrs (ps' x T a)) :: mu' x, ⟨(wrs (ps' x T a), x), hv, rfl⟩, he, has_close hI hw' (hn x T a)⟩
theorem RCal.unpack {f : FuncId} {vs : List Value} {U : Mem} {v : Value} (h : ∀ T a, I T → RCal P f vs (ps T a ++ U) v) : RCal P f vs (packed I ps bs :: U) v := by
  unfold RCal at h ⊢
  intro w hw
  obtain ⟨T, a, hI, _, h3⟩ := packed_ok (hw _ (List.mem_cons_self ..))
  refine h T a hI w fun u hu => ?_
  rcases List.mem_append.1 hu with hu | hu
  · exact h3 u hu
  · exact hw u (List.mem_cons_of_mem _ hu)
end
theorem t_endU {fr : Mem} {g : Unit × Unit → Value × Mem} {v : Value} {w : World} (hw : Has W F m w) (hv : v = (g ((), ())).1) (hs : ((g ((), ())).2 ++ fr).Sublist m) : TPost W F fr (RetX g) (.returned v) w := t_endX2 hv hs w hw
theorem blk_reads {w : World} {g : Nat} {cs : List Value} {t : TypeId} (h : (Pc.blk g cs t).ok w) (h1 : ∀ v ∈ cs, v.oneCell' = true) : Reads w (some ⟨g, 0, none⟩) 1 cs.length [cs] := by
  have hg : w.heap[g]? = some (.cells cs.toArray t (0, 0)) := h
  refine ⟨Nat.le_refl _, fun row hr => by obtain rfl := List.mem_singleton.1 hr; exact ⟨rfl, h1⟩, fun _ => ⟨_, rfl, rfl, lt_of_heap hg⟩, fun i row hr j v hv => ?_⟩
  cases i with
  | succ i => cases hr
  | zero =>
    obtain rfl := Option.some.inj hr
    rw [show (⟨bkA (some ⟨g, 0, none⟩), ofA (some ⟨g, 0, none⟩) + 0 * cs.length + j, none⟩ : Addr) = ⟨g, j, none⟩ by simp [bkA, ofA], cell_of_row w g _ _ _ _ hg]
    simpa using hv
theorem RCal.of_view {f : FuncId} {vs : List Value} {U U' : Mem} {v : Value} (h : RCal P f vs U v) (hU : ∀ w, (∀ u ∈ U', u.ok w) → ∀ u ∈ U, u.ok w) : RCal P f vs U' v := by
  unfold RCal at h ⊢
  exact fun w hw => h w (hU w hw)
theorem y_vcell [hcl : Cls C W F m] {g o c k : Nat} {cs : List Value} {v : Value} (hx : opv L x = some (.pointer (some ⟨g, o, none⟩))) (hs : Sees m (some ⟨g, 0, none⟩) c k [cs]) (hr : At cs o v) (hk : scalB P ty = true) : Yld P n C L ⟨dst, .load ty x, ty, pos, af, gd⟩ v :=
  y_ecell (A := some ⟨g, 0, none⟩) (i := 0) (o := o) (k := k) (by unfold elP; rw [hx]; simp [bkA, ofA]) hs rfl hr hk
theorem y_eaxaddr {t nn e kk : Nat} [hst : ArT P t nn e kk] {A : Option Addr} {k i o : Nat} {kd : IntKind} {ix : Int} {j : Nat} (hx : opv L x = some (elP A k i o)) (hy : opv L y = some (.int kd ix)) (hi : ix = (j : Int)) (hlt : j < nn) :
    Yld P n C L ⟨dst, .indexAddr t x y, ty, pos, af, gd⟩ (elP A k i (o + j * kk)) := by
  have := y_axaddr (P := P) (n := n) (C := C) (L := L) (dst := dst) (ty := ty) (pos := pos) (af := af) (gd := gd) (t := t) (show opv L x = some (.pointer (some ⟨bkA A, ofA A + i * k + o, none⟩)) from by rw [hx]; unfold elP; rfl) hy hi hlt
  unfold elP
  rw [← Nat.add_assoc]
  exact this
/-! ### Calls that only read, and lay what is new -/
def FCal (P : Program) (f : FuncId) (vs : List Value) (U : Mem) (R : Value → Mem → Prop) : Prop :=
  (∀ v m', R v m' → noVw m') ∧ (∃ v m', R v m') ∧ ∀ w, (∀ u ∈ U, u.ok w) → Calls P f vs.toArray w fun e w' => ∃ v m', R v m' ∧ e = .returned v ∧ Has w (fun _ => False) m' w'
theorem has_fresh {m' : Mem} {w w' : World} (hw : Has W F m w) (h : Has w (fun _ => False) m' w') (hn : noVw m') : Has W F (m' ++ m) w' := by
  have hb := h.keep.below
  have h2 := hw.step hb
  have hge : ∀ g ∈ wrs m', w.heap.size ≤ g := fun g hg => (h.mine g hg).elim id False.elim
  refine ⟨h2.keep, fun r hr => ?_, fun g hg => ?_, ?_, fun A c k rows hm hne => ?_⟩
  · rcases List.mem_append.1 hr with hr | hr
    · exact h.ok r hr
    · exact h2.ok r hr
  · rw [wrs_append] at hg
    rcases List.mem_append.1 hg with hg | hg
    · exact .inl (Nat.le_trans hw.keep.size (hge g hg))
    · exact h2.mine g hg
  · rw [wrs_append, List.nodup_append]
    exact ⟨h.nodup, h2.nodup, fun a ha b hb e => by subst e; have := hge a ha; have := hw.wr_lt a hb; omega⟩
  · rw [wrs_append]
    rcases List.mem_append.1 hm with hm | hm
    · exact absurd rfl (hn _ hm A c k rows)
    · intro hin
      rcases List.mem_append.1 hin with hin | hin
      · have := hge _ hin; have := hw.view_lt hm hne; omega
      · exact h2.apart A c k rows hm hne hin
theorem FCal.of_tri {f : FuncId} {vs : List Value} {U : Mem} {R : Value → Mem → Prop} (hv : U.all (fun u => match u with | .vw .. => true | _ => false) = true) (hn : ∀ v m', R v m' → noVw m') (he : ∃ v m', R v m') (h : Tri P f vs U R) : FCal P f vs U R :=
  ⟨hn, he, fun w hU => by
    unfold Tri at h
    exact (h w (fun _ => False) [] w (by rw [List.append_nil]; exact Has.views w hU hv)).mono fun e w' ⟨v, m', h1, h2, h3⟩ => ⟨v, m', h1, h2, by rwa [List.append_nil] at h3⟩⟩
theorem FCal.of_view {f : FuncId} {vs : List Value} {U U' : Mem} {R : Value → Mem → Prop} (h : FCal P f vs U R) (hU : ∀ w, (∀ u ∈ U', u.ok w) → ∀ u ∈ U, u.ok w) : FCal P f vs U' R := ⟨h.1, h.2.1, fun w hw => h.2.2 w (hU w hw)⟩
theorem FCal.unpack {τ α : Type} {I : τ → Prop} {ps : τ → α → Mem} {bs : List Nat} {f : FuncId} {vs : List Value} {U : Mem} {R : Value → Mem → Prop} (hn : ∀ v m', R v m' → noVw m') (he : ∃ v m', R v m') (h : ∀ T a, I T → FCal P f vs (ps T a ++ U) R) : FCal P f vs (packed I ps bs :: U) R := ⟨hn, he, fun w hw => by
  obtain ⟨T, a, hI, _, h3⟩ := packed_ok (hw _ (List.mem_cons_self ..))
  refine (h T a hI).2.2 w fun u hu => ?_
  rcases List.mem_append.1 hu with hu | hu
  · exact h3 u hu
  · exact hw u (List.mem_cons_of_mem _ hu)⟩
theorem run_static {f : FuncId} {fn : Func} {d : Option Tmp} {xs : Array Operand} {ts : Array TypeId} {vs : List Value} {a : Act} {w : World} (hf : P.funcs[f]? = some fn) (hq : ((fn.name == "runtime.NumGoroutine") || !fn.body.isSome) = false) (ha : Holds n L a) (hv : opvs L xs.toList = some vs) :
    (execOp a.eval ⟨d, .call { callee := .value (.func f), args := xs, argTypes := ts }, ty, pos, af, gd⟩).run P w = .ok (.enter f vs.toArray) w := by
  have hname : (fn.name == "runtime.NumGoroutine") = false := by cases q : fn.name == "runtime.NumGoroutine" <;> simp_all
  have hb : fn.body.isSome = true := by cases q : fn.body.isSome <;> simp_all
  obtain ⟨c, hc⟩ := Option.isSome_iff_exists.1 hb
  have h1 : fn.name ≠ "runtime.NumGoroutine" := by simpa using hname
  have hargs : xs.map a.eval = vs.toArray := by
    have := evs ha hv
    apply Array.toList_inj.1
    simpa using this
  simp [execOp, resolve, Deferred.ofValue, invoke, Act.eval, hargs, callFunc, hf, h1, hc]
theorem run_value {f : FuncId} {fn : Func} {d : Option Tmp} {xs : Array Operand} {ts : Array TypeId} {vs fs : List Value} {a : Act} {w : World} (hf : P.funcs[f]? = some fn) (hq : ((fn.name == "runtime.NumGoroutine") || !fn.body.isSome) = false) (ha : Holds n L a) (hx : opv L x = some (.func (.func f) #[] fs.toArray)) (hv : opvs L xs.toList = some vs) :
    (execOp a.eval ⟨d, .call { callee := .value x, args := xs, argTypes := ts }, ty, pos, af, gd⟩).run P w = .ok (.enter f (vs ++ fs).toArray) w := by
  have hname : (fn.name == "runtime.NumGoroutine") = false := by cases q : fn.name == "runtime.NumGoroutine" <;> simp_all
  have hb : fn.body.isSome = true := by cases q : fn.body.isSome <;> simp_all
  obtain ⟨c, hc⟩ := Option.isSome_iff_exists.1 hb
  have h1 : fn.name ≠ "runtime.NumGoroutine" := by simpa using hname
  have hargs : xs.map a.eval = vs.toArray := by
    have := evs ha hv
    apply Array.toList_inj.1
    simpa using this
  simp [execOp, resolve, Deferred.ofValue, invoke, ev ha hx, hargs, callFunc, hf, h1, hc]
theorem st1_fcal {d : Option Tmp} {f : FuncId} {fn : Func} {xs : Array Operand} {ts : Array TypeId} {vs : List Value} {U : Mem} {R : Value → Mem → Prop} (hf : P.funcs[f]? = some fn) (hq : ((fn.name == "runtime.NumGoroutine") || !fn.body.isSome) = false) (hv : opvs L xs.toList = some vs)
    (ht : FCal P f vs U R) (hk : SeesAll m U) : Step1 P n W F ⟨d, .call { callee := .value (.func f), args := xs, argTypes := ts }, ty, pos, af, gd⟩ L m (fun v m'' => ∃ m', R v m' ∧ m'' = m' ++ m) := fun a ha w hw => by
  rw [run_static hf hq ha hv]
  refine ⟨rfl, (ht.2.2 w (hk.ok hw.ok)).mono ?_⟩
  rintro e w' ⟨v, m', hR, rfl, hw'⟩
  exact ⟨v, _, ⟨m', hR, rfl⟩, rfl, has_fresh hw hw' (ht.1 v m' hR)⟩
theorem s_fcal {β : Type} {d : Nat} {f : FuncId} {fn : Func} {xs : Array Operand} {ts : Array TypeId} {vs : List Value} {U : Mem} {g : β → Value × Mem} (hf : P.funcs[f]? = some fn) (hq : ((fn.name == "runtime.NumGoroutine") || !fn.body.isSome) = false) (hv : opvs L xs.toList = some vs)
    (ht : FCal P f vs U (RetX g)) (hk : SeesAll m U) (hg : ∀ a, Holds n L a → Region.wanted ⟨some d, .call { callee := .value (.func f), args := xs, argTypes := ts }, ty, pos, af, gd⟩ (yielded ops a.tmps) = true) (hd : fits n (some d) = true) (h : ∀ b, SSeq P ops n W F Q l ((d, (g b).1) :: L) ((g b).2 ++ m)) :
    SSeq P ops n W F Q (⟨some d, .call { callee := .value (.func f), args := xs, argTypes := ts }, ty, pos, af, gd⟩ :: l) L m :=
  s_stepw hg (st1_fcal hf hq hv ht hk) hd fun v m'' ⟨m', ⟨b, e1, e2⟩, e⟩ => by subst e1 e2 e; exact h b
theorem s_trixw {β : Type} {d : Nat} {f : FuncId} {fn : Func} {xs : Array Operand} {ts : Array TypeId} {vs : List Value} {mu fr : Mem} {g : β → Value × Mem} (hf : P.funcs[f]? = some fn) (hq : ((fn.name == "runtime.NumGoroutine") || !fn.body.isSome) = false) (hv : opvs L xs.toList = some vs)
    (ht : Tri P f vs mu (RetX g)) (hk : Tk m mu fr) (hg : ∀ a, Holds n L a → Region.wanted ⟨some d, .call { callee := .value (.func f), args := xs, argTypes := ts }, ty, pos, af, gd⟩ (yielded ops a.tmps) = true) (hd : fits n (some d) = true) (h : ∀ b, SSeq P ops n W F Q l ((d, (g b).1) :: L) ((g b).2 ++ fr)) :
    SSeq P ops n W F Q (⟨some d, .call { callee := .value (.func f), args := xs, argTypes := ts }, ty, pos, af, gd⟩ :: l) L m :=
  s_stepw hg (R := fun v m'' => ∃ m', RetX g v m' ∧ m'' = m' ++ fr) (fun a ha w hw => by
    rw [run_static hf hq ha hv]
    refine ⟨rfl, ((show ∀ W F fr w, Has W F (mu ++ fr) w → Calls P f _ w _ from by unfold Tri at ht; exact ht) W F fr w (hk.has hw)).mono ?_⟩
    rintro e w' ⟨v, m', hR, rfl, hw'⟩
    exact ⟨v, _, ⟨m', hR, rfl⟩, rfl, hw'⟩) hd fun v m'' ⟨m', ⟨b, e1, e2⟩, e⟩ => by subst e1 e2 e; exact h b
theorem s_trixv {β : Type} {d : Nat} {f : FuncId} {fn : Func} {xs : Array Operand} {ts : Array TypeId} {vs fs : List Value} {mu fr : Mem} {g : β → Value × Mem} (hx : opv L x = some (.func (.func f) #[] fs.toArray)) (hf : P.funcs[f]? = some fn) (hq : ((fn.name == "runtime.NumGoroutine") || !fn.body.isSome) = false) (hv : opvs L xs.toList = some vs)
    (ht : Tri P f (vs ++ fs) mu (RetX g)) (hk : Tk m mu fr) (hg : ∀ a, Holds n L a → Region.wanted ⟨some d, .call { callee := .value x, args := xs, argTypes := ts }, ty, pos, af, gd⟩ (yielded ops a.tmps) = true) (hd : fits n (some d) = true) (h : ∀ b, SSeq P ops n W F Q l ((d, (g b).1) :: L) ((g b).2 ++ fr)) :
    SSeq P ops n W F Q (⟨some d, .call { callee := .value x, args := xs, argTypes := ts }, ty, pos, af, gd⟩ :: l) L m :=
  s_stepw hg (R := fun v m'' => ∃ m', RetX g v m' ∧ m'' = m' ++ fr) (fun a ha w hw => by
    rw [run_value hf hq ha hx hv]
    refine ⟨rfl, ((show ∀ W F fr w, Has W F (mu ++ fr) w → Calls P f _ w _ from by unfold Tri at ht; exact ht) W F fr w (hk.has hw)).mono ?_⟩
    rintro e w' ⟨v, m', hR, rfl, hw'⟩
    exact ⟨v, _, ⟨m', hR, rfl⟩, rfl, hw'⟩) hd fun v m'' ⟨m', ⟨b, e1, e2⟩, e⟩ => by subst e1 e2 e; exact h b
/-! ### In a drawn region -/
theorem owns_take {w : World} {A : Option Addr} {c k : Nat} {rows : List (List Value)} {t : TypeId} (h : Owns w A c k rows t) (j : Nat) : Owns w A c k (rows.take j) t := by
  obtain ⟨h1, h2⟩ := h
  refine ⟨fun r hr => h1 r (List.mem_of_mem_take hr), ?_⟩
  rcases h2 with ⟨h2, h3⟩ | ⟨hc, g, rest, e, hg, hl, hle⟩
  · exact .inl ⟨h2, by rw [h3, List.take_nil]⟩
  · refine .inr ⟨hc, g, (rows.drop j).flatten ++ rest, e, ?_, ?_, by rw [List.length_take]; omega⟩
    · rw [← List.append_assoc, ← List.flatten_append, List.take_append_drop]; exact hg
    · rw [← List.append_assoc, ← List.flatten_append, List.take_append_drop]; exact hl
theorem has_take {A : Option Addr} {c k : Nat} {rows : List (List Value)} {t : TypeId} {f : Pc → Mem} {w : World} (hw : Has W F m w) (hp : Plc m (.own A c k rows t) f) (j : Nat) : Has W F (f (.own A c k (rows.take j) t)) w :=
  hw.put hp (Chg.of_below (Below.refl _ _) _) (owns_take (hw.ok _ hp.mem) j) (fun g hg => .inl hg) (bksA_nodup A c) (fun _ _ _ _ e => by cases e)
theorem w_take {A : Option Addr} {c k : Nat} {rows : List (List Value)} {t : TypeId} {f : Pc → Mem} {cd : Code} (hp : Plc m (.own A c k rows t) f) (j : Nat) (h : Wp P n W F cd L (f (.own A c k (rows.take j) t)) Q) : Wp P n W F cd L m Q := by
  unfold Wp at h ⊢
  exact fun a w ha hw => h a w ha (has_take hw hp j)
theorem fin_take {A : Option Addr} {c k : Nat} {rows : List (List Value)} {t : TypeId} {f : Pc → Mem} {e : Exit} (hp : Plc m (.own A c k rows t) f) (j : Nat) (h : Fin n W F Q e L (f (.own A c k (rows.take j) t))) : Fin n W F Q e L m := by
  unfold Fin at h ⊢
  exact fun a w ha hw => h a w ha (has_take hw hp j)
theorem fin_tk {mu fr : Mem} {e : Exit} (hk : Tk m mu fr) (h : Fin n W F Q e L (mu ++ fr)) : Fin n W F Q e L m := by
  unfold Fin at h ⊢
  exact fun a w ha hw => h a w ha (hk.has hw)
theorem s_appendt {d : Nat} {t tx e k b e' k' b' : Nat} [hst : SlT P t e k b] [hsx : SlT P tx e' k' b'] {A A0 B : Option Addr} {n1 n2 c c0 cb cb' : Nat} {rows rows' new : List (List Value)} {f : Pc → Mem} (hx : opv L x = some (.slice A0 n1 c0)) (hy : opv L y = some (.slice B n2 cb')) (hA : A0 = A) (hc0 : c0 = c) (hp : Plc m (.own A c k rows e) f) (hs : Sees m B cb k new) (ht : rows.take n1 = rows') (e1 : n1 = rows'.length) (e2 : n2 = new.length)
    (hb : rows'.length + new.length ≤ 1000000000) (hkb : (Nat.blt 0 k && Nat.ble b 100000) = true) (hd : fits n (some d) = true)
    (h : ∀ A' c', SSeq P ops n W F Q l ((d, .slice A' (n1 + n2) c') :: L) (f (.own A' c' k (rows' ++ new) e))) :
    SSeq P ops n W F Q (⟨some d, .call { callee := .builtin .append, args := #[x, y], argTypes := #[t, tx] }, ty, pos, af, none⟩ :: l) L m :=
  s_step (R := fun v m' => ∃ A' c', v = .slice A' (n1 + n2) c' ∧ m' = f (.own A' c' k (rows' ++ new) e)) (st1_of fun a ha w hw => by
    rw [Bool.and_eq_true] at hkb
    subst hA hc0
    have ho : Owns w A0 c0 k rows' e := by rw [← ht]; exact owns_take (hw.ok _ hp.mem : Owns w A0 c0 k rows e) n1
    unfold Sees at hs
    subst e1 e2
    obtain ⟨A', c', w', r1, r2, r3, r4⟩ := run_append_res (P := P) hst hsx.ok.1 ty ho (hs w hw.ok) cb' (Nat.le_of_ble_eq_true hkb.1) hb (Nat.le_of_ble_eq_true hkb.2)
    refine ⟨_, w', _, ?_, hw.put hp r3 (show Pc.ok w' (.own A' c' k (rows' ++ new) e) from r2) r4 own_nodup (fun _ _ _ _ e => by cases e), A', c', rfl, rfl⟩
    simp [execOp, resolve, invoke, builtin, ev ha hx, ev ha hy, r1]) hd fun v m' ⟨A', c', q1, q2⟩ => by subst q1 q2; exact h A' c'
def isPtr (P : Program) (t : TypeId) : Bool := match P.underlying t with | some (.pointer _) => true | _ => false
theorem y_pnn {t t' : TypeId} {a : Option Addr} (hu0 : isPtr P t = true) (hx : opv L x = some (.pointer a)) (hy : opv L y = some (.pointer none)) : Yld P n C L ⟨dst, .binOp .neq t x y t', ty, pos, af, gd⟩ (.bool (!a.isNone)) := y_run fun ac ha w hw => by
  obtain ⟨e, hu⟩ : ∃ e, P.underlying t = some (.pointer e) := by
    unfold isPtr at hu0
    split at hu0
    · exact ⟨_, by assumption⟩
    · cases hu0
  have hg : (eqGuard .neq t x y (.pointer a) (.pointer none)).run P w = .ok () w := by
    unfold eqGuard
    first | rfl | (simp [Op.eqGuard]; done) | (simp [go_sem, run_underlying hu]; done) | (cases a <;> simp [go_sem, run_underlying hu]; done)
  have h0 : (Op.equal t (.pointer a) (.pointer none)).run P w = .ok a.isNone w := by
    unfold Op.equal
    show (Op.equalIn (9999 + 1) t (.pointer a) (.pointer none)).run P w = _
    rw [Op.equalIn, Sem.run_bind, run_underlying hu w]
    cases a <;> simp
  have : (binOp .neq t (.pointer a) (.pointer none)).run P w = .ok (.bool (!a.isNone)) w := by
    show (do pure (.bool (!(← Op.equal t (.pointer a) (.pointer none)))) : Sem Value).run P w = _
    rw [Sem.run_bind, h0]; rfl
  simp only [execOp, ev ha hx, ev ha hy, Sem.run_bind, hg, this, Result.andThen_ok]
  rfl
/-! ### Contracts that hold wherever a piece lies -/
theorem y_rcalq {γ : Type} [hcl : Cls C W F m] {f : FuncId} {fn : Func} {xs : Array Operand} {ts : Array TypeId} {vs : List Value} {U : γ → Mem} {z : γ} {v : Value} (hf : P.funcs[f]? = some fn) (hq : ((fn.name == "runtime.NumGoroutine") || !fn.body.isSome) = false) (hv : opvs L xs.toList = some vs)
    (h : ∀ z, RCal P f vs (U z) v) (hU : SeesAll m (U z)) : Yld P n C L ⟨dst, .call { callee := .value (.func f), args := xs, argTypes := ts }, ty, pos, af, gd⟩ v := y_rcal hf hq hv (h z) hU
theorem s_fcalq {γ β : Type} {d : Nat} {f : FuncId} {fn : Func} {xs : Array Operand} {ts : Array TypeId} {vs : List Value} {U : γ → Mem} {z : γ} {g : β → Value × Mem} (hf : P.funcs[f]? = some fn) (hq : ((fn.name == "runtime.NumGoroutine") || !fn.body.isSome) = false) (hv : opvs L xs.toList = some vs)
    (ht : ∀ z, FCal P f vs (U z) (RetX g)) (hk : SeesAll m (U z)) (hg : ∀ a, Holds n L a → Region.wanted ⟨some d, .call { callee := .value (.func f), args := xs, argTypes := ts }, ty, pos, af, gd⟩ (yielded ops a.tmps) = true) (hd : fits n (some d) = true) (h : ∀ b, SSeq P ops n W F Q l ((d, (g b).1) :: L) ((g b).2 ++ m)) :
    SSeq P ops n W F Q (⟨some d, .call { callee := .value (.func f), args := xs, argTypes := ts }, ty, pos, af, gd⟩ :: l) L m := s_fcal hf hq hv (ht z) hk hg hd h
/-! ### Memory in another order -/
theorem w_tk {mu fr : Mem} {c : Code} (hk : Tk m mu fr) (h : Wp P n W F c L (mu ++ fr) Q) : Wp P n W F c L m Q := by
  unfold Wp at h ⊢
  exact fun a w ha hw => h a w ha (hk.has hw)
theorem f_backxs {β : Type} {l' : β → Slots} {m' : β → Mem} {R : Act → World → Prop} {b : β} (hB : ∀ b, Nxt n W F (l' b) (m' b) R) (hc : Cov [] L (l' b)) (hs : (m' b).Sublist m) : Fin n W F (Exit.then R Q) .normal L m := f_back (hB b) hc hs
theorem t_endT {fr fr' m' : Mem} {R : Value → Mem → Prop} {v : Value} {w : World} (hw : Has W F m w) (hR : R v m') (hk : Tk m m' fr') (hs : fr.Sublist fr') : TPost W F fr R (.returned v) w := t_end hR (List.Sublist.refl _) w ((hk.has hw).sub (hs.append_left _))
/-! ### Arrays compared -/
theorem run_eqItems_int {e : TypeId} {k : IntKind} (hu : P.underlying e = some (.int k)) (hk : P.cellsOf e = 1) (d : Nat) (xs ys : List Int) (w : World) : ∀ is : List Nat, (∀ i ∈ is, i < xs.length ∧ i < ys.length) → (Op.eqItems (d + 1) e 1 (xs.map (Value.int k)).toArray (ys.map (Value.int k)).toArray is).run P w = .ok (is.all fun i => xs.getD i 0 == ys.getD i 0) w
  | [], _ => by simp [Op.eqItems]
  | i :: is, h => by
    obtain ⟨h1, h2⟩ := h i (List.mem_cons_self ..)
    have ih := run_eqItems_int hu hk d xs ys w is (fun j hj => h j (List.mem_cons_of_mem _ hj))
    have px : (part e (xs.map (Value.int k)).toArray (i * 1)).run P w = .ok (.int k (xs.getD i 0)) w := by
      simp [part, isAgg, run_underlying hu, List.getD, List.getElem?_eq_getElem h1]
    have py : (part e (ys.map (Value.int k)).toArray (i * 1)).run P w = .ok (.int k (ys.getD i 0)) w := by
      simp [part, isAgg, run_underlying hu, List.getD, List.getElem?_eq_getElem h2]
    have pe := eq_int hu d (xs.getD i 0) (ys.getD i 0) w
    simp only [Op.eqItems, Sem.run_bind, px, py, pe, Result.andThen_ok, List.all_cons]
    cases hb : (xs.getD i 0 == ys.getD i 0)
    · simp
    · simpa using ih
theorem eq_array {t e : TypeId} {nn : Nat} {k : IntKind} (ht : P.underlying t = some (.array nn e)) (hu : P.underlying e = some (.int k)) (hi : (P.info? e).map (·.size) = some 1) (d : Nat) (xs ys : List Int) (h1 : xs.length = nn) (h2 : ys.length = nn) (w : World) :
    (Op.equalIn (d + 2) t (.agg (xs.map (Value.int k)).toArray) (.agg (ys.map (Value.int k)).toArray)).run P w = .ok ((List.range nn).all fun i => xs.getD i 0 == ys.getD i 0) w := by
  cases hq : P.info? e with
  | none => rw [hq] at hi; cases hi
  | some i =>
    have hc : P.cellsOf e = 1 := by
      rw [hq] at hi
      simp only [Option.map_some, Option.some.injEq] at hi
      simp [Program.cellsOf, hq, hi]
    rw [run_equalIn_array w (d + 1) _ _ ht hq, hc]
    exact run_eqItems_int hu hc d xs ys w _ (fun i hi => by have := List.mem_range.1 hi; omega)
end
attribute [irreducible] packed FCal
end Go.Proofs.Ytfcffemglcgbnaa.Sq
