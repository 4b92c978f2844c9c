/-
  A range over a function whose rounds lay memory for the variable.
-/
import Derived.Test.YtfcffemglcgbnaaRecs
namespace Go.Proofs.Ytfcffemglcgbnaa.Sq
open Go.RowKit
set_option linter.unusedVariables false
set_option linter.unusedSimpArgs false
variable {P : Program} {ops : Array Oper} {n : Fm} {C : World → Prop} {L : Slots} {m : Mem} {W : World} {F : Nat → Prop} {Q : Exit → Act → World → Prop} {l : List Oper} {dst : Option Tmp} {ty : TypeId} {pos : String} {af : Array Edge} {gd : Option (Nat × Bool)} {x y : Operand}
variable {α : Type}
theorem w_range2 {β : Type} {g : Operand} {ps : Array Tmp} {assign body : Code} {gf : FuncId} {lb : List Value} {U : Mem} {encs : α → List Value} {S Sp : List α → Prop} {N : Nat} {fn : Func} {m0 fr : Mem}
    (hro : n.ro = none) (hds : n.ds = []) (hg : opv L g = some (.func (.func gf) #[] lb.toArray)) (hf : P.funcs[gf]? = some fn) (hq : ((fn.name == "runtime.NumGoroutine") || !fn.body.isSome) = false)
    (hI : Itr P gf lb U encs S Sp N) (hps : ∀ x, (encs x).length = ps.size) (hpb : (ps.toList.all fun p => Nat.blt p n) = true)
    (Ma : α → β → Mem) (M : List α → Mem → Prop) (Mx : Code → List α → Mem → Prop) (hk : Tk m (U ++ m0) fr) (h0 : M [] m0) (L2 : α → β → Slots)
    (hassign : ∀ lp pre x mm, pre.length < N → M pre mm → ∀ (W : World) (F : Nat → Prop) (X : Mem) (K : Act → World → Prop), (∀ y, Nxt ⟨n.n, [], some lp⟩ W F (L2 x y) ((Ma x y ++ mm) ++ X) K) → Wp P ⟨n.n, [], some lp⟩ W F assign (asgZ (ps.toList.zip (encs x)) L) (mm ++ X) (Exit.then K (fun _ _ _ => False)))
    (hbody : ∀ lp pre x mm, pre.length < N → M pre mm → ∀ (y : β) (W : World) (F : Nat → Prop) (X : Mem), Wp P ⟨n.n, [], some lp⟩ W F body (L2 x y) ((Ma x y ++ mm) ++ X) (RPost M Mx (pre ++ [x]) W F X))
    (hdone : ∀ D xs mm, S xs → M xs mm → Fin ⟨n.n, [mk D], none⟩ W F Q .normal L (mm ++ (.one D (.deferred (some [])) :: fr)))
    (hstop : ∀ D c pre mm, Sp pre → Mx c pre mm → Wp P ⟨n.n, [mk D], none⟩ W F c L (mm ++ (.one D (.deferred (some [])) :: fr)) Q) :
    Wp P n W F (.rangeFunc g ps assign body) L m Q := by
  unfold Itr at hI
  have hname : (fn.name == "runtime.NumGoroutine") = false := by cases q : fn.name == "runtime.NumGoroutine" <;> simp_all
  have hb : fn.body.isSome = true := by cases q : fn.body.isSome <;> simp_all
  obtain ⟨c0, hc0⟩ := Option.isSome_iff_exists.1 hb
  have h1 : fn.name ≠ "runtime.NumGoroutine" := by simpa using hname
  have eg : ∀ args w, (callFunc gf args).run P w = .ok (.enter gf args) w := fun args w => by simp [callFunc, hf, h1, hc0, Go.mark]
  unfold Wp
  intro a w ha hw
  rw [hro]
  refine wpIn_rangeFunc ?_
  intro fn0 hfn
  have ha0 : a.defers = [] := ha.defers.trans hds
  obtain ⟨rec, hrec⟩ : ∃ rec : LoopState → Option Code → Loop, rec = fun st pe => { state := st, pending := pe, fn := fn0, tmps := a.tmps, params := ps, assign, body, defers := w.heap.size } := ⟨_, rfl⟩
  have hw2 : Has W F (U ++ (.one (w.heap.size + 1) (.loop (rec .ready none)) :: m0) ++ (.one w.heap.size (.deferred (some [])) :: fr)) ((w.alloc (.deferred (some []))).alloc (.loop (rec .ready none))) := by
    have q := ((hk.has hw).one_new (o := .deferred (some []))).one_new (o := .loop (rec .ready none))
    rw [World.size_alloc] at q
    refine q.perm ?_
    have p1 : (U ++ (.one (w.heap.size + 1) (.loop (rec .ready none)) :: m0) ++ (.one w.heap.size (.deferred (some [])) :: fr)).Perm (.one (w.heap.size + 1) (.loop (rec .ready none)) :: (U ++ m0) ++ (.one w.heap.size (.deferred (some [])) :: fr)) :=
      (List.perm_middle).append_right _
    refine List.Perm.trans ?_ p1.symm
    refine List.Perm.cons _ ?_
    exact (List.perm_middle (a := Pc.one w.heap.size (.deferred (some []))) (l₁ := U ++ m0) (l₂ := fr)).symm
  obtain ⟨W1, hW1⟩ : ∃ W1, (w.alloc (.deferred (some []))).alloc (.loop (rec .ready none)) = W1 := ⟨_, rfl⟩
  rw [hW1] at hw2
  have u1 : ∀ st pe, (rec st pe).params = ps := fun st pe => by rw [hrec]
  have u2 : ∀ st pe st', ({ rec st pe with state := st' } : Loop) = rec st' pe := fun st pe st' => by rw [hrec]
  have u3 : ∀ st pe st' pe', ({ rec st pe with state := st', pending := pe' } : Loop) = rec st' pe' := fun st pe st' pe' => by rw [hrec]
  have u4 : ∀ st pe, (rec st pe).state = st := fun st pe => by rw [hrec]
  have u5 : ∀ st pe, (rec st pe).pending = pe := fun st pe => by rw [hrec]
  refine ⟨w.heap.size + 1, [mk w.heap.size], W1, { target := .fn (.func gf) lb.toArray, args := #[.func (.yield (w.heap.size + 1)) #[] #[]] }, W1, gf,
    #[.func (.yield (w.heap.size + 1)) #[] #[]] ++ lb.toArray, W1, ?_, ?_, fun f' _ => trivial, ?_, (fun h => by cases h), ?_⟩
  · rw [← hW1, hrec]; exact run_enterLoop_outer _ _ _ _ _
  · simp only [resolve, ev ha hg]
    simp [go_sem]
  · simp [invoke, go_sem, eg]
  · have hsq : ∀ (lp : Nat), lp = w.heap.size + 1 → YC P lp encs N (fun pre m' => ∃ mm, M pre mm ∧ m' = .one lp (.loop (rec .ready none)) :: mm) (fun pre m' => ∃ c mm, Mx c pre mm ∧ m' = .one lp (.loop (rec .done (some c))) :: mm) := by
      intro lp _
      unfold YC
      intro W1 F1 X pre x m1 w1 hlen ⟨mm, hM, hm1⟩ hw1
      subst hm1
      have hl : w1.heap[lp]? = some (.loop (rec .ready none)) := hw1.ok _ (List.Mem.head _)
      have hy := run_yield (P := P) (args := (encs x).toArray) hl (by rw [u1]; simpa using hps x)
      have hy2 : (Instr.yield lp (encs x).toArray).run P w1 = .ok (.round lp fn0 ((ps.zip (encs x).toArray).foldl (fun tmps (t, a) => tmps.setIfInBounds t a) a.tmps) assign body) w1 := by rw [hy, hrec]
      refine ⟨fn0, (ps.zip (encs x).toArray).foldl (fun tmps (t, a) => tmps.setIfInBounds t a) a.tmps, assign, body, hy2, roundIn_of_wpIn trivial ?_⟩
      have hp1 : (Pc.one lp (.loop (rec .ready none)) :: mm ++ X).Perm (mm ++ (.one lp (.loop (rec .ready none)) :: X)) := (List.perm_middle (a := Pc.one lp (.loop (rec .ready none))) (l₁ := mm) (l₂ := X)).symm
      have hH0 : Holds ⟨n.n, [], some lp⟩ L ⟨a.tmps, []⟩ := ⟨rfl, ha.size, ha.slot⟩
      have hH1 : Holds ⟨n.n, [], some lp⟩ (asgZ (ps.toList.zip (encs x)) L) ⟨(ps.zip (encs x).toArray).foldl (fun tmps (t, a) => tmps.setIfInBounds t a) a.tmps, []⟩ := by
        have := holds_asg (ro := some lp) (ps.toList.zip (encs x)) L a.tmps (by
          rw [List.all_eq_true] at hpb ⊢
          intro z hz
          exact hpb z.1 (List.of_mem_zip hz).1) hH0
        rw [← Array.foldl_toList]
        simpa using this
      have hW := hassign lp pre x mm hlen hM W1 F1 (.one lp (.loop (rec .ready none)) :: X) (fun a₁ w₁ => ∃ w₂, (Instr.beginRound lp).run P w₁ = .ok () w₂ ∧ body.wpIn (Fence.wide.inRound lp) 0 P (roundPost P lp (fun e W' =>
        (e = .returned (.bool true) ∧ ∃ m', (∃ mm, M (pre ++ [x]) mm ∧ m' = .one lp (.loop (rec .ready none)) :: mm) ∧ Has W1 F1 (m' ++ X) W') ∨ (e = .returned (.bool false) ∧ ∃ m', (∃ c mm, Mx c (pre ++ [x]) mm ∧ m' = .one lp (.loop (rec .done (some c))) :: mm) ∧ Has W1 F1 (m' ++ X) W'))) a₁ w₂) ?_
      · unfold Wp at hW
        exact hW _ w1 hH1 (hw1.perm hp1)
      · intro y
        unfold Nxt
        intro a2 w2 ha2 hw2
        obtain ⟨mmy, hmy⟩ : ∃ z, z = Ma x y ++ mm := ⟨_, rfl⟩
        rw [← hmy] at hw2
        have hw3 : Has W1 F1 (.one lp (.loop (rec .ready none)) :: (mmy ++ X)) w2 := hw2.perm List.perm_middle
        have hl2 : w2.heap[lp]? = some (.loop (rec .ready none)) := hw3.ok _ (List.Mem.head _)
        have hb := run_beginRound (P := P) hl2 (u4 _ _)
        rw [u2] at hb
        have hw4 := (hw3.putObj (o' := .loop (rec .busy none))).perm (List.perm_middle (a := Pc.one lp (.loop (rec .busy none))) (l₁ := mmy) (l₂ := X)).symm
        refine ⟨_, hb, ?_⟩
        have hB := hbody lp pre x mm hlen hM y W1 F1 (.one lp (.loop (rec .busy none)) :: X)
        rw [← hmy] at hB
        unfold Wp at hB
        refine wpIn_mono (hB a2 _ ha2 hw4) ?_
        have out : ∀ (mm' : Mem) (jump : Option Code) (w5 : World), Has W1 F1 (mm' ++ (.one lp (.loop (rec .busy none)) :: X)) w5 → ∃ w6, (Instr.endRound lp jump).run P w5 = .ok (.bool jump.isNone) w6 ∧ Has W1 F1 (.one lp (.loop (rec (if jump.isNone then .ready else .done) jump)) :: mm' ++ X) w6 := fun mm' jump w5 h5 => by
          have h6 : Has W1 F1 (.one lp (.loop (rec .busy none)) :: (mm' ++ X)) w5 := h5.perm List.perm_middle
          have hl5 : w5.heap[lp]? = some (.loop (rec .busy none)) := h6.ok _ (List.Mem.head _)
          refine ⟨_, run_endRound jump hl5, ?_⟩
          have := h6.putObj (o' := .loop (rec (if jump.isNone then .ready else .done) jump))
          rw [u3]; exact this
        intro e3 a3 w3 h3
        cases e3 with
        | normal =>
          obtain ⟨mm', hM', h5⟩ := h3
          obtain ⟨w6, r1, r2⟩ := out mm' none w3 h5
          exact ⟨_, w6, r1, .inl ⟨rfl, _, ⟨mm', hM', rfl⟩, r2⟩⟩
        | ret =>
          obtain ⟨mm', hM', h5⟩ := h3
          obtain ⟨w6, r1, r2⟩ := out mm' (some .ret) w3 h5
          exact ⟨_, w6, r1, .inr ⟨rfl, _, ⟨_, mm', hM', rfl⟩, r2⟩⟩
        | exit id =>
          obtain ⟨mm', hM', h5⟩ := h3
          obtain ⟨w6, r1, r2⟩ := out mm' (some (.exit id)) w3 h5
          exact ⟨_, w6, r1, .inr ⟨rfl, _, ⟨_, mm', hM', rfl⟩, r2⟩⟩
        | goto t => exact h3.elim
        | panic c => exact h3.elim
        | outgrown => exact h3.elim
    have hT := hI (w.heap.size + 1) _ _ (hsq _ rfl) (.one (w.heap.size + 1) (.loop (rec .ready none)) :: m0) ⟨m0, h0, rfl⟩
    unfold Tri at hT
    have hC := hT W F (.one w.heap.size (.deferred (some [])) :: fr) _ hw2
    have hargs : (#[.func (.yield (w.heap.size + 1)) #[] #[]] ++ lb.toArray : Array Value) = (.func (.yield (w.heap.size + 1)) #[] #[] :: lb).toArray := by simp
    rw [hargs]
    refine calls_fen (ro := none) (hC.mono ?_)
    rintro e w3 ⟨v, m', hR, rfl, hw3⟩
    have hH : Holds ⟨n.n, [mk w.heap.size], none⟩ L { a with defers := [mk w.heap.size] ++ a.defers } := ⟨by rw [ha0]; rfl, ha.size, ha.slot⟩
    rcases hR with ⟨xs, hS, mm, hM, rfl⟩ | ⟨pre, hSp, c, mm, hM, rfl⟩
    · have hl3 : w3.heap[w.heap.size + 1]? = some (.loop _) := hw3.ok _ (List.Mem.head _)
      have hE := run_endLoop (P := P) hl3 (by rw [u4]; intro h; cases h)
      rw [u2, u5] at hE
      refine ⟨_, _, hE, ?_⟩
      have hd := hdone w.heap.size xs mm hS hM
      unfold Fin at hd
      have h7 := (hw3.putObj (o' := .loop (rec .exhausted none))).sub (List.sublist_cons_self _ _)
      exact hd _ _ hH h7
    · have hl3 : w3.heap[w.heap.size + 1]? = some (.loop _) := hw3.ok _ (List.Mem.head _)
      have hE := run_endLoop (P := P) hl3 (by rw [u4]; intro h; cases h)
      rw [u2, u5] at hE
      refine ⟨_, _, hE, ?_⟩
      have hd := hstop w.heap.size c pre mm hSp hM
      unfold Wp at hd
      have h7 := (hw3.putObj (o' := .loop (rec .exhausted (some c)))).sub (List.sublist_cons_self _ _)
      exact hd _ _ hH h7
end Go.Proofs.Ytfcffemglcgbnaa.Sq
