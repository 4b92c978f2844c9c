/-
  An argument that reads as data, opened by its type: whole numbers, bools, strings, structs, slices of records. No program.
-/
import Derived.Test.YtfcffemglcgbnaaSq
import Derived.Deep.Slices
import Derived.Lib.SmallJoins
import Derived.Test.YtfcffemglcgbnaaRecs
import Derived.Test.YtfcffemglcgbnaaTs
import Derived.Test.YtfcffemglcgbnaaRe
namespace Go.Proofs.Ytfcffemglcgbnaa.Op
open Go.RowKit Go.Joins Go.ChangeShapes Go.WideShapes Go.Deep Go.Proofs.Ytfcffemglcgbnaa.Sq
set_option linter.unusedVariables false

def OpR (P : Program) (t : TypeId) (R : World → List Value → Prop) : Prop :=
  ∀ (H : Type) (enc : TypeId × Value → H) (w : World) (fuel : Nat) (cs : List Value) (x : DataW H × List MemPlace), DataW.trod enc P w 0 (fun _ => true) true fuel t cs = some x → R w cs
abbrev OpF (P : Program) (t : TypeId) {α : Type} (enc : α → List Value) (ok : α → Prop) : Prop := OpR P t (fun _ cs => ∃ a, ok a ∧ cs = enc a)
variable {P : Program} {t : TypeId}
theorem opf_int {k : IntKind} (ht : P.underlying t = some (.int k)) : OpF P t (fun n : Int => [.int k n]) (fun n => (Lit.int k n).wf = true) := by
  intro H enc w fuel cs x h
  obtain ⟨n, rfl, _, hw⟩ := DataW.trod_int ht h
  exact ⟨n, hw, rfl⟩
theorem opf_bool (ht : P.underlying t = some .bool) : OpF P t (fun b : Bool => [.bool b]) (fun _ => True) := by
  intro H enc w fuel cs x h
  obtain ⟨b, rfl, _⟩ := DataW.trod_bool ht h
  exact ⟨b, trivial, rfl⟩
theorem opr_imp {R R' : World → List Value → Prop} (h : OpR P t R) (hi : ∀ w cs, R w cs → R' w cs) : OpR P t R' := fun H enc w fuel cs x hx => hi w cs (h H enc w fuel cs x hx)
theorem split2 {α : Type} {cs : List α} {a b : Nat} (h : cs.length = a + b) : cs = (cs.drop 0).take a ++ (cs.drop a).take b := by
  rw [List.drop_zero, List.take_of_length_le (l := cs.drop a) (by rw [List.length_drop]; omega), List.take_append_drop]
theorem opr_struct2 {f0 f1 : Field} {z0 z1 : Nat} {R0 R1 : World → List Value → Prop} (ht : P.underlying t = some (.struct #[f0, f1]))
    (c0 : P.cellsOf f0.type = z0) (c1 : P.cellsOf f1.type = z1) (e0 : f0.offset = 0) (e1 : f1.offset = z0) (ct : P.cellsOf t = z0 + z1) (h0 : OpR P f0.type R0) (h1 : OpR P f1.type R1) :
    OpR P t (fun w cs => ∃ x0 x1, cs = x0 ++ x1 ∧ R0 w x0 ∧ R1 w x1) := by
  intro H enc w fuel cs x h
  obtain ⟨y0, y1, n, _, hl, r0, r1⟩ := trod_struct2 ht h
  refine ⟨_, _, ?_, h0 H enc w n _ _ r0, h1 H enc w n _ _ r1⟩
  rw [e0, e1, c0, c1]
  exact split2 (hl.trans ct)
theorem opr_struct3 {f0 f1 f2 : Field} {z0 z1 z2 : Nat} {R0 R1 R2 : World → List Value → Prop} (ht : P.underlying t = some (.struct #[f0, f1, f2]))
    (c0 : P.cellsOf f0.type = z0) (c1 : P.cellsOf f1.type = z1) (c2 : P.cellsOf f2.type = z2) (e0 : f0.offset = 0) (e1 : f1.offset = z0) (e2 : f2.offset = z0 + z1) (ct : P.cellsOf t = z0 + (z1 + z2))
    (h0 : OpR P f0.type R0) (h1 : OpR P f1.type R1) (h2 : OpR P f2.type R2) :
    OpR P t (fun w cs => ∃ x0 x1 x2, cs = x0 ++ (x1 ++ x2) ∧ R0 w x0 ∧ R1 w x1 ∧ R2 w x2) := by
  intro H enc w fuel cs x h
  obtain ⟨y0, y1, y2, n, _, hl, r0, r1, r2⟩ := trod_struct3 ht h
  refine ⟨_, _, _, ?_, h0 H enc w n _ _ r0, h1 H enc w n _ _ r1, h2 H enc w n _ _ r2⟩
  rw [e0, e1, e2, c0, c1, c2]
  have s1 := split2 (hl.trans ct)
  have s2 := split2 (cs := cs.drop z0) (a := z1) (b := z2) (by rw [List.length_drop, hl, ct]; omega)
  simp only [List.drop_drop, Nat.add_zero] at s2
  conv => lhs; rw [s1]
  congr 1
  rw [List.take_of_length_le (by rw [List.length_drop, hl, ct]; omega)]
  exact s2
theorem add_add (a : Addr) (m j : Nat) : (a.add m).add j = a.add (m + j) := by
  unfold Addr.add
  by_cases h : m = 0 <;> by_cases h2 : j = 0 <;> simp [h, h2]
  omega
theorem opr_slice {α : Type} {e : TypeId} {k : Nat} {enc0 : α → List Value} {ok : α → Prop} (hk : 0 < k) (he : ∀ a, (enc0 a).length = k ∧ ∀ v ∈ enc0 a, v.oneCell' = true) (ht : P.underlying t = some (.slice e)) (hc : P.cellsOf e = k) (h : OpF P e enc0 ok) :
    OpR P t (fun w cs => ∃ (A : Option Addr) (c : Nat) (l : List α), cs = [.slice A l.length c] ∧ Reads w A c k (l.map enc0) ∧ (∀ a ∈ l, ok a) ∧ c ≤ maxLen) := by
  intro H enc w fuel cs x hx
  rcases open_slice ht hx with ⟨rfl, _⟩ | ⟨a, len, cap, m, n, D, Pl, rfl, _, hl, hm, hmm, _, hel⟩
  · exact ⟨none, 0, [], rfl, ⟨Nat.le_refl _, fun _ h => (by cases h), fun h => absurd rfl h, fun i row h => (by cases h)⟩, fun _ h => (by cases h), by unfold maxLen; omega⟩
  · have hle : len ≤ m := by rw [hmm]; split <;> omega
    have key : ∀ i, i < len → ∃ b : α, ok b ∧ ∀ j u, (enc0 b)[j]? = some u → w.cell? (a.add (i * k + j)) = some u := by
      intro i hi
      obtain ⟨cs', h1, h2⟩ := hel i (Nat.lt_of_lt_of_le hi hle)
      obtain ⟨b, ob, rfl⟩ := h H enc w n _ _ h2
      refine ⟨b, ob, fun j u hu => ?_⟩
      obtain ⟨_, h4, h5⟩ := World.cells?_some h1
      rw [hc] at h4 h5
      have hj : j < k := by
        have := (List.getElem?_eq_some_iff.1 hu).1
        rw [(he b).1] at this
        exact this
      have h6 := h5 j hj
      rw [add_add] at h6
      exact h6.trans hu
    by_cases h0 : 0 < len
    · obtain ⟨p0, _⟩ := key 0 h0
      have : ∃ f : Nat → α, ∀ i, i < len → ok (f i) ∧ ∀ j u, (enc0 (f i))[j]? = some u → w.cell? (a.add (i * k + j)) = some u := by
        refine ⟨fun i => if hi : i < len then Classical.choose (key i hi) else p0, fun i hi => ?_⟩
        simp only [dif_pos hi]
        exact Classical.choose_spec (key i hi)
      obtain ⟨f, hf⟩ := this
      have h00 : ∃ u, (enc0 (f 0))[0]? = some u := by
        have := (he (f 0)).1
        exact ⟨(enc0 (f 0))[0], List.getElem?_eq_getElem (by omega)⟩
      obtain ⟨u, hu⟩ := h00
      have hc0 := (hf 0 h0).2 0 u hu
      have ha0 : a.add (0 * k + 0) = a := by simp [Addr.add]
      rw [ha0] at hc0
      have hsp : a.spot = none := by
        cases hs : a.spot with
        | none => rfl
        | some q =>
          unfold World.cell? at hc0
          split at hc0
          · rw [hs] at hc0; cases hc0
          · cases hc0
      have hblk := block_lt_of_cell hc0
      refine ⟨some a, cap, (List.range len).map f, by simp, ⟨by simpa using hl, fun row hr => ?_, fun _ => ⟨a, rfl, hsp, hblk⟩, fun i row hr j v hv => ?_⟩, fun y hy => ?_, hm⟩
      · obtain ⟨b, _, rfl⟩ := List.mem_map.1 hr
        exact he b
      · rw [List.getElem?_map, List.getElem?_map] at hr
        by_cases hi : i < len
        · simp only [List.getElem?_range hi, Option.map_some, Option.some.injEq] at hr
          subst hr
          have := (hf i hi).2 j v hv
          obtain ⟨bl, of, sp⟩ := a
          cases hsp
          rw [Addr.add_mid] at this
          simp only [bkA, ofA]
          rw [Nat.add_assoc]
          exact this
        · rw [List.getElem?_eq_none (by simp; omega)] at hr; cases hr
      · simp only [List.mem_map, List.mem_range] at hy
        obtain ⟨i, hi, rfl⟩ := hy
        exact (hf i hi).1
    · have : len = 0 := by omega
      subst this
      exact ⟨some a, cap, [], rfl, ⟨Nat.zero_le _, fun _ h => (by cases h), fun h => absurd rfl h, fun i row h => (by cases h)⟩, fun _ h => (by cases h), hm⟩
theorem op_top {R : World → List Value → Prop} (h : OpR P t R) {H : Type} {enc : TypeId × Value → H} {w : World} {v : Value} {d : DataW H} {ps : List MemPlace} (hd : DataW.Trod enc P w 0 (fun _ => true) true t v d ps) : R w v.cells.toList := by
  obtain ⟨fuel, hf⟩ := hd
  exact h H enc w fuel _ _ hf
end Go.Proofs.Ytfcffemglcgbnaa.Op
namespace Go.Proofs.Ytfcffemglcgbnaa.Hand
open Go.RowKit Go.Proofs.Ytfcffemglcgbnaa.Sq Go.Proofs.Ytfcffemglcgbnaa.Op
set_option linter.unusedVariables false
set_option maxRecDepth 100000
theorem RCal.out {P : Program} {f : FuncId} {vs : List Value} {U : Mem} {v : Value} (h : RCal P f vs U v) : ∀ w, (∀ u ∈ U, u.ok w) → Calls P f vs.toArray w fun e w' => e = .returned v ∧ Below w.heap.size w w' := by
  unfold RCal at h
  exact h
theorem oks_nil {w : World} : ∀ u ∈ ([] : Mem), u.ok w := fun _ h => by cases h
theorem oks_cons {w : World} {r : Pc} {U : Mem} (h : r.ok w) (hs : ∀ u ∈ U, u.ok w) : ∀ u ∈ r :: U, u.ok w := fun u hu => by
  rcases List.mem_cons.1 hu with rfl | hu
  · exact h
  · exact hs u hu
theorem wf_u64 {n : Int} (h : (Lit.int .u64 n).wf = true) : 0 ≤ n ∧ n < 18446744073709551616 := by
  simp only [Lit.wf, Bool.and_eq_true, decide_eq_true_eq] at h
  have h1 : (0 : Int) ≤ n := h.1
  have h2 : n ≤ 18446744073709551615 := h.2
  omega
theorem opAd : OpF Try.prog 25 Ad.cells Ad.wf := opr_imp (opr_struct3 (z0 := 1) (z1 := 1) (z2 := 1) Try.underlying25 (by kernel_rfl) (by kernel_rfl) (by kernel_rfl) (by kernel_rfl) (by kernel_rfl) (by kernel_rfl) (by kernel_rfl) (opf_int Try.underlying23) (opf_int Try.underlying23) (opf_bool Try.underlying4)) fun w cs ⟨x0, x1, x2, e, ⟨a0, o0, r0⟩, ⟨a1, o1, r1⟩, ⟨a2, _, r2⟩⟩ => ⟨⟨a0, a1, a2⟩, ⟨wf_u64 o0, wf_u64 o1⟩, by subst r0 r1 r2; exact e⟩
theorem opPx : OpF Try.prog 30 Px.cells (fun p => p.a.wf ∧ (Lit.int .i64 p.n).wf = true) := opr_imp (opr_struct2 (z0 := 3) (z1 := 1) Try.underlying30 (by kernel_rfl) (by kernel_rfl) (by kernel_rfl) (by kernel_rfl) (by kernel_rfl) opAd (opf_int Try.underlying3)) fun w cs ⟨x0, x1, e, ⟨a0, o0, r0⟩, ⟨a1, o1, r1⟩⟩ => ⟨⟨a0, a1⟩, ⟨o0, o1⟩, by subst r0 r1; exact e⟩
end Go.Proofs.Ytfcffemglcgbnaa.Hand
namespace Go.Proofs.Ytfcffemglcgbnaa.Hand
open Go.RowKit Go.Proofs.Ytfcffemglcgbnaa.Sq Go.Proofs.Ytfcffemglcgbnaa.Op
set_option linter.unusedVariables false
set_option maxRecDepth 100000
theorem opPr : OpF Try.prog 58 Pr.cells (fun x => (x.p.a.wf ∧ (Lit.int .i64 x.p.n).wf = true) ∧ (Lit.int .i64 x.v).wf = true) := opr_imp (opr_struct2 (z0 := 4) (z1 := 1) Try.underlying58 (by kernel_rfl) (by kernel_rfl) (by kernel_rfl) (by kernel_rfl) (by kernel_rfl) opPx (opf_int Try.underlying3)) fun w cs ⟨x0, x1, e, ⟨a0, o0, r0⟩, ⟨a1, o1, r1⟩⟩ => ⟨⟨a0, a1⟩, ⟨o0, o1⟩, by subst r0 r1; exact e⟩
theorem opPrs : OpR Try.prog 22 (fun w cs => ∃ (A : Option Addr) (c : Nat) (l : List Pr), cs = [.slice A l.length c] ∧ Reads w A c 5 (l.map Pr.cells) ∧ (∀ x ∈ l, (x.p.a.wf ∧ (Lit.int .i64 x.p.n).wf = true) ∧ (Lit.int .i64 x.v).wf = true) ∧ c ≤ maxLen) := opr_slice (k := 5) (by decide) (fun e => ⟨rfl, fun v hv => by simp only [Pr.cells, List.mem_cons, List.not_mem_nil, or_false] at hv; rcases hv with rfl | rfl | rfl | rfl | rfl <;> rfl⟩) Try.underlying22 (by kernel_rfl) opPr
end Go.Proofs.Ytfcffemglcgbnaa.Hand
