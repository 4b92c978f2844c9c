/-
  An argument that reads as data, opened by its type: whole numbers, bools, strings, structs, slices, one in the other. No program.
-/
import Derived.Test.YtbaeaiiohkfieaaWWords
import Derived.Lib.SmallJoins
namespace Go.Proofs.Ytbaeaiiohkfieaa.Opn
open Go.RowKit Go.Joins Go.ChangeShapes Go.WideShapes Go.Deep Go.Proofs.YtbaeaiiohkfieaaW.PrintWords
set_option linter.unusedVariables false

/-- Whatever reads at type t is a value of kind k that meets ok. -/
def Opn (P : Program) (t : TypeId) {α : Type} (k : Kd α) (ok : α → Prop) : Prop :=
  ∀ (H : Type) (enc : TypeId × Value → H) (w : World) (fuel : Nat) (cs : List Value) (x : DataW H × List MemPlace), DataW.trod enc P w 0 (fun _ => true) true fuel t cs = some x → ∃ a, ok a ∧ k.K w a cs
variable {P : Program} {t : TypeId}

theorem opn_int {k : IntKind} (ht : P.underlying t = some (.int k)) : Opn P t (Kd.int k) (fun n => (Lit.int k n).wf = true) := by
  intro H enc w fuel cs x h
  obtain ⟨n, rfl, _, hw⟩ := DataW.trod_int ht h
  exact ⟨n, hw, rfl⟩
theorem opn_bool (ht : P.underlying t = some .bool) : Opn P t Kd.bool (fun _ => True) := by
  intro H enc w fuel cs x h
  obtain ⟨b, rfl, _⟩ := DataW.trod_bool ht h
  exact ⟨b, trivial, rfl⟩
theorem opn_string (ht : P.underlying t = some .string) : Opn P t Kd.string (fun s => s.size ≤ maxLen) := by
  intro H enc w fuel cs x h
  obtain ⟨s, rfl, _, hs⟩ := DataW.trod_string ht h
  exact ⟨s, hs, rfl⟩
theorem split2 {α : Type} {cs : List α} {a b : Nat} (h : cs.length = a + b) : cs = (cs.drop 0).take a ++ (cs.drop a).take b := by
  rw [List.drop_zero, List.take_of_length_le (l := cs.drop a) (by rw [List.length_drop]; omega), List.take_append_drop]
theorem opn_struct2 {α β : Type} {f0 f1 : Field} {k0 : Kd α} {k1 : Kd β} {o0 : α → Prop} {o1 : β → Prop} (ht : P.underlying t = some (.struct #[f0, f1]))
    (c0 : P.cellsOf f0.type = k0.sz) (c1 : P.cellsOf f1.type = k1.sz) (e0 : f0.offset = 0) (e1 : f1.offset = k0.sz) (ct : P.cellsOf t = k0.sz + k1.sz) (h0 : Opn P f0.type k0 o0) (h1 : Opn P f1.type k1 o1) :
    Opn P t (Kd.pair k0 k1) (fun x => o0 x.1 ∧ o1 x.2) := by
  intro H enc w fuel cs x h
  obtain ⟨y0, y1, n, _, hl, r0, r1⟩ := trod_struct2 ht h
  obtain ⟨a, oa, ka⟩ := h0 H enc w n _ _ r0
  obtain ⟨b, ob, kb⟩ := h1 H enc w n _ _ r1
  refine ⟨(a, b), ⟨oa, ob⟩, _, _, ?_, ka, kb⟩
  rw [e0, e1, c0, c1]
  exact split2 (hl.trans ct)
theorem opn_struct3 {α β γ : Type} {f0 f1 f2 : Field} {k0 : Kd α} {k1 : Kd β} {k2 : Kd γ} {o0 : α → Prop} {o1 : β → Prop} {o2 : γ → Prop} (ht : P.underlying t = some (.struct #[f0, f1, f2]))
    (c0 : P.cellsOf f0.type = k0.sz) (c1 : P.cellsOf f1.type = k1.sz) (c2 : P.cellsOf f2.type = k2.sz) (e0 : f0.offset = 0) (e1 : f1.offset = k0.sz) (e2 : f2.offset = k0.sz + k1.sz) (ct : P.cellsOf t = k0.sz + (k1.sz + k2.sz))
    (h0 : Opn P f0.type k0 o0) (h1 : Opn P f1.type k1 o1) (h2 : Opn P f2.type k2 o2) :
    Opn P t (Kd.pair k0 (Kd.pair k1 k2)) (fun x => o0 x.1 ∧ o1 x.2.1 ∧ o2 x.2.2) := by
  intro H enc w fuel cs x h
  obtain ⟨y0, y1, y2, n, _, hl, r0, r1, r2⟩ := trod_struct3 ht h
  obtain ⟨a, oa, ka⟩ := h0 H enc w n _ _ r0
  obtain ⟨b, ob, kb⟩ := h1 H enc w n _ _ r1
  obtain ⟨c, oc, kc⟩ := h2 H enc w n _ _ r2
  refine ⟨(a, b, c), ⟨oa, ob, oc⟩, _, _, ?_, ka, _, _, rfl, kb, kc⟩
  rw [e0, e1, e2, c0, c1, c2]
  have s1 := split2 (hl.trans ct)
  have s2 := split2 (cs := cs.drop k0.sz) (a := k1.sz) (b := k2.sz) (by rw [List.length_drop, hl, ct]; omega)
  simp only [List.drop_drop, Nat.add_zero] at s2
  conv => lhs; rw [s1]
  congr 1
  rw [List.take_of_length_le (by rw [List.length_drop, hl, ct]; omega)]
  exact s2
theorem opn_struct4 {α β γ δ : Type} {f0 f1 f2 f3 : Field} {k0 : Kd α} {k1 : Kd β} {k2 : Kd γ} {k3 : Kd δ} {o0 : α → Prop} {o1 : β → Prop} {o2 : γ → Prop} {o3 : δ → Prop} (ht : P.underlying t = some (.struct #[f0, f1, f2, f3]))
    (c0 : P.cellsOf f0.type = k0.sz) (c1 : P.cellsOf f1.type = k1.sz) (c2 : P.cellsOf f2.type = k2.sz) (c3 : P.cellsOf f3.type = k3.sz) (e0 : f0.offset = 0) (e1 : f1.offset = k0.sz) (e2 : f2.offset = k0.sz + k1.sz) (e3 : f3.offset = k0.sz + k1.sz + k2.sz)
    (ct : P.cellsOf t = k0.sz + (k1.sz + (k2.sz + k3.sz))) (h0 : Opn P f0.type k0 o0) (h1 : Opn P f1.type k1 o1) (h2 : Opn P f2.type k2 o2) (h3 : Opn P f3.type k3 o3) :
    Opn P t (Kd.pair k0 (Kd.pair k1 (Kd.pair k2 k3))) (fun x => o0 x.1 ∧ o1 x.2.1 ∧ o2 x.2.2.1 ∧ o3 x.2.2.2) := by
  intro H enc w fuel cs x h
  obtain ⟨y0, y1, y2, y3, n, _, hl, r0, r1, r2, r3⟩ := trod_struct4 ht h
  obtain ⟨a, oa, ka⟩ := h0 H enc w n _ _ r0
  obtain ⟨b, ob, kb⟩ := h1 H enc w n _ _ r1
  obtain ⟨c, oc, kc⟩ := h2 H enc w n _ _ r2
  obtain ⟨d, od, kd⟩ := h3 H enc w n _ _ r3
  refine ⟨(a, b, c, d), ⟨oa, ob, oc, od⟩, _, _, ?_, ka, _, _, rfl, kb, _, _, rfl, kc, kd⟩
  rw [e0, e1, e2, e3, c0, c1, c2, c3]
  have s1 := split2 (hl.trans ct)
  have s2 := split2 (cs := cs.drop k0.sz) (a := k1.sz) (b := k2.sz + k3.sz) (by rw [List.length_drop, hl, ct]; omega)
  simp only [List.drop_drop, Nat.add_zero] at s2
  have s3 := split2 (cs := cs.drop (k0.sz + k1.sz)) (a := k2.sz) (b := k3.sz) (by rw [List.length_drop, hl, ct]; omega)
  simp only [List.drop_drop, Nat.add_zero] at s3
  conv => lhs; rw [s1]
  congr 1
  rw [List.take_of_length_le (by rw [List.length_drop, hl, ct]; omega)]
  conv => lhs; rw [s2]
  congr 1
  rw [List.take_of_length_le (by rw [List.length_drop, hl, ct]; omega)]
  exact s3
theorem opn_iso {α β : Type} {k : Kd α} {ok : α → Prop} (h : Opn P t k ok) (f : β → α) (g : α → β) (e : ∀ a, f (g a) = a) : Opn P t (Kd.iso k f) (fun b => ok (f b)) := by
  intro H enc w fuel cs x hx
  obtain ⟨a, oa, ka⟩ := h H enc w fuel cs x hx
  exact ⟨g a, by show ok (f (g a)); rw [e]; exact oa, by show k.K w (f (g a)) cs; rw [e]; exact ka⟩
theorem opn_imp {α : Type} {k : Kd α} {ok ok' : α → Prop} (h : Opn P t k ok) (hi : ∀ a, ok a → ok' a) : Opn P t k ok' := by
  intro H enc w fuel cs x hx
  obtain ⟨a, oa, ka⟩ := h H enc w fuel cs x hx
  exact ⟨a, hi a oa, ka⟩
theorem add_add (a : Addr) (m j : Nat) : (a.add m).add j = a.add (m + j) := by
  unfold Addr.add
  by_cases h : m = 0 <;> by_cases h2 : j = 0 <;> simp [h, h2]
  omega
theorem opn_slice {α : Type} {e : TypeId} {k : Kd α} {ok : α → Prop} (ht : P.underlying t = some (.slice e)) (hc : P.cellsOf e = k.sz) (h : Opn P e k ok) :
    Opn P t (Kd.slice e k) (fun xs => ∀ x ∈ xs, ok x) := by
  intro H enc w fuel cs x hx
  rcases open_slice ht hx with ⟨rfl, _⟩ | ⟨a, len, cap, m, n, D, Pl, rfl, _, hl, hm, hmm, _, hel⟩
  · exact ⟨[], by simp, none, 0, rfl, Nat.le_refl _, rfl, by simp, fun h0 => absurd h0 (by simp)⟩
  · have hle : len ≤ m := by rw [hmm]; split <;> omega
    have key : ∀ i, i < len → ∃ p : α × List Value, ok p.1 ∧ k.K w p.1 p.2 ∧ p.2.length = k.sz ∧ ∀ j u, p.2[j]? = some u → w.cell? (a.add (i * k.sz + j)) = some u := by
      intro i hi
      obtain ⟨cs', h1, h2⟩ := hel i (Nat.lt_of_lt_of_le hi hle)
      obtain ⟨b, ob, kb⟩ := h H enc w n _ _ h2
      refine ⟨(b, cs'), ob, kb, k.K_len kb, fun j u hu => ?_⟩
      obtain ⟨_, h4, h5⟩ := World.cells?_some h1
      rw [hc] at h4 h5
      have hj : j < k.sz := by
        have := (List.getElem?_eq_some_iff.1 hu).1
        simp only at this
        omega
      have h6 := h5 j hj
      rw [add_add] at h6
      exact h6.trans hu
    by_cases h0 : 0 < len
    · obtain ⟨p0, _⟩ := key 0 h0
      have : ∃ f : Nat → α × List Value, ∀ i, i < len → ok (f i).1 ∧ k.K w (f i).1 (f i).2 ∧ (f i).2.length = k.sz ∧ ∀ j u, (f i).2[j]? = some u → w.cell? (a.add (i * k.sz + j)) = some u := by
        refine ⟨fun i => if hi : i < len then Classical.choose (key i hi) else p0, fun i hi => ?_⟩
        simp only [dif_pos hi]
        exact Classical.choose_spec (key i hi)
      obtain ⟨f, hf⟩ := this
      refine ⟨(List.range len).map fun i => (f i).1, ?_, some a, cap, by simp, by simpa using hl, by simp, by simp only [List.length_map, List.length_range]; unfold maxLen at hm; omega, fun _ => ⟨a, rfl, fun j p hj => ?_⟩⟩
      · intro y hy
        simp only [List.mem_map, List.mem_range] at hy
        obtain ⟨i, hi, rfl⟩ := hy
        exact (hf i hi).1
      · rw [List.getElem?_map] at hj
        obtain ⟨i, hi, rfl⟩ := Option.map_eq_some_iff.1 hj
        have hlt : j < len := by
          have := (List.getElem?_eq_some_iff.1 hi).1
          simpa using this
        have : i = j := by
          have := (List.getElem?_eq_some_iff.1 hi).2
          simpa using this.symm
        subst this
        obtain ⟨_, h2, h3, h4⟩ := hf i hlt
        exact ⟨(f i).2, h3, h2, h4⟩
    · have : len = 0 := by omega
      subst this
      exact ⟨[], by simp, some a, cap, rfl, Nat.zero_le _, rfl, by simp, fun h0 => absurd h0 (by simp)⟩
/-- A value at the top: its cells are what its kind says. -/
theorem opn_top {α : Type} {k : Kd α} {ok : α → Prop} (h : Opn P t k ok) {H : Type} {enc : TypeId × Value → H} {w : World} {v : Value} {d : DataW H} {ps : List MemPlace} (hd : DataW.Trod enc P w 0 (fun _ => true) true t v d ps) :
    ∃ a, ok a ∧ k.K w a v.cells.toList := by
  obtain ⟨fuel, hf⟩ := hd
  exact h H enc w fuel _ _ hf
end Go.Proofs.Ytbaeaiiohkfieaa.Opn
