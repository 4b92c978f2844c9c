/-
  A scope in which the run jumps back to a label that stands behind its first part.
-/
import Derived.Test.YtfcffemglcgbnaaSt
import Derived.ScopeJumps
import Derived.ControlIn
namespace Go.Proofs.Ytfcffemglcgbnaa.Sq
open Go.RowKit
set_option linter.unusedVariables false
set_option linter.unusedSimpArgs false
set_option linter.unusedSectionVars false
variable {P : Program} {n : Fm} {L : Slots} {m : Mem} {W : World} {F : Nat → Prop} {Q : Exit → Act → World → Prop}
theorem least {α : Type} (S : α → Prop) (μ : α → Nat) (h : ∃ s, S s) : ∃ s, S s ∧ ∀ s', S s' → μ s ≤ μ s' := by
  obtain ⟨s0, h0⟩ := h
  have key : ∀ k s, S s → μ s ≤ k → ∃ s, S s ∧ ∀ s', S s' → μ s ≤ μ s' := by
    intro k
    induction k with
    | zero => exact fun s hs hk => ⟨s, hs, fun s' _ => by omega⟩
    | succ k ih =>
      intro s hs hk
      by_cases hx : ∃ s', S s' ∧ μ s' < μ s
      · obtain ⟨s', h1, h2⟩ := hx
        exact ih s' h1 (by omega)
      · exact ⟨s, hs, fun s' h' => Nat.le_of_not_lt fun q => hx ⟨s', h', q⟩⟩
  exact key _ s0 h0 (Nat.le_refl _)
theorem w_scope {α : Type} {r1 X : Code} {lb : Nat} (V : α → Slots) (M : α → Mem) (I : α → Prop) (μ : α → Nat) (L0 : Slots) (hro : n.ro = none) (hf : findLabel r1 lb = none)
    (first : ∀ (R : Act → World → Prop) (Q' : Exit → Act → World → Prop), (∀ s, I s → Nxt n W F (V s ++ L0) (M s) R) → Wp P n W F r1 L m (Exit.then R Q'))
    (pass : ∀ s, I s → ∀ J : Act → World → Prop, (∀ s', I s' → μ s' < μ s → Nxt n W F (V s' ++ L0) (M s') J) → Wp P n W F X (V s ++ L0) (M s) (Exit.jump lb J Q)) :
    Wp P n W F (.scope (.seq r1 (.seq (.label lb) X))) L m Q := by
  unfold Wp Nxt at *
  rw [fen_none hro] at *
  intro a w ha hw
  let T : Act → World → α → Prop := fun a w s => I s ∧ Holds n (V s ++ L0) a ∧ Has W F (M s) w
  let J0 : Act → World → Prop := fun a w => ∃ s, T a w s
  have hle : ∀ a w, J0 a w → ∃ s, T a w s ∧ ∀ s', T a w s' → μ s ≤ μ s' := fun a w h => least _ μ h
  let ν : Act → World → Nat := fun a w => @dite Nat (J0 a w) (Classical.propDecidable _) (fun h => μ (Classical.choose (hle a w h))) (fun _ => 0)
  have hν : ∀ a w s, T a w s → ν a w ≤ μ s := fun a w s hs => by
    have h : J0 a w := ⟨s, hs⟩
    show @dite Nat (J0 a w) (Classical.propDecidable _) _ _ ≤ _
    rw [dif_pos h]
    exact (Classical.choose_spec (hle a w h)).2 s hs
  have hpick : ∀ a w, J0 a w → ∃ s, T a w s ∧ ν a w = μ s := fun a w h => ⟨_, (Classical.choose_spec (hle a w h)).1, by show @dite Nat (J0 a w) (Classical.propDecidable _) _ _ = _; rw [dif_pos h]⟩
  refine wpIn_wide.2 (wp_scope_jumps (rest := .seq .skip X) lb J0 ν (by simp [findLabel, hf]) ?_ ?_)
  · refine wpIn_wide.1 (wpIn_seq (first _ _ (fun s hs a' w' ha' hw' => wpIn_seq (wpIn_label ?_)) a w ha hw))
    exact pass s hs J0 (fun s' h1 _ a2 w2 h2 h3 => ⟨s', h1, h2, h3⟩) a' w' ha' hw'
  · intro a1 w1 hJ
    obtain ⟨s, ⟨h1, h2, h3⟩, h4⟩ := hpick a1 w1 hJ
    let J' : Act → World → Prop := fun a' w' => J0 a' w' ∧ ν a' w' < ν a1 w1
    have hp : X.wpIn Fence.wide 0 P (Exit.jump lb J' Q) a1 w1 := pass s h1 J' (fun s' g1 g2 a2 w2 g3 g4 => ⟨⟨s', g1, g3, g4⟩, by have := hν a2 w2 s' ⟨g1, g3, g4⟩; omega⟩) a1 w1 h2 h3
    exact (wpIn_wide (n := 0)).1 (wpIn_seq (wpIn_skip (Q := Exit.then (X.wpIn Fence.wide 0 P (Exit.jump lb J' Q)) (Exit.jump lb J' Q)) hp))
theorem w_goto {lb : Nat} (h : Fin n W F Q (.goto lb) L m) : Wp P n W F (.goto lb) L m Q := by
  unfold Wp Fin at *
  exact fun a w ha hw => wpIn_goto (h a w ha hw)
theorem f_gthen {K : Act → World → Prop} {lb : Nat} (h : Fin n W F Q (.goto lb) L m) : Fin n W F (Exit.then K Q) (.goto lb) L m := by unfold Fin at *; exact h
theorem f_gblock {id lb : Nat} (h : Fin n W F Q (.goto lb) L m) : Fin n W F (Exit.inBlock id Q) (.goto lb) L m := by unfold Fin at *; exact h
theorem f_jret {lb : Nat} {J : Act → World → Prop} (h : Fin n W F Q .ret L m) : Fin n W F (Exit.jump lb J Q) .ret L m := by unfold Fin at *; exact h
theorem f_goto {lb : Nat} {l' : Slots} {m' : Mem} {J : Act → World → Prop} (hB : Nxt n W F l' m' J) (hc : Cov [] L l') (hs : m'.Sublist m) : Fin n W F (Exit.jump lb J Q) (.goto lb) L m := by
  unfold Fin Nxt at *
  exact fun a w ha hw => ⟨rfl, hB a w (ha.cov hc) (hw.sub hs)⟩
theorem f_gotos {lb : Nat} {l' : Option Addr → Nat → Slots} {m' : Option Addr → Nat → Mem} {A : Option Addr} {c : Nat} {J : Act → World → Prop} (hB : ∀ A c, Nxt n W F (l' A c) (m' A c) J) (hc : Cov [] L (l' A c)) (hs : (m' A c).Sublist m) : Fin n W F (Exit.jump lb J Q) (.goto lb) L m := f_goto (hB A c) hc hs
end Go.Proofs.Ytfcffemglcgbnaa.Sq
