/-
  The queue: plain laws: one that may be stays one.
-/
import Derived.Test.YtlmcfjadhahlpaaQi
namespace Go.Proofs.Ytlmcfjadhahlpaa.Hand
open Go.RowKit Go.Proofs.Ytlmcfjadhahlpaa.Bits Go.Proofs.Ytlmcfjadhahlpaa.Dig Go.Proofs.Ytlmcfjadhahlpaa.Sq
set_option linter.unusedVariables false
set_option linter.unusedSimpArgs false
set_option maxRecDepth 100000
set_option maxHeartbeats 1000000
theorem firN_none {a : Ad} : ∀ {l : List En} {i : Nat}, firN l a i = -1 ↔ ∀ e ∈ l, conB e.x.p a = false
  | [], _ => ⟨fun _ _ h => (by cases h), fun _ => rfl⟩
  | e :: l, i => by
    rw [firN]
    cases h : conB e.x.p a with
    | true =>
      rw [if_pos rfl]
      constructor
      · intro q; omega
      · intro q
        have := q e (List.mem_cons_self ..)
        rw [h] at this; cases this
    | false =>
      rw [if_neg (by decide), firN_none (l := l) (i := i + 1)]
      constructor
      · intro q e' he
        rcases List.mem_cons.1 he with rfl | he
        · exact h
        · exact q e' he
      · exact fun q e' he => q e' (List.mem_cons_of_mem _ he)
theorem offer_sane {l : List En} {b : Int} (h : SaneQ l b) (a : Ad) (x : Rt) : SaneQ (offerN l b a x).1 (offerN l b a x).2.1 := by
  unfold offerN
  rw [if_pos (bP_t h)]
  by_cases hf : firN l a 0 = -1
  · rw [if_pos hf]
    cases hg : (decide (((l.length : Nat) : Int) = b) || !fitB a x) with
    | true => exact h
    | false =>
      simp only [Bool.or_eq_false_iff, decide_eq_false_iff_not, Bool.not_eq_false'] at hg
      refine ⟨h.b0, h.b1, by have := h.len; simp; omega, fun k hk => ?_⟩
      intro e he
      by_cases hkl : k < l.length
      · have he' : l[k]? = some e := by simpa [List.getElem?_append_left hkl] using he
        have := h.each k hkl e he'
        refine ⟨this.1, this.2.1, ?_⟩
        simpa [List.take_append_of_le_length (Nat.le_of_lt hkl)] using this.2.2
      · obtain rfl : k = l.length := by simp at hk; omega
        obtain rfl : (⟨a, x, false⟩ : En) = e := by simpa using he
        exact ⟨hg.2, fun h => (by cases h), by simpa using hf⟩
  · rw [if_neg hf]; exact h
theorem pick_sane {l : List En} {b : Int} (h : SaneQ l b) (n : Int) : SaneQ (pickN l b n).1 (pickN l b n).2.1 := by
  unfold pickN
  rw [if_pos (bP_t h)]
  cases hg : (decide (n < 0) || decide (n ≥ ((l.length : Nat) : Int))) with
  | true => exact h
  | false =>
    rw [if_neg (by decide)]
    dsimp only
    generalize n.toNat = i
    have hle : (l.eraseIdx i).length ≤ l.length := by rw [List.length_eraseIdx]; split <;> omega
    refine ⟨h.b0, h.b1, by have := h.len; omega, fun k hk => ?_⟩
    intro e he
    rw [List.getElem?_eraseIdx] at he
    obtain ⟨j, hj, hsub⟩ : ∃ j, l[j]? = some e ∧ ∀ y ∈ (l.eraseIdx i).take k, y ∈ l.take j := by
      split at he
      · rename_i hki
        refine ⟨k, he, fun y hy => ?_⟩
        rw [List.eraseIdx_eq_take_drop_succ, List.take_append_of_le_length (by rw [List.length_take]; have := (List.getElem?_eq_some_iff.1 he).1; omega), List.take_take] at hy
        rwa [Nat.min_eq_left (Nat.le_of_lt hki)] at hy
      · rename_i hki
        refine ⟨k + 1, he, fun y hy => ?_⟩
        obtain ⟨q, hq1, hq2⟩ := List.mem_take_iff_getElem.1 hy
        have hy2 : (l.eraseIdx i)[q]? = some y := by rw [List.getElem?_eq_getElem (by omega)]; exact congrArg some hq2
        rw [List.getElem?_eraseIdx] at hy2
        have hqk : q < k := by omega
        split at hy2
        · obtain ⟨w1, w2⟩ := List.getElem?_eq_some_iff.1 hy2
          exact List.mem_take_iff_getElem.2 ⟨q, by omega, w2⟩
        · obtain ⟨w1, w2⟩ := List.getElem?_eq_some_iff.1 hy2
          exact List.mem_take_iff_getElem.2 ⟨q + 1, by omega, w2⟩
    have hjl := (List.getElem?_eq_some_iff.1 hj).1
    have := h.each j hjl e hj
    exact ⟨this.1, this.2.1, firN_none.2 fun y hy => firN_none.1 this.2.2 y (hsub y hy)⟩
theorem con_ex {p : Px} (h : sanB p = true) : ∃ (d : Nat → Bool) (c : Nat), c ≤ W p.a.v6 ∧ p.n = (c : Int) ∧ ∀ a : Ad, conB p a = true ↔ p.a.v6 = a.v6 ∧ ∀ i, i < c → d i = D a.hi a.lo i := by
  obtain ⟨⟨ph, pl, pv⟩, pn⟩ := p
  obtain ⟨c, hc, e1, e2, e3⟩ := saneB_ex h
  dsimp only at hc e1 e2 e3 ⊢
  clear h
  generalize D ph pl = dp at e2 e3
  subst e1 e2 e3
  refine ⟨dp, c, hc, rfl, fun a => ?_⟩
  unfold conB
  dsimp only
  rw [contB_pk pv dp c hc, conD_true]
theorem con_sane {p : Px} {a : Ad} (h : conB p a = true) : sanB p = true := by
  unfold conB contB at h
  simp only [Bool.and_eq_true] at h
  exact h.1
theorem whole_sane (a : Ad) : sanB (wholeP a) = true := saneB_pk a.v6 (D a.hi a.lo) (W a.v6) (Nat.le_refl _)
theorem whole_con (a c : Ad) : conB (wholeP a) c = true ↔ a.v6 = c.v6 ∧ ∀ i, i < W a.v6 → D a.hi a.lo i = D c.hi c.lo i := by
  unfold conB wholeP
  dsimp only
  rw [contB_pk a.v6 (D a.hi a.lo) (W a.v6) (Nat.le_refl _), conD_true]
theorem con_trans {p : Px} {a c : Ad} (h1 : conB (wholeP a) c = true) (h2 : conB p a = true) : conB p c = true := by
  obtain ⟨d, k, hk, _, hq⟩ := con_ex (con_sane h2)
  obtain ⟨q1, q2⟩ := (hq a).1 h2
  obtain ⟨r1, r2⟩ := (whole_con a c).1 h1
  exact (hq c).2 ⟨q1.trans r1, fun i hi => (q2 i hi).trans (r2 i (by rw [← q1]; omega))⟩
theorem narE_a (p : Px) (e : En) : (narE p e).a = e.a := by unfold narE; split <;> rfl
theorem narE_con {p : Px} {e : En} {c : Ad} (hf : fitB e.a e.x = true) (h : conB e.x.p c = false) : conB (narE p e).x.p c = false := by
  unfold narE
  split
  · dsimp only
    cases q : conB (wholeP e.a) c with
    | false => rfl
    | true =>
      unfold fitB at hf
      simp only [Bool.and_eq_true] at hf
      rw [con_trans q hf.2] at h
      cases h
  · exact h
theorem narE_fit {p : Px} {e : En} (hf : fitB e.a e.x = true) : fitB (narE p e).a (narE p e).x = true := by
  unfold narE
  split
  · unfold fitB goodB at hf ⊢
    simp only [Bool.and_eq_true] at hf ⊢
    exact ⟨⟨hf.1.1, hf.1.2.1, whole_sane _⟩, (whole_con _ _).2 ⟨rfl, fun _ _ => rfl⟩⟩
  · exact hf
theorem narE_st {p : Px} {e : En} (h : e.stale = true → e.x.p.n = ((W e.a.v6 : Nat) : Int)) : (narE p e).stale = true → (narE p e).x.p.n = ((W (narE p e).a.v6 : Nat) : Int) := by
  unfold narE
  split
  · exact fun _ => rfl
  · exact h
theorem nar_sane {l : List En} {b : Int} (h : SaneQ l b) (p : Px) : SaneQ (narN l b p).1 (narN l b p).2.1 := by
  unfold narN
  rw [if_pos (bP_t h)]
  refine ⟨h.b0, h.b1, by simpa using h.len, fun k hk => ?_⟩
  intro e he
  rw [List.getElem?_map] at he
  cases hq : l[k]? with
  | none => rw [hq] at he; cases he
  | some y =>
    rw [hq] at he
    obtain rfl : narE p y = e := by simpa using he
    have hkl := (List.getElem?_eq_some_iff.1 hq).1
    have := h.each k hkl y hq
    refine ⟨narE_fit this.1, narE_st this.2.1, firN_none.2 fun z hz => ?_⟩
    rw [← List.map_take] at hz
    obtain ⟨z0, hz0, rfl⟩ := List.mem_map.1 hz
    obtain ⟨j, hj, hzj⟩ := List.mem_take_iff_getElem.1 hz0
    have hjl : j < l.length := by omega
    have hfz := (h.each j hjl z0 (by rw [List.getElem?_eq_getElem hjl]; exact congrArg some hzj)).1
    rw [narE_a]
    exact narE_con hfz (firN_none.1 this.2.2 z0 hz0)
theorem new_sane (n : Int) : SaneQ [] (mx2 0 (mn2 n 1024)) := by
  refine sane_nil _ ?_ ?_ <;> (unfold mx2 mn2; split <;> (try split) <;> omega)
/-- What was enqueued. -/
theorem offer_three {l : List En} {b : Int} (h : SaneQ l b) {a : Ad} {x : Rt} (hk : (offerN l b a x).2.2 = 3) : offerN l b a x = (l ++ [⟨a, x, false⟩], b, 3) ∧ firN l a 0 = -1 ∧ fitB a x = true := by
  unfold offerN at hk ⊢
  rw [if_pos (bP_t h)] at hk ⊢
  by_cases hf : firN l a 0 = -1
  · rw [if_pos hf] at hk ⊢
    cases hg : (decide (((l.length : Nat) : Int) = b) || !fitB a x) with
    | true => rw [hg, if_pos rfl] at hk; have hk2 : (2 : Int) = 3 := hk; omega
    | false =>
      simp only [Bool.or_eq_false_iff, Bool.not_eq_false'] at hg
      exact ⟨rfl, hf, hg.2⟩
  · rw [if_neg hf] at hk; have hk2 : (1 : Int) = 3 := hk; omega
theorem firN_app {a : Ad} {e : En} (hc : conB e.x.p a = true) : ∀ {l : List En} {i : Nat}, firN l a i = -1 → firN (l ++ [e]) a i = ((i + l.length : Nat) : Int)
  | [], i, _ => by rw [List.nil_append, firN, if_pos hc]; rfl
  | y :: l, i, h => by
    rw [firN] at h
    rw [List.cons_append, firN]
    by_cases q : conB y.x.p a = true
    · rw [if_pos q] at h; omega
    · rw [if_neg q] at h ⊢
      rw [firN_app hc h]
      simp; omega
end Go.Proofs.Ytlmcfjadhahlpaa.Hand
