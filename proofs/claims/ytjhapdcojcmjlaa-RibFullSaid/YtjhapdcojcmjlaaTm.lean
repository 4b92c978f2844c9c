/-
  package trie: Under: the plain part.
-/
import Derived.Test.YtjhapdcojcmjlaaTl
namespace Go.Proofs.Ytjhapdcojcmjlaa.Hand
open Go.RowKit Go.Proofs.Ytjhapdcojcmjlaa.Bits Go.Proofs.Ytjhapdcojcmjlaa.Dig Go.Proofs.Ytjhapdcojcmjlaa.Sq
set_option linter.unusedVariables false
set_option linter.unusedSimpArgs false
theorem und_mem {L : List Pr} (hg : GoodL L) {k : Key} (hk : k.2.length ≤ W k.1) {e : Pr} : e ∈ underN L (pxK k) ↔ e ∈ L ∧ k.1 = (keyP e.p).1 ∧ k.2 <+: (keyP e.p).2 := by
  unfold underN
  rw [List.mem_filter, cov_key, keyP_pxK hk]
  exact ⟨fun ⟨h1, _, _, h2⟩ => ⟨h1, h2⟩, fun ⟨h1, h2⟩ => ⟨h1, sanB_pxK hk, hg.sane e h1, h2⟩⟩
theorem und_good {L : List Pr} (hg : GoodL L) (p : Px) : GoodL (underN L p) := hg.sub List.filter_sublist
noncomputable def ownL (x : Nd) (k : Key) : List Pr := if x.ends = true then [⟨pxK k, x.v⟩] else []
theorem own_mem {T : Ts} {lab : Lab} {L : List Pr} {xk : Key} (h : InvX T lab L xk) {i : Nat} {k : Key} (hi : lab i = some k) {x : Nd} (hx : T.ar[i]? = some x) {e : Pr} : e ∈ ownL x k ↔ e ∈ L ∧ keyP e.p = k := by
  unfold ownL
  by_cases he : x.ends = true
  · rw [if_pos he, List.mem_singleton]
    obtain ⟨f, h1, h2⟩ := (h.ends i _ x hi hx).1 he
    have h3 := h.val i _ x hi hx f h1 h2
    have e0 : (⟨pxK k, x.v⟩ : Pr) = f := by rw [h3, ← h2, pxK_keyP (h.good.sane f h1)]
    rw [e0]
    constructor
    · rintro rfl; exact ⟨h1, h2⟩
    · rintro ⟨q1, q2⟩; exact h.good.uniq q1 h1 (key_inj (h.good.sane _ q1) (h.good.sane _ h1) (q2.trans h2.symm))
  · rw [if_neg he]
    constructor
    · intro q; cases q
    · rintro ⟨q1, q2⟩; exact absurd ((h.ends i _ x hi hx).2 ⟨e, q1, q2⟩) he
theorem own_good {T : Ts} {lab : Lab} {L : List Pr} {xk : Key} (h : InvX T lab L xk) {i : Nat} {k : Key} (hi : lab i = some k) {x : Nd} (hx : T.ar[i]? = some x) : GoodL (ownL x k) := by
  refine ⟨fun e he => h.good.sane e ((own_mem h hi hx).1 he).1, ?_⟩
  unfold ownL
  split
  · exact List.pairwise_singleton ..
  · exact List.Pairwise.nil
theorem und_none {T : Ts} {lab : Lab} {L : List Pr} {xk : Key} (h : InvX T lab L xk) {k : Key} (hk : k.2.length ≤ W k.1) (hn : ∀ j, lab j ≠ some k) : underN L (pxK k) = [] := by
  refine List.eq_nil_iff_forall_not_mem.2 fun e he => ?_
  obtain ⟨h1, h2, h3⟩ := (und_mem h.good hk).1 he
  obtain ⟨j, hj⟩ := node_of h h1 h3
  exact hn j (by rw [hj, ← h2])
theorem und_some {T : Ts} {lab : Lab} {L : List Pr} (h : InvX T lab L (false, [])) {j : Nat} {k : Key} (hj : lab j = some k) (hk : k.2 ≠ []) : underN L (pxK k) ≠ [] := by
  rcases (node_nil L false _).1 ((h.node _).1 ⟨j, hj⟩) with hn | ⟨e, he, h1, h2⟩
  · exact absurd hn hk
  · exact fun q => by
      have : e ∈ underN L (pxK k) := (und_mem h.good (h.len hj)).2 ⟨he, h1.symm, h2⟩
      rw [q] at this; cases this
theorem und_split {T : Ts} {lab : Lab} {L : List Pr} {xk : Key} (h : InvX T lab L xk) {i : Nat} {v : Bool} {q : List Bool} (hi : lab i = some (v, q)) {x : Nd} (hx : T.ar[i]? = some x) (hq : q.length < W v) : underN L (pxK (v, q)) = ownL x (v, q) ++ (underN L (pxK (v, q ++ [false])) ++ underN L (pxK (v, q ++ [true]))) := by
  have hb : ∀ b : Bool, (q ++ [b]).length ≤ W v := fun b => by simp; omega
  have hg := h.good
  have key2 : ∀ b : Bool, ∀ {e : Pr}, e ∈ underN L (pxK (v, q ++ [b])) ↔ e ∈ L ∧ v = (keyP e.p).1 ∧ q ++ [b] <+: (keyP e.p).2 := fun b {e} => und_mem hg (k := (v, q ++ [b])) (hb b)
  refine GoodL.ext (und_good hg _) ⟨fun e he => ?_, ?_⟩ fun e => ?_
  · rcases List.mem_append.1 he with he | he
    · exact hg.sane e ((own_mem h hi hx).1 he).1
    · rcases List.mem_append.1 he with he | he
      · exact hg.sane e ((key2 _).1 he).1
      · exact hg.sane e ((key2 _).1 he).1
  · rw [List.pairwise_append, List.pairwise_append]
    refine ⟨(own_good h hi hx).sorted, ⟨(und_good hg _).sorted, (und_good hg _).sorted, fun a ha b hb => ?_⟩, fun a ha b hb => ?_⟩
    · obtain ⟨_, a1, a2⟩ := (key2 _).1 ha
      obtain ⟨_, b1, b2⟩ := (key2 _).1 hb
      unfold ltK
      rw [← a1, ← b1, ltL_side q a2 b2]
      simp
    · obtain ⟨_, a1⟩ := (own_mem h hi hx).1 ha
      have : ∃ c, v = (keyP b.p).1 ∧ q ++ [c] <+: (keyP b.p).2 := by
        rcases List.mem_append.1 hb with hb | hb
        · exact ⟨_, ((key2 _).1 hb).2⟩
        · exact ⟨_, ((key2 _).1 hb).2⟩
      obtain ⟨c, b1, b2⟩ := this
      rw [a1]
      refine ltK_pre b1 ((List.prefix_append _ _).trans b2) fun e => ?_
      have := b2.length_le
      rw [← e] at this
      simp at this; omega
  · rw [und_mem hg (k := (v, q)) (by dsimp only; omega), List.mem_append, List.mem_append, own_mem h hi hx, key2, key2]
    dsimp only
    constructor
    · rintro ⟨h1, h2, s, h3⟩
      cases s with
      | nil => rw [List.append_nil] at h3; exact .inl ⟨h1, Prod.ext h2.symm h3.symm⟩
      | cons b s =>
        cases b
        · exact .inr (.inl ⟨h1, h2, s, by rw [← h3]; simp⟩)
        · exact .inr (.inr ⟨h1, h2, s, by rw [← h3]; simp⟩)
    · rintro (⟨h1, h2⟩ | ⟨h1, h2, h3⟩ | ⟨h1, h2, h3⟩)
      · rw [h2]; exact ⟨h1, rfl, List.prefix_rfl⟩
      · exact ⟨h1, h2, (List.prefix_append _ _).trans h3⟩
      · exact ⟨h1, h2, (List.prefix_append _ _).trans h3⟩
theorem und_full {T : Ts} {lab : Lab} {L : List Pr} {xk : Key} (h : InvX T lab L xk) {i : Nat} {v : Bool} {q : List Bool} (hi : lab i = some (v, q)) {x : Nd} (hx : T.ar[i]? = some x) (hq : q.length = W v) : underN L (pxK (v, q)) = ownL x (v, q) := by
  refine GoodL.ext (und_good h.good _) (own_good h hi hx) fun e => ?_
  rw [und_mem h.good (k := (v, q)) (by dsimp only; omega), own_mem h hi hx]
  constructor
  · rintro ⟨h1, h2, h3⟩
    dsimp only at h2 h3
    have hle := key_le (h.good.sane e h1)
    rw [← h2] at hle
    exact ⟨h1, (Prod.ext h2 (h3.eq_of_length_le (by omega))).symm⟩
  · rintro ⟨h1, h2⟩
    rw [h2]; exact ⟨h1, rfl, List.prefix_rfl⟩
/-- The nodes that are left, the next one last. -/
noncomputable def restL (L : List Pr) (st : List (Nat × Key)) : List Pr := (st.reverse.map fun q => underN L (pxK q.2)).flatten
theorem rest_snoc (L : List Pr) (st : List (Nat × Key)) (x : Nat × Key) : restL L (st ++ [x]) = underN L (pxK x.2) ++ restL L st := by unfold restL; rw [List.reverse_append]; rfl
def kidL (x : Nd) (v : Bool) (q : List Bool) (b : Bool) : List (Nat × Key) := if q.length < W v ∧ x.kid b ≠ -1 then [((x.kid b).toNat, (v, q ++ [b]))] else []
def wtK (q : Nat × Key) : Nat := 3 ^ (129 - q.2.2.length)
def wtS (st : List (Nat × Key)) : Nat := (st.map wtK).sum
structure UndI (lab : Lab) (L : List Pr) (p : Px) (st : List (Nat × Key)) (out : List Pr) : Prop where
  lab : ∀ q ∈ st, lab q.1 = some q.2
  all : out ++ restL L st = underN L p
  few : (∀ q ∈ st, underN L (pxK q.2) ≠ []) ∨ st.length ≤ 1
theorem rest_len (L : List Pr) : ∀ st : List (Nat × Key), (∀ q ∈ st, underN L (pxK q.2) ≠ []) → st.length ≤ (restL L st).length := by
  intro st h
  have : ∀ s : List (Nat × Key), (∀ q ∈ s, underN L (pxK q.2) ≠ []) → s.length ≤ ((s.map fun q => underN L (pxK q.2)).flatten).length := by
    intro s
    induction s with
    | nil => exact fun _ => Nat.zero_le _
    | cons q s ih =>
      intro h
      have h1 := List.length_pos_iff.2 (h q (List.mem_cons_self ..))
      have h2 := ih fun r hr => h r (List.mem_cons_of_mem _ hr)
      rw [List.map_cons, List.flatten_cons, List.length_append, List.length_cons]
      omega
  have h2 := this st.reverse fun q hq => h q (List.mem_reverse.1 hq)
  rw [List.length_reverse] at h2
  exact h2
theorem UndI.len {lab : Lab} {L : List Pr} {p : Px} {st : List (Nat × Key)} {out : List Pr} (h : UndI lab L p st out) : st.length ≤ L.length + 1 ∧ out.length ≤ L.length := by
  have h1 := congrArg List.length h.all
  rw [List.length_append] at h1
  have h2 : (underN L p).length ≤ L.length := List.length_filter_le _ _
  rcases h.few with hf | hf
  · have := rest_len L st hf
    omega
  · omega
theorem wt_pos (q : Nat × Key) : 0 < wtK q := Nat.pow_pos (by decide)
theorem wt_kid {x : Nd} {v : Bool} {q : List Bool} (hq : q.length ≤ 128) (i : Nat) : wtS (kidL x v q true) + wtS (kidL x v q false) < wtK (i, (v, q)) := by
  have e : wtK (i, (v, q)) = 3 ^ (129 - (q.length + 1)) * 3 := by
    show 3 ^ (129 - q.length) = _
    rw [← Nat.pow_succ]; congr 1; omega
  have hp : 0 < 3 ^ (129 - (q.length + 1)) := Nat.pow_pos (by decide)
  have hk : ∀ b, wtS (kidL x v q b) ≤ 3 ^ (129 - (q.length + 1)) := fun b => by
    unfold kidL wtS
    split
    · simp [wtK]
    · simp
  have h1 := hk true
  have h2 := hk false
  omega
theorem wt_app (a b : List (Nat × Key)) : wtS (a ++ b) = wtS a + wtS b := by unfold wtS; rw [List.map_append, List.sum_append]
theorem kid_lab {T : Ts} {lab : Lab} {L : List Pr} {xk : Key} (h : InvX T lab L xk) {i : Nat} {v : Bool} {q : List Bool} (hi : lab i = some (v, q)) {x : Nd} (hx : T.ar[i]? = some x) (b : Bool) : ∀ r ∈ kidL x v q b, lab r.1 = some r.2 ∧ r.2 = (v, q ++ [b]) := fun r hr => by
  unfold kidL at hr
  split at hr
  · rename_i hc
    obtain rfl := List.mem_singleton.1 hr
    rcases h.kid i v q x b hi hx with ⟨j, h1, h2⟩ | ⟨h1, _⟩
    · rw [h1, Int.toNat_natCast]; exact ⟨h2, rfl⟩
    · exact absurd h1 hc.2
  · cases hr
theorem kid_rest {T : Ts} {lab : Lab} {L : List Pr} {xk : Key} (h : InvX T lab L xk) {i : Nat} {v : Bool} {q : List Bool} (hi : lab i = some (v, q)) {x : Nd} (hx : T.ar[i]? = some x) (hq : q.length < W v) (b : Bool) : restL L (kidL x v q b) = underN L (pxK (v, q ++ [b])) := by
  unfold kidL
  rcases h.kid i v q x b hi hx with ⟨j, h1, h2⟩ | ⟨h1, h2⟩
  · rw [if_pos ⟨hq, by omega⟩]
    simp [restL]
  · rw [if_neg (fun q => q.2 h1), und_none h (by dsimp only; simp; omega) h2]
    rfl
theorem und_step {T : Ts} {lab : Lab} {L : List Pr} (h : InvX T lab L (false, [])) {p : Px} {st : List (Nat × Key)} {out : List Pr} {i : Nat} {v : Bool} {q : List Bool} (hu : UndI lab L p (st ++ [(i, (v, q))]) out) {x : Nd} (hx : T.ar[i]? = some x) :
    UndI lab L p ((st ++ kidL x v q true) ++ kidL x v q false) (out ++ ownL x (v, q)) ∧ wtS ((st ++ kidL x v q true) ++ kidL x v q false) < wtS (st ++ [(i, (v, q))]) := by
  have hi := hu.lab (i, (v, q)) (List.mem_append_right _ (List.mem_singleton.2 rfl))
  have hle := h.len hi
  have hW := W_le v
  refine ⟨⟨fun r hr => ?_, ?_, ?_⟩, ?_⟩
  · rcases List.mem_append.1 hr with hr | hr
    · rcases List.mem_append.1 hr with hr | hr
      · exact hu.lab r (List.mem_append_left _ hr)
      · exact (kid_lab h hi hx _ r hr).1
    · exact (kid_lab h hi hx _ r hr).1
  · have ha := hu.all
    rw [rest_snoc] at ha
    have hr : ∀ (st a b : List (Nat × Key)), restL L ((st ++ a) ++ b) = restL L b ++ (restL L a ++ restL L st) := fun st a b => by
      unfold restL
      simp [List.reverse_append]
    rw [hr, ← ha]
    dsimp only
    rcases Nat.lt_or_ge q.length (W v) with hlt | hge
    · rw [kid_rest h hi hx hlt, kid_rest h hi hx hlt, und_split h hi hx hlt]
      simp
    · have hz : ∀ b, kidL x v q b = [] := fun b => by unfold kidL; rw [if_neg (by omega)]
      rw [hz, hz, und_full h hi hx (by dsimp only at hle; omega)]
      simp [restL]
  · have hk : ∀ b, ∀ r ∈ kidL x v q b, underN L (pxK r.2) ≠ [] := fun b r hr => by
      obtain ⟨h1, h2⟩ := kid_lab h hi hx b r hr
      exact und_some h h1 (by rw [h2]; simp)
    refine .inl fun r hr => ?_
    rcases List.mem_append.1 hr with hr | hr
    · rcases List.mem_append.1 hr with hr | hr
      · rcases hu.few with hf | hf
        · exact hf r (List.mem_append_left _ hr)
        · rw [List.length_append, List.length_singleton] at hf
          rw [List.length_eq_zero_iff.1 (show st.length = 0 by omega)] at hr
          cases hr
      · exact hk _ r hr
    · exact hk _ r hr
  · have hw := wt_kid (x := x) (v := v) (q := q) (by dsimp only at hle; omega) i
    rw [wt_app, wt_app, wt_app]
    have : wtS [(i, (v, q))] = wtK (i, (v, q)) := by simp [wtS]
    omega
end Go.Proofs.Ytjhapdcojcmjlaa.Hand
