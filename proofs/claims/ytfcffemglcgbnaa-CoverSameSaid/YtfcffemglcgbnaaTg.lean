/-
  The tree in its arena: what holds of it, and what stays so.
-/
import Derived.Test.YtfcffemglcgbnaaTf
namespace Go.Proofs.Ytfcffemglcgbnaa.Hand
open Go.RowKit Go.Proofs.Ytfcffemglcgbnaa.Bits Go.Proofs.Ytfcffemglcgbnaa.Dig Go.Proofs.Ytfcffemglcgbnaa.Sq
set_option linter.unusedVariables false
set_option linter.unusedSimpArgs false
structure Nd where
  k0 : Int
  k1 : Int
  up : Int
  ends : Bool
  v : Int
def Nd.cells (x : Nd) : List Value := [.int .i64 x.k0, .int .i64 x.k1, .int .i64 x.up, .bool x.ends, .int .i64 x.v]
def Nd.kid (x : Nd) (b : Bool) : Int := if b then x.k1 else x.k0
def Nd.put (x : Nd) (b : Bool) (t : Int) : Nd := if b then ⟨x.k0, t, x.up, x.ends, x.v⟩ else ⟨t, x.k1, x.up, x.ends, x.v⟩
def freshN (up : Int) : Nd := ⟨-1, -1, up, false, 0⟩
theorem kid_put (x : Nd) (b : Bool) (t : Int) (b' : Bool) : (x.put b t).kid b' = if b' = b then t else x.kid b' := by cases b <;> cases b' <;> rfl
theorem up_put (x : Nd) (b : Bool) (t : Int) : (x.put b t).up = x.up := by cases b <;> rfl
theorem ends_put (x : Nd) (b : Bool) (t : Int) : (x.put b t).ends = x.ends := by cases b <;> rfl
theorem v_put (x : Nd) (b : Bool) (t : Int) : (x.put b t).v = x.v := by cases b <;> rfl
theorem kid_fresh (u : Int) (b : Bool) : (freshN u).kid b = -1 := by cases b <;> rfl
structure Ts where
  ar : List Nd
  fr : List Nat
  n : Int
abbrev Lab := Nat → Option Key
def upd (lab : Lab) (t : Nat) (k : Option Key) : Lab := fun j => if j = t then k else lab j
theorem upd_self (lab : Lab) (t : Nat) (k : Option Key) : upd lab t k t = k := by simp [upd]
theorem upd_ne {lab : Lab} {t j : Nat} {k : Option Key} (h : j ≠ t) : upd lab t k j = lab j := by simp [upd, h]
structure InvX (T : Ts) (lab : Lab) (L : List Pr) (xk : Key) : Prop where
  r0 : lab 0 = some (false, [])
  r1 : lab 1 = some (true, [])
  lt : ∀ i k, lab i = some k → i < T.ar.length
  inj : ∀ i j k, lab i = some k → lab j = some k → i = j
  free : ∀ i, i ∈ T.fr ↔ i < T.ar.length ∧ lab i = none
  nodup : T.fr.Nodup
  kid : ∀ i v q x b, lab i = some (v, q) → T.ar[i]? = some x → (∃ j : Nat, x.kid b = (j : Int) ∧ lab j = some (v, q ++ [b])) ∨ (x.kid b = -1 ∧ ∀ j, lab j ≠ some (v, q ++ [b]))
  up : ∀ i v q b x, lab i = some (v, q ++ [b]) → T.ar[i]? = some x → ∃ j : Nat, x.up = (j : Int) ∧ lab j = some (v, q)
  upr : ∀ i v x, lab i = some (v, []) → T.ar[i]? = some x → x.up = -1
  node : ∀ k, (∃ i, lab i = some k) ↔ Node L k ∨ (k.1 = xk.1 ∧ k.2 <+: xk.2)
  ends : ∀ i k x, lab i = some k → T.ar[i]? = some x → (x.ends = true ↔ ∃ e ∈ L, keyP e.p = k)
  val : ∀ i k x, lab i = some k → T.ar[i]? = some x → ∀ e ∈ L, keyP e.p = k → x.v = e.v
  cnt : T.n = (L.length : Int)
  good : GoodL L
  xle : xk.2.length ≤ W xk.1
theorem InvX.get {T : Ts} {lab : Lab} {L : List Pr} {xk : Key} (h : InvX T lab L xk) {i : Nat} {k : Key} (hi : lab i = some k) : ∃ x, T.ar[i]? = some x := ⟨_, List.getElem?_eq_getElem (h.lt i k hi)⟩
theorem InvX.size {T : Ts} {lab : Lab} {L : List Pr} {xk : Key} (h : InvX T lab L xk) : 2 ≤ T.ar.length := h.lt 1 _ h.r1
theorem InvX.len {T : Ts} {lab : Lab} {L : List Pr} {xk : Key} (h : InvX T lab L xk) {i : Nat} {k : Key} (hi : lab i = some k) : k.2.length ≤ W k.1 := by
  rcases (h.node k).1 ⟨i, hi⟩ with hn | ⟨h1, h2⟩
  · rcases hn with hn | ⟨e, he, h1, h2⟩
    · rw [hn]; exact Nat.zero_le _
    · have := key_le (h.good.sane e he)
      have := h2.length_le
      rw [← h1]; omega
  · have := h2.length_le
    have := h.xle
    rw [h1]; omega
theorem snoc_inj {q r : List Bool} {b c : Bool} (h : q ++ [b] = r ++ [c]) : q = r ∧ b = c := by
  have := List.append_inj' h rfl
  exact ⟨this.1, by simpa using this.2⟩
theorem pre_snoc {y q : List Bool} {b : Bool} : y <+: q ++ [b] ↔ y = q ++ [b] ∨ y <+: q := List.prefix_concat_iff
theorem InvX.grow {T : Ts} {lab : Lab} {L : List Pr} {v : Bool} {q : List Bool} {i : Nat} {x : Nd} {b : Bool} {t : Nat} {ar1 : List Nd} {fr1 : List Nat} (h : InvX T lab L (v, q)) (hi : lab i = some (v, q)) (hx : T.ar[i]? = some x) (hk : x.kid b = -1) (hq : q.length + 1 ≤ W v)
    (ht : lab t = none) (ha1 : ar1[t]? = some (freshN (i : Int))) (ha2 : ∀ j, j ≠ t → j < T.ar.length → ar1[j]? = T.ar[j]?) (hlen : T.ar.length ≤ ar1.length) (hf : ∀ j, j ∈ fr1 ↔ j < ar1.length ∧ lab j = none ∧ j ≠ t) (hn : fr1.Nodup) :
    InvX ⟨ar1.set i (x.put b (t : Int)), fr1, T.n⟩ (upd lab t (some (v, q ++ [b]))) L (v, q ++ [b]) := by
  have hit : i ≠ t := fun e => by rw [e, ht] at hi; cases hi
  have hno : ∀ j, lab j ≠ some (v, q ++ [b]) := by
    rcases h.kid i v q x b hi hx with ⟨j, h1, _⟩ | ⟨_, h2⟩
    · rw [hk] at h1; omega
    · exact h2
  have hil : i < ar1.length := Nat.lt_of_lt_of_le (h.lt i _ hi) hlen
  have htl := (List.getElem?_eq_some_iff.1 ha1).1
  have g_t : (ar1.set i (x.put b (t : Int)))[t]? = some (freshN (i : Int)) := by rw [List.getElem?_set_ne hit]; exact ha1
  have g_i : (ar1.set i (x.put b (t : Int)))[i]? = some (x.put b (t : Int)) := List.getElem?_set_self hil
  have g_o : ∀ j, j ≠ t → j ≠ i → j < T.ar.length → (ar1.set i (x.put b (t : Int)))[j]? = T.ar[j]? := fun j h1 h2 h3 => by rw [List.getElem?_set_ne (Ne.symm h2)]; exact ha2 j h1 h3
  have up_old : ∀ j k, lab j = some k → upd lab t (some (v, q ++ [b])) j = some k := fun j k hj => by rw [upd_ne]; exact hj; exact fun e => by rw [e, ht] at hj; cases hj
  have up_inv : ∀ j k, upd lab t (some (v, q ++ [b])) j = some k → (j = t ∧ k = (v, q ++ [b])) ∨ (j ≠ t ∧ lab j = some k) := fun j k hj => by
    by_cases e : j = t
    · subst e; rw [upd_self] at hj; exact .inl ⟨rfl, (Option.some.inj hj).symm⟩
    · rw [upd_ne e] at hj; exact .inr ⟨e, hj⟩
  have old : ∀ j k y, j ≠ t → lab j = some k → (ar1.set i (x.put b (t : Int)))[j]? = some y → ∃ y0, T.ar[j]? = some y0 ∧ y.up = y0.up ∧ y.ends = y0.ends ∧ y.v = y0.v ∧ ∀ b', ¬(j = i ∧ b' = b) → y.kid b' = y0.kid b' := fun j k y hjt hj hy => by
    by_cases e : j = i
    · subst e
      rw [g_i] at hy
      obtain rfl := Option.some.inj hy
      exact ⟨x, hx, up_put .., ends_put .., v_put .., fun b' hb => by rw [kid_put, if_neg (fun e => hb ⟨rfl, e⟩)]⟩
    · rw [g_o j hjt e (h.lt j k hj)] at hy
      exact ⟨y, hy, rfl, rfl, rfl, fun _ _ => rfl⟩
  refine ⟨up_old _ _ h.r0, up_old _ _ h.r1, fun j k hj => ?_, fun j j' k hj hj' => ?_, fun j => ?_, hn, fun j w r y b' hj hy => ?_, fun j w r b' y hj hy => ?_, fun j w y hj hy => ?_, fun k => ?_, fun j k y hj hy => ?_, fun j k y hj hy e he hke => ?_, h.cnt, h.good, by simpa using hq⟩
  · rw [List.length_set]
    rcases up_inv j k hj with ⟨rfl, _⟩ | ⟨_, hj⟩
    · exact htl
    · exact Nat.lt_of_lt_of_le (h.lt j k hj) hlen
  · rcases up_inv j k hj with ⟨rfl, rfl⟩ | ⟨_, hjo⟩
    · rcases up_inv j' _ hj' with ⟨rfl, _⟩ | ⟨_, hj'⟩
      · rfl
      · exact absurd hj' (hno j')
    · rcases up_inv j' _ hj' with ⟨rfl, rfl⟩ | ⟨_, hj'⟩
      · exact absurd hjo (hno j)
      · exact h.inj j j' k hjo hj'
  · rw [hf, List.length_set]
    by_cases e : j = t
    · subst e; rw [upd_self]; simp
    · rw [upd_ne e]; simp [e]
  · rcases up_inv j _ hj with ⟨rfl, e⟩ | ⟨hjt, hjo⟩
    · cases e
      rw [g_t] at hy
      obtain rfl := Option.some.inj hy
      refine .inr ⟨kid_fresh _ _, fun j' hj' => ?_⟩
      rcases up_inv j' _ hj' with ⟨_, e⟩ | ⟨_, hj'⟩
      · have := congrArg (fun k : Key => k.2.length) e; simp at this
      · obtain ⟨y', hy'⟩ := h.get hj'
        obtain ⟨j2, _, hj2⟩ := h.up j' v (q ++ [b]) b' y' hj' hy'
        exact hno j2 hj2
    · obtain ⟨y0, hy0, _, _, _, hkk⟩ := old j _ y hjt hjo hy
      by_cases hib : j = i ∧ b' = b
      · obtain ⟨rfl, rfl⟩ := hib
        rw [hi] at hjo
        obtain ⟨rfl, rfl⟩ := Prod.mk.inj (Option.some.inj hjo)
        rw [g_i] at hy
        obtain rfl := Option.some.inj hy
        exact .inl ⟨t, by rw [kid_put, if_pos rfl], upd_self ..⟩
      · rw [hkk b' hib]
        rcases h.kid j w r y0 b' hjo hy0 with ⟨j', h1, h2⟩ | ⟨h1, h2⟩
        · exact .inl ⟨j', h1, up_old _ _ h2⟩
        · refine .inr ⟨h1, fun j' hj' => ?_⟩
          rcases up_inv j' _ hj' with ⟨_, e⟩ | ⟨_, hj'⟩
          · obtain ⟨rfl, e2⟩ := Prod.mk.inj e
            obtain ⟨rfl, rfl⟩ := snoc_inj e2
            exact hib ⟨h.inj _ _ _ hjo hi, rfl⟩
          · exact h2 j' hj'
  · rcases up_inv j _ hj with ⟨rfl, e⟩ | ⟨hjt, hjo⟩
    · obtain ⟨rfl, e2⟩ := Prod.mk.inj e
      obtain ⟨rfl, rfl⟩ := snoc_inj e2
      rw [g_t] at hy
      obtain rfl := Option.some.inj hy
      exact ⟨i, rfl, up_old _ _ hi⟩
    · obtain ⟨y0, hy0, h1, _⟩ := old j _ y hjt hjo hy
      obtain ⟨j', h2, h3⟩ := h.up j w r b' y0 hjo hy0
      exact ⟨j', h1.trans h2, up_old _ _ h3⟩
  · rcases up_inv j _ hj with ⟨rfl, e⟩ | ⟨hjt, hjo⟩
    · have := congrArg (fun k : Key => k.2.length) e; simp at this
    · obtain ⟨y0, hy0, h1, _⟩ := old j _ y hjt hjo hy
      exact h1.trans (h.upr j w y0 hjo hy0)
  · constructor
    · rintro ⟨j, hj⟩
      rcases up_inv j _ hj with ⟨_, rfl⟩ | ⟨_, hj⟩
      · exact .inr ⟨rfl, List.prefix_rfl⟩
      · rcases (h.node k).1 ⟨j, hj⟩ with q1 | ⟨q1, q2⟩
        · exact .inl q1
        · exact .inr ⟨q1, q2.trans (List.prefix_append _ _)⟩
    · rintro (q1 | ⟨q1, q2⟩)
      · obtain ⟨j, hj⟩ := (h.node k).2 (.inl q1)
        exact ⟨j, up_old _ _ hj⟩
      · rcases pre_snoc.1 q2 with e | q2
        · exact ⟨t, by rw [upd_self]; exact congrArg some (Prod.ext q1.symm e.symm)⟩
        · obtain ⟨j, hj⟩ := (h.node k).2 (.inr ⟨q1, q2⟩)
          exact ⟨j, up_old _ _ hj⟩
  · rcases up_inv j _ hj with ⟨rfl, rfl⟩ | ⟨hjt, hjo⟩
    · rw [g_t] at hy
      obtain rfl := Option.some.inj hy
      constructor
      · intro e; cases e
      · rintro ⟨e, he, hke⟩
        obtain ⟨j', hj'⟩ := (h.node (v, q ++ [b])).2 (.inl (.inr ⟨e, he, by rw [hke], by rw [hke]; exact List.prefix_rfl⟩))
        exact absurd hj' (hno j')
    · obtain ⟨y0, hy0, _, h1, _⟩ := old j _ y hjt hjo hy
      rw [h1]; exact h.ends j k y0 hjo hy0
  · rcases up_inv j _ hj with ⟨rfl, rfl⟩ | ⟨hjt, hjo⟩
    · obtain ⟨j', hj'⟩ := (h.node (v, q ++ [b])).2 (.inl (.inr ⟨e, he, by rw [hke], by rw [hke]; exact List.prefix_rfl⟩))
      exact absurd hj' (hno j')
    · obtain ⟨y0, hy0, _, _, h1, _⟩ := old j _ y hjt hjo hy
      rw [h1]; exact h.val j k y0 hjo hy0 e he hke
theorem InvX.change {T : Ts} {lab : Lab} {L L' : List Pr} {xk xk' : Key} {i : Nat} {k0 : Key} {x : Nd} {en : Bool} {va n' : Int} (h : InvX T lab L xk) (hi : lab i = some k0) (hx : T.ar[i]? = some x)
    (hn : ∀ k, (Node L k ∨ (k.1 = xk.1 ∧ k.2 <+: xk.2)) ↔ (Node L' k ∨ (k.1 = xk'.1 ∧ k.2 <+: xk'.2))) (he0 : en = true ↔ ∃ e ∈ L', keyP e.p = k0) (hv0 : ∀ e ∈ L', keyP e.p = k0 → va = e.v) (ho : ∀ e, keyP e.p ≠ k0 → (e ∈ L' ↔ e ∈ L)) (hc : n' = (L'.length : Int)) (hg : GoodL L') (hle : xk'.2.length ≤ W xk'.1) :
    InvX ⟨T.ar.set i ⟨x.k0, x.k1, x.up, en, va⟩, T.fr, n'⟩ lab L' xk' := by
  have hil := h.lt i _ hi
  have old : ∀ j k y, lab j = some k → (T.ar.set i ⟨x.k0, x.k1, x.up, en, va⟩)[j]? = some y → (j = i ∧ y = ⟨x.k0, x.k1, x.up, en, va⟩) ∨ (j ≠ i ∧ T.ar[j]? = some y) := fun j k y hj hy => by
    by_cases e : j = i
    · subst e; rw [List.getElem?_set_self hil] at hy; exact .inl ⟨rfl, (Option.some.inj hy).symm⟩
    · rw [List.getElem?_set_ne (Ne.symm e)] at hy; exact .inr ⟨e, hy⟩
  refine ⟨h.r0, h.r1, fun j k hj => by rw [List.length_set]; exact h.lt j k hj, h.inj, fun j => by rw [List.length_set]; exact h.free j, h.nodup, fun j v q y b hj hy => ?_, fun j v q b y hj hy => ?_, fun j v y hj hy => ?_, fun k => (h.node k).trans (hn k), fun j k y hj hy => ?_, fun j k y hj hy e he hke => ?_, hc, hg, hle⟩
  · rcases old j _ y hj hy with ⟨rfl, rfl⟩ | ⟨_, hy⟩
    · exact h.kid j v q x b hj hx
    · exact h.kid j v q y b hj hy
  · rcases old j _ y hj hy with ⟨rfl, rfl⟩ | ⟨_, hy⟩
    · exact h.up j v q b x hj hx
    · exact h.up j v q b y hj hy
  · rcases old j _ y hj hy with ⟨rfl, rfl⟩ | ⟨_, hy⟩
    · exact h.upr j v x hj hx
    · exact h.upr j v y hj hy
  · rcases old j _ y hj hy with ⟨rfl, rfl⟩ | ⟨hne, hy⟩
    · rw [hi] at hj; obtain rfl := Option.some.inj hj; exact he0
    · have hkn : k ≠ k0 := fun e => hne (h.inj j i k hj (e ▸ hi))
      rw [h.ends j k y hj hy]
      constructor
      · rintro ⟨e, he, rfl⟩; exact ⟨e, (ho e hkn).2 he, rfl⟩
      · rintro ⟨e, he, rfl⟩; exact ⟨e, (ho e hkn).1 he, rfl⟩
  · rcases old j _ y hj hy with ⟨rfl, rfl⟩ | ⟨hne, hy⟩
    · rw [hi] at hj; obtain rfl := Option.some.inj hj; exact hv0 e he hke
    · have hkn : k ≠ k0 := fun e' => hne (h.inj j i k hj (e' ▸ hi))
      exact h.val j k y hj hy e ((ho e (by rw [hke]; exact hkn)).1 he) hke
theorem InvX.shift {T : Ts} {lab : Lab} {L : List Pr} {xk xk' : Key} (h : InvX T lab L xk) (hn : ∀ k, (Node L k ∨ (k.1 = xk.1 ∧ k.2 <+: xk.2)) ↔ (Node L k ∨ (k.1 = xk'.1 ∧ k.2 <+: xk'.2))) (hle : xk'.2.length ≤ W xk'.1) : InvX T lab L xk' :=
  { h with node := fun k => (h.node k).trans (hn k), xle := hle }
theorem node_nil (L : List Pr) (v : Bool) (k : Key) : (Node L k ∨ (k.1 = v ∧ k.2 <+: [])) ↔ Node L k := by
  constructor
  · rintro (h | ⟨_, h⟩)
    · exact h
    · exact .inl (List.prefix_nil.1 h)
  · exact .inl
theorem node_pre {L : List Pr} {xk : Key} (hx : Node L xk) (k : Key) : (Node L k ∨ (k.1 = xk.1 ∧ k.2 <+: xk.2)) ↔ Node L k := by
  constructor
  · rintro (h | ⟨h1, h2⟩)
    · exact h
    · rcases hx with hx | ⟨e, he, h3, h4⟩
      · rw [hx] at h2; exact .inl (List.prefix_nil.1 h2)
      · exact .inr ⟨e, he, h3.trans h1.symm, h2.trans h4⟩
  · exact .inl
theorem InvX.count {T : Ts} {lab : Lab} {L : List Pr} {v : Bool} (h : InvX T lab L (v, [])) : (T.ar.length : Int) - (T.fr.length : Int) = nodesN L := by
  obtain ⟨K, h1, h2, h3⟩ := nodes_keys h.good
  rw [← h3]
  have m1 : ∀ i, i ∈ (List.range T.ar.length).filter (fun i => (lab i).isSome) ↔ ∃ k, lab i = some k := fun i => by
    rw [List.mem_filter, List.mem_range, Option.isSome_iff_exists]
    exact ⟨fun q => q.2, fun ⟨k, hk⟩ => ⟨h.lt i k hk, k, hk⟩⟩
  have n1 : ((List.range T.ar.length).filter (fun i => (lab i).isSome)).Nodup := List.nodup_range.sublist List.filter_sublist
  have l1 : ((List.range T.ar.length).filter (fun i => (lab i).isSome)).length + T.fr.length = T.ar.length := by
    have nd : ((List.range T.ar.length).filter (fun i => (lab i).isSome) ++ T.fr).Nodup := by
      rw [List.nodup_append]
      refine ⟨n1, h.nodup, fun a ha b hb e => ?_⟩
      subst e
      obtain ⟨k, hk⟩ := (m1 a).1 ha
      have := ((h.free a).1 hb).2
      rw [hk] at this; cases this
    have q1 := nodup_len nd (m := List.range T.ar.length) fun x hx => by
      rcases List.mem_append.1 hx with hx | hx
      · exact List.filter_sublist.subset hx
      · exact List.mem_range.2 ((h.free x).1 hx).1
    have q2 := nodup_len (l := List.range T.ar.length) (m := (List.range T.ar.length).filter (fun i => (lab i).isSome) ++ T.fr) List.nodup_range fun x hx => by
      rw [List.mem_append, m1, h.free]
      cases hl : lab x with
      | none => exact .inr ⟨List.mem_range.1 hx, rfl⟩
      | some k => exact .inl ⟨k, rfl⟩
    rw [List.length_append, List.length_range] at q1 q2
    omega
  have hmap : ((List.range T.ar.length).filter (fun i => (lab i).isSome)).length = K.length := by
    have nd : (((List.range T.ar.length).filter (fun i => (lab i).isSome)).map fun i => (lab i).getD (false, [])).Nodup := by
      rw [List.nodup_iff_pairwise_ne, List.pairwise_map]
      refine (List.nodup_iff_pairwise_ne.1 n1).imp_of_mem ?_
      intro a b ha hb hab e
      obtain ⟨ka, hka⟩ := (m1 a).1 ha
      obtain ⟨kb, hkb⟩ := (m1 b).1 hb
      rw [hka, hkb] at e
      simp only [Option.getD_some] at e
      subst e
      exact hab (h.inj a b ka hka hkb)
    have hmem : ∀ k, k ∈ (((List.range T.ar.length).filter (fun i => (lab i).isSome)).map fun i => (lab i).getD (false, [])) ↔ k ∈ K := fun k => by
      rw [List.mem_map, h2, ← node_nil L v k, ← h.node k]
      constructor
      · rintro ⟨i, hi, rfl⟩
        obtain ⟨k, hk⟩ := (m1 i).1 hi
        exact ⟨i, by rw [hk]; rfl⟩
      · rintro ⟨i, hi⟩
        exact ⟨i, (m1 i).2 ⟨k, hi⟩, by rw [hi]; rfl⟩
    have q1 := nodup_len nd fun x hx => (hmem x).1 hx
    have q2 := nodup_len h1 fun x hx => (hmem x).2 hx
    rw [List.length_map] at q1 q2
    omega
  omega
end Go.Proofs.Ytfcffemglcgbnaa.Hand
