/-
  Prefixes as lists of digits, and their order.
-/
import Derived.Test.YtfcffemglcgbnaaPb
namespace Go.Proofs.Ytfcffemglcgbnaa.Hand
open Go.RowKit Go.Proofs.Ytfcffemglcgbnaa.Bits Go.Proofs.Ytfcffemglcgbnaa.Dig Go.Proofs.Ytfcffemglcgbnaa.Sq
set_option linter.unusedVariables false
set_option linter.unusedSimpArgs false
set_option maxRecDepth 100000
def pth (d : Nat → Bool) (c : Nat) : List Bool := (List.range c).map d
theorem pth_len (d : Nat → Bool) (c : Nat) : (pth d c).length = c := by simp [pth]
theorem pth_succ (d : Nat → Bool) (c : Nat) : pth d (c + 1) = pth d c ++ [d c] := by simp [pth, List.range_succ]
theorem pth_cons (d : Nat → Bool) (c : Nat) : pth d (c + 1) = d 0 :: pth (fun i => d (i + 1)) c := by
  simp only [pth, List.range_succ_eq_map, List.map_cons, List.map_map]
  rfl
theorem pth_get (d : Nat → Bool) {c i : Nat} (h : i < c) : (pth d c)[i]? = some (d i) := by simp [pth, h]
theorem pth_take (d : Nat → Bool) {c k : Nat} (h : k ≤ c) : (pth d c).take k = pth d k := by
  simp only [pth, ← List.map_take, List.take_range, Nat.min_eq_left h]
theorem pth_congr {d e : Nat → Bool} {c : Nat} (h : ∀ i, i < c → d i = e i) : pth d c = pth e c := by
  unfold pth
  exact List.map_congr_left fun i hi => h i (List.mem_range.1 hi)
theorem pth_eq {d e : Nat → Bool} {c k : Nat} : pth d c = pth e k ↔ c = k ∧ ∀ i, i < c → d i = e i := by
  constructor
  · intro h
    have h1 : c = k := by have := congrArg List.length h; rwa [pth_len, pth_len] at this
    subst h1
    exact ⟨rfl, fun i hi => by have := congrArg (fun l => l[i]?) h; rw [pth_get d hi, pth_get e hi] at this; exact Option.some.inj this⟩
  · rintro ⟨rfl, h⟩
    exact pth_congr h
theorem pth_pre {d e : Nat → Bool} {c k : Nat} : pth d c <+: pth e k ↔ c ≤ k ∧ ∀ i, i < c → d i = e i := by
  rw [List.prefix_iff_eq_take, pth_len]
  constructor
  · intro h
    have h1 : c ≤ k := by have := congrArg List.length h; rw [pth_len, List.length_take, pth_len] at this; omega
    rw [pth_take e h1, pth_eq] at h
    exact ⟨h1, h.2⟩
  · rintro ⟨h1, h2⟩
    rw [pth_take e h1, pth_eq]
    exact ⟨rfl, h2⟩
abbrev Key := Bool × List Bool
def keyP (p : Px) : Key := (p.a.v6, pth (D p.a.hi p.a.lo) p.n.toNat)
def digK (k : List Bool) (i : Nat) : Bool := k.getD i false
noncomputable def pxK (k : Key) : Px := ⟨⟨hiA k.1 (digK k.2), loA k.1 (digK k.2), k.1⟩, (k.2.length : Int)⟩
theorem pth_digK (k : List Bool) : pth (digK k) k.length = k := by
  refine List.ext_getElem? fun i => ?_
  by_cases h : i < k.length
  · rw [pth_get _ h]; simp [digK, h]
  · rw [List.getElem?_eq_none (by rw [pth_len]; omega), List.getElem?_eq_none (by omega)]
theorem digK_pth (d : Nat → Bool) (c : Nat) : digK (pth d c) = cutd d c := funext fun i => by
  unfold digK cutd
  by_cases h : i < c
  · rw [List.getD_eq_getElem?_getD, pth_get d h]; simp [h]
  · rw [List.getD_eq_getElem?_getD, List.getElem?_eq_none (by rw [pth_len]; omega)]; simp [h]
theorem digK_cut (k : List Bool) : cutd (digK k) k.length = digK k := funext fun i => by
  unfold cutd
  by_cases h : i < k.length
  · simp [h]
  · simp [h, digK]
theorem sanB_pk {p : Px} (h : sanB p = true) : ∃ c : Nat, c ≤ W p.a.v6 ∧ p.n = (c : Int) ∧ p = ⟨⟨hiA p.a.v6 (cutd (D p.a.hi p.a.lo) c), loA p.a.v6 (cutd (D p.a.hi p.a.lo) c), p.a.v6⟩, (c : Int)⟩ := by
  obtain ⟨c, hc, e1, e2, e3⟩ := saneB_ex h
  refine ⟨c, hc, e1, ?_⟩
  rw [← e2, ← e3, ← e1]
theorem pxK_keyP {p : Px} (h : sanB p = true) : pxK (keyP p) = p := by
  obtain ⟨c, hc, e1, e2⟩ := sanB_pk h
  unfold pxK keyP
  dsimp only
  rw [pth_len, e1, Int.toNat_natCast, digK_pth]
  exact e2.symm
theorem D_digK {v : Bool} {k : List Bool} {i : Nat} (h : i < W v) : D (hiA v (digK k)) (loA v (digK k)) i = digK k i := by rw [D_mk, decide_eq_true h, Bool.true_and]
theorem keyP_pxK {k : Key} (h : k.2.length ≤ W k.1) : keyP (pxK k) = k := by
  obtain ⟨v, k⟩ := k
  unfold keyP pxK
  dsimp only at h ⊢
  rw [Int.toNat_natCast, pth_congr (e := digK k) (fun i hi => D_digK (by omega)), pth_digK]
theorem sanB_pxK {k : Key} (h : k.2.length ≤ W k.1) : sanB (pxK k) = true := by
  have := saneB_pk k.1 (digK k.2) k.2.length h
  rw [digK_cut] at this
  exact this
theorem key_le {p : Px} (h : sanB p = true) : (keyP p).2.length ≤ W (keyP p).1 := by
  obtain ⟨c, hc, e1, e2⟩ := sanB_pk h
  unfold keyP
  rw [pth_len, e1, Int.toNat_natCast]
  exact hc
theorem key_len {p : Px} (h : sanB p = true) : (((keyP p).2.length : Nat) : Int) = p.n := by
  obtain ⟨c, hc, e1, e2⟩ := sanB_pk h
  unfold keyP
  rw [pth_len, e1, Int.toNat_natCast]
theorem key_inj {p q : Px} (hp : sanB p = true) (hq : sanB q = true) (h : keyP p = keyP q) : p = q := by rw [← pxK_keyP hp, ← pxK_keyP hq, h]
theorem pxK_wf (k : Key) : (pxK k).a.wf := u_mk _ _
theorem sane_form {p : Px} (h : sanB p = true) : ∃ k : Key, k.2.length ≤ W k.1 ∧ p = pxK k := ⟨keyP p, key_le h, (pxK_keyP h).symm⟩
theorem cov_key {p q : Px} : cvB p q = true ↔ sanB p = true ∧ sanB q = true ∧ (keyP p).1 = (keyP q).1 ∧ (keyP p).2 <+: (keyP q).2 := by
  constructor
  · intro h
    obtain ⟨hp, hq⟩ := cvB_sane h
    refine ⟨hp, hq, ?_⟩
    obtain ⟨c, hc, e1, e2⟩ := sanB_pk hp
    obtain ⟨m, hm, f1, f2⟩ := sanB_pk hq
    obtain ⟨⟨ph, pl, pv⟩, pn⟩ := p
    obtain ⟨⟨qh, ql, qv⟩, qn⟩ := q
    dsimp only at hc hm e1 f1 e2 f2
    rw [e2, f2] at h
    unfold cvB at h
    dsimp only at h
    rw [covB_pk _ _ _ hc _ _ _ hm] at h
    simp only [Bool.and_eq_true, decide_eq_true_eq, conD_true] at h
    obtain ⟨h1, h2, h3⟩ := h
    unfold keyP
    dsimp only
    rw [e1, f1, Int.toNat_natCast, Int.toNat_natCast, pth_pre]
    exact ⟨h2, h1, h3⟩
  · rintro ⟨hp, hq, hv, hk⟩
    obtain ⟨c, hc, e1, e2⟩ := sanB_pk hp
    obtain ⟨m, hm, f1, f2⟩ := sanB_pk hq
    obtain ⟨⟨ph, pl, pv⟩, pn⟩ := p
    obtain ⟨⟨qh, ql, qv⟩, qn⟩ := q
    dsimp only at hc hm e1 f1 e2 f2
    unfold keyP at hv hk
    dsimp only at hv hk
    rw [e1, f1, Int.toNat_natCast, Int.toNat_natCast, pth_pre] at hk
    rw [e2, f2]
    unfold cvB
    dsimp only
    rw [covB_pk _ _ _ hc _ _ _ hm]
    simp only [Bool.and_eq_true, decide_eq_true_eq, conD_true]
    exact ⟨hk.1, hv, hk.2⟩
def keyA (a : Ad) : Key := (a.v6, pth (D a.hi a.lo) (W a.v6))
theorem con_key {p : Px} {a : Ad} : conB p a = true ↔ sanB p = true ∧ (keyP p).1 = (keyA a).1 ∧ (keyP p).2 <+: (keyA a).2 := by
  constructor
  · intro h
    have hp := con_sane h
    refine ⟨hp, ?_⟩
    obtain ⟨c, hc, e1, e2⟩ := sanB_pk hp
    obtain ⟨⟨ph, pl, pv⟩, pn⟩ := p
    dsimp only at hc e1 e2
    rw [e2] at h
    unfold conB at h
    dsimp only at h
    rw [contB_pk _ _ _ hc] at h
    obtain ⟨h1, h2⟩ := conD_true.1 h
    unfold keyP keyA
    dsimp only
    rw [e1, Int.toNat_natCast, pth_pre]
    exact ⟨h1, by rw [← h1]; exact hc, h2⟩
  · rintro ⟨hp, hv, hk⟩
    obtain ⟨c, hc, e1, e2⟩ := sanB_pk hp
    obtain ⟨⟨ph, pl, pv⟩, pn⟩ := p
    dsimp only at hc e1 e2
    unfold keyP keyA at hv hk
    dsimp only at hv hk
    rw [e1, Int.toNat_natCast, pth_pre] at hk
    rw [e2]
    unfold conB
    dsimp only
    rw [contB_pk _ _ _ hc]
    exact conD_true.2 ⟨hv, hk.2⟩
theorem key_whole (a : Ad) : keyP (wholeP a) = keyA a := by
  unfold keyP keyA wholeP
  dsimp only
  rw [Int.toNat_natCast, pth_congr (e := D a.hi a.lo)]
  intro i hi
  rw [D_cut _ _ _ _ hi, cutd_lt hi]
/-! ### The order -/
def ltL : List Bool → List Bool → Bool
  | [], [] => false
  | [], _ :: _ => true
  | _ :: _, [] => false
  | a :: p, b :: q => (!a && b) || (a == b && ltL p q)
def ltK (k l : Key) : Bool := (!k.1 && l.1) || (k.1 == l.1 && ltL k.2 l.2)
theorem ltL_irr : ∀ p : List Bool, ltL p p = false
  | [] => rfl
  | a :: p => by simp [ltL, ltL_irr p]
theorem ltL_trans : ∀ {p q r : List Bool}, ltL p q = true → ltL q r = true → ltL p r = true
  | [], [], _, h, _ => by cases h
  | [], _ :: _, [], _, h => by cases h
  | [], _ :: _, _ :: _, _, _ => rfl
  | _ :: _, [], _, h, _ => by cases h
  | _ :: _, _ :: _, [], _, h => by cases h
  | a :: p, b :: q, c :: r, h1, h2 => by
    have ih := @ltL_trans p q r
    cases a <;> cases b <;> cases c <;> simp_all [ltL]
theorem ltL_tri : ∀ p q : List Bool, ltL p q = true ∨ p = q ∨ ltL q p = true
  | [], [] => .inr (.inl rfl)
  | [], _ :: _ => .inl rfl
  | _ :: _, [] => .inr (.inr rfl)
  | a :: p, b :: q => by
    have ih := ltL_tri p q
    cases a <;> cases b <;> simp_all [ltL]
theorem ltL_pre : ∀ {p q : List Bool}, p <+: q → p ≠ q → ltL p q = true
  | [], [], _, h => absurd rfl h
  | [], _ :: _, _, _ => rfl
  | _ :: _, [], h, _ => by simp at h
  | a :: p, b :: q, h, hn => by
    obtain ⟨rfl, h'⟩ := List.cons_prefix_cons.1 h
    simp [ltL, ltL_pre h' (fun e => hn (by rw [e]))]
theorem ltL_conv : ∀ {y p q r : List Bool}, y <+: p → y <+: r → ltL p q = true → ltL q r = true → y <+: q
  | [], _, _, _, _, _, _, _ => List.nil_prefix
  | _ :: _, [], _, _, h, _, _, _ => by simp at h
  | _ :: _, _ :: _, _, [], _, h, _, _ => by simp at h
  | _ :: _, _ :: _, [], _, _, _, h, _ => by simp [ltL] at h
  | z :: y, a :: p, b :: q, c :: r, h1, h2, h3, h4 => by
    obtain ⟨rfl, h1'⟩ := List.cons_prefix_cons.1 h1
    obtain ⟨rfl, h2'⟩ := List.cons_prefix_cons.1 h2
    have ih := @ltL_conv y p q r h1' h2'
    clear h1 h2
    rw [List.cons_prefix_cons]
    cases z <;> cases b <;> simp_all [ltL]
theorem ltL_side (p : List Bool) : ∀ {x y : List Bool}, p ++ [false] <+: x → p ++ [true] <+: y → ltL x y = true := by
  induction p with
  | nil =>
    intro x y h1 h2
    cases x with
    | nil => simp at h1
    | cons a x =>
      cases y with
      | nil => simp at h2
      | cons b y =>
        obtain ⟨rfl, _⟩ := List.cons_prefix_cons.1 h1
        obtain ⟨rfl, _⟩ := List.cons_prefix_cons.1 h2
        rfl
  | cons z p ih =>
    intro x y h1 h2
    cases x with
    | nil => simp at h1
    | cons a x =>
      cases y with
      | nil => simp at h2
      | cons b y =>
        rw [List.cons_append] at h1 h2
        obtain ⟨rfl, h1'⟩ := List.cons_prefix_cons.1 h1
        obtain ⟨rfl, h2'⟩ := List.cons_prefix_cons.1 h2
        simp [ltL, ih h1' h2']
theorem ltK_irr (k : Key) : ltK k k = false := by simp [ltK, ltL_irr]
theorem ltK_trans {k l m : Key} (h1 : ltK k l = true) (h2 : ltK l m = true) : ltK k m = true := by
  obtain ⟨k1, k2⟩ := k
  obtain ⟨l1, l2⟩ := l
  obtain ⟨m1, m2⟩ := m
  have ih := @ltL_trans k2 l2 m2
  cases k1 <;> cases l1 <;> cases m1 <;> simp_all [ltK]
theorem ltK_tri (k l : Key) : ltK k l = true ∨ k = l ∨ ltK l k = true := by
  obtain ⟨k1, k2⟩ := k
  obtain ⟨l1, l2⟩ := l
  have ih := ltL_tri k2 l2
  cases k1 <;> cases l1 <;> simp_all [ltK]
theorem ltK_asym {k l : Key} (h : ltK k l = true) : ltK l k = false := by
  cases q : ltK l k with
  | false => rfl
  | true => have := ltK_trans h q; rw [ltK_irr] at this; cases this
theorem ltK_ne {k l : Key} (h : ltK k l = true) : k ≠ l := fun e => by rw [e, ltK_irr] at h; cases h
theorem ltK_pre {k l : Key} (h1 : k.1 = l.1) (h2 : k.2 <+: l.2) (hn : k ≠ l) : ltK k l = true := by
  obtain ⟨k1, k2⟩ := k
  obtain ⟨l1, l2⟩ := l
  dsimp only at h1 h2
  subst h1
  have := ltL_pre h2 (fun e => hn (by rw [e]))
  simp [ltK, this]
theorem ltK_conv {y : List Bool} {k l m : Key} (h1 : k.1 = m.1) (h2 : y <+: k.2) (h3 : y <+: m.2) (h4 : ltK k l = true) (h5 : ltK l m = true) : l.1 = k.1 ∧ y <+: l.2 := by
  obtain ⟨k1, k2⟩ := k
  obtain ⟨l1, l2⟩ := l
  obtain ⟨m1, m2⟩ := m
  dsimp only at h1 h2 h3 ⊢
  subst h1
  have ih := @ltL_conv y k2 l2 m2 h2 h3
  cases k1 <;> cases l1 <;> simp_all [ltK]
theorem ltL_spec : ∀ {c m : Nat} {d e : Nat → Bool}, ltL (pth d c) (pth e m) = true → ∃ j, (∀ i, i < j → d i = e i) ∧ (j = c ∧ j < m ∨ j < c ∧ j < m ∧ d j = false ∧ e j = true)
  | 0, 0, _, _, h => by cases h
  | 0, m + 1, _, _, _ => ⟨0, fun i hi => absurd hi (Nat.not_lt_zero _), .inl ⟨rfl, Nat.succ_pos _⟩⟩
  | c + 1, 0, d, e, h => by rw [pth_cons] at h; cases h
  | c + 1, m + 1, d, e, h => by
    rw [pth_cons, pth_cons] at h
    unfold ltL at h
    rcases Bool.or_eq_true_iff.1 h with h | h
    · rw [Bool.and_eq_true] at h
      exact ⟨0, fun i hi => absurd hi (Nat.not_lt_zero _), .inr ⟨Nat.succ_pos _, Nat.succ_pos _, by simpa using h.1, h.2⟩⟩
    · rw [Bool.and_eq_true] at h
      obtain ⟨j, h1, h2⟩ := ltL_spec h.2
      refine ⟨j + 1, fun i hi => ?_, ?_⟩
      · cases i with
        | zero => simpa using h.1
        | succ i => exact h1 i (by omega)
      · rcases h2 with h2 | h2
        · exact .inl ⟨by omega, by omega⟩
        · exact .inr ⟨by omega, by omega, h2.2.2⟩
theorem comp_lt {v : Bool} {d e : Nat → Bool} {j : Nat} (hj : j < W v) (h1 : ∀ i, i < j → d i = e i) (h2 : d j = false) (h3 : e j = true) : compA (hiA v d) (loA v d) v (hiA v e) (loA v e) v = -1 ∧ compA (hiA v e) (loA v e) v (hiA v d) (loA v d) v = 1 := by
  have hd : ∀ i, i < W v → D (hiA v d) (loA v d) i = d i := fun i hi => by rw [D_mk, decide_eq_true hi, Bool.true_and]
  have he : ∀ i, i < W v → D (hiA v e) (loA v e) i = e i := fun i hi => by rw [D_mk, decide_eq_true hi, Bool.true_and]
  have hc : cmn (D (hiA v d) (loA v d)) (D (hiA v e) (loA v e)) (W v) = j := cmn_is (Nat.le_of_lt hj) (fun i hi => by rw [hd i (by omega), he i (by omega)]; exact h1 i hi) (fun _ => by rw [hd j hj, he j hj, h2, h3]; decide)
  rw [comp_same, comp_same, cmn_comm (D (hiA v e) (loA v e)), hc, if_neg (by omega), if_neg (by omega), hd j hj, he j hj, h2, h3]
  decide
theorem comp_eq {v : Bool} {d e : Nat → Bool} (h1 : ∀ i, i < W v → d i = e i) : compA (hiA v d) (loA v d) v (hiA v e) (loA v e) v = 0 := by
  rw [hi_congr h1, lo_congr h1, comp_same, cmn_all fun _ _ => rfl, if_pos rfl]
noncomputable def cmpP (p q : Px) : Int := pcompA p.a.hi p.a.lo p.a.v6 p.n q.a.hi q.a.lo q.a.v6 q.n
theorem comp_diff' (a0 a1 b0 b1 : Int) : compA a0 a1 false b0 b1 true = -1 ∧ compA a0 a1 true b0 b1 false = 1 := by
  constructor
  · rw [comp_diff _ _ _ _ _ _ (by decide)]; rfl
  · rw [comp_diff _ _ _ _ _ _ (by decide)]; rfl
theorem cmp_lt {p q : Px} (hp : sanB p = true) (hq : sanB q = true) (h : ltK (keyP p) (keyP q) = true) : cmpP p q = -1 ∧ cmpP q p = 1 := by
  obtain ⟨c, hc, e1, e2⟩ := sanB_pk hp
  obtain ⟨m, hm, f1, f2⟩ := sanB_pk hq
  obtain ⟨⟨ph, pl, pv⟩, pn⟩ := p
  obtain ⟨⟨qh, ql, qv⟩, qn⟩ := q
  dsimp only at hc hm e1 f1 e2 f2
  unfold keyP ltK at h
  dsimp only at h
  rw [e1, f1, Int.toNat_natCast, Int.toNat_natCast] at h
  generalize hdd : D ph pl = d at h e2
  generalize hee : D qh ql = e at h f2
  simp only [Px.mk.injEq, Ad.mk.injEq] at e2 f2
  obtain ⟨⟨g1, g2, _⟩, _⟩ := e2
  obtain ⟨⟨k1, k2, _⟩, _⟩ := f2
  unfold cmpP pcompA
  dsimp only
  subst e1 f1
  rw [g1, g2, k1, k2]
  clear hdd hee hp hq g1 g2 k1 k2
  rcases Bool.or_eq_true_iff.1 h with h | h
  · simp only [Bool.and_eq_true, Bool.not_eq_true'] at h
    obtain ⟨h1, h2⟩ := h
    subst h1 h2
    obtain ⟨q1, q2⟩ := comp_diff' (hiA false (cutd d c)) (loA false (cutd d c)) (hiA true (cutd e m)) (loA true (cutd e m))
    obtain ⟨_, q3⟩ := comp_diff' (hiA false (cutd d c)) (loA false (cutd d c)) (hiA true (cutd e m)) (loA true (cutd e m))
    have q4 := (comp_diff' (hiA true (cutd e m)) (loA true (cutd e m)) (hiA false (cutd d c)) (loA false (cutd d c))).2
    rw [q1, q4]
    simp
  · simp only [Bool.and_eq_true, beq_iff_eq] at h
    obtain ⟨rfl, h'⟩ := h
    obtain ⟨j, h1, h2⟩ := ltL_spec h'
    rcases h2 with ⟨rfl, h2⟩ | ⟨h2, h3, h4, h5⟩
    · by_cases hz : ∀ i, j ≤ i → i < m → e i = false
      · have hcc : ∀ i, i < W pv → cutd d j i = cutd e m i := fun i hi => by
          by_cases hij : i < j
          · rw [cutd_lt hij, cutd_lt (by omega)]; exact h1 i hij
          · rw [cutd_ge (by omega)]
            by_cases him : i < m
            · rw [cutd_lt him, hz i (by omega) him]
            · rw [cutd_ge (by omega)]
        rw [comp_eq hcc, comp_eq (fun i hi => (hcc i hi).symm)]
        simp only [if_true]
        unfold c3
        constructor
        · rw [if_pos (by omega)]
        · rw [if_neg (by omega), if_pos (by omega)]
      · have hex : ∃ i, j ≤ i ∧ i < m ∧ e i = true := by
          refine Classical.byContradiction fun hn => hz fun i h1 h2 => ?_
          cases hq : e i with
          | false => rfl
          | true => exact absurd ⟨i, h1, h2, hq⟩ hn
        obtain ⟨i, hi⟩ := hex
        have hlow : ∃ k, (j ≤ k ∧ k < m ∧ e k = true) ∧ ∀ i, j ≤ i → i < k → e i = false := by
          clear hz
          induction i using Nat.strongRecOn with
          | ind i ih =>
            by_cases hs : ∃ i', i' < i ∧ j ≤ i' ∧ e i' = true
            · obtain ⟨i', a1, a2, a3⟩ := hs
              exact ih i' a1 ⟨a2, by omega, a3⟩
            · refine ⟨i, hi, fun i' a1 a2 => ?_⟩
              cases hq : e i' with
              | false => rfl
              | true => exact absurd ⟨i', a2, a1, hq⟩ hs
        obtain ⟨k, ⟨k1, k2, k3⟩, k4⟩ := hlow
        obtain ⟨q1, q2⟩ := comp_lt (v := pv) (d := cutd d j) (e := cutd e m) (j := k) (by omega) (fun i hi => by
          by_cases hij : i < j
          · rw [cutd_lt hij, cutd_lt (by omega)]; exact h1 i hij
          · rw [cutd_ge (by omega), cutd_lt (by omega), k4 i (by omega) hi]) (cutd_ge k1) (by rw [cutd_lt k2]; exact k3)
        rw [q1, q2]
        simp
    · obtain ⟨q1, q2⟩ := comp_lt (v := pv) (d := cutd d c) (e := cutd e m) (j := j) (by omega) (fun i hi => by rw [cutd_lt (by omega), cutd_lt (by omega)]; exact h1 i hi) (by rw [cutd_lt h2]; exact h4) (by rw [cutd_lt h3]; exact h5)
      rw [q1, q2]
      simp
theorem cmp_self (p : Px) : cmpP p p = 0 := by
  unfold cmpP pcompA
  rw [comp_same, cmn_all fun _ _ => rfl, if_pos rfl, if_pos rfl]
  unfold c3
  rw [if_neg (by omega), if_neg (by omega)]
theorem cmp_neg {p q : Px} (hp : sanB p = true) (hq : sanB q = true) : cmpP p q < 0 ↔ ltK (keyP p) (keyP q) = true := by
  constructor
  · intro h
    rcases ltK_tri (keyP p) (keyP q) with h1 | h1 | h1
    · exact h1
    · rw [key_inj hp hq h1, cmp_self] at h; omega
    · rw [(cmp_lt hq hp h1).2] at h; omega
  · intro h
    rw [(cmp_lt hp hq h).1]; omega
end Go.Proofs.Ytfcffemglcgbnaa.Hand
