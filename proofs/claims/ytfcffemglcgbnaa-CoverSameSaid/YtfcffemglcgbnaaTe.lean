/-
  The document's trie: what its functions answer, over pairs.
-/
import Derived.Test.YtfcffemglcgbnaaTa
import Derived.Test.YtfcffemglcgbnaaSt
namespace Go.Proofs.Ytfcffemglcgbnaa.Hand
open Go.RowKit Go.Proofs.Ytfcffemglcgbnaa.Bits Go.Proofs.Ytfcffemglcgbnaa.Dig Go.Proofs.Ytfcffemglcgbnaa.Sq
set_option linter.unusedVariables false
set_option linter.unusedSimpArgs false
set_option maxRecDepth 100000
set_option maxHeartbeats 1000000
structure Pr where
  p : Px
  v : Int
  deriving DecidableEq
def Pr.cells (e : Pr) : List Value := [.int .u64 e.p.a.hi, .int .u64 e.p.a.lo, .bool e.p.a.v6, .int .i64 e.p.n, .int .i64 e.v]
theorem FCal.ofS {P : Program} {f : FuncId} {vs : List Value} {U : Mem} {g : Option Addr → Nat → Value × Mem} (hv : U.all (fun u => match u with | .vw .. => true | _ => false) = true) (hn : ∀ A c, noVw (g A c).2) (h : Tri P f vs U (RetS g)) : FCal P f vs U (RetX fun b : Option Addr × Nat => g b.1 b.2) :=
  FCal.of_tri hv (fun v m' ⟨b, _, e⟩ => by subst e; exact hn _ _) ⟨_, _, (none, 0), rfl, rfl⟩ (h.mono fun v m' ⟨A, c, e1, e2⟩ => ⟨(A, c), e1, e2⟩)
theorem noVw_own {A : Option Addr} {c k : Nat} {rows : List (List Value)} {t : TypeId} : noVw [.own A c k rows t] := fun r hr A' c' k' rows' e => by subst e; simp at hr
noncomputable def inB (p q : Px) : Bool := insB p.a.hi p.a.lo p.a.v6 p.n q.a.hi q.a.lo q.a.v6 q.n
def eqPx (p q : Px) : Bool := (p.a.hi == q.a.hi && (p.a.lo == q.a.lo && p.a.v6 == q.a.v6)) && p.n == q.n
theorem eqPx_iff {p q : Px} : eqPx p q = true ↔ p = q := by
  obtain ⟨⟨a, b, c⟩, d⟩ := p
  obtain ⟨⟨a', b', c'⟩, d'⟩ := q
  simp [eqPx]
theorem eqPx_self (p : Px) : eqPx p p = true := eqPx_iff.2 rfl
theorem eqPx_ne {p q : Px} (h : p ≠ q) : eqPx p q = false := by
  cases e : eqPx p q with
  | false => rfl
  | true => exact absurd (eqPx_iff.1 e) h
noncomputable def aboveN (L : List Pr) (p : Px) : List Pr := L.filter fun e => cvB e.p p
end Go.Proofs.Ytfcffemglcgbnaa.Hand
namespace Go.Proofs.Ytfcffemglcgbnaa.Hand
open Go.RowKit Go.Proofs.Ytfcffemglcgbnaa.Bits Go.Proofs.Ytfcffemglcgbnaa.Dig Go.Proofs.Ytfcffemglcgbnaa.Sq
set_option linter.unusedVariables false
set_option linter.unusedSimpArgs false
set_option maxRecDepth 100000
set_option maxHeartbeats 1000000
def getN : List Pr → Px → Int × Bool
  | [], _ => (0, false)
  | x :: L, p => if x.p = p then (x.v, true) else getN L p
noncomputable def insN (L : List Pr) (p : Px) : Bool := L.any fun e => inB p e.p
def zeroPr : Pr := ⟨⟨⟨0, 0, false⟩, 0⟩, 0⟩
noncomputable def comP (p q : Px) : Int := mn2 (mn2 p.n q.n) (commonA p.a.hi p.a.lo p.a.v6 q.a.hi q.a.lo q.a.v6)
noncomputable def ndC (L : List Pr) (i : Nat) : Int := match L[i]? with
  | none => 0
  | some x => x.p.n - (match i with
    | 0 => 0
    | j + 1 => match L[j]? with
      | none => 0
      | some y => comP y.p x.p)
noncomputable def ndT (L : List Pr) : Nat → Int
  | 0 => 2
  | i + 1 => ndT L i + ndC L i
noncomputable def nodesN (L : List Pr) : Int := ndT L L.length
theorem comP_rng {p q : Px} (hp : sanB p = true) (hq : sanB q = true) : 0 ≤ comP p q ∧ comP p q ≤ q.n := by
  obtain ⟨c, hc, e1, _⟩ := sanB_pk hp
  obtain ⟨m, hm, f1, _⟩ := sanB_pk hq
  unfold comP mn2 commonA
  rw [e1, f1]
  constructor
  · split <;> split <;> (try split) <;> (try split) <;> omega
  · split <;> split <;> (try split) <;> (try split) <;> omega
theorem n_rng {p : Px} (hp : sanB p = true) : 0 ≤ p.n ∧ p.n ≤ 128 := by
  obtain ⟨c, hc, e1, _⟩ := sanB_pk hp
  have := W_le p.a.v6
  omega
theorem ndC_rng (L : List Pr) (hs : ∀ e ∈ L, sanB e.p = true) (i : Nat) : 0 ≤ ndC L i ∧ ndC L i ≤ 128 := by
  unfold ndC
  split
  · omega
  · rename_i x hx
    have h1 := n_rng (hs x (List.mem_of_getElem? hx))
    split
    · omega
    · split
      · omega
      · rename_i y hy
        have h2 := comP_rng (hs y (List.mem_of_getElem? hy)) (hs x (List.mem_of_getElem? hx))
        omega
theorem ndT_rng (L : List Pr) (hs : ∀ e ∈ L, sanB e.p = true) : ∀ i, 2 ≤ ndT L i ∧ ndT L i ≤ 2 + 128 * i
  | 0 => by unfold ndT; omega
  | i + 1 => by
    have := ndT_rng L hs i
    have := ndC_rng L hs i
    unfold ndT
    omega
end Go.Proofs.Ytfcffemglcgbnaa.Hand
namespace Go.Proofs.Ytfcffemglcgbnaa.Hand
open Go.RowKit Go.Proofs.Ytfcffemglcgbnaa.Bits Go.Proofs.Ytfcffemglcgbnaa.Dig Go.Proofs.Ytfcffemglcgbnaa.Sq
set_option linter.unusedVariables false
set_option linter.unusedSimpArgs false
set_option maxRecDepth 100000
set_option maxHeartbeats 1000000
def outN (L : List Pr) (p : Px) : List Pr := L.filter fun e => !eqPx e.p p
noncomputable def putG (p : Px) (v : Int) : Bool → List Pr → List Pr
  | put, [] => if put then [] else [⟨p, v⟩]
  | put, x :: L => (if (decide (cmpP x.p p ≥ 0) && !put) = true then [⟨p, v⟩] else []) ++ ((if (cmpP x.p p != 0) = true then [x] else []) ++ putG p v (put || decide (cmpP x.p p ≥ 0)) L)
noncomputable def putN (L : List Pr) (mo : Int) (p : Px) (v : Int) : List Pr × Int × Int := if sanB p = true then (putG p v false L, mx2 mo (nodesN (putG p v false L)), 0) else (L, mo, 1)
end Go.Proofs.Ytfcffemglcgbnaa.Hand
namespace Go.Proofs.Ytfcffemglcgbnaa.Hand
open Go.RowKit Go.Proofs.Ytfcffemglcgbnaa.Bits Go.Proofs.Ytfcffemglcgbnaa.Dig Go.Proofs.Ytfcffemglcgbnaa.Sq
set_option linter.unusedVariables false
set_option linter.unusedSimpArgs false
structure GoodL (L : List Pr) : Prop where
  sane : ∀ e ∈ L, sanB e.p = true
  sorted : L.Pairwise fun a b => ltK (keyP a.p) (keyP b.p) = true
theorem GoodL.nil : GoodL [] := ⟨fun _ h => (by cases h), List.Pairwise.nil⟩
theorem GoodL.sub {L M : List Pr} (h : GoodL L) (hs : M.Sublist L) : GoodL M := ⟨fun e he => h.sane e (hs.subset he), h.sorted.sublist hs⟩
theorem GoodL.tail {x : Pr} {L : List Pr} (h : GoodL (x :: L)) : GoodL L := h.sub (List.sublist_cons_self ..)
theorem GoodL.uniq {L : List Pr} (h : GoodL L) {e f : Pr} (he : e ∈ L) (hf : f ∈ L) (hp : e.p = f.p) : e = f := by
  induction L with
  | nil => cases he
  | cons x L ih =>
    have hs := List.pairwise_cons.1 h.sorted
    rcases List.mem_cons.1 he with rfl | he'
    · rcases List.mem_cons.1 hf with rfl | hf'
      · rfl
      · exact absurd (by rw [hp]) (ltK_ne (hs.1 f hf'))
    · rcases List.mem_cons.1 hf with rfl | hf'
      · exact absurd (by rw [hp]) (ltK_ne (hs.1 e he'))
      · exact ih h.tail he' hf'
theorem GoodL.ext : ∀ {L M : List Pr}, GoodL L → GoodL M → (∀ e, e ∈ L ↔ e ∈ M) → L = M
  | [], [], _, _, _ => rfl
  | [], y :: M, _, _, h => by have := (h y).2 (List.mem_cons_self ..); cases this
  | x :: L, [], _, _, h => by have := (h x).1 (List.mem_cons_self ..); cases this
  | x :: L, y :: M, hL, hM, h => by
    have sL := List.pairwise_cons.1 hL.sorted
    have sM := List.pairwise_cons.1 hM.sorted
    have e : x = y := by
      rcases List.mem_cons.1 ((h x).1 (List.mem_cons_self ..)) with e | hx
      · exact e
      · rcases List.mem_cons.1 ((h y).2 (List.mem_cons_self ..)) with e | hy
        · exact e.symm
        · have := ltK_trans (sL.1 y hy) (sM.1 x hx)
          rw [ltK_irr] at this; cases this
    subst e
    rw [GoodL.ext hL.tail hM.tail fun e => ?_]
    constructor
    · intro he
      rcases List.mem_cons.1 ((h e).1 (List.mem_cons_of_mem _ he)) with rfl | he'
      · have := sL.1 e he; rw [ltK_irr] at this; cases this
      · exact he'
    · intro he
      rcases List.mem_cons.1 ((h e).2 (List.mem_cons_of_mem _ he)) with rfl | he'
      · have := sM.1 e he; rw [ltK_irr] at this; cases this
      · exact he'
theorem putG_true {p : Px} {v : Int} : ∀ {L : List Pr}, (∀ e ∈ L, cmpP e.p p > 0) → putG p v true L = L
  | [], _ => rfl
  | x :: L, h => by
    have hx := h x (List.mem_cons_self ..)
    rw [putG, Bool.not_true, Bool.and_false, if_neg (by decide), if_pos (by simp; omega), Bool.true_or, putG_true fun e he => h e (List.mem_cons_of_mem _ he)]
    rfl
theorem put_spec {p : Px} {v : Int} (hp : sanB p = true) : ∀ {L : List Pr}, GoodL L → GoodL (putG p v false L) ∧ ∀ e, e ∈ putG p v false L ↔ e = ⟨p, v⟩ ∨ (e ∈ L ∧ e.p ≠ p)
  | [], h => by
    rw [putG, if_neg (by decide)]
    exact ⟨⟨fun e he => by obtain rfl := List.mem_singleton.1 he; exact hp, List.pairwise_singleton ..⟩, fun e => by simp⟩
  | x :: L, h => by
    have hs := List.pairwise_cons.1 h.sorted
    have hx := h.sane x (List.mem_cons_self ..)
    obtain ⟨ih1, ih2⟩ := put_spec (v := v) hp h.tail
    rcases ltK_tri (keyP x.p) (keyP p) with hlt | heq | hgt
    · have hc := (cmp_lt hx hp hlt).1
      have e1 : putG p v false (x :: L) = x :: putG p v false L := by
        rw [putG, hc]; rfl
      rw [e1]
      refine ⟨⟨fun e he => ?_, List.pairwise_cons.2 ⟨fun e he => ?_, ih1.sorted⟩⟩, fun e => ?_⟩
      · rcases List.mem_cons.1 he with rfl | he
        · exact hx
        · exact ih1.sane e he
      · rcases (ih2 e).1 he with rfl | ⟨he, _⟩
        · exact hlt
        · exact hs.1 e he
      · rw [List.mem_cons, ih2, List.mem_cons]
        constructor
        · rintro (rfl | rfl | h)
          · exact .inr ⟨.inl rfl, fun q => by rw [q, ltK_irr] at hlt; cases hlt⟩
          · exact .inl rfl
          · exact .inr ⟨.inr h.1, h.2⟩
        · rintro (rfl | ⟨rfl | h, h2⟩)
          · exact .inr (.inl rfl)
          · exact .inl rfl
          · exact .inr (.inr ⟨h, h2⟩)
    · have hxp := key_inj hx hp heq
      have hgt : ∀ e ∈ L, ltK (keyP p) (keyP e.p) = true := fun e he => by rw [← hxp]; exact hs.1 e he
      have e1 : putG p v false (x :: L) = ⟨p, v⟩ :: L := by
        rw [putG, hxp, cmp_self]
        show ⟨p, v⟩ :: putG p v true L = _
        rw [putG_true fun e he => by rw [(cmp_lt hp (h.sane e (List.mem_cons_of_mem _ he)) (hgt e he)).2]; omega]
      rw [e1]
      refine ⟨⟨fun e he => ?_, List.pairwise_cons.2 ⟨fun e he => hgt e he, hs.2⟩⟩, fun e => ?_⟩
      · rcases List.mem_cons.1 he with rfl | he
        · exact hp
        · exact h.sane e (List.mem_cons_of_mem _ he)
      · rw [List.mem_cons, List.mem_cons]
        constructor
        · rintro (rfl | h)
          · exact .inl rfl
          · exact .inr ⟨.inr h, fun q => by have := hgt e h; rw [q, ltK_irr] at this; cases this⟩
        · rintro (rfl | ⟨rfl | h, h2⟩)
          · exact .inl rfl
          · exact absurd hxp h2
          · exact .inr h
    · have hc := (cmp_lt hp hx hgt).2
      have hgt2 : ∀ e ∈ L, ltK (keyP p) (keyP e.p) = true := fun e he => ltK_trans hgt (hs.1 e he)
      have e1 : putG p v false (x :: L) = ⟨p, v⟩ :: x :: L := by
        rw [putG, hc]
        show ⟨p, v⟩ :: x :: putG p v true L = _
        rw [putG_true fun e he => by rw [(cmp_lt hp (h.sane e (List.mem_cons_of_mem _ he)) (hgt2 e he)).2]; omega]
      rw [e1]
      refine ⟨⟨fun e he => ?_, List.pairwise_cons.2 ⟨fun e he => ?_, h.sorted⟩⟩, fun e => ?_⟩
      · rcases List.mem_cons.1 he with rfl | he
        · exact hp
        · exact h.sane e he
      · rcases List.mem_cons.1 he with rfl | he
        · exact hgt
        · exact hgt2 e he
      · rw [List.mem_cons]
        constructor
        · rintro (rfl | h)
          · exact .inl rfl
          · refine .inr ⟨h, fun q => ?_⟩
            rcases List.mem_cons.1 h with rfl | h
            · rw [q, ltK_irr] at hgt; cases hgt
            · have := hgt2 e h; rw [q, ltK_irr] at this; cases this
        · rintro (rfl | ⟨h, _⟩)
          · exact .inl rfl
          · exact .inr h
theorem out_mem {L : List Pr} {p : Px} {e : Pr} : e ∈ outN L p ↔ e ∈ L ∧ e.p ≠ p := by
  unfold outN
  rw [List.mem_filter, Bool.not_eq_true', ← Bool.not_eq_true, eqPx_iff]
theorem out_good {L : List Pr} (h : GoodL L) (p : Px) : GoodL (outN L p) := h.sub List.filter_sublist
theorem out_same {L : List Pr} {p : Px} : (outN L p).length = L.length ↔ ∀ e ∈ L, e.p ≠ p := by
  unfold outN
  rw [List.length_filter_eq_length_iff]
  constructor
  · intro h e he q
    have := h e he
    rw [eqPx_iff.2 q] at this
    cases this
  · intro h e he
    rw [eqPx_ne (h e he)]; rfl
theorem out_len {L : List Pr} (h : GoodL L) {p : Px} {e : Pr} (he : e ∈ L) (hp : e.p = p) : (outN L p).length + 1 = L.length := by
  induction L with
  | nil => cases he
  | cons x L ih =>
    have hs := List.pairwise_cons.1 h.sorted
    unfold outN at ih ⊢
    rw [List.filter_cons, List.length_cons]
    by_cases hx : x.p = p
    · rw [eqPx_iff.2 hx, Bool.not_true, if_neg (by decide)]
      have : (outN L p).length = L.length := out_same.2 fun f hf q => by
        have := hs.1 f hf
        rw [hx, q, ltK_irr] at this; cases this
      unfold outN at this
      omega
    · rw [eqPx_ne hx, Bool.not_false, if_pos rfl, List.length_cons]
      rcases List.mem_cons.1 he with rfl | he
      · exact absurd hp hx
      · have := ih h.tail he; omega
theorem put_len {L : List Pr} (h : GoodL L) {p : Px} (hp : sanB p = true) (v : Int) : (putG p v false L).length = (outN L p).length + 1 := by
  obtain ⟨h1, h2⟩ := put_spec (v := v) hp h
  have e : outN (putG p v false L) p = outN L p := GoodL.ext (out_good h1 p) (out_good h p) fun e => by
    rw [out_mem, out_mem, h2]
    constructor
    · rintro ⟨rfl | h, h3⟩
      · exact absurd rfl h3
      · exact ⟨h.1, h3⟩
    · rintro ⟨h, h3⟩
      exact ⟨.inr ⟨h, h3⟩, h3⟩
  rw [← e, out_len h1 ((h2 ⟨p, v⟩).2 (.inl rfl)) rfl]
theorem get_some {p : Px} : ∀ {L : List Pr} {v : Int}, GoodL L → ⟨p, v⟩ ∈ L → getN L p = (v, true)
  | [], _, _, h => by cases h
  | x :: L, v, hL, h => by
    rw [getN]
    by_cases hx : x.p = p
    · rw [if_pos hx]
      have := hL.uniq (List.mem_cons_self ..) h hx
      rw [this]
    · rw [if_neg hx]
      rcases List.mem_cons.1 h with rfl | h
      · exact absurd rfl hx
      · exact get_some hL.tail h
theorem get_none {p : Px} : ∀ {L : List Pr}, (∀ e ∈ L, e.p ≠ p) → getN L p = (0, false)
  | [], _ => rfl
  | x :: L, h => by rw [getN, if_neg (h x (List.mem_cons_self ..))]; exact get_none fun e he => h e (List.mem_cons_of_mem _ he)
theorem get_mem {p : Px} : ∀ {L : List Pr}, (getN L p).2 = true → ⟨p, (getN L p).1⟩ ∈ L
  | [], h => by cases h
  | x :: L, h => by
    rw [getN] at h ⊢
    by_cases hx : x.p = p
    · rw [if_pos hx]; rw [← hx]; exact List.mem_cons_self ..
    · rw [if_neg hx] at h ⊢; exact List.mem_cons_of_mem _ (get_mem h)
/-! ### Nodes -/
def Node (L : List Pr) (k : Key) : Prop := k.2 = [] ∨ ∃ e ∈ L, (keyP e.p).1 = k.1 ∧ k.2 <+: (keyP e.p).2
def lcp : List Bool → List Bool → Nat
  | a :: p, b :: q => if a = b then lcp p q + 1 else 0
  | _, _ => 0
theorem lcp_le : ∀ p q : List Bool, lcp p q ≤ p.length ∧ lcp p q ≤ q.length
  | [], _ => by simp [lcp]
  | _ :: _, [] => by simp [lcp]
  | a :: p, b :: q => by
    have := lcp_le p q
    unfold lcp
    split <;> simp <;> omega
theorem lcp_pre : ∀ {y p q : List Bool}, y <+: q → (y <+: p ↔ y.length ≤ lcp p q)
  | [], _, _, _ => by simp
  | z :: y, p, [], h => by simp at h
  | z :: y, [], b :: q, h => by simp [lcp]
  | z :: y, a :: p, b :: q, h => by
    obtain ⟨rfl, h'⟩ := List.cons_prefix_cons.1 h
    rw [List.cons_prefix_cons]
    unfold lcp
    by_cases hab : a = z
    · subst hab
      rw [if_pos rfl, lcp_pre h']
      simp
    · rw [if_neg hab]
      simp [Ne.symm hab]
def lcpK (k l : Key) : Nat := if k.1 = l.1 then lcp k.2 l.2 else 0
theorem lcpK_le (k l : Key) : lcpK k l ≤ l.2.length := by unfold lcpK; split; exact (lcp_le _ _).2; omega
def preL (x : Key) (c : Nat) : List Key := (List.range' c (x.2.length - c)).map fun j => (x.1, x.2.take (j + 1))
theorem preL_len {x : Key} {c : Nat} : (preL x c).length = x.2.length - c := by simp [preL]
theorem preL_mem {x : Key} {c : Nat} {y : Key} : y ∈ preL x c ↔ y.1 = x.1 ∧ y.2 <+: x.2 ∧ c < y.2.length := by
  unfold preL
  rw [List.mem_map]
  constructor
  · rintro ⟨j, hj, rfl⟩
    rw [List.mem_range'_1] at hj
    refine ⟨rfl, List.take_prefix _ _, ?_⟩
    dsimp only
    rw [List.length_take]
    omega
  · rintro ⟨h1, h2, h3⟩
    have hl := h2.length_le
    refine ⟨y.2.length - 1, List.mem_range'_1.2 ⟨by omega, by omega⟩, ?_⟩
    rw [show y.2.length - 1 + 1 = y.2.length by omega, ← List.prefix_iff_eq_take.1 h2, ← h1]
theorem preL_nodup (x : Key) (c : Nat) : (preL x c).Nodup := by
  unfold preL
  rw [List.nodup_iff_pairwise_ne, List.pairwise_map]
  refine (List.nodup_iff_pairwise_ne.1 (List.nodup_range' (step := 1))).imp_of_mem ?_
  intro a b ha hb hab e
  have hl := congrArg (fun k : Key => k.2.length) e
  rw [List.mem_range'_1] at ha hb
  simp only [List.length_take] at hl
  omega
def lstN : Key → List Key → List Key
  | _, [] => []
  | q, x :: L => preL x (lcpK q x) ++ lstN x L
theorem lstN_mem : ∀ {L : List Key} {q : Key}, (q :: L).Pairwise (fun a b => ltK a b = true) → ∀ {y : Key}, y ∈ lstN q L ↔ y.2 ≠ [] ∧ (∃ e ∈ L, e.1 = y.1 ∧ y.2 <+: e.2) ∧ ¬ (y.1 = q.1 ∧ y.2 <+: q.2)
  | [], q, _, y => by simp [lstN]
  | x :: L, q, h, y => by
    obtain ⟨h1, h2⟩ := List.pairwise_cons.1 h
    have h3 := (List.pairwise_cons.1 h2).1
    have hqx := h1 x (List.mem_cons_self ..)
    rw [lstN, List.mem_append, lstN_mem h2, preL_mem]
    have key : y.1 = x.1 → y.2 <+: x.2 → (lcpK q x < y.2.length ↔ y.2 ≠ [] ∧ ¬ (y.1 = q.1 ∧ y.2 <+: q.2)) := fun e1 e2 => by
      unfold lcpK
      by_cases hq : q.1 = x.1
      · rw [if_pos hq, lcp_pre e2, e1, ← hq]
        constructor
        · intro hh
          exact ⟨fun e => (by rw [e] at hh; cases hh), fun hn => by have := hn.2; omega⟩
        · intro hn
          have := hn.2
          simp only [true_and] at this
          omega
      · rw [if_neg hq]
        constructor
        · intro hh
          exact ⟨fun e => (by rw [e] at hh; cases hh), fun hn => hq (hn.1.symm.trans e1)⟩
        · intro hn
          exact List.length_pos_iff.2 hn.1
    constructor
    · rintro (⟨e1, e2, e3⟩ | ⟨e1, ⟨e, he, e2, e3⟩, e4⟩)
      · obtain ⟨k1, k2⟩ := (key e1 e2).1 e3
        exact ⟨k1, ⟨x, List.mem_cons_self .., e1.symm, e2⟩, k2⟩
      · refine ⟨e1, ⟨e, List.mem_cons_of_mem _ he, e2, e3⟩, fun hn => e4 ?_⟩
        have hxe := h3 e he
        obtain ⟨g1, g2⟩ := ltK_conv (y := y.2) (hn.1.symm.trans e2.symm) hn.2 e3 hqx hxe
        exact ⟨hn.1.trans g1.symm, g2⟩
    · rintro ⟨e1, ⟨e, he, e2, e3⟩, e4⟩
      by_cases hx : y.1 = x.1 ∧ y.2 <+: x.2
      · exact .inl ⟨hx.1, hx.2, (key hx.1 hx.2).2 ⟨e1, e4⟩⟩
      · rcases List.mem_cons.1 he with rfl | he
        · exact absurd ⟨e2.symm, e3⟩ hx
        · exact .inr ⟨e1, ⟨e, he, e2, e3⟩, hx⟩
theorem lstN_nodup : ∀ {L : List Key} {q : Key}, (q :: L).Pairwise (fun a b => ltK a b = true) → (lstN q L).Nodup
  | [], q, _ => List.nodup_nil
  | x :: L, q, h => by
    have h2 := (List.pairwise_cons.1 h).2
    rw [lstN, List.nodup_append]
    refine ⟨preL_nodup _ _, lstN_nodup h2, fun a ha b hb e => ?_⟩
    subst e
    have h4 := preL_mem.1 ha
    exact ((lstN_mem h2).1 hb).2.2 ⟨h4.1, h4.2.1⟩
theorem nodup_len {α : Type} [DecidableEq α] : ∀ {l m : List α}, l.Nodup → (∀ x ∈ l, x ∈ m) → l.length ≤ m.length
  | [], _, _, _ => Nat.zero_le _
  | x :: l, m, hn, hs => by
    obtain ⟨h1, h2⟩ := List.nodup_cons.1 hn
    have hx := hs x (List.mem_cons_self ..)
    have h3 := nodup_len (m := m.erase x) h2 fun y hy => by
      have hne : y ≠ x := fun e => h1 (e ▸ hy)
      exact (List.mem_erase_of_ne hne).2 (hs y (List.mem_cons_of_mem _ hy))
    rw [List.length_erase_of_mem hx] at h3
    have := List.length_pos_of_mem hx
    rw [List.length_cons]
    omega
end Go.Proofs.Ytfcffemglcgbnaa.Hand
